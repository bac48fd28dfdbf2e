/- Contracts and laws that the claim leans on, part 4. -/
import Derived.Test.YtoabcmhiaknjiaaDoorS39P2
import Derived.Test.YtoabcmhiaknjiaaDoorS39P3
import Derived.Test.YtoabcmhiaknjiaaDoorProg
import Derived.Test.YtoabcmhiaknjiaaDoorS39P1
/- Contracts of jobtext: read. -/
set_option maxRecDepth 100000
set_option linter.unusedSimpArgs false
set_option linter.unusedVariables false
namespace Go.Proofs.YtoabcmhiaknjiaaDoor
open Go.Hw

set_option maxHeartbeats 2000000 in
theorem read_c {B0 R ms mp : Nat} {rv : Value} {call : List UInt8} {inn : Bool} {rows : List Row} {s : RS} {H : Hp} {K : Ending → Hp → Prop} (LF : RS → Row → List Row → RS × HR) (Iv : RS → Prop) (Rw : List Row → Prop)
    (hR : Rdr B0 R ms mp H s) (hB0 : 0 < B0) (hBH : B0 ≤ H.size) (g : G0 H) (hr : RowsV H rv rows) (hIv : Iv s) (hRw : Rw rows) (hrl : rows.length ≤ 1000000)
    (hstep : ∀ s x rest, Iv s → Rw (x :: rest) → (LF s x rest).2.code = 0 → Iv (LF s x rest).1 ∧ (LF s x rest).2.n ≤ rest.length ∧ Rw (rest.drop (LF s x rest).2.n))
    (hline : ∀ (s : RS) (G : Hp) (rv : Value) (k : Nat) (t : List UInt8) (rest : List Row) (kn : Nat) (K2 : Ending → Hp → Prop), Iv s → Rw ((k, t) :: rest) → B0 ≤ G.size → G0 G → Rdr B0 R ms mp G s → MapC G kn hndL → RowsV G rv ((k, t) :: rest) → (rest.length ≤ 1000000) →
      (∀ G', FrJ B0 (MM ms mp) G G' → Rdr B0 R ms mp G' (LF s (k, t) rest).1 → K2 (.returned (.tuple #[.int .i64 (LF s (k, t) rest).2.n, .agg #[.int .i64 (LF s (k, t) rest).2.line, .int .i64 (LF s (k, t) rest).2.code]])) G') →
      HCall Tryd.prog 63 #[.pointer (some ⟨R, 0, none⟩), .map (some kn), .agg #[rv, .string (B call), .bool inn]] G K2)
    (h : ∀ G, FrJ B0 (MM ms mp) H G → Rdr B0 R ms mp G (readT LF rows.length s rows).1 → K (.returned (.agg #[.int .i64 (readT LF rows.length s rows).2.1, .int .i64 (readT LF rows.length s rows).2.2])) G) :
    HCall Tryd.prog 39 #[.pointer (some ⟨R, 0, none⟩), .agg #[rv, .string (B call), .bool inn]] H K := by
  refine hcall mixed B39 (args := [.pointer (some ⟨R, 0, none⟩), .agg #[rv, .string (B call), .bool inn]]) (by simp) ?_
  obtain ⟨ra, rc, rfl⟩ := SlE.form hr
  simp only [go_sem, reduceCtorEq, Nat.reduceEqDiff, Nat.reduceAdd, withc_some, withcs_some, cells_0, cells_s, Option.bind_some, Option.map_some, List.getElem?_toArray, List.getElem?_cons_zero, List.getElem?_cons_succ, Nat.add_zero, Nat.zero_add, Value.cells, splice, List.setIfInBounds_toArray, List.set_cons_zero, List.set_cons_succ, bfill_nil, bfill_cons, bstep_some, withO_some, List.take_zero, List.take_succ_cons, List.drop_zero, List.drop_succ_cons, List.cons_append, List.nil_append, List.append_nil, List.length_cons, List.length_nil, Nat.reduceLeDiff, Nat.le_refl, and_true, true_and, and_self, decide_true, decide_false, Bool.not_true, Bool.not_false, c39, r39_0, opA_alloc 79 ty79]
  refine box_kA fun b3 G1 e3 s1 h3 E1 => ?_
  simp only [go_sem, reduceCtorEq, Nat.reduceEqDiff, Nat.reduceAdd, withc_some, withcs_some, cells_0, cells_s, Option.bind_some, Option.map_some, List.getElem?_toArray, List.getElem?_cons_zero, List.getElem?_cons_succ, Nat.add_zero, Nat.zero_add, Value.cells, splice, List.setIfInBounds_toArray, List.set_cons_zero, List.set_cons_succ, bfill_nil, bfill_cons, bstep_some, withO_some, List.take_zero, List.take_succ_cons, List.drop_zero, List.drop_succ_cons, List.cons_append, List.nil_append, List.append_nil, List.length_cons, List.length_nil, Nat.reduceLeDiff, Nat.le_refl, and_true, true_and, and_self, decide_true, decide_false, Bool.not_true, Bool.not_false, opA_alloc 79 ty79]
  refine box_kA fun b4 G2 e4 s2 h4 E2 => ?_
  have E12 := E1.trans E2
  simp only [go_sem, reduceCtorEq, Nat.reduceEqDiff, Nat.reduceAdd, withc_some, withcs_some, cells_0, cells_s, Option.bind_some, Option.map_some, List.getElem?_toArray, List.getElem?_cons_zero, List.getElem?_cons_succ, Nat.add_zero, Nat.zero_add, Value.cells, splice, List.setIfInBounds_toArray, List.set_cons_zero, List.set_cons_succ, bfill_nil, bfill_cons, bstep_some, withO_some, List.take_zero, List.take_succ_cons, List.drop_zero, List.drop_succ_cons, List.cons_append, List.nil_append, List.append_nil, List.length_cons, List.length_nil, Nat.reduceLeDiff, Nat.le_refl, and_true, true_and, and_self, decide_true, decide_false, Bool.not_true, Bool.not_false, c39_11, r39_1, callA_fn0 pl62, opA_alloc 79 ty79]
  refine handlers_c fun kn G3 hkn E3 hm => ?_
  have E13 := E12.trans E3
  simp only [go_sem, reduceCtorEq, Nat.reduceEqDiff, Nat.reduceAdd, withc_some, withcs_some, cells_0, cells_s, Option.bind_some, Option.map_some, List.getElem?_toArray, List.getElem?_cons_zero, List.getElem?_cons_succ, Nat.add_zero, Nat.zero_add, Value.cells, splice, List.setIfInBounds_toArray, List.set_cons_zero, List.set_cons_succ, bfill_nil, bfill_cons, bstep_some, withO_some, List.take_zero, List.take_succ_cons, List.drop_zero, List.drop_succ_cons, List.cons_append, List.nil_append, List.append_nil, List.length_cons, List.length_nil, Nat.reduceLeDiff, Nat.le_refl, and_true, true_and, and_self, decide_true, decide_false, Bool.not_true, Bool.not_false, c39_10, callA_fn0 pl62, opA_alloc 79 ty79]
  have hms : ms < H.size := hR.syms.lt
  have hmp : mp < H.size := by obtain ⟨l, ⟨es, kk, q, _⟩, _⟩ := hR.procs; exact get_lt q
  refine aw_while (L := c39_8) rfl (fun m F G => ∃ (n : Nat) (s' : RS) (rows' : List Row) (rv' : Value), m = rows'.length ∧ F = [(0, .pointer (some ⟨R, 0, none⟩)), (3, .pointer (some ⟨b3, 0, none⟩)), (4, .pointer (some ⟨b4, 0, none⟩)), (5, .map (some kn))] ∧
      FrJ B0 (MM ms mp) H G ∧ G[b3]? = some (.cells #[rv', .string (B call), .bool inn] 82 (0, 0)) ∧ G[b4]? = some (.cells #[.int .i64 0, .int .i64 0] 79 (0, 0)) ∧ Rdr B0 R ms mp G s' ∧ MapC G kn hndL ∧ RowsV G rv' rows' ∧ G0 G ∧ Iv s' ∧ Rw rows' ∧ rows'.length ≤ n ∧ rows'.length ≤ 1000000 ∧ readT LF rows.length s rows = readT LF n s' rows') (m := rows.length)
    ⟨rows.length, s, rows, _, rfl, rfl, E13.ko, E3.get (E2.get h3), E3.get h4, hR.ext E13, hm, hr.ext E13, g.ext E13, hIv, hRw, Nat.le_refl _, hrl, rfl⟩ ?_
  rintro m F G ih ⟨n, s', rows', rv', rfl, rfl, hfr, g3, g4, hrd, hmk, hrv, hg, hiv, hrw, hn, hl, hq⟩
  obtain ⟨a', c', rfl⟩ := SlE.form hrv
  match rows', hrv, hrw, hn, hl, hq with
  | [], hrv, hrw, hn, hl, hq =>
    have e1 : decide ((0 : Int) < ((0 : Nat) : Int)) = false := by decide
    simp only [go_sem, reduceCtorEq, Nat.reduceEqDiff, Nat.reduceAdd, withc_some, withcs_some, cells_0, cells_s, Option.bind_some, Option.map_some, List.getElem?_toArray, List.getElem?_cons_zero, List.getElem?_cons_succ, Nat.add_zero, Nat.zero_add, Value.cells, splice, List.setIfInBounds_toArray, List.set_cons_zero, List.set_cons_succ, bfill_nil, bfill_cons, bstep_some, withO_some, List.take_zero, List.take_succ_cons, List.drop_zero, List.drop_succ_cons, List.cons_append, List.nil_append, List.append_nil, List.length_cons, List.length_nil, Nat.reduceLeDiff, Nat.le_refl, and_true, true_and, and_self, decide_true, decide_false, Bool.not_true, Bool.not_false, c39_7, c39_6, r39_2, cell_of_blk g3, List.length_nil, e1, c39_0, c39_9, r39_7, bl79, callA_fn0 pl62, fa82_0, ld68, len_slice Tryd.underlying68, opA_alloc 79 ty79]
    refine store_kA g4 ty79 (k := fun G4 h5 k5 s5 => ?_)
    simp only [go_sem, reduceCtorEq, Nat.reduceEqDiff, Nat.reduceAdd, withc_some, withcs_some, cells_0, cells_s, Option.bind_some, Option.map_some, List.getElem?_toArray, List.getElem?_cons_zero, List.getElem?_cons_succ, Nat.add_zero, Nat.zero_add, Value.cells, splice, List.setIfInBounds_toArray, List.set_cons_zero, List.set_cons_succ, bfill_nil, bfill_cons, bstep_some, withO_some, List.take_zero, List.take_succ_cons, List.drop_zero, List.drop_succ_cons, List.cons_append, List.nil_append, List.append_nil, List.length_cons, List.length_nil, Nat.reduceLeDiff, Nat.le_refl, and_true, true_and, and_self, decide_true, decide_false, Bool.not_true, Bool.not_false, resW_cell, bl79, callA_fn0 pl62, fa82_0, ld68, len_slice Tryd.underlying68, opA_alloc 79 ty79]
    rw [rc79 (l := [.int .i64 0, .int .i64 0]) (by simp only [go_sem, reduceCtorEq, Nat.reduceEqDiff, Nat.reduceAdd, withc_some, withcs_some, cells_0, cells_s, Option.bind_some, Option.map_some, List.getElem?_toArray, List.getElem?_cons_zero, List.getElem?_cons_succ, Nat.add_zero, Nat.zero_add, Value.cells, splice, List.setIfInBounds_toArray, List.set_cons_zero, List.set_cons_succ, bfill_nil, bfill_cons, bstep_some, withO_some, List.take_zero, List.take_succ_cons, List.drop_zero, List.drop_succ_cons, List.cons_append, List.nil_append, List.append_nil, List.length_cons, List.length_nil, Nat.reduceLeDiff, Nat.le_refl, and_true, true_and, and_self, decide_true, decide_false, Bool.not_true, Bool.not_false, cell_of_blk h5, bl79, callA_fn0 pl62, fa82_0, ld68, len_slice Tryd.underlying68, opA_alloc 79 ty79])]
    have hq' : readT LF rows.length s rows = (s', 0, 0) := by rw [hq]; cases n <;> rfl
    rw [hq'] at h
    exact h G4 (hfr.new k5 (by omega)) (hrd.kk (keepK_of g4 k5))
  | (k, t) :: rest, hrv, hrw, hn, hl, hq =>
    have e1 : decide ((0 : Int) < ((rest.length + 1 : Nat) : Int)) = true := by rw [decide_eq_true_eq]; omega
    simp only [List.length_cons] at hn hl
    simp only [go_sem, reduceCtorEq, Nat.reduceEqDiff, Nat.reduceAdd, withc_some, withcs_some, cells_0, cells_s, Option.bind_some, Option.map_some, List.getElem?_toArray, List.getElem?_cons_zero, List.getElem?_cons_succ, Nat.add_zero, Nat.zero_add, Value.cells, splice, List.setIfInBounds_toArray, List.set_cons_zero, List.set_cons_succ, bfill_nil, bfill_cons, bstep_some, withO_some, List.take_zero, List.take_succ_cons, List.drop_zero, List.drop_succ_cons, List.cons_append, List.nil_append, List.append_nil, List.length_cons, List.length_nil, Nat.reduceLeDiff, Nat.le_refl, and_true, true_and, and_self, decide_true, decide_false, Bool.not_true, Bool.not_false, c39_7, c39_6, r39_2, cell_of_blk g3, e1, c39_0, c39_5, c39_4, r39_3, bl79, callA_fn0 pl62, callA_fn0 pl63, fa82_0, ld68, ld82, len_slice Tryd.underlying68, opA_alloc 79 ty79]
    have hBG : B0 ≤ G.size := Nat.le_trans hBH hfr.size
    refine hline s' G _ k t rest kn _ hiv hrw hBG hg hrd hmk (by simpa using hrv) (by omega) fun G4 f4 hrd4 => ?_
    have g34 := cells_frJ f4 g3 (by decide) (by decide)
    have g44 := cells_frJ f4 g4 (by decide) (by decide)
    have hfr4 := hfr.trans f4
    simp only [go_sem, reduceCtorEq, Nat.reduceEqDiff, Nat.reduceAdd, withc_some, withcs_some, cells_0, cells_s, Option.bind_some, Option.map_some, List.getElem?_toArray, List.getElem?_cons_zero, List.getElem?_cons_succ, Nat.add_zero, Nat.zero_add, Value.cells, splice, List.setIfInBounds_toArray, List.set_cons_zero, List.set_cons_succ, bfill_nil, bfill_cons, bstep_some, withO_some, List.take_zero, List.take_succ_cons, List.drop_zero, List.drop_succ_cons, List.cons_append, List.nil_append, List.append_nil, List.length_cons, List.length_nil, Nat.reduceLeDiff, Nat.le_refl, and_true, true_and, and_self, decide_true, decide_false, Bool.not_true, Bool.not_false, bl79, callA_fn0 pl62, callA_fn0 pl63, fa82_0, ld68, ld82, len_slice Tryd.underlying68, opA_alloc 79 ty79]
    refine box_kA fun b7 G5 e7 s5 h7 E5 => ?_
    simp only [go_sem, reduceCtorEq, Nat.reduceEqDiff, Nat.reduceAdd, withc_some, withcs_some, cells_0, cells_s, Option.bind_some, Option.map_some, List.getElem?_toArray, List.getElem?_cons_zero, List.getElem?_cons_succ, Nat.add_zero, Nat.zero_add, Value.cells, splice, List.setIfInBounds_toArray, List.set_cons_zero, List.set_cons_succ, bfill_nil, bfill_cons, bstep_some, withO_some, List.take_zero, List.take_succ_cons, List.drop_zero, List.drop_succ_cons, List.cons_append, List.nil_append, List.append_nil, List.length_cons, List.length_nil, Nat.reduceLeDiff, Nat.le_refl, and_true, true_and, and_self, decide_true, decide_false, Bool.not_true, Bool.not_false, bl79, callA_fn0 pl62, callA_fn0 pl63, fa82_0, ld68, ld82, len_slice Tryd.underlying68, opA_alloc 79 ty79]
    refine store_kA h7 ty79 (k := fun G6 h8 k6 s6 => ?_)
    have h8' : G6[b7]? = some (.cells #[.int .i64 (LF s' (k, t) rest).2.line, .int .i64 (LF s' (k, t) rest).2.code] 79 (0, 0)) := h8
    have E46 : Ext G4 G6 := k6.two E5 (by omega)
    have hfr6 : FrJ B0 (MM ms mp) H G6 := hfr4.trans E46.ko
    by_cases hc0 : (LF s' (k, t) rest).2.code = 0
    · have e2 : decide ((LF s' (k, t) rest).2.code = 0) = true := by simpa using hc0
      obtain ⟨hv1, hv2, hv3⟩ := hstep s' (k, t) rest hiv hrw hc0
      obtain ⟨hrn, hrc, htl⟩ := hrv.tail
      have hdrop : RowsV G6 (.slice (subAddr a' 2 ((LF s' (k, t) rest).2.n + 1) c') (rest.length + 1 - ((LF s' (k, t) rest).2.n + 1)) (c' - ((LF s' (k, t) rest).2.n + 1))) (rest.drop (LF s' (k, t) rest).2.n) := by
        have h1 := SlE.drop (hrv.frJ f4 |>.ext E46) (lo := (LF s' (k, t) rest).2.n + 1) (by simp; omega)
        unfold RowsV
        have e : ∀ (m : Nat) (l : List Row), (rowsC l).drop (m * 2) = rowsC (l.drop m) := by
          intro m
          induction m with
          | zero => intro l; simp
          | succ m ih =>
            intro l
            cases l with
            | nil => simp [rowsC]
            | cons x r => rw [rowsC_cons, Nat.succ_mul, Nat.add_comm, ← List.drop_drop]; simpa [rowC] using ih r
        rw [e] at h1
        simpa using h1
      simp only [go_sem, reduceCtorEq, Nat.reduceEqDiff, Nat.reduceAdd, withc_some, withcs_some, cells_0, cells_s, Option.bind_some, Option.map_some, List.getElem?_toArray, List.getElem?_cons_zero, List.getElem?_cons_succ, Nat.add_zero, Nat.zero_add, Value.cells, splice, List.setIfInBounds_toArray, List.set_cons_zero, List.set_cons_succ, bfill_nil, bfill_cons, bstep_some, withO_some, List.take_zero, List.take_succ_cons, List.drop_zero, List.drop_succ_cons, List.cons_append, List.nil_append, List.append_nil, List.length_cons, List.length_nil, Nat.reduceLeDiff, Nat.le_refl, and_true, true_and, and_self, decide_true, decide_false, Bool.not_true, Bool.not_false, c39_3, r39_4, cell_of_blk h8', e2, c39_2, r39_6, cell_of_blk (E46.get g34), wrap_one (show (LF s' (k, t) rest).2.n + 1 ≤ 9223372036854775807 by omega), bl79, callA_fn0 pl62, callA_fn0 pl63, fa79_1, fa82_0, ld25, ld68, ld82, len_slice Tryd.underlying68, opA_alloc 79 ty79]
      rw [sliA_slice uRows ty73 (.nat _ _ ((LF s' (k, t) rest).2.n + 1)) (.no _) (by omega) (by simp only [List.length_cons] at hrc; omega)]
      simp only [go_sem, reduceCtorEq, Nat.reduceEqDiff, Nat.reduceAdd, withc_some, withcs_some, cells_0, cells_s, Option.bind_some, Option.map_some, List.getElem?_toArray, List.getElem?_cons_zero, List.getElem?_cons_succ, Nat.add_zero, Nat.zero_add, Value.cells, splice, List.setIfInBounds_toArray, List.set_cons_zero, List.set_cons_succ, bfill_nil, bfill_cons, bstep_some, withO_some, List.take_zero, List.take_succ_cons, List.drop_zero, List.drop_succ_cons, List.cons_append, List.nil_append, List.append_nil, List.length_cons, List.length_nil, Nat.reduceLeDiff, Nat.le_refl, and_true, true_and, and_self, decide_true, decide_false, Bool.not_true, Bool.not_false, bl79, callA_fn0 pl62, callA_fn0 pl63, fa79_1, fa82_0, ld25, ld68, ld82, len_slice Tryd.underlying68, opA_alloc 79 ty79]
      refine store_k1 (E46.get g34) ty68 (k := fun G7 h9 k7 s7 => ?_)
      have hg7 : G0 G7 := by
        obtain ⟨m, hm⟩ := (G0.frJ hg f4 hB0).ext E46
        exact ⟨m, cell_keep k7 hm (by show ¬ (0 = b3); omega)⟩
      have hkm : MapC G7 kn hndL := by
        have hkn1 : MapC G4 kn hndL := MapC.ko hmk f4 (fun es kk hmut => by
          rcases hmut.2 with ⟨_, _, hh | hh⟩ | ⟨hh, _⟩
          · cases hh
          · cases hh
          · rcases hh with hh | hh <;> (have := E12.size; omega))
        exact MapC.kk (hkn1.ext E46) (keepK_of (E46.get g34) k7)
      match n, hn, hq with
      | n + 1, hn, hq =>
        have hq2 : readT LF rows.length s rows = readT LF n (LF s' (k, t) rest).1 (rest.drop (LF s' (k, t) rest).2.n) := by
          rw [hq]; show (if _ then _ else _) = _; rw [if_pos hc0]
        exact ih _ _ _ (by simp; omega) ⟨n, (LF s' (k, t) rest).1, rest.drop (LF s' (k, t) rest).2.n, _, rfl, rfl, hfr6.new k7 (by omega), h9, k7.get (E46.get g44) (by intro e; subst e; rw [g44] at g34; cases g34),
          (hrd4.ext E46).kkE (keepK_of (E46.get g34) k7) (by decide) (by decide) (by decide) (by decide), hkm, sl_kk hdrop (keepK_of (E46.get g34) k7) (by decide), hg7, hv1, hv3, by simp; omega, by simp; omega, hq2⟩
    · have e2 : decide ((LF s' (k, t) rest).2.code = 0) = false := by simpa using hc0
      simp only [go_sem, reduceCtorEq, Nat.reduceEqDiff, Nat.reduceAdd, withc_some, withcs_some, cells_0, cells_s, Option.bind_some, Option.map_some, List.getElem?_toArray, List.getElem?_cons_zero, List.getElem?_cons_succ, Nat.add_zero, Nat.zero_add, Value.cells, splice, List.setIfInBounds_toArray, List.set_cons_zero, List.set_cons_succ, bfill_nil, bfill_cons, bstep_some, withO_some, List.take_zero, List.take_succ_cons, List.drop_zero, List.drop_succ_cons, List.cons_append, List.nil_append, List.append_nil, List.length_cons, List.length_nil, Nat.reduceLeDiff, Nat.le_refl, and_true, true_and, and_self, decide_true, decide_false, Bool.not_true, Bool.not_false, c39_3, r39_4, cell_of_blk h8', e2, c39_2, c39_1, r39_5, bl79, callA_fn0 pl62, callA_fn0 pl63, fa79_1, fa82_0, ld25, ld68, ld79, ld82, len_slice Tryd.underlying68, opA_alloc 79 ty79]
      refine store_kA (E46.get g44) ty79 (k := fun G7 h9 k7 s7 => ?_)
      simp only [go_sem, reduceCtorEq, Nat.reduceEqDiff, Nat.reduceAdd, withc_some, withcs_some, cells_0, cells_s, Option.bind_some, Option.map_some, List.getElem?_toArray, List.getElem?_cons_zero, List.getElem?_cons_succ, Nat.add_zero, Nat.zero_add, Value.cells, splice, List.setIfInBounds_toArray, List.set_cons_zero, List.set_cons_succ, bfill_nil, bfill_cons, bstep_some, withO_some, List.take_zero, List.take_succ_cons, List.drop_zero, List.drop_succ_cons, List.cons_append, List.nil_append, List.append_nil, List.length_cons, List.length_nil, Nat.reduceLeDiff, Nat.le_refl, and_true, true_and, and_self, decide_true, decide_false, Bool.not_true, Bool.not_false, resW_cell, bl79, callA_fn0 pl62, callA_fn0 pl63, fa79_1, fa82_0, ld25, ld68, ld79, ld82, len_slice Tryd.underlying68, opA_alloc 79 ty79]
      rw [rc79 (l := [.int .i64 (LF s' (k, t) rest).2.line, .int .i64 (LF s' (k, t) rest).2.code]) (by simp only [go_sem, reduceCtorEq, Nat.reduceEqDiff, Nat.reduceAdd, withc_some, withcs_some, cells_0, cells_s, Option.bind_some, Option.map_some, List.getElem?_toArray, List.getElem?_cons_zero, List.getElem?_cons_succ, Nat.add_zero, Nat.zero_add, Value.cells, splice, List.setIfInBounds_toArray, List.set_cons_zero, List.set_cons_succ, bfill_nil, bfill_cons, bstep_some, withO_some, List.take_zero, List.take_succ_cons, List.drop_zero, List.drop_succ_cons, List.cons_append, List.nil_append, List.append_nil, List.length_cons, List.length_nil, Nat.reduceLeDiff, Nat.le_refl, and_true, true_and, and_self, decide_true, decide_false, Bool.not_true, Bool.not_false, cell_of_blk h9, bl79, callA_fn0 pl62, callA_fn0 pl63, fa79_1, fa82_0, ld25, ld68, ld79, ld82, len_slice Tryd.underlying68, opA_alloc 79 ty79])]
      have hq' : readT LF rows.length s rows = ((LF s' (k, t) rest).1, (LF s' (k, t) rest).2.line, (LF s' (k, t) rest).2.code) := by
        rw [hq]
        match n, hn with
        | n + 1, _ => show (if _ then _ else _) = _; rw [if_neg hc0]
      rw [hq'] at h
      exact h G7 (hfr6.new k7 (by omega)) ((hrd4.ext E46).kk (keepK_of (E46.get g44) k7))
end Go.Proofs.YtoabcmhiaknjiaaDoor

/- Contracts of jobtext: Expand. -/
set_option maxRecDepth 100000
set_option linter.unusedSimpArgs false
set_option linter.unusedVariables false
namespace Go.Proofs.YtoabcmhiaknjiaaDoor
open Go.Hw

theorem opA_makeFuncC {P : Program} {F : Fr} {d : Option Nat} {ty : TypeId} {g : Option (Nat × Bool)} {H : Hp} {K : Value → Hp → Prop} {X : List PanicEntry → Hp → Prop} {fn : Fn} {cap : Array Operand} :
    opA P ⟨d, .makeFunc fn #[] cap, ty, g⟩ F H K X = withvs F cap.toList fun vs => K (.func fn #[] vs.toArray) H := by
  refine opA_n (l := cap.toList) (by simp [Op.operands]) (f := fun vs => Sem.pure (.value (.func fn #[] vs.toArray))) fun ρ => ?_
  simp only [execOp, O.oper, Instr.makeFunc, lmap]
  have e : Array.map ρ (#[] : Array Operand) = #[] := by simp
  rw [e]
  rfl

theorem lines_c {t : List UInt8} {H : Hp} {K : Ending → Hp → Prop} (h : ∀ b G, H.size ≤ b → Ext H G → G[b]? = some (.cells #[.string (B t)] 9 (0, 0)) → K (.returned (.func (.func 60) #[] #[.pointer (some ⟨b, 0, none⟩)])) G) : HCall Tryd.prog 37 #[.string (B t)] H K := by
  refine hcall mixed B37 (args := [.string (B t)]) (by simp) ?_
  simp only [go_sem, reduceCtorEq, Nat.reduceEqDiff, Nat.reduceAdd, withc_some, withcs_some, cells_0, cells_s, Option.bind_some, Option.map_some, List.getElem?_toArray, List.getElem?_cons_zero, List.getElem?_cons_succ, Nat.add_zero, Nat.zero_add, Value.cells, splice, List.setIfInBounds_toArray, List.set_cons_zero, List.set_cons_succ, bfill_nil, bfill_cons, bstep_some, withO_some, List.take_zero, List.take_succ_cons, List.drop_zero, List.drop_succ_cons, List.cons_append, List.nil_append, List.append_nil, List.length_cons, List.length_nil, Nat.reduceLeDiff, Nat.le_refl, and_true, true_and, and_self, decide_true, decide_false, Bool.not_true, Bool.not_false, c37, r37_0]
  refine box_k1 (k := fun b G1 e1 s1 h1 E1 => ?_)
  simp only [go_sem, reduceCtorEq, Nat.reduceEqDiff, Nat.reduceAdd, withc_some, withcs_some, cells_0, cells_s, Option.bind_some, Option.map_some, List.getElem?_toArray, List.getElem?_cons_zero, List.getElem?_cons_succ, Nat.add_zero, Nat.zero_add, Value.cells, splice, List.setIfInBounds_toArray, List.set_cons_zero, List.set_cons_succ, bfill_nil, bfill_cons, bstep_some, withO_some, List.take_zero, List.take_succ_cons, List.drop_zero, List.drop_succ_cons, List.cons_append, List.nil_append, List.append_nil, List.length_cons, List.length_nil, Nat.reduceLeDiff, Nat.le_refl, and_true, true_and, and_self, decide_true, decide_false, Bool.not_true, Bool.not_false, c37_0, r37_1, opA_makeFuncC]
  exact h b G1 (by omega) E1 h1


theorem rowsC_snoc (pre : List (List UInt8)) (t : List UInt8) : rowsC (rowsFrom 0 (pre ++ [t])) = rowsC (rowsFrom 0 pre) ++ [.int .i64 ((pre.length + 1 : Nat) : Int), .string (B t)] := by
  rw [rowsFrom_append, rowsC_append]
  simp [rowsFrom, rowsC, rowC]

theorem dropWhile_hd {p : UInt8 → Bool} : ∀ {l : List UInt8} {x : UInt8} {r : List UInt8}, l.dropWhile p = x :: r → p x = false
  | a :: l, x, r, h => by
    rw [List.dropWhile_cons] at h
    split at h
    · exact dropWhile_hd h
    · rename_i hn
      cases h; simpa using hn
theorem notMem_takeWhile {l : List UInt8} : (10 : UInt8) ∉ l.takeWhile notNl := by
  intro h
  have := List.all_takeWhile (p := notNl) (l := l)
  rw [List.all_eq_true] at this
  have := this _ h
  simp [notNl] at this
theorem trim_nl {t : List UInt8} : Lib.trimSuffix (lineHd t) [10] = t.takeWhile notNl := by
  unfold lineHd Lib.trimSuffix Lib.hasSuffix
  cases hd : t.dropWhile notNl with
  | nil =>
    simp only [List.take_nil, List.append_nil]
    rw [if_neg]
    intro h
    rw [List.isSuffixOf_iff_suffix] at h
    exact notMem_takeWhile (h.subset (by simp))
  | cons x r =>
    have := dropWhile_hd hd
    have hx : x = 10 := by simpa [notNl] using this
    subst hx
    rw [if_pos (by rw [List.isSuffixOf_iff_suffix]; exact ⟨_, rfl⟩)]
    simp
theorem linesT_len : ∀ (n : Nat) (l : List UInt8), (linesT n l).length ≤ n
  | 0, _ => Nat.le_refl _
  | n + 1, l => by
    simp only [linesT]
    split
    · simp
    · have := linesT_len n (lineTl l); simp; omega
theorem linesF_len (l : List UInt8) : (linesF l).length ≤ l.length := linesT_len _ _
theorem lineHd_len (t : List UInt8) : (lineHd t).length ≤ t.length := by
  have h := congrArg List.length (List.takeWhile_append_dropWhile (p := notNl) (l := t))
  rw [List.length_append] at h
  unfold lineHd
  rw [List.length_append, List.length_take]
  omega

/-- A slice of statements. -/
def StmsV (H : Hp) (v : Value) (l : List Stm) : Prop := ∃ cells, SlE 40 4 H v l.length cells ∧ stmC H l cells

theorem retS_ret {P : Program} {B : Nat} {rs : List ResultVar} {K : Ending → Hp → Prop} {F : Fr} {H : Hp} : retS P B rs K .ret F H = ∀ H', Shut B H H' → resW P F H' (fun vs => K (.returned (pack vs)) H') rs := (rfl)

theorem G0.pos {H : Hp} (g : G0 H) : 0 < H.size := by
  obtain ⟨m, hm⟩ := g
  unfold cellH at hm
  cases hb : H[0]? with
  | none => simp only [hb] at hm; cases hm
  | some o => exact get_lt hb
theorem shut_ext {H G G' : Hp} (e : Ext H G) (s : Shut H.size G G') : Ext H G' := ⟨by rw [s.1]; exact e.size, fun b hb => (s.2 b (.inl hb)).trans (e.blk b hb)⟩
theorem shut_get {B : Nat} {G G' : Hp} (s : Shut B G G') {b : Nat} {o : Obj} (h : G[b]? = some o) (ho : ∀ d, o ≠ .deferred d) : G'[b]? = some o := (s.2 b (.inr fun d e => ho d (by rw [h] at e; cases e; rfl))).trans h

set_option maxHeartbeats 4000000 in
/-- v: a slice of its own (block B or a later one) of statements. -/
def StmsO (B : Nat) (H : Hp) (v : Value) (l : List Stm) : Prop := ∃ cells, OwnS (B ≤ ·) 40 4 H v l.length cells ∧ stmC H l cells
theorem StmsO.V {B : Nat} {H : Hp} {v : Value} {l : List Stm} (h : StmsO B H v l) : StmsV H v l := by
  obtain ⟨cells, h1, h2⟩ := h
  exact ⟨cells, SlE.own h1, h2⟩

theorem expand_o {t : List UInt8} {H : Hp} {K : Ending → Hp → Prop} (LF : RS → Row → List Row → RS × HR) (Iv : RS → Prop) (Rw : List Row → Prop) (g : G0 H) (ht : t.length ≤ 1000000)
    (hIv : Iv ⟨[], [], []⟩) (hRw : Rw (rowsFrom 0 (linesF t)))
    (hstep : ∀ s x rest, Iv s → Rw (x :: rest) → (LF s x rest).2.code = 0 → Iv (LF s x rest).1 ∧ (LF s x rest).2.n ≤ rest.length ∧ Rw (rest.drop (LF s x rest).2.n))
    (hline : ∀ (B0 R ms mp : Nat) (s : RS) (G : Hp) (rv : Value) (k : Nat) (t : List UInt8) (rest : List Row) (kn : Nat) (K2 : Ending → Hp → Prop), 0 < B0 → ms < R → Iv s → Rw ((k, t) :: rest) → B0 ≤ G.size → G0 G → Rdr B0 R ms mp G s → MapC G kn hndL → RowsV G rv ((k, t) :: rest) → (rest.length ≤ 1000000) →
      (∀ G', FrJ B0 (MM ms mp) G G' → Rdr B0 R ms mp G' (LF s (k, t) rest).1 → K2 (.returned (.tuple #[.int .i64 (LF s (k, t) rest).2.n, .agg #[.int .i64 (LF s (k, t) rest).2.line, .int .i64 (LF s (k, t) rest).2.code]])) G') →
      HCall Tryd.prog 63 #[.pointer (some ⟨R, 0, none⟩), .map (some kn), .agg #[rv, .string (B []), .bool false]] G K2)
    (h : ∀ G v, Ext H G → StmsO H.size G v (expandF LF t).1 → (v = .slice none 0 0 ∨ (expandF LF t).2.2 = 0) → K (.returned (.tuple #[v, .int .i64 (expandF LF t).2.1, .int .i64 (expandF LF t).2.2])) G) :
    HCall Tryd.prog 19 #[.string (B t)] H K := by
  refine hcallR mixed B19 (args := [.string (B t)]) (by simp) ?_
  simp only [go_sem, reduceCtorEq, Nat.reduceEqDiff, Nat.reduceAdd, withc_some, withcs_some, cells_0, cells_s, Option.bind_some, Option.map_some, List.getElem?_toArray, List.getElem?_cons_zero, List.getElem?_cons_succ, Nat.add_zero, Nat.zero_add, Value.cells, splice, List.setIfInBounds_toArray, List.set_cons_zero, List.set_cons_succ, bfill_nil, bfill_cons, bstep_some, withO_some, List.take_zero, List.take_succ_cons, List.drop_zero, List.drop_succ_cons, List.cons_append, List.nil_append, List.append_nil, List.length_cons, List.length_nil, Nat.reduceLeDiff, Nat.le_refl, and_true, true_and, and_self, decide_true, decide_false, Bool.not_true, Bool.not_false, c19, r19_0, c19_13, r19_1, opA_alloc 68 ty68]
  refine box_k1 (k := fun b5 G1 e5 s1 h5 E1 => ?_)
  simp only [go_sem, reduceCtorEq, Nat.reduceEqDiff, Nat.reduceAdd, withc_some, withcs_some, cells_0, cells_s, Option.bind_some, Option.map_some, List.getElem?_toArray, List.getElem?_cons_zero, List.getElem?_cons_succ, Nat.add_zero, Nat.zero_add, Value.cells, splice, List.setIfInBounds_toArray, List.set_cons_zero, List.set_cons_succ, bfill_nil, bfill_cons, bstep_some, withO_some, List.take_zero, List.take_succ_cons, List.drop_zero, List.drop_succ_cons, List.cons_append, List.nil_append, List.append_nil, List.length_cons, List.length_nil, Nat.reduceLeDiff, Nat.le_refl, and_true, true_and, and_self, decide_true, decide_false, Bool.not_true, Bool.not_false, c19_12, r19_2, callA_fn0 pl37, opA_alloc 68 ty68]
  refine lines_c fun bs G2 hbs E2 h2 => ?_
  simp only [go_sem, reduceCtorEq, Nat.reduceEqDiff, Nat.reduceAdd, withc_some, withcs_some, cells_0, cells_s, Option.bind_some, Option.map_some, List.getElem?_toArray, List.getElem?_cons_zero, List.getElem?_cons_succ, Nat.add_zero, Nat.zero_add, Value.cells, splice, List.setIfInBounds_toArray, List.set_cons_zero, List.set_cons_succ, bfill_nil, bfill_cons, bstep_some, withO_some, List.take_zero, List.take_succ_cons, List.drop_zero, List.drop_succ_cons, List.cons_append, List.nil_append, List.append_nil, List.length_cons, List.length_nil, Nat.reduceLeDiff, Nat.le_refl, and_true, true_and, and_self, decide_true, decide_false, Bool.not_true, Bool.not_false, c19_2, callA_fn0 pl37, opA_alloc 68 ty68]
  have h52 := E2.get h5
  have E12 := E1.trans E2
  refine aw_rf (it := 60) (first := #[]) (cap := #[.pointer (some ⟨bs, 0, none⟩)]) rfl pl60 (by rfl) fun lp hlp hround => ?_
  have hps : lp.params.size = 1 := by have := congrArg List.length hlp.params; simpa using this
  have e0 : (#[] ++ #[Value.func (Fn.yield (G2.size + 1)) #[] #[]] ++ #[Value.pointer (some ⟨bs, 0, none⟩)] : Array Value) = #[.func (.yield (G2.size + 1)) #[] #[], .pointer (some ⟨bs, 0, none⟩)] := rfl
  rw [e0]
  generalize hl : G2.size + 1 = l at *
  have hH3l : ((G2.push (.deferred (some []))).push (.loop lp))[l]? = some (.loop lp) := by
    have e : l = (G2.push (.deferred (some []))).size := by rw [← hl, Array.size_push]
    rw [e, Array.getElem?_push_size]
  have E23 : Ext G2 ((G2.push (.deferred (some []))).push (.loop lp)) := (Ext.push _ _).trans (Ext.push _ _)
  generalize ((G2.push (.deferred (some []))).push (.loop lp)) = G3 at *
  have hb52 := get_lt h52
  have hbs2 := get_lt h2
  have hl5 : l ≠ b5 := by omega
  have hls : l ≠ bs := by omega
  have hne : bs ≠ b5 := by intro e; subst e; rw [h52] at h2; cases h2
  refine lines1_c (l := l) (b := bs) (lp := lp) hps (fun u G => ∃ (pre : List (List UInt8)) (v : Value), linesF t = pre ++ linesF u ∧ G[b5]? = some (.cells #[v] 68 (0, 0)) ∧ OwnS (H.size ≤ ·) 73 2 G v pre.length (rowsC (rowsFrom 0 pre)) ∧ G[bs]? = some (.cells #[.string (B u)] 9 (0, 0)) ∧ G[l]? = some (.loop lp) ∧ Ext H G ∧ pre.length ≤ t.length ∧ u.length ≤ t.length)
    (fun u G ⟨pre, v, q1, q2, q3, q4, q5, _⟩ => ⟨q4, q5, hls⟩) ?_ t G3 ⟨[], _, by simp, E23.get h52, OwnS.nil _ _ _ _, E23.get h2, hH3l, E12.trans E23, by simp, Nat.le_refl _⟩ (by omega) ?_
  · rintro u G Ga K2 hu ⟨pre, v, q1, q2, q3, q4, q5, q6, q7, q8⟩ k1 k2 hk
    obtain ⟨va, vc, rfl⟩ := q3.form
    have a5 := k2.get q2 (fun e => hne e.symm)
    have al := k2.get q5 hls
    have aown : OwnS (H.size ≤ ·) 73 2 Ga (.slice va pre.length vc) pre.length (rowsC (rowsFrom 0 pre)) := own_set_ne q3 q4 (by simp) k2
    have aE : Ext H Ga := k2.two q6 (by omega)
    have hpl : pre.length + 1 ≤ t.length + 1 := by omega
    refine hround [.string (B (lineHd u))] Ga K2 rfl al ?_
    simp only [go_sem, reduceCtorEq, Nat.reduceEqDiff, Nat.reduceAdd, withc_some, withcs_some, cells_0, cells_s, Option.bind_some, Option.map_some, List.getElem?_toArray, List.getElem?_cons_zero, List.getElem?_cons_succ, Nat.add_zero, Nat.zero_add, Value.cells, splice, List.setIfInBounds_toArray, List.set_cons_zero, List.set_cons_succ, bfill_nil, bfill_cons, bstep_some, withO_some, List.take_zero, List.take_succ_cons, List.drop_zero, List.drop_succ_cons, List.cons_append, List.nil_append, List.append_nil, List.length_cons, List.length_nil, Nat.reduceLeDiff, Nat.le_refl, and_true, true_and, and_self, decide_true, decide_false, Bool.not_true, Bool.not_false, bindF, r19_3, noE_normal, callA_fn0 pl37, opA_alloc 68 ty68]
    refine ⟨al, ?_⟩
    have hkl : Keep (· = l) Ga (Ga.setIfInBounds l (.loop { lp with state := .busy })) := ⟨by simp, fun b hb hn => by rw [Array.getElem?_setIfInBounds_ne (fun e => hn e.symm)]⟩
    have b5' := hkl.get a5 (fun e => hl5 e.symm)
    have bown := own_set_ne aown al (by simp) hkl
    have bs' := hkl.get k1 (fun e => hls e.symm)
    have bE : Ext H (Ga.setIfInBounds l (.loop { lp with state := .busy })) := hkl.two aE (by have := E12.size; omega)
    have bl : (Ga.setIfInBounds l (.loop { lp with state := .busy }))[l]? = some (.loop { lp with state := .busy }) := by
      have := get_lt al
      rw [Array.getElem?_setIfInBounds]; simp [this]
    generalize (Ga.setIfInBounds l (.loop { lp with state := .busy })) = Gb at *
    simp only [go_sem, reduceCtorEq, Nat.reduceEqDiff, Nat.reduceAdd, withc_some, withcs_some, cells_0, cells_s, Option.bind_some, Option.map_some, List.getElem?_toArray, List.getElem?_cons_zero, List.getElem?_cons_succ, Nat.add_zero, Nat.zero_add, Value.cells, splice, List.setIfInBounds_toArray, List.set_cons_zero, List.set_cons_succ, bfill_nil, bfill_cons, bstep_some, withO_some, List.take_zero, List.take_succ_cons, List.drop_zero, List.drop_succ_cons, List.cons_append, List.nil_append, List.append_nil, List.length_cons, List.length_nil, Nat.reduceLeDiff, Nat.le_refl, and_true, true_and, and_self, decide_true, decide_false, Bool.not_true, Bool.not_false, c19_0, r19_4, cell_of_blk b5', wrap_one (show pre.length + 1 ≤ 9223372036854775807 by omega), bl73, bq73, callA_fn0 pl37, callA_fn0 pl38, callQ_fn0 pl38, ld68, lenQ_slice Tryd.underlying68, len_slice Tryd.underlying68, lq68, opA_alloc 68 ty68]
    have hlu := lineHd_len u
    refine ⟨_, fun Gx eG => trimSuffix_c (lineHd u) [10] (by omega) ⟨rfl, rfl⟩, ?_⟩
    rw [trim_nl]
    simp only [go_sem, reduceCtorEq, Nat.reduceEqDiff, Nat.reduceAdd, withc_some, withcs_some, cells_0, cells_s, Option.bind_some, Option.map_some, List.getElem?_toArray, List.getElem?_cons_zero, List.getElem?_cons_succ, Nat.add_zero, Nat.zero_add, Value.cells, splice, List.setIfInBounds_toArray, List.set_cons_zero, List.set_cons_succ, bfill_nil, bfill_cons, bstep_some, withO_some, List.take_zero, List.take_succ_cons, List.drop_zero, List.drop_succ_cons, List.cons_append, List.nil_append, List.append_nil, List.length_cons, List.length_nil, Nat.reduceLeDiff, Nat.le_refl, and_true, true_and, and_self, decide_true, decide_false, Bool.not_true, Bool.not_false, bl73, bq73, callA_fn0 pl37, callA_fn0 pl38, callQ_fn0 pl38, ld68, lenQ_slice Tryd.underlying68, len_slice Tryd.underlying68, lq68, opA_alloc 68 ty68]
    rw [bslA_oneA uRows ty73 rfl rfl]
    simp only [go_sem, reduceCtorEq, Nat.reduceEqDiff, Nat.reduceAdd, withc_some, withcs_some, cells_0, cells_s, Option.bind_some, Option.map_some, List.getElem?_toArray, List.getElem?_cons_zero, List.getElem?_cons_succ, Nat.add_zero, Nat.zero_add, Value.cells, splice, List.setIfInBounds_toArray, List.set_cons_zero, List.set_cons_succ, bfill_nil, bfill_cons, bstep_some, withO_some, List.take_zero, List.take_succ_cons, List.drop_zero, List.drop_succ_cons, List.cons_append, List.nil_append, List.append_nil, List.length_cons, List.length_nil, Nat.reduceLeDiff, Nat.le_refl, and_true, true_and, and_self, decide_true, decide_false, Bool.not_true, Bool.not_false, bl73, bq73, callA_fn0 pl37, callA_fn0 pl38, callQ_fn0 pl38, ld68, lenQ_slice Tryd.underlying68, len_slice Tryd.underlying68, lq68, opA_alloc 68 ty68]
    refine ⟨Ext.push _ _, ?_⟩
    refine append_lit (ok := (H.size ≤ ·)) (m := 1) bown uRows ty73 rfl rfl (by intro u hu; simp at hu; rcases hu with rfl | rfl <;> rfl) (fun b hb => by have := bE.size; omega) (by omega) (by omega) fun v' G5 own5 k5 f5 => ?_
    have n5 := own_ne bown b5' (by simp)
    have ns := own_ne bown bs' (by simp)
    have nl := own_ne bown bl (by simp)
    obtain ⟨va', vc', rfl⟩ := own5.form
    simp only [go_sem, reduceCtorEq, Nat.reduceEqDiff, Nat.reduceAdd, withc_some, withcs_some, cells_0, cells_s, Option.bind_some, Option.map_some, List.getElem?_toArray, List.getElem?_cons_zero, List.getElem?_cons_succ, Nat.add_zero, Nat.zero_add, Value.cells, splice, List.setIfInBounds_toArray, List.set_cons_zero, List.set_cons_succ, bfill_nil, bfill_cons, bstep_some, withO_some, List.take_zero, List.take_succ_cons, List.drop_zero, List.drop_succ_cons, List.cons_append, List.nil_append, List.append_nil, List.length_cons, List.length_nil, Nat.reduceLeDiff, Nat.le_refl, and_true, true_and, and_self, decide_true, decide_false, Bool.not_true, Bool.not_false, bl73, bq73, callA_fn0 pl37, callA_fn0 pl38, callQ_fn0 pl38, ld68, lenQ_slice Tryd.underlying68, len_slice Tryd.underlying68, lq68, opA_alloc 68 ty68]
    refine store_k1 (k5.get b5' n5) ty68 (k := fun G6 h6 k6 s6 => ?_)
    have hl6 := k6.get (k5.get bl nl) hl5
    simp only [go_sem, reduceCtorEq, Nat.reduceEqDiff, Nat.reduceAdd, withc_some, withcs_some, cells_0, cells_s, Option.bind_some, Option.map_some, List.getElem?_toArray, List.getElem?_cons_zero, List.getElem?_cons_succ, Nat.add_zero, Nat.zero_add, Value.cells, splice, List.setIfInBounds_toArray, List.set_cons_zero, List.set_cons_succ, bfill_nil, bfill_cons, bstep_some, withO_some, List.take_zero, List.take_succ_cons, List.drop_zero, List.drop_succ_cons, List.cons_append, List.nil_append, List.append_nil, List.length_cons, List.length_nil, Nat.reduceLeDiff, Nat.le_refl, and_true, true_and, and_self, decide_true, decide_false, Bool.not_true, Bool.not_false, rndK, bl73, bq73, callA_fn0 pl37, callA_fn0 pl38, callQ_fn0 pl38, ld68, lenQ_slice Tryd.underlying68, len_slice Tryd.underlying68, lq68, opA_alloc 68 ty68]
    refine ⟨hl6, hk _ ⟨pre ++ [u.takeWhile notNl], .slice va' (pre.length + 1) vc', by rw [q1, linesF_cons hu, List.append_assoc]; rfl, ?_⟩⟩
    have k7 : Keep (· = l) G6 (G6.setIfInBounds l (.loop lp)) := ⟨by simp, fun b hb hn => by rw [Array.getElem?_setIfInBounds_ne (fun e => hn e.symm)]⟩
    have hb6s := k6.get (k5.get bs' ns) hne
    have own6 := own_set_ne own5 (k5.get b5' n5) (by simp) k6
    have own7 := own_set_ne own6 hl6 (by simp) k7
    have e6 : Ext H G6 := k6.two (Ext.own bE bown (fun _ h => h) k5) (by omega)
    refine ⟨k7.get h6 (fun e => hl5 e.symm), ?_, k7.get hb6s (fun e => hls e.symm), get_set hl6, k7.two e6 (by have := E12.size; omega), ?_, ?_⟩
    · rw [rowsC_snoc, List.length_append]; exact own7
    · have h1 := congrArg List.length q1
      rw [linesF_cons hu, List.length_append, List.length_cons] at h1
      have := linesF_len t
      rw [List.length_append, List.length_singleton]; omega
    · have := lineTl_len hu; omega
  · rintro G ⟨pre, v, q1, q2, q3, q4, q5, q6, q7, q8⟩
    rw [linesF_nil, List.append_nil] at q1
    subst q1
    obtain ⟨va, vc, rfl⟩ := q3.form
    refine ⟨lp, q5, by rw [hlp.state]; decide, ?_⟩
    rw [hlp.pending]
    have k1 : Keep (· = l) G (G.setIfInBounds l (.loop { lp with state := .exhausted, pending := none })) := ⟨by simp, fun b hb hn => by rw [Array.getElem?_setIfInBounds_ne (fun e => hn e.symm)]⟩
    have own1 := own_set_ne q3 q5 (by simp) k1
    have e1 : Ext H (G.setIfInBounds l (.loop { lp with state := .exhausted, pending := none })) := k1.two q6 (by have := E12.size; omega)
    have b51 := k1.get q2 (fun e => hl5 e.symm)
    generalize (G.setIfInBounds l (.loop { lp with state := .exhausted, pending := none })) = G4 at *
    have herr : (16384 < t.length ∨ 512 < (linesF t).length) → aw Tryd.prog 48 (c19_3) (seqQ Tryd.prog 48 ((A.keep [5]).seq c19_10) (retS Tryd.prog H.size [ResultVar.tmp 2, ResultVar.tmp 3, ResultVar.tmp 4] K)) [(5, .pointer (some ⟨b5, 0, none⟩)), (28, .bool true)] G4 := by
      intro hc
      have he : expandF LF t = ([], 0, 8) := by unfold expandF; rw [if_pos hc]
      rw [he] at h
      simp only [go_sem, reduceCtorEq, Nat.reduceEqDiff, Nat.reduceAdd, withc_some, withcs_some, cells_0, cells_s, Option.bind_some, Option.map_some, List.getElem?_toArray, List.getElem?_cons_zero, List.getElem?_cons_succ, Nat.add_zero, Nat.zero_add, Value.cells, splice, List.setIfInBounds_toArray, List.set_cons_zero, List.set_cons_succ, bfill_nil, bfill_cons, bstep_some, withO_some, List.take_zero, List.take_succ_cons, List.drop_zero, List.drop_succ_cons, List.cons_append, List.nil_append, List.append_nil, List.length_cons, List.length_nil, Nat.reduceLeDiff, Nat.le_refl, and_true, true_and, and_self, decide_true, decide_false, Bool.not_true, Bool.not_false, c19_3, r19_6, retS_ret, bl73, bq73, callA_fn0 pl37, callA_fn0 pl38, callQ_fn0 pl38, ld68, lenQ_slice Tryd.underlying68, len_slice Tryd.underlying68, lq68, opA_alloc 68 ty68]
      intro H' hs
      exact h H' _ (shut_ext e1 hs) ⟨[], OwnS.nil _ _ _ _, rfl⟩ (.inl rfl)
    have hlen := linesF_len t
    by_cases hlt : 16384 < t.length
    · have e2 : decide ((16384 : Int) < (t.length : Int)) = true := by rw [decide_eq_true_eq]; omega
      simp only [go_sem, reduceCtorEq, Nat.reduceEqDiff, Nat.reduceAdd, withc_some, withcs_some, cells_0, cells_s, Option.bind_some, Option.map_some, List.getElem?_toArray, List.getElem?_cons_zero, List.getElem?_cons_succ, Nat.add_zero, Nat.zero_add, Value.cells, splice, List.setIfInBounds_toArray, List.set_cons_zero, List.set_cons_succ, bfill_nil, bfill_cons, bstep_some, withO_some, List.take_zero, List.take_succ_cons, List.drop_zero, List.drop_succ_cons, List.cons_append, List.nil_append, List.append_nil, List.length_cons, List.length_nil, Nat.reduceLeDiff, Nat.le_refl, and_true, true_and, and_self, decide_true, decide_false, Bool.not_true, Bool.not_false, c19_11, r19_5, cell_of_blk b51, e2, c19_4, bl73, bq73, callA_fn0 pl37, callA_fn0 pl38, callQ_fn0 pl38, ld68, lenQ_slice Tryd.underlying68, len_B Tryd.underlying9, len_slice Tryd.underlying68, lq68, opA_alloc 68 ty68]
      exact herr (.inl hlt)
    · have e2 : decide ((16384 : Int) < (t.length : Int)) = false := by rw [decide_eq_false_iff_not]; omega
      by_cases hlr : 512 < (linesF t).length
      · have e3 : decide ((512 : Int) < ((linesF t).length : Int)) = true := by rw [decide_eq_true_eq]; omega
        simp only [go_sem, reduceCtorEq, Nat.reduceEqDiff, Nat.reduceAdd, withc_some, withcs_some, cells_0, cells_s, Option.bind_some, Option.map_some, List.getElem?_toArray, List.getElem?_cons_zero, List.getElem?_cons_succ, Nat.add_zero, Nat.zero_add, Value.cells, splice, List.setIfInBounds_toArray, List.set_cons_zero, List.set_cons_succ, bfill_nil, bfill_cons, bstep_some, withO_some, List.take_zero, List.take_succ_cons, List.drop_zero, List.drop_succ_cons, List.cons_append, List.nil_append, List.append_nil, List.length_cons, List.length_nil, Nat.reduceLeDiff, Nat.le_refl, and_true, true_and, and_self, decide_true, decide_false, Bool.not_true, Bool.not_false, c19_11, r19_5, cell_of_blk b51, e2, e3, c19_4, bl73, bq73, callA_fn0 pl37, callA_fn0 pl38, callQ_fn0 pl38, ld68, lenQ_slice Tryd.underlying68, len_B Tryd.underlying9, len_slice Tryd.underlying68, lq68, opA_alloc 68 ty68]
        exact herr (.inr hlr)
      · have e3 : decide ((512 : Int) < ((linesF t).length : Int)) = false := by rw [decide_eq_false_iff_not]; omega
        simp only [go_sem, reduceCtorEq, Nat.reduceEqDiff, Nat.reduceAdd, withc_some, withcs_some, cells_0, cells_s, Option.bind_some, Option.map_some, List.getElem?_toArray, List.getElem?_cons_zero, List.getElem?_cons_succ, Nat.add_zero, Nat.zero_add, Value.cells, splice, List.setIfInBounds_toArray, List.set_cons_zero, List.set_cons_succ, bfill_nil, bfill_cons, bstep_some, withO_some, List.take_zero, List.take_succ_cons, List.drop_zero, List.drop_succ_cons, List.cons_append, List.nil_append, List.append_nil, List.length_cons, List.length_nil, Nat.reduceLeDiff, Nat.le_refl, and_true, true_and, and_self, decide_true, decide_false, Bool.not_true, Bool.not_false, c19_11, r19_5, cell_of_blk b51, e2, e3, c19_4, c19_10, r19_7, opA_makeMap, bl73, bl77, bq73, callA_fn0 pl37, callA_fn0 pl38, callQ_fn0 pl38, ld68, lenQ_slice Tryd.underlying68, len_B Tryd.underlying9, len_slice Tryd.underlying68, lq68, opA_alloc 68 ty68]
        have m1 : MapC ((G4.push (.map #[] 0)).push (.map #[] 0)) G4.size [] := MapC.new.ext (Ext.push _ _)
        have m2 : MapC ((G4.push (.map #[] 0)).push (.map #[] 0)) (G4.push (.map #[] 0)).size [] := MapC.new
        have hmne : G4.size ≠ (G4.push (.map #[] 0)).size := by simp
        have hmp : G4.size ≤ (G4.push (.map #[] 0)).size := by simp
        have hms5 : G4.size < ((G4.push (.map #[] 0)).push (.map #[] 0)).size := by simp; omega
        have e45 : Ext G4 ((G4.push (.map #[] 0)).push (.map #[] 0)) := (Ext.push _ _).trans (Ext.push _ _)
        generalize ((G4.push (.map #[] 0)).push (.map #[] 0)) = G5 at *
        generalize (G4.push (.map #[] 0)).size = mp at *
        generalize hms : G4.size = ms at *
        refine box_kA fun bR G6 eR sR hR6 E6 => ?_
        have hR6' : G6[bR]? = some (.cells #[.map (some ms), .map (some mp), .slice none 0 0] 77 (0, 0)) := hR6
        have h56 := E6.get (e45.get b51)
        simp only [go_sem, reduceCtorEq, Nat.reduceEqDiff, Nat.reduceAdd, withc_some, withcs_some, cells_0, cells_s, Option.bind_some, Option.map_some, List.getElem?_toArray, List.getElem?_cons_zero, List.getElem?_cons_succ, Nat.add_zero, Nat.zero_add, Value.cells, splice, List.setIfInBounds_toArray, List.set_cons_zero, List.set_cons_succ, bfill_nil, bfill_cons, bstep_some, withO_some, List.take_zero, List.take_succ_cons, List.drop_zero, List.drop_succ_cons, List.cons_append, List.nil_append, List.append_nil, List.length_cons, List.length_nil, Nat.reduceLeDiff, Nat.le_refl, and_true, true_and, and_self, decide_true, decide_false, Bool.not_true, Bool.not_false, c19_9, r19_8, cell_of_blk h56, bl73, bl77, bl82, bq73, callA_fn0 pl37, callA_fn0 pl38, callA_fn0 pl39, callQ_fn0 pl38, ld68, lenQ_slice Tryd.underlying68, len_B Tryd.underlying9, len_slice Tryd.underlying68, lq68, opA_alloc 68 ty68, opA_alloc 79 ty79]
        have hsz := e1.size
        have hsz5 := e45.size
        have hH0 := Proofs.YtoabcmhiaknjiaaDoor.G0.pos g
        refine read_c (B0 := H.size) (R := bR) (ms := ms) (mp := mp) (s := ⟨[], [], []⟩) (rows := rowsFrom 0 (linesF t)) LF Iv Rw ⟨⟨by omega, _, [], hR6', OwnS.nil _ _ _ _, rfl⟩, ⟨[], m1.ext E6, fun _ => rfl, by simp⟩, ⟨[], m2.ext E6, .nil⟩, by omega, by omega, hmne⟩ hH0 (by have := E6.size; omega) (g.ext (e1.trans (e45.trans E6))) ?_ hIv hRw (by rw [rowsFrom_length]; omega) hstep (fun s G rv k t rest kn K2 a1 a2 a3 a4 a5 a6 a7 a8 a9 => hline H.size bR ms mp s G rv k t rest kn K2 hH0 (by omega) a1 a2 a3 a4 a5 a6 a7 a8 a9) ?_
        · unfold RowsV
          rw [rowsFrom_length]
          exact (SlE.own own1).ext (e45.trans E6)
        intro G7 hfr hrd
        simp only [go_sem, reduceCtorEq, Nat.reduceEqDiff, Nat.reduceAdd, withc_some, withcs_some, cells_0, cells_s, Option.bind_some, Option.map_some, List.getElem?_toArray, List.getElem?_cons_zero, List.getElem?_cons_succ, Nat.add_zero, Nat.zero_add, Value.cells, splice, List.setIfInBounds_toArray, List.set_cons_zero, List.set_cons_succ, bfill_nil, bfill_cons, bstep_some, withO_some, List.take_zero, List.take_succ_cons, List.drop_zero, List.drop_succ_cons, List.cons_append, List.nil_append, List.append_nil, List.length_cons, List.length_nil, Nat.reduceLeDiff, Nat.le_refl, and_true, true_and, and_self, decide_true, decide_false, Bool.not_true, Bool.not_false, bl73, bl77, bl82, bq73, callA_fn0 pl37, callA_fn0 pl38, callA_fn0 pl39, callQ_fn0 pl38, ld68, lenQ_slice Tryd.underlying68, len_B Tryd.underlying9, len_slice Tryd.underlying68, lq68, opA_alloc 68 ty68, opA_alloc 79 ty79]
        refine box_kA fun b8 G8 e8 s8 h8 E8 => ?_
        have hE7 : Ext H G7 := FrJ.ext (e1.trans (e45.trans E6)) hfr (Nat.le_refl _)
        rw [rowsFrom_length]
        rw [rowsFrom_length] at hrd
        have hex : expandF LF t = if (readT LF (linesF t).length ⟨[], [], []⟩ (rowsFrom 0 (linesF t))).2.2 = 0 then ((readT LF (linesF t).length ⟨[], [], []⟩ (rowsFrom 0 (linesF t))).1.out, 0, 0)
          else ([], (readT LF (linesF t).length ⟨[], [], []⟩ (rowsFrom 0 (linesF t))).2.1, (readT LF (linesF t).length ⟨[], [], []⟩ (rowsFrom 0 (linesF t))).2.2) := by
          unfold expandF; rw [if_neg (by omega)]
        generalize (readT LF (linesF t).length ⟨[], [], []⟩ (rowsFrom 0 (linesF t))) = res at *
        simp only [go_sem, reduceCtorEq, Nat.reduceEqDiff, Nat.reduceAdd, withc_some, withcs_some, cells_0, cells_s, Option.bind_some, Option.map_some, List.getElem?_toArray, List.getElem?_cons_zero, List.getElem?_cons_succ, Nat.add_zero, Nat.zero_add, Value.cells, splice, List.setIfInBounds_toArray, List.set_cons_zero, List.set_cons_succ, bfill_nil, bfill_cons, bstep_some, withO_some, List.take_zero, List.take_succ_cons, List.drop_zero, List.drop_succ_cons, List.cons_append, List.nil_append, List.append_nil, List.length_cons, List.length_nil, Nat.reduceLeDiff, Nat.le_refl, and_true, true_and, and_self, decide_true, decide_false, Bool.not_true, Bool.not_false, bl73, bl77, bl82, bq73, callA_fn0 pl37, callA_fn0 pl38, callA_fn0 pl39, callQ_fn0 pl38, ld68, lenQ_slice Tryd.underlying68, len_B Tryd.underlying9, len_slice Tryd.underlying68, lq68, opA_alloc 68 ty68, opA_alloc 79 ty79]
        refine store_kA h8 ty79 (k := fun G9 h9 k9 s9 => ?_)
        have h9' : G9[b8]? = some (.cells #[.int .i64 res.2.1, .int .i64 res.2.2] 79 (0, 0)) := h9
        have hrd9 := (hrd.ext E8).kk (keepK_of h8 k9)
        have hE9 : Ext H G9 := k9.two (hE7.trans E8) (by have := hE7.size; omega)
        by_cases hc : res.2.2 = 0
        · have e4 : decide (res.2.2 = 0) = true := by simpa using hc
          rw [if_pos hc] at hex
          rw [hex] at h
          obtain ⟨_, ov, cells, hb, hown, hst⟩ := hrd9.out
          simp only [go_sem, reduceCtorEq, Nat.reduceEqDiff, Nat.reduceAdd, withc_some, withcs_some, cells_0, cells_s, Option.bind_some, Option.map_some, List.getElem?_toArray, List.getElem?_cons_zero, List.getElem?_cons_succ, Nat.add_zero, Nat.zero_add, Value.cells, splice, List.setIfInBounds_toArray, List.set_cons_zero, List.set_cons_succ, bfill_nil, bfill_cons, bstep_some, withO_some, List.take_zero, List.take_succ_cons, List.drop_zero, List.drop_succ_cons, List.cons_append, List.nil_append, List.append_nil, List.length_cons, List.length_nil, Nat.reduceLeDiff, Nat.le_refl, and_true, true_and, and_self, decide_true, decide_false, Bool.not_true, Bool.not_false, c19_7, r19_9, cell_of_blk h9', e4, c19_6, c19_8, r19_11, cell_of_blk hb, retS_ret, bl73, bl77, bl82, bq73, callA_fn0 pl37, callA_fn0 pl38, callA_fn0 pl39, callQ_fn0 pl38, fa77_2, fa79_1, ld25, ld36, ld68, lenQ_slice Tryd.underlying68, len_B Tryd.underlying9, len_slice Tryd.underlying68, lq68, opA_alloc 68 ty68, opA_alloc 79 ty79]
          intro H' hs
          have hst' : StmsO H.size H' ov res.1.out := by
            refine ⟨cells, ?_, stmC.mono (fun v ws hv => SlE.mono hv (fun b c f hb => shut_get hs hb (by simp))) _ _ hst⟩
            rcases hown with h | ⟨b, cap, c, f, o1, o2, o3, o4⟩
            · exact .inl h
            · exact .inr ⟨b, cap, c, f, o1, o2, shut_get hs o3 (by simp), o4⟩
          exact h H' _ (shut_ext hE9 hs) hst' (.inr rfl)
        · have e4 : decide (res.2.2 = 0) = false := by simpa using hc
          rw [if_neg hc] at hex
          rw [hex] at h
          simp only [go_sem, reduceCtorEq, Nat.reduceEqDiff, Nat.reduceAdd, withc_some, withcs_some, cells_0, cells_s, Option.bind_some, Option.map_some, List.getElem?_toArray, List.getElem?_cons_zero, List.getElem?_cons_succ, Nat.add_zero, Nat.zero_add, Value.cells, splice, List.setIfInBounds_toArray, List.set_cons_zero, List.set_cons_succ, bfill_nil, bfill_cons, bstep_some, withO_some, List.take_zero, List.take_succ_cons, List.drop_zero, List.drop_succ_cons, List.cons_append, List.nil_append, List.append_nil, List.length_cons, List.length_nil, Nat.reduceLeDiff, Nat.le_refl, and_true, true_and, and_self, decide_true, decide_false, Bool.not_true, Bool.not_false, c19_7, r19_9, cell_of_blk h9', e4, c19_6, c19_5, r19_10, retS_ret, bl73, bl77, bl82, bq73, callA_fn0 pl37, callA_fn0 pl38, callA_fn0 pl39, callQ_fn0 pl38, fa77_2, fa79_0, fa79_1, fq79_0, fq79_1, ld25, ld3, ld36, ld68, lenQ_slice Tryd.underlying68, len_B Tryd.underlying9, len_slice Tryd.underlying68, lq25, lq3, lq68, opA_alloc 68 ty68, opA_alloc 79 ty79]
          intro H' hs
          exact h H' _ (shut_ext hE9 hs) ⟨[], OwnS.nil _ _ _ _, rfl⟩ (.inl rfl)

theorem expand_c {t : List UInt8} {H : Hp} {K : Ending → Hp → Prop} (LF : RS → Row → List Row → RS × HR) (Iv : RS → Prop) (Rw : List Row → Prop) (g : G0 H) (ht : t.length ≤ 1000000)
    (hIv : Iv ⟨[], [], []⟩) (hRw : Rw (rowsFrom 0 (linesF t)))
    (hstep : ∀ s x rest, Iv s → Rw (x :: rest) → (LF s x rest).2.code = 0 → Iv (LF s x rest).1 ∧ (LF s x rest).2.n ≤ rest.length ∧ Rw (rest.drop (LF s x rest).2.n))
    (hline : ∀ (B0 R ms mp : Nat) (s : RS) (G : Hp) (rv : Value) (k : Nat) (t : List UInt8) (rest : List Row) (kn : Nat) (K2 : Ending → Hp → Prop), 0 < B0 → ms < R → Iv s → Rw ((k, t) :: rest) → B0 ≤ G.size → G0 G → Rdr B0 R ms mp G s → MapC G kn hndL → RowsV G rv ((k, t) :: rest) → (rest.length ≤ 1000000) →
      (∀ G', FrJ B0 (MM ms mp) G G' → Rdr B0 R ms mp G' (LF s (k, t) rest).1 → K2 (.returned (.tuple #[.int .i64 (LF s (k, t) rest).2.n, .agg #[.int .i64 (LF s (k, t) rest).2.line, .int .i64 (LF s (k, t) rest).2.code]])) G') →
      HCall Tryd.prog 63 #[.pointer (some ⟨R, 0, none⟩), .map (some kn), .agg #[rv, .string (B []), .bool false]] G K2)
    (h : ∀ G v, Ext H G → StmsV G v (expandF LF t).1 → (v = .slice none 0 0 ∨ (expandF LF t).2.2 = 0) → K (.returned (.tuple #[v, .int .i64 (expandF LF t).2.1, .int .i64 (expandF LF t).2.2])) G) :
    HCall Tryd.prog 19 #[.string (B t)] H K :=
  expand_o LF Iv Rw g ht hIv hRw hstep hline fun G v E hs he => h G v E hs.V he
end Go.Proofs.YtoabcmhiaknjiaaDoor

set_option maxRecDepth 100000
namespace Go.Proofs.YtoabcmhiaknjiaaDoor
open Go.Hw
/-! ### 86 (*dasd/jobtext.reader).set -/
def r86_0 : List O := [⟨some 4, .box 82 (.tmp 1), 0, none⟩,
  ⟨some 6, .assign (.const (.int .i64 0)), 3, none⟩,
  ⟨some 7, .alloc 79, 0, none⟩]
def r86_1 : List O := [⟨some 9, .fieldAddr 82 (.tmp 4) 2, 0, none⟩,
  ⟨some 10, .load 4 (.tmp 9), 4, none⟩,
  ⟨some 8, .assign (.tmp 10), 4, none⟩]
def r86_2 : List O := [⟨some 11, .load 82 (.tmp 4), 82, none⟩,
  ⟨some 12, .call { callee := .value (.func 91), args := #[.tmp 11, .const (.int .i64 9)], argTypes := #[82, 25] }, 79, none⟩,
  ⟨some 6, .assign (.const (.int .i64 0)), 3, none⟩,
  ⟨none, .store 79 (.tmp 7) (.tmp 12), 0, none⟩]
def r86_3 : List O := [⟨some 14, .move (.tmp 2), 24, none⟩,
  ⟨some 15, .call { callee := .builtin .len, args := #[.tmp 14], argTypes := #[24] }, 3, none⟩,
  ⟨some 16, .binOp .neq 3 (.tmp 15) (.const (.int .i64 3)) 3, 4, none⟩,
  ⟨some 17, .move (.tmp 16), 4, none⟩,
  ⟨some 18, .move (.tmp 2), 24, some (17, false)⟩,
  ⟨some 19, .indexAddr 24 (.tmp 18) (.const (.int .i64 1)), 0, some (17, false)⟩,
  ⟨some 20, .load 9 (.tmp 19), 9, some (17, false)⟩,
  ⟨some 21, .call { callee := .value (.func 30), args := #[.tmp 20], argTypes := #[9] }, 4, some (17, false)⟩,
  ⟨some 22, .unOp .not 4 (.tmp 21), 4, some (17, false)⟩,
  ⟨some 23, .pick (.tmp 17) (.const (.bool true)) (.tmp 22), 4, none⟩,
  ⟨some 13, .assign (.tmp 23), 4, none⟩]
def r86_4 : List O := [⟨some 24, .load 82 (.tmp 4), 82, none⟩,
  ⟨some 25, .call { callee := .value (.func 91), args := #[.tmp 24, .const (.int .i64 3)], argTypes := #[82, 25] }, 79, none⟩,
  ⟨some 6, .assign (.const (.int .i64 0)), 3, none⟩,
  ⟨none, .store 79 (.tmp 7) (.tmp 25), 0, none⟩]
def r86_5 : List O := [⟨some 26, .move (.tmp 0), 74, none⟩,
  ⟨some 27, .nilCheck (.tmp 26), 0, none⟩,
  ⟨some 28, .fieldAddr 77 (.tmp 27) 0, 0, none⟩,
  ⟨some 29, .load 22 (.tmp 28), 22, none⟩,
  ⟨some 30, .move (.tmp 2), 24, none⟩,
  ⟨some 31, .indexAddr 24 (.tmp 30) (.const (.int .i64 1)), 0, none⟩,
  ⟨some 32, .load 9 (.tmp 31), 9, none⟩,
  ⟨some 33, .move (.tmp 2), 24, none⟩,
  ⟨some 34, .indexAddr 24 (.tmp 33) (.const (.int .i64 2)), 0, none⟩,
  ⟨some 35, .load 9 (.tmp 34), 9, none⟩,
  ⟨none, .mapUpdate 22 (.tmp 29) (.tmp 32) (.tmp 35), 0, none⟩]
def r86_6 : List O := [⟨some 36, .build 79 #[], 79, none⟩,
  ⟨some 6, .assign (.const (.int .i64 0)), 3, none⟩,
  ⟨none, .store 79 (.tmp 7) (.tmp 36), 0, none⟩]
def c86_0 : A := .seq (.reg r86_2 [6, 7]) .ret
def c86_1 : A := .seq (.reg r86_4 [6, 7]) .ret
def c86_2 : A := .cond (.tmp 13) c86_1 .skip
def c86_3 : A := .seq (.reg r86_3 [0, 2, 4, 7, 13]) c86_2
def c86_4 : A := .cond (.tmp 8) c86_0 c86_3
def c86_5 : A := .seq (.reg r86_1 [0, 2, 4, 7, 8]) c86_4
def c86_6 : A := .seq (.reg r86_6 [6, 7]) .ret
def c86_7 : A := .seq (.draw 10 r86_5 [7]) c86_6
def c86_8 : A := .seq (.block 0 c86_5) c86_7
def c86 : A := .seq (.reg r86_0 [0, 2, 4, 7]) c86_8
theorem B86 : Body Tryd.prog 86 37 [.tmp 6, .cell 7 79] c86 := ⟨by kernel_rfl, _, _, [(0, [0, 2, 4, 7]), (1, [0, 2, 4, 7, 8]), (2, [6, 7]), (3, [0, 2, 4, 7, 13]), (4, [6, 7]), (5, [7]), (6, [6, 7])], Tryd.func86, rfl, rfl, rfl, by kernel_rfl⟩
/-! ### 87 (*dasd/jobtext.reader).proc -/
def r87_0 : List O := [⟨some 4, .box 82 (.tmp 1), 0, none⟩,
  ⟨some 6, .assign (.const (.int .i64 0)), 3, none⟩,
  ⟨some 7, .alloc 79, 0, none⟩]
def r87_1 : List O := [⟨some 16, .fieldAddr 82 (.tmp 4) 2, 0, none⟩,
  ⟨some 17, .load 4 (.tmp 16), 4, none⟩]
def r87_2 : List O := [⟨some 18, .load 82 (.tmp 4), 82, none⟩,
  ⟨some 19, .call { callee := .value (.func 91), args := #[.tmp 18, .const (.int .i64 9)], argTypes := #[82, 25] }, 79, none⟩,
  ⟨some 6, .assign (.const (.int .i64 0)), 3, none⟩,
  ⟨none, .store 79 (.tmp 7) (.tmp 19), 0, none⟩]
def r87_3 : List O := [⟨some 20, .move (.tmp 2), 24, none⟩,
  ⟨some 21, .call { callee := .builtin .len, args := #[.tmp 20], argTypes := #[24] }, 3, none⟩,
  ⟨some 22, .binOp .lss 3 (.tmp 21) (.const (.int .i64 2)) 3, 4, none⟩,
  ⟨some 23, .move (.tmp 22), 4, none⟩,
  ⟨some 24, .move (.tmp 2), 24, some (23, false)⟩,
  ⟨some 25, .indexAddr 24 (.tmp 24) (.const (.int .i64 1)), 0, some (23, false)⟩,
  ⟨some 26, .load 9 (.tmp 25), 9, some (23, false)⟩,
  ⟨some 27, .call { callee := .value (.func 30), args := #[.tmp 26], argTypes := #[9] }, 4, some (23, false)⟩,
  ⟨some 28, .unOp .not 4 (.tmp 27), 4, some (23, false)⟩,
  ⟨some 29, .pick (.tmp 23) (.const (.bool true)) (.tmp 28), 4, none⟩]
def r87_4 : List O := [⟨some 30, .load 82 (.tmp 4), 82, none⟩,
  ⟨some 31, .call { callee := .value (.func 91), args := #[.tmp 30, .const (.int .i64 3)], argTypes := #[82, 25] }, 79, none⟩,
  ⟨some 6, .assign (.const (.int .i64 0)), 3, none⟩,
  ⟨none, .store 79 (.tmp 7) (.tmp 31), 0, none⟩]
def r87_5 : List O := [⟨some 33, .move (.tmp 2), 24, none⟩,
  ⟨some 34, .slice 24 (.tmp 33) (some (.const (.int .i64 2))) none none, 24, none⟩,
  ⟨some 35, .call { callee := .value (.func 98), args := #[.tmp 34], argTypes := #[24] }, 134, none⟩,
  ⟨some 32, .move (.tmp 35), 134, none⟩,
  ⟨some 36, .extract (.tmp 32) 0, 22, none⟩,
  ⟨some 37, .extract (.tmp 32) 1, 4, none⟩,
  ⟨some 8, .assign (.tmp 36), 22, none⟩,
  ⟨some 9, .assign (.tmp 37), 4, none⟩]
def r87_6 : List O := [⟨some 38, .move (.tmp 9), 4, none⟩,
  ⟨some 39, .unOp .not 4 (.tmp 38), 4, none⟩]
def r87_7 : List O := [⟨some 40, .load 82 (.tmp 4), 82, none⟩,
  ⟨some 41, .call { callee := .value (.func 91), args := #[.tmp 40, .const (.int .i64 3)], argTypes := #[82, 25] }, 79, none⟩,
  ⟨some 6, .assign (.const (.int .i64 0)), 3, none⟩,
  ⟨none, .store 79 (.tmp 7) (.tmp 41), 0, none⟩]
def r87_8 : List (Nat × O) := [(2, ⟨some 43, .move (.tmp 0), 74, none⟩),
  (2, ⟨some 44, .nilCheck (.tmp 43), 0, none⟩),
  (2, ⟨some 45, .fieldAddr 77 (.tmp 44) 1, 0, none⟩),
  (1, ⟨some 46, .load 75 (.tmp 45), 75, none⟩),
  (2, ⟨some 47, .move (.tmp 2), 24, none⟩),
  (2, ⟨some 48, .indexAddr 24 (.tmp 47) (.const (.int .i64 1)), 0, none⟩),
  (1, ⟨some 49, .load 9 (.tmp 48), 9, none⟩),
  (1, ⟨some 50, .lookup 75 (.tmp 46) (.tmp 49) true, 138, none⟩),
  (2, ⟨some 42, .move (.tmp 50), 138, none⟩),
  (2, ⟨some 51, .extract (.tmp 42) 0, 137, none⟩),
  (2, ⟨some 52, .extract (.tmp 42) 1, 4, none⟩),
  (3, ⟨some 10, .alloc 137, 0, none⟩),
  (0, ⟨none, .store 137 (.tmp 10) (.tmp 51), 0, none⟩),
  (2, ⟨some 11, .assign (.tmp 52), 4, none⟩)]
def r87_9 : List O := [⟨some 53, .move (.tmp 11), 4, none⟩]
def r87_10 : List O := [⟨some 54, .load 82 (.tmp 4), 82, none⟩,
  ⟨some 55, .call { callee := .value (.func 91), args := #[.tmp 54, .const (.int .i64 5)], argTypes := #[82, 25] }, 79, none⟩,
  ⟨some 6, .assign (.const (.int .i64 0)), 3, none⟩,
  ⟨none, .store 79 (.tmp 7) (.tmp 55), 0, none⟩]
def r87_11 : List O := [⟨some 56, .fieldAddr 82 (.tmp 4) 0, 0, none⟩,
  ⟨some 57, .load 68 (.tmp 56), 68, none⟩,
  ⟨some 58, .slice 68 (.tmp 57) (some (.const (.int .i64 1))) none none, 68, none⟩,
  ⟨some 59, .call { callee := .builtin .len, args := #[.tmp 58], argTypes := #[68] }, 3, none⟩,
  ⟨some 60, .move (.const (.int .i64 0)), 3, none⟩]
def r87_12 : List O := [⟨some 61, .binOp .lss 3 (.tmp 60) (.tmp 59) 3, 0, none⟩]
def r87_13 : List O := [⟨some 62, .move (.tmp 60), 3, none⟩,
  ⟨some 63, .indexAddr 68 (.tmp 58) (.tmp 60), 0, none⟩,
  ⟨some 64, .load 73 (.tmp 63), 73, none⟩,
  ⟨some 13, .alloc 73, 0, none⟩,
  ⟨some 12, .assign (.tmp 62), 3, none⟩,
  ⟨none, .store 73 (.tmp 13) (.tmp 64), 0, none⟩]
def r87_14 : List O := [⟨some 66, .fieldAddr 73 (.tmp 13) 1, 0, none⟩,
  ⟨some 67, .load 9 (.tmp 66), 9, none⟩,
  ⟨some 68, .call { callee := .value (.func 10), args := #[.tmp 67], argTypes := #[9] }, 26, none⟩,
  ⟨some 65, .move (.tmp 68), 26, none⟩,
  ⟨some 69, .extract (.tmp 65) 0, 24, none⟩,
  ⟨some 70, .extract (.tmp 65) 1, 25, none⟩,
  ⟨some 14, .assign (.tmp 69), 24, none⟩,
  ⟨some 15, .assign (.tmp 70), 25, none⟩]
def r87_15 : List O := [⟨some 71, .move (.tmp 15), 25, none⟩,
  ⟨some 72, .binOp .eql 25 (.tmp 71) (.const (.int .i64 0)) 25, 4, none⟩,
  ⟨some 73, .move (.tmp 72), 4, none⟩,
  ⟨some 74, .move (.tmp 14), 24, some (73, true)⟩,
  ⟨some 75, .call { callee := .builtin .len, args := #[.tmp 74], argTypes := #[24] }, 3, some (73, true)⟩,
  ⟨some 76, .binOp .eql 3 (.tmp 75) (.const (.int .i64 1)) 3, 4, some (73, true)⟩,
  ⟨some 77, .pick (.tmp 73) (.tmp 76) (.const (.bool false)), 4, none⟩,
  ⟨some 78, .move (.tmp 77), 4, none⟩,
  ⟨some 79, .move (.tmp 14), 24, some (78, true)⟩,
  ⟨some 80, .indexAddr 24 (.tmp 79) (.const (.int .i64 0)), 0, some (78, true)⟩,
  ⟨some 81, .load 9 (.tmp 80), 9, some (78, true)⟩,
  ⟨some 82, .binOp .eql 9 (.tmp 81) (.const (.string ⟨#[101, 110, 100]⟩)) 9, 4, some (78, true)⟩,
  ⟨some 83, .pick (.tmp 78) (.tmp 82) (.const (.bool false)), 4, none⟩]
def r87_16 : List O := [⟨some 84, .move (.tmp 0), 74, none⟩,
  ⟨some 85, .nilCheck (.tmp 84), 0, none⟩,
  ⟨some 86, .fieldAddr 77 (.tmp 85) 1, 0, none⟩,
  ⟨some 87, .load 75 (.tmp 86), 75, none⟩,
  ⟨some 88, .move (.tmp 2), 24, none⟩,
  ⟨some 89, .indexAddr 24 (.tmp 88) (.const (.int .i64 1)), 0, none⟩,
  ⟨some 90, .load 9 (.tmp 89), 9, none⟩,
  ⟨some 91, .move (.tmp 8), 22, none⟩,
  ⟨some 92, .fieldAddr 82 (.tmp 4) 0, 0, none⟩,
  ⟨some 93, .load 68 (.tmp 92), 68, none⟩,
  ⟨some 94, .move (.tmp 12), 3, none⟩,
  ⟨some 95, .binOp .add 3 (.tmp 94) (.const (.int .i64 1)) 3, 3, none⟩,
  ⟨some 96, .slice 68 (.tmp 93) (some (.const (.int .i64 1))) (some (.tmp 95)) none, 68, none⟩,
  ⟨some 97, .build 137 #[(0, .tmp 91), (1, .tmp 96)], 137, none⟩,
  ⟨none, .mapUpdate 75 (.tmp 87) (.tmp 90) (.tmp 97), 0, none⟩]
def r87_17 : List O := [⟨some 98, .move (.tmp 12), 3, none⟩,
  ⟨some 99, .binOp .add 3 (.tmp 98) (.const (.int .i64 1)) 3, 3, none⟩,
  ⟨some 100, .build 79 #[], 79, none⟩,
  ⟨some 6, .assign (.tmp 99), 3, none⟩,
  ⟨none, .store 79 (.tmp 7) (.tmp 100), 0, none⟩]
def r87_18 : List O := [⟨some 101, .binOp .add 3 (.tmp 60) (.const (.int .i64 1)) 3, 3, none⟩,
  ⟨some 60, .move (.tmp 101), 3, none⟩]
def r87_19 : List O := [⟨some 102, .load 82 (.tmp 4), 82, none⟩,
  ⟨some 103, .call { callee := .value (.func 91), args := #[.tmp 102, .const (.int .i64 3)], argTypes := #[82, 25] }, 79, none⟩,
  ⟨some 6, .assign (.const (.int .i64 0)), 3, none⟩,
  ⟨none, .store 79 (.tmp 7) (.tmp 103), 0, none⟩]
def c87_0 : A := .seq (.reg r87_2 [6, 7]) .ret
def c87_1 : A := .cond (.tmp 17) c87_0 .skip
def c87_2 : A := .seq (.reg r87_4 [6, 7]) .ret
def c87_3 : A := .cond (.tmp 29) c87_2 .skip
def c87_4 : A := .seq (.reg r87_7 [6, 7]) .ret
def c87_5 : A := .cond (.tmp 39) c87_4 .skip
def c87_6 : A := .seq (.reg r87_10 [6, 7]) .ret
def c87_7 : A := .cond (.tmp 53) c87_6 .skip
def c87_8 : A := .seq (.reg r87_9 [0, 2, 4, 7, 8, 53]) c87_7
def c87_9 : A := .seq (.reg r87_17 [6, 7]) .ret
def c87_10 : A := .seq (.draw 14 r87_16 [7, 12]) c87_9
def c87_11 : A := .cond (.tmp 83) c87_10 .skip
def c87_12 : A := .seq (.reg r87_15 [0, 2, 4, 7, 8, 12, 58, 59, 60, 83]) c87_11
def c87_13 : A := .seq (.reg r87_14 [0, 2, 4, 7, 8, 12, 14, 15, 58, 59, 60]) c87_12
def c87_14 : A := .seq (.reg r87_13 [0, 2, 4, 7, 8, 12, 13, 58, 59, 60]) c87_13
def c87_15 : A := .seq (.block 1 c87_14) (.reg r87_18 [0, 2, 4, 7, 8, 58, 59, 60])
def c87_16 : A := .seq (.cond (.tmp 61) .skip (.exit 0)) (.seq (.keep [0, 2, 4, 7, 8, 58, 59, 60]) c87_15)
def c87_17 : A := .seq (.reg r87_12 [0, 2, 4, 7, 8, 58, 59, 60, 61]) c87_16
def c87_18 : A := .seq c87_17 (.keep [0, 2, 4, 7, 8, 58, 59, 60])
def c87_19 : A := .loop c87_18
def c87_20 : A := .block 0 c87_19
def c87_21 : A := .seq (.reg r87_19 [6, 7]) .ret
def c87_22 : A := .seq (.seq (.reg r87_11 [0, 2, 4, 7, 8, 58, 59, 60]) c87_20) c87_21
def c87_23 : A := .seq (.seq (.drn r87_8 [0, 2, 4, 7, 8, 11]) c87_8) (.seq (.keep [0, 2, 4, 7, 8]) c87_22)
def c87_24 : A := .seq (.seq (.reg r87_6 [0, 2, 4, 7, 8, 39]) c87_5) (.seq (.keep [0, 2, 4, 7, 8]) c87_23)
def c87_25 : A := .seq (.reg r87_5 [0, 2, 4, 7, 8, 9]) c87_24
def c87_26 : A := .seq (.seq (.reg r87_3 [0, 2, 4, 7, 29]) c87_3) (.seq (.keep [0, 2, 4, 7]) c87_25)
def c87_27 : A := .seq (.seq (.reg r87_1 [0, 2, 4, 7, 17]) c87_1) (.seq (.keep [0, 2, 4, 7]) c87_26)
def c87 : A := .seq (.reg r87_0 [0, 2, 4, 7]) c87_27
theorem B87 : Body Tryd.prog 87 104 [.tmp 6, .cell 7 79] c87 := ⟨by kernel_rfl, _, _, [(0, [0, 2, 4, 7]), (1, [0, 2, 4, 7, 17]), (2, [6, 7]), (3, [0, 2, 4, 7, 29]), (4, [6, 7]), (5, [0, 2, 4, 7, 8, 9]), (6, [0, 2, 4, 7, 8, 39]), (7, [6, 7]), (8, [0, 2, 4, 7, 8, 11]), (9, [0, 2, 4, 7, 8, 53]), (10, [6, 7]), (11, [0, 2, 4, 7, 8, 58, 59, 60]), (12, [0, 2, 4, 7, 8, 58, 59, 60, 61]), (13, [0, 2, 4, 7, 8, 12, 13, 58, 59, 60]), (14, [0, 2, 4, 7, 8, 12, 14, 15, 58, 59, 60]), (15, [0, 2, 4, 7, 8, 12, 58, 59, 60, 83]), (16, [7, 12]), (17, [6, 7]), (18, [0, 2, 4, 7, 8, 58, 59, 60]), (19, [6, 7]), (1012, [0, 2, 4, 7, 8, 58, 59, 60]), (2003, [0, 2, 4, 7]), (2005, [0, 2, 4, 7]), (2008, [0, 2, 4, 7, 8]), (2011, [0, 2, 4, 7, 8]), (2013, [0, 2, 4, 7, 8, 58, 59, 60]), (5008, [2, 6, 10, 13, 18, 22, 25, 29, 34, 38, 42, 47, 48, 54])], Tryd.func87, rfl, rfl, rfl, by kernel_rfl⟩
/-! ### 88 (*dasd/jobtext.reader).end -/
def r88_0 : List O := [⟨some 4, .box 82 (.tmp 1), 0, none⟩,
  ⟨some 6, .assign (.const (.int .i64 0)), 3, none⟩,
  ⟨some 7, .alloc 79, 0, none⟩]
def r88_1 : List O := [⟨some 8, .load 82 (.tmp 4), 82, none⟩,
  ⟨some 9, .call { callee := .value (.func 91), args := #[.tmp 8, .const (.int .i64 9)], argTypes := #[82, 25] }, 79, none⟩,
  ⟨some 6, .assign (.const (.int .i64 0)), 3, none⟩,
  ⟨none, .store 79 (.tmp 7) (.tmp 9), 0, none⟩]
def c88_0 : A := .seq (.reg r88_1 [6, 7]) .ret
def c88 : A := .seq (.reg r88_0 [4, 7]) c88_0
theorem B88 : Body Tryd.prog 88 10 [.tmp 6, .cell 7 79] c88 := ⟨by kernel_rfl, _, _, [(0, [4, 7]), (1, [6, 7])], Tryd.func88, rfl, rfl, rfl, by kernel_rfl⟩
/-! ### 89 (*dasd/jobtext.reader).call -/
def r89_0 : List O := [⟨some 4, .box 82 (.tmp 1), 0, none⟩,
  ⟨some 6, .assign (.const (.int .i64 0)), 3, none⟩,
  ⟨some 7, .alloc 79, 0, none⟩]
def r89_1 : List O := [⟨some 18, .fieldAddr 82 (.tmp 4) 2, 0, none⟩,
  ⟨some 19, .load 4 (.tmp 18), 4, none⟩]
def r89_2 : List O := [⟨some 20, .load 82 (.tmp 4), 82, none⟩,
  ⟨some 21, .call { callee := .value (.func 91), args := #[.tmp 20, .const (.int .i64 9)], argTypes := #[82, 25] }, 79, none⟩,
  ⟨some 6, .assign (.const (.int .i64 0)), 3, none⟩,
  ⟨none, .store 79 (.tmp 7) (.tmp 21), 0, none⟩]
def r89_3 : List O := [⟨some 22, .move (.tmp 2), 24, none⟩,
  ⟨some 23, .call { callee := .builtin .len, args := #[.tmp 22], argTypes := #[24] }, 3, none⟩,
  ⟨some 24, .binOp .lss 3 (.tmp 23) (.const (.int .i64 3)) 3, 4, none⟩,
  ⟨some 25, .move (.tmp 24), 4, none⟩,
  ⟨some 26, .move (.tmp 2), 24, some (25, false)⟩,
  ⟨some 27, .indexAddr 24 (.tmp 26) (.const (.int .i64 1)), 0, some (25, false)⟩,
  ⟨some 28, .load 9 (.tmp 27), 9, some (25, false)⟩,
  ⟨some 29, .call { callee := .value (.func 30), args := #[.tmp 28], argTypes := #[9] }, 4, some (25, false)⟩,
  ⟨some 30, .unOp .not 4 (.tmp 29), 4, some (25, false)⟩,
  ⟨some 31, .pick (.tmp 25) (.const (.bool true)) (.tmp 30), 4, none⟩,
  ⟨some 32, .move (.tmp 31), 4, none⟩,
  ⟨some 33, .move (.tmp 2), 24, some (32, false)⟩,
  ⟨some 34, .indexAddr 24 (.tmp 33) (.const (.int .i64 2)), 0, some (32, false)⟩,
  ⟨some 35, .load 9 (.tmp 34), 9, some (32, false)⟩,
  ⟨some 36, .call { callee := .value (.func 30), args := #[.tmp 35], argTypes := #[9] }, 4, some (32, false)⟩,
  ⟨some 37, .unOp .not 4 (.tmp 36), 4, some (32, false)⟩,
  ⟨some 38, .pick (.tmp 32) (.const (.bool true)) (.tmp 37), 4, none⟩]
def r89_4 : List O := [⟨some 39, .load 82 (.tmp 4), 82, none⟩,
  ⟨some 40, .call { callee := .value (.func 91), args := #[.tmp 39, .const (.int .i64 3)], argTypes := #[82, 25] }, 79, none⟩,
  ⟨some 6, .assign (.const (.int .i64 0)), 3, none⟩,
  ⟨none, .store 79 (.tmp 7) (.tmp 40), 0, none⟩]
def r89_5 : List O := [⟨some 42, .move (.tmp 2), 24, none⟩,
  ⟨some 43, .slice 24 (.tmp 42) (some (.const (.int .i64 3))) none none, 24, none⟩,
  ⟨some 44, .call { callee := .value (.func 98), args := #[.tmp 43], argTypes := #[24] }, 134, none⟩,
  ⟨some 41, .move (.tmp 44), 134, none⟩,
  ⟨some 45, .extract (.tmp 41) 0, 22, none⟩,
  ⟨some 46, .extract (.tmp 41) 1, 4, none⟩,
  ⟨some 8, .assign (.tmp 45), 22, none⟩,
  ⟨some 9, .assign (.tmp 46), 4, none⟩]
def r89_6 : List O := [⟨some 47, .move (.tmp 9), 4, none⟩,
  ⟨some 48, .unOp .not 4 (.tmp 47), 4, none⟩]
def r89_7 : List O := [⟨some 49, .load 82 (.tmp 4), 82, none⟩,
  ⟨some 50, .call { callee := .value (.func 91), args := #[.tmp 49, .const (.int .i64 3)], argTypes := #[82, 25] }, 79, none⟩,
  ⟨some 6, .assign (.const (.int .i64 0)), 3, none⟩,
  ⟨none, .store 79 (.tmp 7) (.tmp 50), 0, none⟩]
def r89_8 : List (Nat × O) := [(2, ⟨some 52, .move (.tmp 0), 74, none⟩),
  (2, ⟨some 53, .nilCheck (.tmp 52), 0, none⟩),
  (2, ⟨some 54, .fieldAddr 77 (.tmp 53) 1, 0, none⟩),
  (1, ⟨some 55, .load 75 (.tmp 54), 75, none⟩),
  (2, ⟨some 56, .move (.tmp 2), 24, none⟩),
  (2, ⟨some 57, .indexAddr 24 (.tmp 56) (.const (.int .i64 2)), 0, none⟩),
  (1, ⟨some 58, .load 9 (.tmp 57), 9, none⟩),
  (1, ⟨some 59, .lookup 75 (.tmp 55) (.tmp 58) true, 138, none⟩),
  (2, ⟨some 51, .move (.tmp 59), 138, none⟩),
  (2, ⟨some 60, .extract (.tmp 51) 0, 137, none⟩),
  (2, ⟨some 61, .extract (.tmp 51) 1, 4, none⟩),
  (3, ⟨some 10, .alloc 137, 0, none⟩),
  (0, ⟨none, .store 137 (.tmp 10) (.tmp 60), 0, none⟩),
  (2, ⟨some 9, .assign (.tmp 61), 4, none⟩)]
def r89_9 : List O := [⟨some 62, .move (.tmp 9), 4, none⟩,
  ⟨some 63, .unOp .not 4 (.tmp 62), 4, none⟩]
def r89_10 : List O := [⟨some 64, .load 82 (.tmp 4), 82, none⟩,
  ⟨some 65, .call { callee := .value (.func 91), args := #[.tmp 64, .const (.int .i64 4)], argTypes := #[82, 25] }, 79, none⟩,
  ⟨some 6, .assign (.const (.int .i64 0)), 3, none⟩,
  ⟨none, .store 79 (.tmp 7) (.tmp 65), 0, none⟩]
def r89_11 : List O := [⟨some 66, .move (.tmp 0), 74, none⟩,
  ⟨some 67, .nilCheck (.tmp 66), 0, none⟩,
  ⟨some 68, .fieldAddr 77 (.tmp 67) 0, 0, none⟩,
  ⟨some 69, .load 22 (.tmp 68), 22, none⟩,
  ⟨some 11, .assign (.tmp 69), 22, none⟩]
def r89_12 : List O := [⟨some 70, .move (.tmp 11), 22, none⟩,
  ⟨some 71, .call { callee := .value (.func 99), args := #[.tmp 70], argTypes := #[22] }, 22, none⟩,
  ⟨some 12, .assign (.tmp 71), 22, none⟩]
def r89_13 : List O := [⟨some 72, .move (.tmp 12), 22, none⟩,
  ⟨some 73, .fieldAddr 137 (.tmp 10) 0, 0, none⟩,
  ⟨some 74, .load 22 (.tmp 73), 22, none⟩,
  ⟨some 75, .call { callee := .value (.func 100), args := #[.tmp 72, .tmp 74], argTypes := #[22, 22] }, 0, none⟩]
def r89_14 : List O := [⟨some 76, .move (.tmp 8), 22, none⟩,
  ⟨some 77, .range 22 (.tmp 76), 0, none⟩]
def r89_15 : List O := [⟨some 78, .next (.tmp 77) false, 0, none⟩,
  ⟨some 79, .extract (.tmp 78) 0, 4, none⟩]
def r89_16 : List O := [⟨some 80, .entry (.tmp 77), 0, none⟩,
  ⟨some 81, .extract (.tmp 80) 0, 9, none⟩,
  ⟨some 82, .extract (.tmp 80) 1, 9, none⟩,
  ⟨some 13, .assign (.tmp 81), 9, none⟩,
  ⟨some 14, .assign (.tmp 82), 9, none⟩]
def r89_17 : List O := [⟨some 84, .fieldAddr 137 (.tmp 10) 0, 0, none⟩,
  ⟨some 85, .load 22 (.tmp 84), 22, none⟩,
  ⟨some 86, .move (.tmp 13), 9, none⟩,
  ⟨some 87, .lookup 22 (.tmp 85) (.tmp 86) true, 63, none⟩,
  ⟨some 83, .move (.tmp 87), 63, none⟩,
  ⟨some 88, .extract (.tmp 83) 0, 9, none⟩,
  ⟨some 89, .extract (.tmp 83) 1, 4, none⟩,
  ⟨some 15, .assign (.tmp 88), 9, none⟩,
  ⟨some 16, .assign (.tmp 89), 4, none⟩]
def r89_18 : List O := [⟨some 90, .move (.tmp 16), 4, none⟩,
  ⟨some 91, .unOp .not 4 (.tmp 90), 4, none⟩]
def r89_19 : List O := [⟨some 92, .load 82 (.tmp 4), 82, none⟩,
  ⟨some 93, .call { callee := .value (.func 91), args := #[.tmp 92, .const (.int .i64 4)], argTypes := #[82, 25] }, 79, none⟩,
  ⟨some 6, .assign (.const (.int .i64 0)), 3, none⟩,
  ⟨none, .store 79 (.tmp 7) (.tmp 93), 0, none⟩]
def r89_20 : List O := [⟨some 94, .move (.tmp 12), 22, none⟩,
  ⟨some 95, .move (.tmp 13), 9, none⟩,
  ⟨some 96, .move (.tmp 14), 9, none⟩,
  ⟨none, .mapUpdate 22 (.tmp 94) (.tmp 95) (.tmp 96), 0, none⟩]
def r89_21 : List O := [⟨some 97, .move (.tmp 0), 74, none⟩,
  ⟨some 98, .move (.tmp 12), 22, none⟩,
  ⟨some 99, .nilCheck (.tmp 97), 0, none⟩,
  ⟨some 100, .fieldAddr 77 (.tmp 99) 0, 0, none⟩,
  ⟨none, .store 22 (.tmp 100) (.tmp 98), 0, none⟩]
def r89_22 : List (Nat × O) := [(2, ⟨some 101, .move (.tmp 0), 74, none⟩),
  (2, ⟨some 102, .fieldAddr 137 (.tmp 10) 1, 0, none⟩),
  (1, ⟨some 103, .load 68 (.tmp 102), 68, none⟩),
  (2, ⟨some 104, .move (.tmp 2), 24, none⟩),
  (2, ⟨some 105, .indexAddr 24 (.tmp 104) (.const (.int .i64 1)), 0, none⟩),
  (1, ⟨some 106, .load 9 (.tmp 105), 9, none⟩),
  (2, ⟨some 107, .build 82 #[(0, .tmp 103), (1, .tmp 106), (2, .const (.bool true))], 82, none⟩)]
def r89_22a : List (Nat × O) := [(0, ⟨some 108, .call { callee := .value (.func 39), args := #[.tmp 101, .tmp 107], argTypes := #[74, 82] }, 79, none⟩),
  (3, ⟨some 17, .alloc 79, 0, none⟩),
  (0, ⟨none, .store 79 (.tmp 17) (.tmp 108), 0, none⟩)]
def r89_22b : List (Nat × O) := [(3, ⟨some 17, .alloc 79, 0, none⟩),
  (0, ⟨some 108, .call { callee := .value (.func 39), args := #[.tmp 101, .tmp 107], argTypes := #[74, 82] }, 79, none⟩),
  (0, ⟨none, .store 79 (.tmp 17) (.tmp 108), 0, none⟩)]
def r89_23 : List O := [⟨some 109, .move (.tmp 0), 74, none⟩,
  ⟨some 110, .move (.tmp 11), 22, none⟩,
  ⟨some 111, .nilCheck (.tmp 109), 0, none⟩,
  ⟨some 112, .fieldAddr 77 (.tmp 111) 0, 0, none⟩,
  ⟨none, .store 22 (.tmp 112) (.tmp 110), 0, none⟩]
def r89_24 : List O := [⟨some 113, .load 79 (.tmp 17), 79, none⟩,
  ⟨some 6, .assign (.const (.int .i64 0)), 3, none⟩,
  ⟨none, .store 79 (.tmp 7) (.tmp 113), 0, none⟩]
def c89_0 : A := .seq (.reg r89_2 [6, 7]) .ret
def c89_1 : A := .cond (.tmp 19) c89_0 .skip
def c89_2 : A := .seq (.reg r89_4 [6, 7]) .ret
def c89_3 : A := .cond (.tmp 38) c89_2 .skip
def c89_4 : A := .seq (.reg r89_7 [6, 7]) .ret
def c89_5 : A := .cond (.tmp 48) c89_4 .skip
def c89_6 : A := .seq (.reg r89_10 [6, 7]) .ret
def c89_7 : A := .cond (.tmp 63) c89_6 .skip
def c89_8 : A := .seq (.reg r89_19 [6, 7]) .ret
def c89_9 : A := .cond (.tmp 91) c89_8 .skip
def c89_10 : A := .seq (.reg r89_18 [0, 2, 4, 7, 10, 11, 12, 13, 14, 77, 91]) c89_9
def c89_11 : A := .seq (.seq (.reg r89_17 [0, 2, 4, 7, 10, 11, 12, 13, 14, 16, 77]) c89_10) (.seq (.keep [0, 2, 4, 7, 10, 11, 12, 13, 14, 77]) (.reg r89_20 [0, 2, 4, 7, 10, 11, 12, 77]))
def c89_12 : A := .seq (.reg r89_16 [0, 2, 4, 7, 10, 11, 12, 13, 14, 77]) c89_11
def c89_13 : A := .block 1 c89_12
def c89_14 : A := .seq (.cond (.tmp 79) .skip (.exit 0)) (.seq (.keep [0, 2, 4, 7, 10, 11, 12, 77]) c89_13)
def c89_15 : A := .seq (.reg r89_15 [0, 2, 4, 7, 10, 11, 12, 77, 79]) c89_14
def c89_16 : A := .seq c89_15 (.keep [0, 2, 4, 7, 10, 11, 12, 77])
def c89_17 : A := .loop c89_16
def c89_18 : A := .block 0 c89_17
def c89_19 : A := .seq (.draw 2 r89_24 [6, 7]) .ret
def c89_20 : A := .seq (.reg r89_23 [7, 17]) c89_19
def c89_21 : A := .seq (.drf r89_22 [0, 7, 11, 17, 101, 107, 108] r89_22a r89_22b [0, 7, 11, 17]) c89_20
def c89_22 : A := .seq (.reg r89_21 [0, 2, 7, 10, 11]) c89_21
def c89_23 : A := .seq (.seq (.reg r89_14 [0, 2, 4, 7, 10, 11, 12, 77]) c89_18) c89_22
def c89_24 : A := .seq (.reg r89_13 [0, 2, 4, 7, 8, 10, 11, 12]) c89_23
def c89_25 : A := .seq (.reg r89_12 [0, 2, 4, 7, 8, 10, 11, 12]) c89_24
def c89_26 : A := .seq (.reg r89_11 [0, 2, 4, 7, 8, 10, 11]) c89_25
def c89_27 : A := .seq (.seq (.reg r89_9 [0, 2, 4, 7, 8, 10, 63]) c89_7) (.seq (.keep [0, 2, 4, 7, 8, 10]) c89_26)
def c89_28 : A := .seq (.drn r89_8 [0, 2, 4, 7, 8, 9, 10]) c89_27
def c89_29 : A := .seq (.seq (.reg r89_6 [0, 2, 4, 7, 8, 48]) c89_5) (.seq (.keep [0, 2, 4, 7, 8]) c89_28)
def c89_30 : A := .seq (.reg r89_5 [0, 2, 4, 7, 8, 9]) c89_29
def c89_31 : A := .seq (.seq (.reg r89_3 [0, 2, 4, 7, 38]) c89_3) (.seq (.keep [0, 2, 4, 7]) c89_30)
def c89_32 : A := .seq (.seq (.reg r89_1 [0, 2, 4, 7, 19]) c89_1) (.seq (.keep [0, 2, 4, 7]) c89_31)
def c89 : A := .seq (.reg r89_0 [0, 2, 4, 7]) c89_32
theorem B89 : Body Tryd.prog 89 114 [.tmp 6, .cell 7 79] c89 := ⟨by kernel_rfl, _, _, [(0, [0, 2, 4, 7]), (1, [0, 2, 4, 7, 19]), (2, [6, 7]), (3, [0, 2, 4, 7, 38]), (4, [6, 7]), (5, [0, 2, 4, 7, 8, 9]), (6, [0, 2, 4, 7, 8, 48]), (7, [6, 7]), (8, [0, 2, 4, 7, 8, 9, 10]), (9, [0, 2, 4, 7, 8, 10, 63]), (10, [6, 7]), (11, [0, 2, 4, 7, 8, 10, 11]), (12, [0, 2, 4, 7, 8, 10, 11, 12]), (13, [0, 2, 4, 7, 8, 10, 11, 12]), (14, [0, 2, 4, 7, 10, 11, 12, 77]), (15, [0, 2, 4, 7, 10, 11, 12, 77, 79]), (16, [0, 2, 4, 7, 10, 11, 12, 13, 14, 77]), (17, [0, 2, 4, 7, 10, 11, 12, 13, 14, 16, 77]), (18, [0, 2, 4, 7, 10, 11, 12, 13, 14, 77, 91]), (19, [6, 7]), (20, [0, 2, 4, 7, 10, 11, 12, 77]), (21, [0, 2, 7, 10, 11]), (22, [0, 7, 11, 17]), (23, [7, 17]), (24, [6, 7]), (1015, [0, 2, 4, 7, 10, 11, 12, 77]), (2003, [0, 2, 4, 7]), (2005, [0, 2, 4, 7]), (2008, [0, 2, 4, 7, 8]), (2011, [0, 2, 4, 7, 8, 10]), (2016, [0, 2, 4, 7, 10, 11, 12, 77]), (2020, [0, 2, 4, 7, 10, 11, 12, 13, 14, 77]), (5008, [2, 6, 10, 13, 18, 22, 25, 29, 34, 38, 42, 47, 48, 54]), (6022, [2, 6, 9, 14, 18, 21, 26]), (7022, [28, 35, 36]), (8022, [35, 28, 36]), (9022, [0, 7, 11, 17, 101, 107, 108])], Tryd.func89, rfl, rfl, rfl, by kernel_rfl⟩
/-! ### 98 dasd/jobtext.values -/
def r98_0 : List O := [⟨some 2, .assign (.const (.map none)), 22, none⟩,
  ⟨some 3, .assign (.const (.bool false)), 4, none⟩]
def r98_1 : List O := [⟨some 12, .makeMap 22 none, 22, none⟩,
  ⟨some 4, .assign (.tmp 12), 22, none⟩]
def r98_2 : List O := [⟨some 13, .move (.tmp 0), 24, none⟩,
  ⟨some 14, .call { callee := .builtin .len, args := #[.tmp 13], argTypes := #[24] }, 3, none⟩,
  ⟨some 15, .move (.const (.int .i64 0)), 3, none⟩]
def r98_3 : List O := [⟨some 16, .binOp .lss 3 (.tmp 15) (.tmp 14) 3, 0, none⟩]
def r98_4 : List O := [⟨some 17, .indexAddr 24 (.tmp 13) (.tmp 15), 0, none⟩,
  ⟨some 18, .load 9 (.tmp 17), 9, none⟩,
  ⟨some 6, .assign (.tmp 18), 9, none⟩]
def r98_5 : List O := [⟨some 20, .move (.tmp 6), 9, none⟩,
  ⟨some 21, .call { callee := .value (.func 29), args := #[.tmp 20, .const (.string ⟨#[61]⟩)], argTypes := #[9, 9] }, 49, none⟩,
  ⟨some 19, .move (.tmp 21), 49, none⟩,
  ⟨some 22, .extract (.tmp 19) 0, 9, none⟩,
  ⟨some 23, .extract (.tmp 19) 1, 9, none⟩,
  ⟨some 24, .extract (.tmp 19) 2, 4, none⟩,
  ⟨some 7, .assign (.tmp 22), 9, none⟩,
  ⟨some 8, .assign (.tmp 23), 9, none⟩,
  ⟨some 9, .assign (.tmp 24), 4, none⟩]
def r98_6 : List O := [⟨some 26, .move (.tmp 4), 22, none⟩,
  ⟨some 27, .move (.tmp 7), 9, none⟩,
  ⟨some 28, .lookup 22 (.tmp 26) (.tmp 27) true, 63, none⟩,
  ⟨some 25, .move (.tmp 28), 63, none⟩,
  ⟨some 29, .extract (.tmp 25) 0, 9, none⟩,
  ⟨some 30, .extract (.tmp 25) 1, 4, none⟩,
  ⟨some 10, .assign (.tmp 29), 9, none⟩,
  ⟨some 11, .assign (.tmp 30), 4, none⟩]
def r98_7 : List O := [⟨some 31, .move (.tmp 9), 4, none⟩,
  ⟨some 32, .unOp .not 4 (.tmp 31), 4, none⟩,
  ⟨some 33, .move (.tmp 32), 4, none⟩,
  ⟨some 34, .move (.tmp 11), 4, some (33, false)⟩,
  ⟨some 35, .pick (.tmp 33) (.const (.bool true)) (.tmp 34), 4, none⟩,
  ⟨some 36, .move (.tmp 35), 4, none⟩,
  ⟨some 37, .move (.tmp 7), 9, some (36, false)⟩,
  ⟨some 38, .call { callee := .value (.func 30), args := #[.tmp 37], argTypes := #[9] }, 4, some (36, false)⟩,
  ⟨some 39, .unOp .not 4 (.tmp 38), 4, some (36, false)⟩,
  ⟨some 40, .pick (.tmp 36) (.const (.bool true)) (.tmp 39), 4, none⟩]
def r98_8 : List O := [⟨some 2, .assign (.const (.map none)), 22, none⟩,
  ⟨some 3, .assign (.const (.bool false)), 4, none⟩]
def r98_9 : List O := [⟨some 41, .move (.tmp 4), 22, none⟩,
  ⟨some 42, .move (.tmp 7), 9, none⟩,
  ⟨some 43, .move (.tmp 8), 9, none⟩,
  ⟨none, .mapUpdate 22 (.tmp 41) (.tmp 42) (.tmp 43), 0, none⟩]
def r98_10 : List O := [⟨some 44, .binOp .add 3 (.tmp 15) (.const (.int .i64 1)) 3, 3, none⟩,
  ⟨some 15, .move (.tmp 44), 3, none⟩]
def r98_11 : List O := [⟨some 45, .move (.tmp 4), 22, none⟩,
  ⟨some 2, .assign (.tmp 45), 22, none⟩,
  ⟨some 3, .assign (.const (.bool true)), 4, none⟩]
def c98_0 : A := .seq (.reg r98_8 [2, 3]) .ret
def c98_1 : A := .cond (.tmp 40) c98_0 .skip
def c98_2 : A := .seq (.reg r98_7 [4, 7, 8, 13, 14, 15, 40]) c98_1
def c98_3 : A := .seq (.seq (.reg r98_6 [4, 7, 8, 9, 11, 13, 14, 15]) c98_2) (.seq (.keep [4, 7, 8, 13, 14, 15]) (.reg r98_9 [4, 13, 14, 15]))
def c98_4 : A := .seq (.reg r98_5 [4, 7, 8, 9, 13, 14, 15]) c98_3
def c98_5 : A := .seq (.reg r98_4 [4, 6, 13, 14, 15]) c98_4
def c98_6 : A := .seq (.block 1 c98_5) (.reg r98_10 [4, 13, 14, 15])
def c98_7 : A := .seq (.cond (.tmp 16) .skip (.exit 0)) (.seq (.keep [4, 13, 14, 15]) c98_6)
def c98_8 : A := .seq (.reg r98_3 [4, 13, 14, 15, 16]) c98_7
def c98_9 : A := .seq c98_8 (.keep [4, 13, 14, 15])
def c98_10 : A := .loop c98_9
def c98_11 : A := .block 0 c98_10
def c98_12 : A := .seq (.reg r98_11 [2, 3]) .ret
def c98_13 : A := .seq (.seq (.reg r98_2 [4, 13, 14, 15]) c98_11) c98_12
def c98_14 : A := .seq (.reg r98_1 [0, 4]) c98_13
def c98 : A := .seq (.reg r98_0 [0]) c98_14
theorem B98 : Body Tryd.prog 98 46 [.tmp 2, .tmp 3] c98 := ⟨by kernel_rfl, _, _, [(0, [0]), (1, [0, 4]), (2, [4, 13, 14, 15]), (3, [4, 13, 14, 15, 16]), (4, [4, 6, 13, 14, 15]), (5, [4, 7, 8, 9, 13, 14, 15]), (6, [4, 7, 8, 9, 11, 13, 14, 15]), (7, [4, 7, 8, 13, 14, 15, 40]), (8, [2, 3]), (9, [4, 13, 14, 15]), (10, [4, 13, 14, 15]), (11, [2, 3]), (1003, [4, 13, 14, 15]), (2004, [4, 13, 14, 15]), (2009, [4, 7, 8, 13, 14, 15])], Tryd.func98, rfl, rfl, rfl, by kernel_rfl⟩
/-! ### 99 maps.Clone[map[string]string,string,string] -/
def r99_0 : List O := [⟨some 2, .assign (.const (.map none)), 22, none⟩]
def r99_1 : List O := [⟨some 3, .move (.tmp 0), 22, none⟩,
  ⟨some 4, .binOp .eql 22 (.tmp 3) (.const (.map none)) 22, 4, none⟩]
def r99_2 : List O := [⟨some 2, .assign (.const (.map none)), 22, none⟩]
def r99_3 : List O := [⟨some 5, .move (.tmp 0), 22, none⟩,
  ⟨some 6, .makeInterface 22 (.tmp 5), 20, none⟩,
  ⟨some 7, .call { callee := .value (.func 104), args := #[.tmp 6], argTypes := #[20] }, 20, none⟩,
  ⟨some 8, .typeAssert (.tmp 7) 20 22 false, 22, none⟩,
  ⟨some 2, .assign (.tmp 8), 22, none⟩]
def c99_0 : A := .seq (.reg r99_2 [2]) .ret
def c99_1 : A := .cond (.tmp 4) c99_0 .skip
def c99_2 : A := .seq (.reg r99_3 [2]) .ret
def c99_3 : A := .seq (.seq (.reg r99_1 [0, 4]) c99_1) (.seq (.keep [0]) c99_2)
def c99 : A := .seq (.reg r99_0 [0]) c99_3
theorem B99 : Body Tryd.prog 99 9 [.tmp 2] c99 := ⟨by kernel_rfl, _, _, [(0, [0]), (1, [0, 4]), (2, [2]), (3, [2]), (2003, [0])], Tryd.func99, rfl, rfl, rfl, by kernel_rfl⟩
/-! ### 100 maps.Copy[map[string]string,map[string]string,string,string] -/
def r100_0 : List O := [⟨some 6, .move (.tmp 1), 22, none⟩,
  ⟨some 7, .range 22 (.tmp 6), 0, none⟩]
def r100_1 : List O := [⟨some 8, .next (.tmp 7) false, 0, none⟩,
  ⟨some 9, .extract (.tmp 8) 0, 4, none⟩]
def r100_2 : List O := [⟨some 10, .entry (.tmp 7), 0, none⟩,
  ⟨some 11, .extract (.tmp 10) 0, 9, none⟩,
  ⟨some 12, .extract (.tmp 10) 1, 9, none⟩,
  ⟨some 4, .assign (.tmp 11), 9, none⟩,
  ⟨some 5, .assign (.tmp 12), 9, none⟩]
def r100_3 : List O := [⟨some 13, .move (.tmp 0), 22, none⟩,
  ⟨some 14, .move (.tmp 4), 9, none⟩,
  ⟨some 15, .move (.tmp 5), 9, none⟩,
  ⟨none, .mapUpdate 22 (.tmp 13) (.tmp 14) (.tmp 15), 0, none⟩]
def c100_0 : A := .seq (.reg r100_2 [0, 4, 5, 7]) (.reg r100_3 [0, 7])
def c100_1 : A := .block 1 c100_0
def c100_2 : A := .seq (.cond (.tmp 9) .skip (.exit 0)) (.seq (.keep [0, 7]) c100_1)
def c100_3 : A := .seq (.reg r100_1 [0, 7, 9]) c100_2
def c100_4 : A := .seq c100_3 (.keep [0, 7])
def c100_5 : A := .loop c100_4
def c100_6 : A := .block 0 c100_5
def c100 : A := .seq (.reg r100_0 [0, 7]) c100_6
theorem B100 : Body Tryd.prog 100 16 [] c100 := ⟨by kernel_rfl, _, _, [(0, [0, 7]), (1, [0, 7, 9]), (2, [0, 4, 5, 7]), (3, [0, 7]), (1001, [0, 7]), (2002, [0, 7])], Tryd.func100, rfl, rfl, rfl, by kernel_rfl⟩
end Go.Proofs.YtoabcmhiaknjiaaDoor

/- Contracts of jobtext: values; copies of maps. -/
set_option maxRecDepth 100000
set_option linter.unusedSimpArgs false
set_option linter.unusedVariables false
namespace Go.Proofs.YtoabcmhiaknjiaaDoor
open Go.Hw

theorem symV_putS (k b : List UInt8) : ∀ l : Sym, symV (putS k b l) = putM k (.string (B b)) (symV l)
  | [] => rfl
  | p :: r => by
    unfold putS
    show _ = (if k = p.1 then (k, Value.string (B b)) :: symV r else (p.1, Value.string (B p.2)) :: putM k (.string (B b)) (symV r))
    split
    · rfl
    · show (p.1, Value.string (B p.2)) :: symV (putS k b r) = _
      rw [symV_putS k b r]
theorem clone_c {m : Nat} {l : List (List UInt8 × Value)} {H : Hp} {K : Ending → Hp → Prop} (hm : MapC H m l) (h : ∀ G r, H.size ≤ r → Ext H G → MapC G r l → K (.returned (.map (some r))) G) : HCall Tryd.prog 99 #[.map (some m)] H K := by
  refine hcall mixed B99 (args := [.map (some m)]) (by simp) ?_
  obtain ⟨es, clk, h1, h2⟩ := hm
  simp only [go_sem, reduceCtorEq, Nat.reduceEqDiff, Nat.reduceAdd, withc_some, withcs_some, cells_0, cells_s, Option.bind_some, Option.map_some, List.getElem?_toArray, List.getElem?_cons_zero, List.getElem?_cons_succ, Nat.add_zero, Nat.zero_add, Value.cells, splice, List.setIfInBounds_toArray, List.set_cons_zero, List.set_cons_succ, bfill_nil, bfill_cons, bstep_some, withO_some, List.take_zero, List.take_succ_cons, List.drop_zero, List.drop_succ_cons, List.cons_append, List.nil_append, List.append_nil, List.length_cons, List.length_nil, Nat.reduceLeDiff, Nat.le_refl, and_true, true_and, and_self, decide_true, decide_false, Bool.not_true, Bool.not_false, c99, r99_0, c99_3, r99_1]
  rw [binA_mapnil uMS]
  simp only [go_sem, reduceCtorEq, Nat.reduceEqDiff, Nat.reduceAdd, withc_some, withcs_some, cells_0, cells_s, Option.bind_some, Option.map_some, List.getElem?_toArray, List.getElem?_cons_zero, List.getElem?_cons_succ, Nat.add_zero, Nat.zero_add, Value.cells, splice, List.setIfInBounds_toArray, List.set_cons_zero, List.set_cons_succ, bfill_nil, bfill_cons, bstep_some, withO_some, List.take_zero, List.take_succ_cons, List.drop_zero, List.drop_succ_cons, List.cons_append, List.nil_append, List.append_nil, List.length_cons, List.length_nil, Nat.reduceLeDiff, Nat.le_refl, and_true, true_and, and_self, decide_true, decide_false, Bool.not_true, Bool.not_false, Option.isNone_some, c99_1, c99_2, r99_3, opA_mki]
  rw [mkiA_map uMS]
  simp only [go_sem, reduceCtorEq, Nat.reduceEqDiff, Nat.reduceAdd, withc_some, withcs_some, cells_0, cells_s, Option.bind_some, Option.map_some, List.getElem?_toArray, List.getElem?_cons_zero, List.getElem?_cons_succ, Nat.add_zero, Nat.zero_add, Value.cells, splice, List.setIfInBounds_toArray, List.set_cons_zero, List.set_cons_succ, bfill_nil, bfill_cons, bstep_some, withO_some, List.take_zero, List.take_succ_cons, List.drop_zero, List.drop_succ_cons, List.cons_append, List.nil_append, List.append_nil, List.length_cons, List.length_nil, Nat.reduceLeDiff, Nat.le_refl, and_true, true_and, and_self, decide_true, decide_false, Bool.not_true, Bool.not_false]
  rw [callA_ext Tryd.func104 (by kernel_rfl) (by kernel_rfl) (by kernel_rfl) (e := Extern.MapsClone.clone) (by kernel_rfl)]
  rw [clone_ok h1]
  simp only [go_sem, reduceCtorEq, Nat.reduceEqDiff, Nat.reduceAdd, withc_some, withcs_some, cells_0, cells_s, Option.bind_some, Option.map_some, List.getElem?_toArray, List.getElem?_cons_zero, List.getElem?_cons_succ, Nat.add_zero, Nat.zero_add, Value.cells, splice, List.setIfInBounds_toArray, List.set_cons_zero, List.set_cons_succ, bfill_nil, bfill_cons, bstep_some, withO_some, List.take_zero, List.take_succ_cons, List.drop_zero, List.drop_succ_cons, List.cons_append, List.nil_append, List.append_nil, List.length_cons, List.length_nil, Nat.reduceLeDiff, Nat.le_refl, and_true, true_and, and_self, decide_true, decide_false, Bool.not_true, Bool.not_false, opA_tas]
  rw [tasA_map uMS]
  simp only [go_sem, reduceCtorEq, Nat.reduceEqDiff, Nat.reduceAdd, withc_some, withcs_some, cells_0, cells_s, Option.bind_some, Option.map_some, List.getElem?_toArray, List.getElem?_cons_zero, List.getElem?_cons_succ, Nat.add_zero, Nat.zero_add, Value.cells, splice, List.setIfInBounds_toArray, List.set_cons_zero, List.set_cons_succ, bfill_nil, bfill_cons, bstep_some, withO_some, List.take_zero, List.take_succ_cons, List.drop_zero, List.drop_succ_cons, List.cons_append, List.nil_append, List.append_nil, List.length_cons, List.length_nil, Nat.reduceLeDiff, Nat.le_refl, and_true, true_and, and_self, decide_true, decide_false, Bool.not_true, Bool.not_false]
  exact h _ H.size (Nat.le_refl _) (Ext.push _ _) ⟨es, clk, by simp, h2⟩

set_option maxHeartbeats 1000000 in
theorem values_c {wv : Value} {ws : List (List UInt8)} {H : Hp} {K : Ending → Hp → Prop} (g : G0 H) (hw : SlV H wv ws) (hl : ∀ w ∈ ws, w.length ≤ 1000) (hn : ws.length ≤ 1000000)
    (h0 : valuesF ws [] = none → ∀ G, Ext H G → K (.returned (.tuple #[.map none, .bool false])) G)
    (h1 : ∀ v, valuesF ws [] = some v → ∀ G r, H.size ≤ r → Ext H G → MapC G r (symV v) → K (.returned (.tuple #[.map (some r), .bool true])) G) :
    HCall Tryd.prog 98 #[wv] H K := by
  refine hcall mixed B98 (args := [wv]) (by simp) ?_
  obtain ⟨wa, wc, rfl⟩ := hw.form
  simp only [go_sem, reduceCtorEq, Nat.reduceEqDiff, Nat.reduceAdd, withc_some, withcs_some, cells_0, cells_s, Option.bind_some, Option.map_some, List.getElem?_toArray, List.getElem?_cons_zero, List.getElem?_cons_succ, Nat.add_zero, Nat.zero_add, Value.cells, splice, List.setIfInBounds_toArray, List.set_cons_zero, List.set_cons_succ, bfill_nil, bfill_cons, bstep_some, withO_some, List.take_zero, List.take_succ_cons, List.drop_zero, List.drop_succ_cons, List.cons_append, List.nil_append, List.append_nil, List.length_cons, List.length_nil, Nat.reduceLeDiff, Nat.le_refl, and_true, true_and, and_self, decide_true, decide_false, Bool.not_true, Bool.not_false, c98, r98_0, c98_14, r98_1, opA_makeMap]
  have m0 : MapC (H.push (.map #[] 0)) H.size (symV []) := MapC.new
  have e0 : Ext H (H.push (.map #[] 0)) := Ext.push _ _
  generalize H.push (.map #[] 0) = G0' at *
  obtain ⟨r, hr⟩ : ∃ r, H.size = r := ⟨_, rfl⟩
  rw [hr] at m0 ⊢
  simp only [go_sem, reduceCtorEq, Nat.reduceEqDiff, Nat.reduceAdd, withc_some, withcs_some, cells_0, cells_s, Option.bind_some, Option.map_some, List.getElem?_toArray, List.getElem?_cons_zero, List.getElem?_cons_succ, Nat.add_zero, Nat.zero_add, Value.cells, splice, List.setIfInBounds_toArray, List.set_cons_zero, List.set_cons_succ, bfill_nil, bfill_cons, bstep_some, withO_some, List.take_zero, List.take_succ_cons, List.drop_zero, List.drop_succ_cons, List.cons_append, List.nil_append, List.append_nil, List.length_cons, List.length_nil, Nat.reduceLeDiff, Nat.le_refl, and_true, true_and, and_self, decide_true, decide_false, Bool.not_true, Bool.not_false, c98_13, r98_2, c98_11, len_slice Tryd.underlying24]
  refine aw_while (L := c98_10) rfl (fun m F G => ∃ (i : Nat) (acc : Sym), m = ws.length - i ∧ F = [(4, .map (some r)), (13, .slice wa ws.length wc), (14, .int .i64 ws.length), (15, .int .i64 i)] ∧ Ext H G ∧ MapC G r (symV acc) ∧ i ≤ ws.length ∧ valuesF (ws.drop i) acc = valuesF ws []) (m := ws.length)
    ⟨0, [], rfl, rfl, e0, m0, Nat.zero_le _, rfl⟩ ?_
  rintro m F G ih ⟨i, acc, rfl, rfl, hE, hm, hi, hv⟩
  by_cases hlt : i < ws.length
  · obtain ⟨w, hwi⟩ : ∃ w, ws[i]? = some w := ⟨ws[i], List.getElem?_eq_getElem hlt⟩
    have e2 : decide ((i : Int) < (ws.length : Int)) = true := by rw [decide_eq_true_eq]; omega
    obtain ⟨ab, aoff, wc', ew, hcell⟩ := (hw.ext hE).at hwi
    cases ew
    have hwl := hl w (List.mem_of_getElem? hwi)
    have hd : ws.drop i = w :: ws.drop (i + 1) := by
      rw [List.drop_eq_getElem_cons hlt]
      rw [List.getElem?_eq_getElem hlt] at hwi
      cases hwi; rfl
    rw [hd, valuesF_cons] at hv
    have hcl := cut_len w [61]
    simp only [go_sem, reduceCtorEq, Nat.reduceEqDiff, Nat.reduceAdd, withc_some, withcs_some, cells_0, cells_s, Option.bind_some, Option.map_some, List.getElem?_toArray, List.getElem?_cons_zero, List.getElem?_cons_succ, Nat.add_zero, Nat.zero_add, Value.cells, splice, List.setIfInBounds_toArray, List.set_cons_zero, List.set_cons_succ, bfill_nil, bfill_cons, bstep_some, withO_some, List.take_zero, List.take_succ_cons, List.drop_zero, List.drop_succ_cons, List.cons_append, List.nil_append, List.append_nil, List.length_cons, List.length_nil, Nat.reduceLeDiff, Nat.le_refl, and_true, true_and, and_self, decide_true, decide_false, Bool.not_true, Bool.not_false, c98_9, c98_8, r98_3, e2, c98_7, c98_6, c98_5, r98_4, ld9, len_slice Tryd.underlying24]
    rw [iadA_slice uStrs ty9 (by omega) (by omega)]
    simp only [go_sem, reduceCtorEq, Nat.reduceEqDiff, Nat.reduceAdd, withc_some, withcs_some, cells_0, cells_s, Option.bind_some, Option.map_some, List.getElem?_toArray, List.getElem?_cons_zero, List.getElem?_cons_succ, Nat.add_zero, Nat.zero_add, Value.cells, splice, List.setIfInBounds_toArray, List.set_cons_zero, List.set_cons_succ, bfill_nil, bfill_cons, bstep_some, withO_some, List.take_zero, List.take_succ_cons, List.drop_zero, List.drop_succ_cons, List.cons_append, List.nil_append, List.append_nil, List.length_cons, List.length_nil, Nat.reduceLeDiff, Nat.le_refl, and_true, true_and, and_self, decide_true, decide_false, Bool.not_true, Bool.not_false, add_none, Int.toNat_natCast, Nat.mul_one, hcell, c98_4, r98_5, B_lit, callA_fn0 pl29, ld9, len_slice Tryd.underlying24]
    refine cut_c w [61] (by omega) (g.ext hE) ?_
    simp only [go_sem, reduceCtorEq, Nat.reduceEqDiff, Nat.reduceAdd, withc_some, withcs_some, cells_0, cells_s, Option.bind_some, Option.map_some, List.getElem?_toArray, List.getElem?_cons_zero, List.getElem?_cons_succ, Nat.add_zero, Nat.zero_add, Value.cells, splice, List.setIfInBounds_toArray, List.set_cons_zero, List.set_cons_succ, bfill_nil, bfill_cons, bstep_some, withO_some, List.take_zero, List.take_succ_cons, List.drop_zero, List.drop_succ_cons, List.cons_append, List.nil_append, List.append_nil, List.length_cons, List.length_nil, Nat.reduceLeDiff, Nat.le_refl, and_true, true_and, and_self, decide_true, decide_false, Bool.not_true, Bool.not_false, c98_3, r98_6, opA_lookup, callA_fn0 pl29, ld9, len_slice Tryd.underlying24]
    rw [lkp_sym (.inr ⟨r, rfl, hm.o⟩)]
    simp only [go_sem, reduceCtorEq, Nat.reduceEqDiff, Nat.reduceAdd, withc_some, withcs_some, cells_0, cells_s, Option.bind_some, Option.map_some, List.getElem?_toArray, List.getElem?_cons_zero, List.getElem?_cons_succ, Nat.add_zero, Nat.zero_add, Value.cells, splice, List.setIfInBounds_toArray, List.set_cons_zero, List.set_cons_succ, bfill_nil, bfill_cons, bstep_some, withO_some, List.take_zero, List.take_succ_cons, List.drop_zero, List.drop_succ_cons, List.cons_append, List.nil_append, List.append_nil, List.length_cons, List.length_nil, Nat.reduceLeDiff, Nat.le_refl, and_true, true_and, and_self, decide_true, decide_false, Bool.not_true, Bool.not_false, c98_2, r98_7, callA_fn0 pl29, callA_fn0 pl30, ld9, len_slice Tryd.underlying24]
    have bad : (Lib.cut w [61]).2.2 = false ∨ (acc.lookup (Lib.cut w [61]).1).isSome = true ∨ symF (Lib.cut w [61]).1 = false → ∀ G', Ext H G' → ∀ (Q : E → Fr → Hp → Prop) (F : Fr), (∀ F G, Q .ret F G = retK Tryd.prog [.tmp 2, .tmp 3] K .ret F G) → aw Tryd.prog 46 c98_0 Q F G' := by
      intro hb G' hE' Q F hQ
      rw [if_pos hb] at hv
      simp only [go_sem, reduceCtorEq, Nat.reduceEqDiff, Nat.reduceAdd, withc_some, withcs_some, cells_0, cells_s, Option.bind_some, Option.map_some, List.getElem?_toArray, List.getElem?_cons_zero, List.getElem?_cons_succ, Nat.add_zero, Nat.zero_add, Value.cells, splice, List.setIfInBounds_toArray, List.set_cons_zero, List.set_cons_succ, bfill_nil, bfill_cons, bstep_some, withO_some, List.take_zero, List.take_succ_cons, List.drop_zero, List.drop_succ_cons, List.cons_append, List.nil_append, List.append_nil, List.length_cons, List.length_nil, Nat.reduceLeDiff, Nat.le_refl, and_true, true_and, and_self, decide_true, decide_false, Bool.not_true, Bool.not_false, c98_0, r98_8, hQ, callA_fn0 pl29, callA_fn0 pl30, ld9, len_slice Tryd.underlying24]
      exact h0 hv.symm G' hE'
    cases hok : (Lib.cut w [61]).2.2 with
    | false =>
      simp only [go_sem, reduceCtorEq, Nat.reduceEqDiff, Nat.reduceAdd, withc_some, withcs_some, cells_0, cells_s, Option.bind_some, Option.map_some, List.getElem?_toArray, List.getElem?_cons_zero, List.getElem?_cons_succ, Nat.add_zero, Nat.zero_add, Value.cells, splice, List.setIfInBounds_toArray, List.set_cons_zero, List.set_cons_succ, bfill_nil, bfill_cons, bstep_some, withO_some, List.take_zero, List.take_succ_cons, List.drop_zero, List.drop_succ_cons, List.cons_append, List.nil_append, List.append_nil, List.length_cons, List.length_nil, Nat.reduceLeDiff, Nat.le_refl, and_true, true_and, and_self, decide_true, decide_false, Bool.not_true, Bool.not_false, c98_1, callA_fn0 pl29, callA_fn0 pl30, ld9, len_slice Tryd.underlying24]
      exact bad (.inl hok) G hE _ _ (fun F G => by simp only [seqQ_ret, blkE_ret])
    | true =>
      cases htw : (acc.lookup (Lib.cut w [61]).1).isSome with
      | true =>
        simp only [go_sem, reduceCtorEq, Nat.reduceEqDiff, Nat.reduceAdd, withc_some, withcs_some, cells_0, cells_s, Option.bind_some, Option.map_some, List.getElem?_toArray, List.getElem?_cons_zero, List.getElem?_cons_succ, Nat.add_zero, Nat.zero_add, Value.cells, splice, List.setIfInBounds_toArray, List.set_cons_zero, List.set_cons_succ, bfill_nil, bfill_cons, bstep_some, withO_some, List.take_zero, List.take_succ_cons, List.drop_zero, List.drop_succ_cons, List.cons_append, List.nil_append, List.append_nil, List.length_cons, List.length_nil, Nat.reduceLeDiff, Nat.le_refl, and_true, true_and, and_self, decide_true, decide_false, Bool.not_true, Bool.not_false, c98_1, callA_fn0 pl29, callA_fn0 pl30, ld9, len_slice Tryd.underlying24]
        exact bad (.inr (.inl htw)) G hE _ _ (fun F G => by simp only [seqQ_ret, blkE_ret])
      | false =>
        simp only [go_sem, reduceCtorEq, Nat.reduceEqDiff, Nat.reduceAdd, withc_some, withcs_some, cells_0, cells_s, Option.bind_some, Option.map_some, List.getElem?_toArray, List.getElem?_cons_zero, List.getElem?_cons_succ, Nat.add_zero, Nat.zero_add, Value.cells, splice, List.setIfInBounds_toArray, List.set_cons_zero, List.set_cons_succ, bfill_nil, bfill_cons, bstep_some, withO_some, List.take_zero, List.take_succ_cons, List.drop_zero, List.drop_succ_cons, List.cons_append, List.nil_append, List.append_nil, List.length_cons, List.length_nil, Nat.reduceLeDiff, Nat.le_refl, and_true, true_and, and_self, decide_true, decide_false, Bool.not_true, Bool.not_false, callA_fn0 pl29, callA_fn0 pl30, ld9, len_slice Tryd.underlying24]
        refine symbol_c _ (by omega) (g.ext hE) fun G2 E2 => ?_
        cases hsy : symF (Lib.cut w [61]).1 with
        | false =>
          simp only [go_sem, reduceCtorEq, Nat.reduceEqDiff, Nat.reduceAdd, withc_some, withcs_some, cells_0, cells_s, Option.bind_some, Option.map_some, List.getElem?_toArray, List.getElem?_cons_zero, List.getElem?_cons_succ, Nat.add_zero, Nat.zero_add, Value.cells, splice, List.setIfInBounds_toArray, List.set_cons_zero, List.set_cons_succ, bfill_nil, bfill_cons, bstep_some, withO_some, List.take_zero, List.take_succ_cons, List.drop_zero, List.drop_succ_cons, List.cons_append, List.nil_append, List.append_nil, List.length_cons, List.length_nil, Nat.reduceLeDiff, Nat.le_refl, and_true, true_and, and_self, decide_true, decide_false, Bool.not_true, Bool.not_false, c98_1, callA_fn0 pl29, callA_fn0 pl30, ld9, len_slice Tryd.underlying24]
          exact bad (.inr (.inr hsy)) G2 (hE.trans E2) _ _ (fun F G => by simp only [seqQ_ret, blkE_ret])
        | true =>
          have hln : acc.lookup (Lib.cut w [61]).1 = none := by
            cases hx : acc.lookup (Lib.cut w [61]).1 with
            | none => rfl
            | some y => rw [hx] at htw; cases htw
          rw [if_neg (by rw [hok, htw, hsy]; simp)] at hv
          simp only [go_sem, reduceCtorEq, Nat.reduceEqDiff, Nat.reduceAdd, withc_some, withcs_some, cells_0, cells_s, Option.bind_some, Option.map_some, List.getElem?_toArray, List.getElem?_cons_zero, List.getElem?_cons_succ, Nat.add_zero, Nat.zero_add, Value.cells, splice, List.setIfInBounds_toArray, List.set_cons_zero, List.set_cons_succ, bfill_nil, bfill_cons, bstep_some, withO_some, List.take_zero, List.take_succ_cons, List.drop_zero, List.drop_succ_cons, List.cons_append, List.nil_append, List.append_nil, List.length_cons, List.length_nil, Nat.reduceLeDiff, Nat.le_refl, and_true, true_and, and_self, decide_true, decide_false, Bool.not_true, Bool.not_false, c98_1, r98_9, opA_mapUpdate, callA_fn0 pl29, callA_fn0 pl30, ld9, len_slice Tryd.underlying24]
          refine mupA_ok uMS uStr (MapC.ext hm E2) fun G3 m3 k3 => ?_
          rw [← symV_putS, putS_new hln] at m3
          have hE3 : Ext H G3 := k3.two (hE.trans E2) (by omega)
          simp only [go_sem, reduceCtorEq, Nat.reduceEqDiff, Nat.reduceAdd, withc_some, withcs_some, cells_0, cells_s, Option.bind_some, Option.map_some, List.getElem?_toArray, List.getElem?_cons_zero, List.getElem?_cons_succ, Nat.add_zero, Nat.zero_add, Value.cells, splice, List.setIfInBounds_toArray, List.set_cons_zero, List.set_cons_succ, bfill_nil, bfill_cons, bstep_some, withO_some, List.take_zero, List.take_succ_cons, List.drop_zero, List.drop_succ_cons, List.cons_append, List.nil_append, List.append_nil, List.length_cons, List.length_nil, Nat.reduceLeDiff, Nat.le_refl, and_true, true_and, and_self, decide_true, decide_false, Bool.not_true, Bool.not_false, r98_10, wrap_one (show i + 1 ≤ 9223372036854775807 by omega), callA_fn0 pl29, callA_fn0 pl30, ld9, len_slice Tryd.underlying24]
          exact ih _ _ _ (by omega) ⟨i + 1, _, rfl, rfl, hE3, m3, by omega, hv⟩
  · have e2 : decide ((i : Int) < (ws.length : Int)) = false := by rw [decide_eq_false_iff_not]; omega
    rw [List.drop_of_length_le (by omega)] at hv
    simp only [go_sem, reduceCtorEq, Nat.reduceEqDiff, Nat.reduceAdd, withc_some, withcs_some, cells_0, cells_s, Option.bind_some, Option.map_some, List.getElem?_toArray, List.getElem?_cons_zero, List.getElem?_cons_succ, Nat.add_zero, Nat.zero_add, Value.cells, splice, List.setIfInBounds_toArray, List.set_cons_zero, List.set_cons_succ, bfill_nil, bfill_cons, bstep_some, withO_some, List.take_zero, List.take_succ_cons, List.drop_zero, List.drop_succ_cons, List.cons_append, List.nil_append, List.append_nil, List.length_cons, List.length_nil, Nat.reduceLeDiff, Nat.le_refl, and_true, true_and, and_self, decide_true, decide_false, Bool.not_true, Bool.not_false, c98_9, c98_8, r98_3, e2, c98_7, c98_12, r98_11, callA_fn0 pl29, callA_fn0 pl30, ld9, len_slice Tryd.underlying24]
    exact h1 acc hv.symm G r (by omega) hE hm

theorem born_inj {es : Array MapEntry} (h : (es.toList.map (·.born)).Nodup) {a b : MapEntry} (ha : a ∈ es) (hb : b ∈ es) (e : a.born = b.born) : a = b := by
  have key : ∀ (l : List MapEntry), (l.map (·.born)).Nodup → ∀ a ∈ l, ∀ b ∈ l, a.born = b.born → a = b := by
    intro l
    induction l with
    | nil => intro _ a ha; cases ha
    | cons x l ih =>
      intro hn a ha b hb e
      rw [List.map_cons, List.nodup_cons] at hn
      rcases List.mem_cons.1 ha with h1 | h1
      · rcases List.mem_cons.1 hb with h2 | h2
        · rw [h1, h2]
        · exact (hn.1 (List.mem_map.2 ⟨b, h2, by rw [← h1, e]⟩)).elim
      · rcases List.mem_cons.1 hb with h2 | h2
        · exact (hn.1 (List.mem_map.2 ⟨a, h1, by rw [← h2, e]⟩)).elim
        · exact ih hn.2 a h1 b h2 e
  exact key _ h a (Array.mem_toList_iff.2 ha) b (Array.mem_toList_iff.2 hb) e

theorem filter_lt {α : Type} {p q : α → Bool} (hq : ∀ x, q x = true → p x = true) : ∀ {l : List α} {a : α}, a ∈ l → p a = true → q a = false → (l.filter q).length < (l.filter p).length
  | b :: l, a, ha, h1, h2 => by
    have hle : (l.filter q).length ≤ (l.filter p).length := by
      clear ha
      induction l with
      | nil => simp
      | cons c l ih =>
        simp only [List.filter_cons]
        cases hc : q c with
        | true => rw [hq c hc]; simpa using ih
        | false => cases p c <;> simp <;> omega
    simp only [List.filter_cons]
    rcases List.mem_cons.1 ha with rfl | ha
    · rw [h1, h2]; simp; omega
    · have := filter_lt hq ha h1 h2
      cases hb : q b with
      | true => rw [hq b hb]; simpa using this
      | false => cases p b <;> simp <;> omega

/-- dst gets what src holds. -/
theorem copy_c {d m : Nat} {dl sl : Sym} {H : Hp} {K : Ending → Hp → Prop} (hd : MapC H d (symV dl)) (hs : MapC H m (symV sl)) (hne : d ≠ m) (hnd : (sl.map (·.1)).Nodup)
    (h : ∀ G l, Keep (· = d) H G → MapC G d (symV l) → (∀ k, l.lookup k = (sl.lookup k).or (dl.lookup k)) → (∀ p ∈ l, p ∈ dl ∨ p ∈ sl) → K (.returned (.tuple #[])) G) :
    HCall Tryd.prog 100 #[.map (some d), .map (some m)] H K := by
  refine hcall mixed B100 (args := [.map (some d), .map (some m)]) (by simp) ?_
  obtain ⟨es, clk, hm, hes, hborn, hbn⟩ := id hs
  simp only [go_sem, reduceCtorEq, Nat.reduceEqDiff, Nat.reduceAdd, withc_some, withcs_some, cells_0, cells_s, Option.bind_some, Option.map_some, List.getElem?_toArray, List.getElem?_cons_zero, List.getElem?_cons_succ, Nat.add_zero, Nat.zero_add, Value.cells, splice, List.setIfInBounds_toArray, List.set_cons_zero, List.set_cons_succ, bfill_nil, bfill_cons, bstep_some, withO_some, List.take_zero, List.take_succ_cons, List.drop_zero, List.drop_succ_cons, List.cons_append, List.nil_append, List.append_nil, List.length_cons, List.length_nil, Nat.reduceLeDiff, Nat.le_refl, and_true, true_and, and_self, decide_true, decide_false, Bool.not_true, Bool.not_false, c100, r100_0]
  rw [rngA_map uMS hm]
  simp only [go_sem, reduceCtorEq, Nat.reduceEqDiff, Nat.reduceAdd, withc_some, withcs_some, cells_0, cells_s, Option.bind_some, Option.map_some, List.getElem?_toArray, List.getElem?_cons_zero, List.getElem?_cons_succ, Nat.add_zero, Nat.zero_add, Value.cells, splice, List.setIfInBounds_toArray, List.set_cons_zero, List.set_cons_succ, bfill_nil, bfill_cons, bstep_some, withO_some, List.take_zero, List.take_succ_cons, List.drop_zero, List.drop_succ_cons, List.cons_append, List.nil_append, List.append_nil, List.length_cons, List.length_nil, Nat.reduceLeDiff, Nat.le_refl, and_true, true_and, and_self, decide_true, decide_false, Bool.not_true, Bool.not_false, c100_6]
  have hit0 : (H.push (.mapIter (some m) clk #[] clk))[H.size]? = some (.mapIter (some m) clk #[] clk) := by simp
  have k0 : Keep (· = d) H (H.push (.mapIter (some m) clk #[] clk)) := ⟨by simp, fun b hb _ => by rw [get_push_lt hb]⟩
  have hd0 := MapC.ext hd (Ext.push H (.mapIter (some m) clk #[] clk))
  have hmlt := get_lt hm
  have hdlt := MapC.lt hd
  generalize (H.push (.mapIter (some m) clk #[] clk)) = G0' at *
  generalize hiq : H.size = it at *
  refine aw_while (L := c100_5) rfl (fun n F G => ∃ (seen : Array Nat) (l : Sym), n = (es.toList.filter fun e => !seen.contains e.born).length ∧ F = [(0, .map (some d)), (7, .pointer (some ⟨it, 0, none⟩))] ∧ G[it]? = some (.mapIter (some m) clk seen clk) ∧ Keep (· = d) H G ∧ MapC G d (symV l) ∧
      (∀ k, (∃ e ∈ es, e.born ∈ seen ∧ e.key = .string (B k)) → l.lookup k = sl.lookup k) ∧ (∀ k, (¬ ∃ e ∈ es, e.born ∈ seen ∧ e.key = .string (B k)) → l.lookup k = dl.lookup k) ∧ (∀ p ∈ l, p ∈ dl ∨ p ∈ sl)) (m := (es.toList.filter fun e => !(#[] : Array Nat).contains e.born).length)
    ⟨#[], dl, rfl, rfl, hit0, k0, hd0, (by rintro k ⟨e, _, h, _⟩; simp at h), fun k _ => rfl, fun p hp => .inl hp⟩ ?_
  rintro n F G ih ⟨seen, l, rfl, rfl, hit, hk, hl, hl1, hl2, hmem⟩
  have hmG := hk.get hm (fun e => hne e.symm)
  have hdit : d ≠ it := by omega
  have hent : ∀ e ∈ es, ∃ p ∈ sl, e.key = .string (B p.1) ∧ e.val = .string (B p.2) := by
    intro e he
    have : (e.key, e.val) ∈ es.toList.map (fun e => (e.key, e.val)) := List.mem_map.2 ⟨e, Array.mem_toList_iff.2 he, rfl⟩
    rw [hes] at this
    obtain ⟨q, hq, heq⟩ := List.mem_map.1 this
    obtain ⟨p, hp, rfl⟩ := List.mem_map.1 hq
    simp only [Prod.mk.injEq] at heq
    exact ⟨p, hp, heq.1.symm, heq.2.symm⟩
  simp only [go_sem, reduceCtorEq, Nat.reduceEqDiff, Nat.reduceAdd, withc_some, withcs_some, cells_0, cells_s, Option.bind_some, Option.map_some, List.getElem?_toArray, List.getElem?_cons_zero, List.getElem?_cons_succ, Nat.add_zero, Nat.zero_add, Value.cells, splice, List.setIfInBounds_toArray, List.set_cons_zero, List.set_cons_succ, bfill_nil, bfill_cons, bstep_some, withO_some, List.take_zero, List.take_succ_cons, List.drop_zero, List.drop_succ_cons, List.cons_append, List.nil_append, List.append_nil, List.length_cons, List.length_nil, Nat.reduceLeDiff, Nat.le_refl, and_true, true_and, and_self, decide_true, decide_false, Bool.not_true, Bool.not_false, c100_4, c100_3, r100_1]
  refine nxtA_map hit hmG hborn ?_ ?_
  · intro e he hns
    have hit2 := get_set (o := .mapIter (some m) clk (seen.push e.born) clk) hit
    have k2 : Keep (· = it) G (G.setIfInBounds it (.mapIter (some m) clk (seen.push e.born) clk)) := ⟨by simp, fun b hb hn => by rw [Array.getElem?_setIfInBounds_ne (fun e => hn e.symm)]⟩
    have hm2 := k2.get hmG (by omega)
    have hl' : MapC (G.setIfInBounds it (.mapIter (some m) clk (seen.push e.born) clk)) d (symV l) := by
      obtain ⟨es', clk', q1, q2⟩ := hl
      exact ⟨es', clk', k2.get q1 hdit, q2⟩
    have hk2 : Keep (· = d) H (G.setIfInBounds it (.mapIter (some m) clk (seen.push e.born) clk)) := ⟨Nat.le_trans hk.size k2.size, fun b hb hn => by
      obtain ⟨o, ho⟩ : ∃ o, H[b]? = some o := ⟨H[b], Array.getElem?_eq_getElem hb⟩
      rw [ho]
      exact k2.get (hk.get ho hn) (by omega)⟩
    generalize (G.setIfInBounds it (.mapIter (some m) clk (seen.push e.born) clk)) = G3 at *
    simp only [go_sem, reduceCtorEq, Nat.reduceEqDiff, Nat.reduceAdd, withc_some, withcs_some, cells_0, cells_s, Option.bind_some, Option.map_some, List.getElem?_toArray, List.getElem?_cons_zero, List.getElem?_cons_succ, Nat.add_zero, Nat.zero_add, Value.cells, splice, List.setIfInBounds_toArray, List.set_cons_zero, List.set_cons_succ, bfill_nil, bfill_cons, bstep_some, withO_some, List.take_zero, List.take_succ_cons, List.drop_zero, List.drop_succ_cons, List.cons_append, List.nil_append, List.append_nil, List.length_cons, List.length_nil, Nat.reduceLeDiff, Nat.le_refl, and_true, true_and, and_self, decide_true, decide_false, Bool.not_true, Bool.not_false, c100_2, c100_1, c100_0, r100_2]
    refine entA_map hit2 (by simp) hm2 ⟨e, he, rfl⟩ fun e' he' hb' => ?_
    have hee : e' = e := born_inj hbn he' he hb'
    subst hee
    obtain ⟨p, hp, hkey, hval⟩ := hent e' he
    simp only [go_sem, reduceCtorEq, Nat.reduceEqDiff, Nat.reduceAdd, withc_some, withcs_some, cells_0, cells_s, Option.bind_some, Option.map_some, List.getElem?_toArray, List.getElem?_cons_zero, List.getElem?_cons_succ, Nat.add_zero, Nat.zero_add, Value.cells, splice, List.setIfInBounds_toArray, List.set_cons_zero, List.set_cons_succ, bfill_nil, bfill_cons, bstep_some, withO_some, List.take_zero, List.take_succ_cons, List.drop_zero, List.drop_succ_cons, List.cons_append, List.nil_append, List.append_nil, List.length_cons, List.length_nil, Nat.reduceLeDiff, Nat.le_refl, and_true, true_and, and_self, decide_true, decide_false, Bool.not_true, Bool.not_false, hkey, hval, r100_3, opA_mapUpdate]
    refine mupA_ok uMS uStr hl' fun G4 m4 k4 => ?_
    rw [← symV_putS] at m4
    have hit4 := k4.get hit2 (fun e => hdit e.symm)
    have hsp := lookup_nodup hnd (show (p.1, p.2) ∈ sl from hp)
    simp only [go_sem, reduceCtorEq, Nat.reduceEqDiff, Nat.reduceAdd, withc_some, withcs_some, cells_0, cells_s, Option.bind_some, Option.map_some, List.getElem?_toArray, List.getElem?_cons_zero, List.getElem?_cons_succ, Nat.add_zero, Nat.zero_add, Value.cells, splice, List.setIfInBounds_toArray, List.set_cons_zero, List.set_cons_succ, bfill_nil, bfill_cons, bstep_some, withO_some, List.take_zero, List.take_succ_cons, List.drop_zero, List.drop_succ_cons, List.cons_append, List.nil_append, List.append_nil, List.length_cons, List.length_nil, Nat.reduceLeDiff, Nat.le_refl, and_true, true_and, and_self, decide_true, decide_false, Bool.not_true, Bool.not_false]
    refine ih _ _ _ ?_ ⟨seen.push e'.born, putS p.1 p.2 l, rfl, rfl, hit4, hk2.trans k4, m4, ?_, ?_, ?_⟩
    · refine filter_lt (a := e') ?_ (Array.mem_toList_iff.2 he) (by simpa using hns) (by simp)
      intro x hx
      simp at hx ⊢
      exact hx.1
    · rintro k ⟨e2, he2, hb2, hk2'⟩
      rw [lookup_putS]
      by_cases hkp : k = p.1
      · rw [if_pos hkp, hkp, hsp]
      · rw [if_neg hkp]
        refine hl1 k ⟨e2, he2, ?_, hk2'⟩
        rcases Array.mem_push.1 hb2 with h3 | h3
        · exact h3
        · have := born_inj hbn he2 he h3
          subst this
          rw [hkey] at hk2'
          simp only [Value.string.injEq, B_inj] at hk2'
          exact absurd hk2'.symm hkp
    · intro k hno
      have hkp : k ≠ p.1 := fun e => hno ⟨e', he, Array.mem_push_self, by rw [hkey, e]⟩
      rw [lookup_putS, if_neg hkp]
      exact hl2 k fun ⟨e2, he2, hb2, hk2'⟩ => hno ⟨e2, he2, Array.mem_push_of_mem _ hb2, hk2'⟩
    · intro q hq
      rcases putS_mem hq with rfl | hq
      · exact .inr hp
      · exact hmem q hq
  · intro hall
    simp only [go_sem, reduceCtorEq, Nat.reduceEqDiff, Nat.reduceAdd, withc_some, withcs_some, cells_0, cells_s, Option.bind_some, Option.map_some, List.getElem?_toArray, List.getElem?_cons_zero, List.getElem?_cons_succ, Nat.add_zero, Nat.zero_add, Value.cells, splice, List.setIfInBounds_toArray, List.set_cons_zero, List.set_cons_succ, bfill_nil, bfill_cons, bstep_some, withO_some, List.take_zero, List.take_succ_cons, List.drop_zero, List.drop_succ_cons, List.cons_append, List.nil_append, List.append_nil, List.length_cons, List.length_nil, Nat.reduceLeDiff, Nat.le_refl, and_true, true_and, and_self, decide_true, decide_false, Bool.not_true, Bool.not_false, c100_2]
    refine h G l hk hl (fun k => ?_) hmem
    by_cases hex : ∃ e ∈ es, e.key = .string (B k)
    · obtain ⟨e, he, hke⟩ := hex
      rw [hl1 k ⟨e, he, hall e he, hke⟩]
      obtain ⟨p, hp, hkey, _⟩ := hent e he
      rw [hkey] at hke
      simp only [Value.string.injEq, B_inj] at hke
      have := lookup_nodup hnd (show (p.1, p.2) ∈ sl from hp)
      rw [hke] at this
      rw [this]; rfl
    · rw [hl2 k fun ⟨e, he, _, hke⟩ => hex ⟨e, he, hke⟩]
      have : sl.lookup k = none := by
        cases hx : sl.lookup k with
        | none => rfl
        | some y =>
          exfalso
          have hmm : (k, y) ∈ sl := by
            have : ∀ (l : Sym), l.lookup k = some y → (k, y) ∈ l := by
              intro l
              induction l with
              | nil => intro h; cases h
              | cons q r ih =>
                intro h
                rw [List.lookup_cons] at h
                cases hq : k == q.1 with
                | true => rw [hq] at h; cases h; rw [eq_of_beq hq]; exact List.mem_cons_self ..
                | false => rw [hq] at h; exact List.mem_cons_of_mem _ (ih h)
            exact this _ hx
          have : ((.string (B k), .string (B y)) : Value × Value) ∈ es.toList.map (fun e => (e.key, e.val)) := by
            rw [hes]
            exact List.mem_map.2 ⟨(k, .string (B y)), List.mem_map.2 ⟨(k, y), hmm, rfl⟩, rfl⟩
          obtain ⟨e, he, heq⟩ := List.mem_map.1 this
          simp only [Prod.mk.injEq] at heq
          exact hex ⟨e, Array.mem_toList_iff.1 he, heq.1⟩
      rw [this]; rfl
end Go.Proofs.YtoabcmhiaknjiaaDoor

/- Contracts of jobtext: set, end. -/
set_option maxRecDepth 100000
set_option linter.unusedSimpArgs false
set_option linter.unusedVariables false
namespace Go.Proofs.YtoabcmhiaknjiaaDoor
open Go.Hw

theorem RdrO.keep {B0 R ms mp m : Nat} {H H' : Hp} {out : List Stm} (h : RdrO B0 R ms mp H out) (k : Keep (· = m) H H') {es : Array MapEntry} {clk : Nat} (hm : H[m]? = some (.map es clk)) : RdrO B0 R ms mp H' out := by
  have hc : ∀ (b : Nat) (c : Array Value) (e : TypeId) (f : Nat × Nat), H[b]? = some (.cells c e f) → H'[b]? = some (.cells c e f) := fun b c e f hb => k.get hb (by intro h; subst h; rw [hm] at hb; cases hb)
  obtain ⟨h0, ov, cells, h1, h2, h3⟩ := h
  refine ⟨h0, ov, cells, hc _ _ _ _ h1, ?_, stmC.mono (fun v ws hv => SlE.mono hv fun b c f hb => hc _ _ _ _ hb) _ _ h3⟩
  rcases h2 with h | ⟨b, cap, c, f, o1, o2, o3, o4⟩
  · exact .inl h
  · exact .inr ⟨b, cap, c, f, o1, o2, hc _ _ _ _ o3, o4⟩
theorem MapC.keep {m m' : Nat} {H H' : Hp} {l : List (List UInt8 × Value)} (h : MapC H m l) (k : Keep (· = m') H H') (hne : m ≠ m') : MapC H' m l := by
  obtain ⟨es, clk, h1, h2⟩ := h
  exact ⟨es, clk, k.get h1 hne, h2⟩
/-- A store into the symbols' map. -/
theorem Rdr.setms {B0 R ms mp : Nat} {H H' : Hp} {s : RS} {sy : Sym} (h : Rdr B0 R ms mp H s) (k : Keep (· = ms) H H') (hs : SymsV H' ms sy) : Rdr B0 R ms mp H' { s with syms := sy } := by
  obtain ⟨ho, ⟨l0, ⟨es, clk, hm, _⟩, _⟩, ⟨l, hl, hf⟩, b1, b2, b3⟩ := h
  have hc : ∀ (b : Nat) (c : Array Value) (e : TypeId) (f : Nat × Nat), H[b]? = some (.cells c e f) → H'[b]? = some (.cells c e f) := fun b c e f hb => k.get hb (by intro h; subst h; rw [hm] at hb; cases hb)
  exact ⟨ho.keep k hm, hs, ⟨l, MapC.keep hl k (fun e => b3 e.symm), hf.imp fun p x ⟨e, mv, rv, h1, h2, hg, h3, h4, h5, h6⟩ => ⟨e, mv, rv, h1, MapC.keep h2 k h3, hg, h3, h4, h5, SlE.mono h6 fun b c f hb => hc _ _ _ _ hb⟩⟩, b1, b2, b3⟩
theorem FrJ.mset {B0 ms mp m : Nat} {H G G' : Hp} {l : List (List UInt8 × Value)} (h : FrJ B0 (MM ms mp) H G) (hB : B0 ≤ m) (hm : m = ms ∨ m = mp) (hc : MapC G m l) (k : Keep (· = m) G G') : FrJ B0 (MM ms mp) H G' := by
  obtain ⟨es, clk, q, _⟩ := hc
  refine h.trans (k.ko fun x o hx ho => ?_)
  subst hx
  rw [q] at ho
  cases ho
  exact ⟨hB, .inr ⟨hm, _, _, rfl⟩⟩

theorem endh_c {B0 R ms mp : Nat} {rv wv : Value} {call : List UInt8} {inn : Bool} {k : Nat} {t : List UInt8} {rest : List Row} {s : RS} {H : Hp} {K : Ending → Hp → Prop}
    (hR : Rdr B0 R ms mp H s) (hr : RowsV H rv ((k, t) :: rest))
    (h : ∀ G, FrJ B0 (MM ms mp) H G → Rdr B0 R ms mp G s → K (.returned (.tuple #[.int .i64 0, .agg #[.int .i64 k, .int .i64 9]])) G) :
    HCall Tryd.prog 88 #[.pointer (some ⟨R, 0, none⟩), .agg #[rv, .string (B call), .bool inn], wv] H K := by
  refine hcall mixed B88 (args := [.pointer (some ⟨R, 0, none⟩), .agg #[rv, .string (B call), .bool inn], wv]) (by simp) ?_
  simp only [go_sem, reduceCtorEq, Nat.reduceEqDiff, Nat.reduceAdd, withc_some, withcs_some, cells_0, cells_s, Option.bind_some, Option.map_some, List.getElem?_toArray, List.getElem?_cons_zero, List.getElem?_cons_succ, Nat.add_zero, Nat.zero_add, Value.cells, splice, List.setIfInBounds_toArray, List.set_cons_zero, List.set_cons_succ, bfill_nil, bfill_cons, bstep_some, withO_some, List.take_zero, List.take_succ_cons, List.drop_zero, List.drop_succ_cons, List.cons_append, List.nil_append, List.append_nil, List.length_cons, List.length_nil, Nat.reduceLeDiff, Nat.le_refl, and_true, true_and, and_self, decide_true, decide_false, Bool.not_true, Bool.not_false, c88, r88_0, opA_alloc 79 ty79]
  refine box_kA fun b4 G1 e4 s1 h4 E1 => ?_
  simp only [go_sem, reduceCtorEq, Nat.reduceEqDiff, Nat.reduceAdd, withc_some, withcs_some, cells_0, cells_s, Option.bind_some, Option.map_some, List.getElem?_toArray, List.getElem?_cons_zero, List.getElem?_cons_succ, Nat.add_zero, Nat.zero_add, Value.cells, splice, List.setIfInBounds_toArray, List.set_cons_zero, List.set_cons_succ, bfill_nil, bfill_cons, bstep_some, withO_some, List.take_zero, List.take_succ_cons, List.drop_zero, List.drop_succ_cons, List.cons_append, List.nil_append, List.append_nil, List.length_cons, List.length_nil, Nat.reduceLeDiff, Nat.le_refl, and_true, true_and, and_self, decide_true, decide_false, Bool.not_true, Bool.not_false, opA_alloc 79 ty79]
  refine box_kA fun b7 G2 e7 s2 h7 E2 => ?_
  have E12 := E1.trans E2
  simp only [go_sem, reduceCtorEq, Nat.reduceEqDiff, Nat.reduceAdd, withc_some, withcs_some, cells_0, cells_s, Option.bind_some, Option.map_some, List.getElem?_toArray, List.getElem?_cons_zero, List.getElem?_cons_succ, Nat.add_zero, Nat.zero_add, Value.cells, splice, List.setIfInBounds_toArray, List.set_cons_zero, List.set_cons_succ, bfill_nil, bfill_cons, bstep_some, withO_some, List.take_zero, List.take_succ_cons, List.drop_zero, List.drop_succ_cons, List.cons_append, List.nil_append, List.append_nil, List.length_cons, List.length_nil, Nat.reduceLeDiff, Nat.le_refl, and_true, true_and, and_self, decide_true, decide_false, Bool.not_true, Bool.not_false, c88_0, r88_1, cell_of_blk (E2.get h4), callA_fn0 pl91, ld82, opA_alloc 79 ty79]
  refine at_c (hr.ext E12) fun G3 E3 => ?_
  simp only [go_sem, reduceCtorEq, Nat.reduceEqDiff, Nat.reduceAdd, withc_some, withcs_some, cells_0, cells_s, Option.bind_some, Option.map_some, List.getElem?_toArray, List.getElem?_cons_zero, List.getElem?_cons_succ, Nat.add_zero, Nat.zero_add, Value.cells, splice, List.setIfInBounds_toArray, List.set_cons_zero, List.set_cons_succ, bfill_nil, bfill_cons, bstep_some, withO_some, List.take_zero, List.take_succ_cons, List.drop_zero, List.drop_succ_cons, List.cons_append, List.nil_append, List.append_nil, List.length_cons, List.length_nil, Nat.reduceLeDiff, Nat.le_refl, and_true, true_and, and_self, decide_true, decide_false, Bool.not_true, Bool.not_false, callA_fn0 pl91, ld82, opA_alloc 79 ty79]
  refine store_kA (E3.get h7) ty79 (k := fun G4 h8 k4 s4 => ?_)
  simp only [go_sem, reduceCtorEq, Nat.reduceEqDiff, Nat.reduceAdd, withc_some, withcs_some, cells_0, cells_s, Option.bind_some, Option.map_some, List.getElem?_toArray, List.getElem?_cons_zero, List.getElem?_cons_succ, Nat.add_zero, Nat.zero_add, Value.cells, splice, List.setIfInBounds_toArray, List.set_cons_zero, List.set_cons_succ, bfill_nil, bfill_cons, bstep_some, withO_some, List.take_zero, List.take_succ_cons, List.drop_zero, List.drop_succ_cons, List.cons_append, List.nil_append, List.append_nil, List.length_cons, List.length_nil, Nat.reduceLeDiff, Nat.le_refl, and_true, true_and, and_self, decide_true, decide_false, Bool.not_true, Bool.not_false, resW_cell, callA_fn0 pl91, ld82, opA_alloc 79 ty79]
  rw [rc79 (l := [.int .i64 k, .int .i64 9]) (by simp only [go_sem, reduceCtorEq, Nat.reduceEqDiff, Nat.reduceAdd, withc_some, withcs_some, cells_0, cells_s, Option.bind_some, Option.map_some, List.getElem?_toArray, List.getElem?_cons_zero, List.getElem?_cons_succ, Nat.add_zero, Nat.zero_add, Value.cells, splice, List.setIfInBounds_toArray, List.set_cons_zero, List.set_cons_succ, bfill_nil, bfill_cons, bstep_some, withO_some, List.take_zero, List.take_succ_cons, List.drop_zero, List.drop_succ_cons, List.cons_append, List.nil_append, List.append_nil, List.length_cons, List.length_nil, Nat.reduceLeDiff, Nat.le_refl, and_true, true_and, and_self, decide_true, decide_false, Bool.not_true, Bool.not_false, cell_of_blk h8, callA_fn0 pl91, ld82, opA_alloc 79 ty79])]
  have E4 : Ext H G4 := k4.two (E12.trans E3) (by omega)
  exact h G4 E4.ko (hR.ext E4)

set_option maxHeartbeats 1000000 in
theorem set_c {B0 R ms mp : Nat} {rv wv : Value} {call : List UInt8} {inn : Bool} {k : Nat} {t : List UInt8} {rest : List Row} {words : List (List UInt8)} {s : RS} {H : Hp} {K : Ending → Hp → Prop}
    (hR : Rdr B0 R ms mp H s) (hB : B0 ≤ H.size) (g : G0 H) (hr : RowsV H rv ((k, t) :: rest)) (hw : SlV H wv words) (hwl : words.length ≤ 1000000) (hwb : ∀ w ∈ words, w.length ≤ 1000)
    (h : ∀ G, FrJ B0 (MM ms mp) H G → Rdr B0 R ms mp G (setF inn s k words).1 → K (.returned (.tuple #[.int .i64 (setF inn s k words).2.n, .agg #[.int .i64 (setF inn s k words).2.line, .int .i64 (setF inn s k words).2.code]])) G) :
    HCall Tryd.prog 86 #[.pointer (some ⟨R, 0, none⟩), .agg #[rv, .string (B call), .bool inn], wv] H K := by
  refine hcall mixed B86 (args := [.pointer (some ⟨R, 0, none⟩), .agg #[rv, .string (B call), .bool inn], wv]) (by simp) ?_
  obtain ⟨wa, wc, rfl⟩ := SlE.form hw
  simp only [go_sem, reduceCtorEq, Nat.reduceEqDiff, Nat.reduceAdd, withc_some, withcs_some, cells_0, cells_s, Option.bind_some, Option.map_some, List.getElem?_toArray, List.getElem?_cons_zero, List.getElem?_cons_succ, Nat.add_zero, Nat.zero_add, Value.cells, splice, List.setIfInBounds_toArray, List.set_cons_zero, List.set_cons_succ, bfill_nil, bfill_cons, bstep_some, withO_some, List.take_zero, List.take_succ_cons, List.drop_zero, List.drop_succ_cons, List.cons_append, List.nil_append, List.append_nil, List.length_cons, List.length_nil, Nat.reduceLeDiff, Nat.le_refl, and_true, true_and, and_self, decide_true, decide_false, Bool.not_true, Bool.not_false, c86, r86_0, opA_alloc 79 ty79]
  refine box_kA fun b4 G1 e4 s1 h4 E1 => ?_
  simp only [go_sem, reduceCtorEq, Nat.reduceEqDiff, Nat.reduceAdd, withc_some, withcs_some, cells_0, cells_s, Option.bind_some, Option.map_some, List.getElem?_toArray, List.getElem?_cons_zero, List.getElem?_cons_succ, Nat.add_zero, Nat.zero_add, Value.cells, splice, List.setIfInBounds_toArray, List.set_cons_zero, List.set_cons_succ, bfill_nil, bfill_cons, bstep_some, withO_some, List.take_zero, List.take_succ_cons, List.drop_zero, List.drop_succ_cons, List.cons_append, List.nil_append, List.append_nil, List.length_cons, List.length_nil, Nat.reduceLeDiff, Nat.le_refl, and_true, true_and, and_self, decide_true, decide_false, Bool.not_true, Bool.not_false, opA_alloc 79 ty79]
  refine box_kA fun b7 G2 e7 s2 h7 E2 => ?_
  have E12 := E1.trans E2
  simp only [go_sem, reduceCtorEq, Nat.reduceEqDiff, Nat.reduceAdd, withc_some, withcs_some, cells_0, cells_s, Option.bind_some, Option.map_some, List.getElem?_toArray, List.getElem?_cons_zero, List.getElem?_cons_succ, Nat.add_zero, Nat.zero_add, Value.cells, splice, List.setIfInBounds_toArray, List.set_cons_zero, List.set_cons_succ, bfill_nil, bfill_cons, bstep_some, withO_some, List.take_zero, List.take_succ_cons, List.drop_zero, List.drop_succ_cons, List.cons_append, List.nil_append, List.append_nil, List.length_cons, List.length_nil, Nat.reduceLeDiff, Nat.le_refl, and_true, true_and, and_self, decide_true, decide_false, Bool.not_true, Bool.not_false, c86_8, c86_5, r86_1, cell_of_blk (E2.get h4), fa82_2, ld4, opA_alloc 79 ty79]
  -- an error
  have err3 : ∀ (G : Hp) (Q : E → Fr → Hp → Prop) (F0 : Fr), setF inn s k words = (s, ⟨0, k, 3⟩) → Ext G2 G → (∀ F G, Q .ret F G = retK Tryd.prog [.tmp 6, .cell 7 79] K .ret F G) → aw Tryd.prog 37 c86_1 Q ((0, .pointer (some ⟨R, 0, none⟩)) :: (2, .slice wa words.length wc) :: (4, .pointer (some ⟨b4, 0, none⟩)) :: (7, .pointer (some ⟨b7, 0, none⟩)) :: F0) G := by
    intro G Q F0 hs hE hQ
    rw [hs] at h
    simp only [go_sem, reduceCtorEq, Nat.reduceEqDiff, Nat.reduceAdd, withc_some, withcs_some, cells_0, cells_s, Option.bind_some, Option.map_some, List.getElem?_toArray, List.getElem?_cons_zero, List.getElem?_cons_succ, Nat.add_zero, Nat.zero_add, Value.cells, splice, List.setIfInBounds_toArray, List.set_cons_zero, List.set_cons_succ, bfill_nil, bfill_cons, bstep_some, withO_some, List.take_zero, List.take_succ_cons, List.drop_zero, List.drop_succ_cons, List.cons_append, List.nil_append, List.append_nil, List.length_cons, List.length_nil, Nat.reduceLeDiff, Nat.le_refl, and_true, true_and, and_self, decide_true, decide_false, Bool.not_true, Bool.not_false, c86_1, r86_4, cell_of_blk (hE.get (E2.get h4)), callA_fn0 pl91, fa82_2, ld4, ld82, opA_alloc 79 ty79]
    refine at_c (hr.ext (E12.trans hE)) fun G3 E3 => ?_
    simp only [go_sem, reduceCtorEq, Nat.reduceEqDiff, Nat.reduceAdd, withc_some, withcs_some, cells_0, cells_s, Option.bind_some, Option.map_some, List.getElem?_toArray, List.getElem?_cons_zero, List.getElem?_cons_succ, Nat.add_zero, Nat.zero_add, Value.cells, splice, List.setIfInBounds_toArray, List.set_cons_zero, List.set_cons_succ, bfill_nil, bfill_cons, bstep_some, withO_some, List.take_zero, List.take_succ_cons, List.drop_zero, List.drop_succ_cons, List.cons_append, List.nil_append, List.append_nil, List.length_cons, List.length_nil, Nat.reduceLeDiff, Nat.le_refl, and_true, true_and, and_self, decide_true, decide_false, Bool.not_true, Bool.not_false, callA_fn0 pl91, fa82_2, ld4, ld82, opA_alloc 79 ty79]
    refine store_kA ((hE.trans E3).get h7) ty79 (k := fun G4 h8 k4 s4 => ?_)
    simp only [go_sem, reduceCtorEq, Nat.reduceEqDiff, Nat.reduceAdd, withc_some, withcs_some, cells_0, cells_s, Option.bind_some, Option.map_some, List.getElem?_toArray, List.getElem?_cons_zero, List.getElem?_cons_succ, Nat.add_zero, Nat.zero_add, Value.cells, splice, List.setIfInBounds_toArray, List.set_cons_zero, List.set_cons_succ, bfill_nil, bfill_cons, bstep_some, withO_some, List.take_zero, List.take_succ_cons, List.drop_zero, List.drop_succ_cons, List.cons_append, List.nil_append, List.append_nil, List.length_cons, List.length_nil, Nat.reduceLeDiff, Nat.le_refl, and_true, true_and, and_self, decide_true, decide_false, Bool.not_true, Bool.not_false, hQ, resW_cell, callA_fn0 pl91, fa82_2, ld4, ld82, opA_alloc 79 ty79]
    rw [rc79 (l := [.int .i64 k, .int .i64 3]) (by simp only [go_sem, reduceCtorEq, Nat.reduceEqDiff, Nat.reduceAdd, withc_some, withcs_some, cells_0, cells_s, Option.bind_some, Option.map_some, List.getElem?_toArray, List.getElem?_cons_zero, List.getElem?_cons_succ, Nat.add_zero, Nat.zero_add, Value.cells, splice, List.setIfInBounds_toArray, List.set_cons_zero, List.set_cons_succ, bfill_nil, bfill_cons, bstep_some, withO_some, List.take_zero, List.take_succ_cons, List.drop_zero, List.drop_succ_cons, List.cons_append, List.nil_append, List.append_nil, List.length_cons, List.length_nil, Nat.reduceLeDiff, Nat.le_refl, and_true, true_and, and_self, decide_true, decide_false, Bool.not_true, Bool.not_false, cell_of_blk h8, callA_fn0 pl91, fa82_2, ld4, ld82, opA_alloc 79 ty79])]
    have E4 : Ext H G4 := k4.two (E12.trans (hE.trans E3)) (by omega)
    exact h G4 E4.ko (hR.ext E4)
  cases inn with
  | true =>
    have hs : setF true s k words = (s, ⟨0, k, 9⟩) := by
      unfold setF
      split <;> rfl
    rw [hs] at h
    simp only [go_sem, reduceCtorEq, Nat.reduceEqDiff, Nat.reduceAdd, withc_some, withcs_some, cells_0, cells_s, Option.bind_some, Option.map_some, List.getElem?_toArray, List.getElem?_cons_zero, List.getElem?_cons_succ, Nat.add_zero, Nat.zero_add, Value.cells, splice, List.setIfInBounds_toArray, List.set_cons_zero, List.set_cons_succ, bfill_nil, bfill_cons, bstep_some, withO_some, List.take_zero, List.take_succ_cons, List.drop_zero, List.drop_succ_cons, List.cons_append, List.nil_append, List.append_nil, List.length_cons, List.length_nil, Nat.reduceLeDiff, Nat.le_refl, and_true, true_and, and_self, decide_true, decide_false, Bool.not_true, Bool.not_false, c86_4, c86_0, r86_2, cell_of_blk (E2.get h4), callA_fn0 pl91, fa82_2, ld4, ld82, opA_alloc 79 ty79]
    refine at_c (hr.ext E12) fun G3 E3 => ?_
    simp only [go_sem, reduceCtorEq, Nat.reduceEqDiff, Nat.reduceAdd, withc_some, withcs_some, cells_0, cells_s, Option.bind_some, Option.map_some, List.getElem?_toArray, List.getElem?_cons_zero, List.getElem?_cons_succ, Nat.add_zero, Nat.zero_add, Value.cells, splice, List.setIfInBounds_toArray, List.set_cons_zero, List.set_cons_succ, bfill_nil, bfill_cons, bstep_some, withO_some, List.take_zero, List.take_succ_cons, List.drop_zero, List.drop_succ_cons, List.cons_append, List.nil_append, List.append_nil, List.length_cons, List.length_nil, Nat.reduceLeDiff, Nat.le_refl, and_true, true_and, and_self, decide_true, decide_false, Bool.not_true, Bool.not_false, callA_fn0 pl91, fa82_2, ld4, ld82, opA_alloc 79 ty79]
    refine store_kA (E3.get h7) ty79 (k := fun G4 h8 k4 s4 => ?_)
    simp only [go_sem, reduceCtorEq, Nat.reduceEqDiff, Nat.reduceAdd, withc_some, withcs_some, cells_0, cells_s, Option.bind_some, Option.map_some, List.getElem?_toArray, List.getElem?_cons_zero, List.getElem?_cons_succ, Nat.add_zero, Nat.zero_add, Value.cells, splice, List.setIfInBounds_toArray, List.set_cons_zero, List.set_cons_succ, bfill_nil, bfill_cons, bstep_some, withO_some, List.take_zero, List.take_succ_cons, List.drop_zero, List.drop_succ_cons, List.cons_append, List.nil_append, List.append_nil, List.length_cons, List.length_nil, Nat.reduceLeDiff, Nat.le_refl, and_true, true_and, and_self, decide_true, decide_false, Bool.not_true, Bool.not_false, resW_cell, callA_fn0 pl91, fa82_2, ld4, ld82, opA_alloc 79 ty79]
    rw [rc79 (l := [.int .i64 k, .int .i64 9]) (by simp only [go_sem, reduceCtorEq, Nat.reduceEqDiff, Nat.reduceAdd, withc_some, withcs_some, cells_0, cells_s, Option.bind_some, Option.map_some, List.getElem?_toArray, List.getElem?_cons_zero, List.getElem?_cons_succ, Nat.add_zero, Nat.zero_add, Value.cells, splice, List.setIfInBounds_toArray, List.set_cons_zero, List.set_cons_succ, bfill_nil, bfill_cons, bstep_some, withO_some, List.take_zero, List.take_succ_cons, List.drop_zero, List.drop_succ_cons, List.cons_append, List.nil_append, List.append_nil, List.length_cons, List.length_nil, Nat.reduceLeDiff, Nat.le_refl, and_true, true_and, and_self, decide_true, decide_false, Bool.not_true, Bool.not_false, cell_of_blk h8, callA_fn0 pl91, fa82_2, ld4, ld82, opA_alloc 79 ty79])]
    have E4 : Ext H G4 := k4.two (E12.trans E3) (by omega)
    exact h G4 E4.ko (hR.ext E4)
  | false =>
    simp only [go_sem, reduceCtorEq, Nat.reduceEqDiff, Nat.reduceAdd, withc_some, withcs_some, cells_0, cells_s, Option.bind_some, Option.map_some, List.getElem?_toArray, List.getElem?_cons_zero, List.getElem?_cons_succ, Nat.add_zero, Nat.zero_add, Value.cells, splice, List.setIfInBounds_toArray, List.set_cons_zero, List.set_cons_succ, bfill_nil, bfill_cons, bstep_some, withO_some, List.take_zero, List.take_succ_cons, List.drop_zero, List.drop_succ_cons, List.cons_append, List.nil_append, List.append_nil, List.length_cons, List.length_nil, Nat.reduceLeDiff, Nat.le_refl, and_true, true_and, and_self, decide_true, decide_false, Bool.not_true, Bool.not_false, c86_4, c86_3, r86_3, callA_fn0 pl30, callA_fn0 pl91, fa82_2, ld4, ld82, ld9, len_slice Tryd.underlying24, opA_alloc 79 ty79]
    by_cases h3 : words.length = 3
    · obtain ⟨w0, a, b, rfl⟩ : ∃ w0 a b, words = [w0, a, b] := by
        match words, h3 with
        | [w0, a, b], _ => exact ⟨_, _, _, rfl⟩
      have e3 : decide (([w0, a, b].length : Int) = 3) = true := rfl
      obtain ⟨wb, woff, wc', ew, wv1⟩ := (hw.ext E12).at (i := 1) (w := a) rfl
      cases ew
      obtain ⟨_, _, _, ew, wv2⟩ := (hw.ext E12).at (i := 2) (w := b) rfl
      cases ew
      simp only [List.length_cons, List.length_nil] at e3
      have hab := hwb a (by simp)
      have hbb := hwb b (by simp)
      simp only [go_sem, reduceCtorEq, Nat.reduceEqDiff, Nat.reduceAdd, withc_some, withcs_some, cells_0, cells_s, Option.bind_some, Option.map_some, List.getElem?_toArray, List.getElem?_cons_zero, List.getElem?_cons_succ, Nat.add_zero, Nat.zero_add, Value.cells, splice, List.setIfInBounds_toArray, List.set_cons_zero, List.set_cons_succ, bfill_nil, bfill_cons, bstep_some, withO_some, List.take_zero, List.take_succ_cons, List.drop_zero, List.drop_succ_cons, List.cons_append, List.nil_append, List.append_nil, List.length_cons, List.length_nil, Nat.reduceLeDiff, Nat.le_refl, and_true, true_and, and_self, decide_true, decide_false, Bool.not_true, Bool.not_false, e3, List.length_cons, List.length_nil, callA_fn0 pl30, callA_fn0 pl91, fa82_2, ld4, ld82, ld9, len_slice Tryd.underlying24, opA_alloc 79 ty79]
      rw [iadA_slice uStrs ty9 (by omega) (by simp)]
      simp only [go_sem, reduceCtorEq, Nat.reduceEqDiff, Nat.reduceAdd, withc_some, withcs_some, cells_0, cells_s, Option.bind_some, Option.map_some, List.getElem?_toArray, List.getElem?_cons_zero, List.getElem?_cons_succ, Nat.add_zero, Nat.zero_add, Value.cells, splice, List.setIfInBounds_toArray, List.set_cons_zero, List.set_cons_succ, bfill_nil, bfill_cons, bstep_some, withO_some, List.take_zero, List.take_succ_cons, List.drop_zero, List.drop_succ_cons, List.cons_append, List.nil_append, List.append_nil, List.length_cons, List.length_nil, Nat.reduceLeDiff, Nat.le_refl, and_true, true_and, and_self, decide_true, decide_false, Bool.not_true, Bool.not_false, add_none, show Int.toNat 1 = 1 from rfl, Nat.mul_one, wv1, callA_fn0 pl30, callA_fn0 pl91, fa82_2, ld4, ld82, ld9, len_slice Tryd.underlying24, opA_alloc 79 ty79]
      refine symbol_c a (by omega) (g.ext E12) fun G3 E3 => ?_
      cases hsy : symF a with
      | false =>
        simp only [go_sem, reduceCtorEq, Nat.reduceEqDiff, Nat.reduceAdd, withc_some, withcs_some, cells_0, cells_s, Option.bind_some, Option.map_some, List.getElem?_toArray, List.getElem?_cons_zero, List.getElem?_cons_succ, Nat.add_zero, Nat.zero_add, Value.cells, splice, List.setIfInBounds_toArray, List.set_cons_zero, List.set_cons_succ, bfill_nil, bfill_cons, bstep_some, withO_some, List.take_zero, List.take_succ_cons, List.drop_zero, List.drop_succ_cons, List.cons_append, List.nil_append, List.append_nil, List.length_cons, List.length_nil, Nat.reduceLeDiff, Nat.le_refl, and_true, true_and, and_self, decide_true, decide_false, Bool.not_true, Bool.not_false, c86_2, callA_fn0 pl30, callA_fn0 pl91, fa82_2, ld4, ld82, ld9, len_slice Tryd.underlying24, opA_alloc 79 ty79]
        exact err3 G3 _ _ (by unfold setF; simp [hsy]) E3 (fun F G => by simp only [seqQ_ret, blkE_ret])
      | true =>
        have hs : setF false s k [w0, a, b] = ({ s with syms := (a, b) :: s.syms }, ⟨0, 0, 0⟩) := by unfold setF; simp [hsy]
        rw [hs] at h
        obtain ⟨⟨hR0, ov, cells, hRb, hown, hst⟩, ⟨lsy, hsy1, hsy2, hsy3⟩, hprocs, hbms, hbmp, hne⟩ := id hR
        have E13 := E12.trans E3
        simp only [go_sem, reduceCtorEq, Nat.reduceEqDiff, Nat.reduceAdd, withc_some, withcs_some, cells_0, cells_s, Option.bind_some, Option.map_some, List.getElem?_toArray, List.getElem?_cons_zero, List.getElem?_cons_succ, Nat.add_zero, Nat.zero_add, Value.cells, splice, List.setIfInBounds_toArray, List.set_cons_zero, List.set_cons_succ, bfill_nil, bfill_cons, bstep_some, withO_some, List.take_zero, List.take_succ_cons, List.drop_zero, List.drop_succ_cons, List.cons_append, List.nil_append, List.append_nil, List.length_cons, List.length_nil, Nat.reduceLeDiff, Nat.le_refl, and_true, true_and, and_self, decide_true, decide_false, Bool.not_true, Bool.not_false, c86_2, c86_7, r86_5, cell_of_blk (E13.get hRb), callA_fn0 pl30, callA_fn0 pl91, fa77_0, fa82_2, fq77_0, ld22, ld4, ld82, ld9, len_slice Tryd.underlying24, lq22, lq9, opA_alloc 79 ty79]
        rw [iadQ_slice uStrs ty9 (by omega) (by simp)]
        simp only [go_sem, reduceCtorEq, Nat.reduceEqDiff, Nat.reduceAdd, withc_some, withcs_some, cells_0, cells_s, Option.bind_some, Option.map_some, List.getElem?_toArray, List.getElem?_cons_zero, List.getElem?_cons_succ, Nat.add_zero, Nat.zero_add, Value.cells, splice, List.setIfInBounds_toArray, List.set_cons_zero, List.set_cons_succ, bfill_nil, bfill_cons, bstep_some, withO_some, List.take_zero, List.take_succ_cons, List.drop_zero, List.drop_succ_cons, List.cons_append, List.nil_append, List.append_nil, List.length_cons, List.length_nil, Nat.reduceLeDiff, Nat.le_refl, and_true, true_and, and_self, decide_true, decide_false, Bool.not_true, Bool.not_false, add_none, show Int.toNat 1 = 1 from rfl, Nat.mul_one, cell_ext E3 wv1, callA_fn0 pl30, callA_fn0 pl91, fa77_0, fa82_2, fq77_0, ld22, ld4, ld82, ld9, len_slice Tryd.underlying24, lq22, lq9, opA_alloc 79 ty79]
        rw [iadQ_slice uStrs ty9 (by omega) (by simp)]
        simp only [go_sem, reduceCtorEq, Nat.reduceEqDiff, Nat.reduceAdd, withc_some, withcs_some, cells_0, cells_s, Option.bind_some, Option.map_some, List.getElem?_toArray, List.getElem?_cons_zero, List.getElem?_cons_succ, Nat.add_zero, Nat.zero_add, Value.cells, splice, List.setIfInBounds_toArray, List.set_cons_zero, List.set_cons_succ, bfill_nil, bfill_cons, bstep_some, withO_some, List.take_zero, List.take_succ_cons, List.drop_zero, List.drop_succ_cons, List.cons_append, List.nil_append, List.append_nil, List.length_cons, List.length_nil, Nat.reduceLeDiff, Nat.le_refl, and_true, true_and, and_self, decide_true, decide_false, Bool.not_true, Bool.not_false, add_none, show Int.toNat 2 = 2 from rfl, Nat.mul_one, cell_ext E3 wv2, opA_mapUpdate, callA_fn0 pl30, callA_fn0 pl91, fa77_0, fa82_2, fq77_0, ld22, ld4, ld82, ld9, len_slice Tryd.underlying24, lq22, lq9, opA_alloc 79 ty79]
        refine mupA_ok uMS uStr (MapC.ext hsy1 E13) fun G4 m4 k4 => ?_
        rw [← symV_putS] at m4
        have hsv : SymsV G4 ms ((a, b) :: s.syms) := by
          refine ⟨_, m4, fun x => ?_, fun p hp => ?_⟩
          · rw [lookup_putS, List.lookup_cons]
            by_cases hx : x = a
            · subst hx; simp
            · have : (x == a) = false := by simpa using hx
              rw [this, if_neg hx]
              exact hsy2 x
          · rcases putS_mem hp with rfl | hp
            · exact hbb
            · exact hsy3 p hp
        have hrd4 := (hR.ext E13).setms k4 hsv
        have hfr4 : FrJ B0 (MM ms mp) H G4 := FrJ.mset (H := H) (G := G3) E13.ko hbms (.inl rfl) (MapC.ext hsy1 E13) k4
        have h74 := k4.get (E3.get h7) (by intro e; subst e; obtain ⟨es, clk, q, _⟩ := MapC.ext hsy1 E13; rw [E3.get h7] at q; cases q)
        simp only [go_sem, reduceCtorEq, Nat.reduceEqDiff, Nat.reduceAdd, withc_some, withcs_some, cells_0, cells_s, Option.bind_some, Option.map_some, List.getElem?_toArray, List.getElem?_cons_zero, List.getElem?_cons_succ, Nat.add_zero, Nat.zero_add, Value.cells, splice, List.setIfInBounds_toArray, List.set_cons_zero, List.set_cons_succ, bfill_nil, bfill_cons, bstep_some, withO_some, List.take_zero, List.take_succ_cons, List.drop_zero, List.drop_succ_cons, List.cons_append, List.nil_append, List.append_nil, List.length_cons, List.length_nil, Nat.reduceLeDiff, Nat.le_refl, and_true, true_and, and_self, decide_true, decide_false, Bool.not_true, Bool.not_false, c86_6, r86_6, bl79, callA_fn0 pl30, callA_fn0 pl91, fa77_0, fa82_2, fq77_0, ld22, ld4, ld82, ld9, len_slice Tryd.underlying24, lq22, lq9, opA_alloc 79 ty79]
        refine store_kA h74 ty79 (k := fun G5 h8 k5 s5 => ?_)
        simp only [go_sem, reduceCtorEq, Nat.reduceEqDiff, Nat.reduceAdd, withc_some, withcs_some, cells_0, cells_s, Option.bind_some, Option.map_some, List.getElem?_toArray, List.getElem?_cons_zero, List.getElem?_cons_succ, Nat.add_zero, Nat.zero_add, Value.cells, splice, List.setIfInBounds_toArray, List.set_cons_zero, List.set_cons_succ, bfill_nil, bfill_cons, bstep_some, withO_some, List.take_zero, List.take_succ_cons, List.drop_zero, List.drop_succ_cons, List.cons_append, List.nil_append, List.append_nil, List.length_cons, List.length_nil, Nat.reduceLeDiff, Nat.le_refl, and_true, true_and, and_self, decide_true, decide_false, Bool.not_true, Bool.not_false, resW_cell, bl79, callA_fn0 pl30, callA_fn0 pl91, fa77_0, fa82_2, fq77_0, ld22, ld4, ld82, ld9, len_slice Tryd.underlying24, lq22, lq9, opA_alloc 79 ty79]
        rw [rc79 (l := [.int .i64 0, .int .i64 0]) (by simp only [go_sem, reduceCtorEq, Nat.reduceEqDiff, Nat.reduceAdd, withc_some, withcs_some, cells_0, cells_s, Option.bind_some, Option.map_some, List.getElem?_toArray, List.getElem?_cons_zero, List.getElem?_cons_succ, Nat.add_zero, Nat.zero_add, Value.cells, splice, List.setIfInBounds_toArray, List.set_cons_zero, List.set_cons_succ, bfill_nil, bfill_cons, bstep_some, withO_some, List.take_zero, List.take_succ_cons, List.drop_zero, List.drop_succ_cons, List.cons_append, List.nil_append, List.append_nil, List.length_cons, List.length_nil, Nat.reduceLeDiff, Nat.le_refl, and_true, true_and, and_self, decide_true, decide_false, Bool.not_true, Bool.not_false, cell_of_blk h8, bl79, callA_fn0 pl30, callA_fn0 pl91, fa77_0, fa82_2, fq77_0, ld22, ld4, ld82, ld9, len_slice Tryd.underlying24, lq22, lq9, opA_alloc 79 ty79])]
        exact h G5 (hfr4.new k5 (by omega)) (hrd4.kk (keepK_of h74 k5))
    · have e3 : decide ((words.length : Int) = 3) = false := by rw [decide_eq_false_iff_not]; omega
      simp only [go_sem, reduceCtorEq, Nat.reduceEqDiff, Nat.reduceAdd, withc_some, withcs_some, cells_0, cells_s, Option.bind_some, Option.map_some, List.getElem?_toArray, List.getElem?_cons_zero, List.getElem?_cons_succ, Nat.add_zero, Nat.zero_add, Value.cells, splice, List.setIfInBounds_toArray, List.set_cons_zero, List.set_cons_succ, bfill_nil, bfill_cons, bstep_some, withO_some, List.take_zero, List.take_succ_cons, List.drop_zero, List.drop_succ_cons, List.cons_append, List.nil_append, List.append_nil, List.length_cons, List.length_nil, Nat.reduceLeDiff, Nat.le_refl, and_true, true_and, and_self, decide_true, decide_false, Bool.not_true, Bool.not_false, e3, c86_2, bl79, callA_fn0 pl30, callA_fn0 pl91, fa77_0, fa82_2, fq77_0, ld22, ld4, ld82, ld9, len_slice Tryd.underlying24, lq22, lq9, opA_alloc 79 ty79]
      refine err3 G2 _ _ ?_ (Ext.refl _) (fun F G => by simp only [seqQ_ret, blkE_ret])
      unfold setF
      split
      · exact absurd rfl h3
      · rfl
end Go.Proofs.YtoabcmhiaknjiaaDoor

/- Contracts of jobtext: proc. -/
set_option maxRecDepth 100000
set_option linter.unusedSimpArgs false
set_option linter.unusedVariables false
namespace Go.Proofs.YtoabcmhiaknjiaaDoor
open Go.Hw

theorem uMP : Tryd.prog.underlying 75 = some (.map 9 137) := Tryd.underlying75
theorem All2.snoc {α β : Type} {R : α → β → Prop} {a : α} {b : β} (h : R a b) : ∀ {l : List α} {m : List β}, All2 R l m → All2 R (l ++ [a]) (m ++ [b])
  | _, _, .nil => .cons h .nil
  | _, _, .cons h1 h2 => .cons h1 (h2.snoc h)
theorem procs_lookup {B0 R ms mp : Nat} {H : Hp} (a : List UInt8) : ∀ {procs : List (List UInt8 × Sym × List Row)} {l : List (List UInt8 × Value)}, All2 (PrV B0 R ms mp H) procs l →
    (procs.lookup a = none ∧ l.lookup a = none) ∨ ∃ v rows mv rv, procs.lookup a = some (v, rows) ∧ l.lookup a = some (.agg #[.map (some mv), rv]) ∧ MapC H mv (symV v) ∧ goodS v ∧ mv ≠ ms ∧ mv ≠ mp ∧ (B0 ≤ mv ∧ R < mv) ∧ RowsV H rv rows ∧ (a, v, rows) ∈ procs
  | [], [], .nil => .inl ⟨rfl, rfl⟩
  | p :: ps, x :: xs, .cons h1 h2 => by
    obtain ⟨hx, mv, rv, h3, h4, h5, h6, h7, h8, h9⟩ := h1
    rw [List.lookup_cons, List.lookup_cons, hx]
    cases hk : a == p.1 with
    | true => exact .inr ⟨p.2.1, p.2.2, mv, rv, rfl, by rw [← h3], h4, h5, h6, h7, h8, h9, by rw [eq_of_beq hk]; exact List.mem_cons_self ..⟩
    | false =>
      rcases procs_lookup a h2 with h | ⟨v, rows, mv, rv, g1, g2, g3, g4, g5, g6, g7, g8, g9⟩
      · exact .inl h
      · exact .inr ⟨v, rows, mv, rv, g1, g2, g3, g4, g5, g6, g7, g8, List.mem_cons_of_mem _ g9⟩
theorem putM_new {k : List UInt8} {v : Value} : ∀ {l : List (List UInt8 × Value)}, l.lookup k = none → putM k v l = l ++ [(k, v)]
  | [], _ => rfl
  | q :: r, h => by
    have hq := lookup_none h q (List.mem_cons_self ..)
    unfold putM
    rw [if_neg (fun e => hq e.symm)]
    rw [List.lookup_cons] at h
    have hk' : (k == q.1) = false := by simpa using fun e => hq e.symm
    rw [hk'] at h
    rw [putM_new h]
    rfl
/-- A store into the procedures' map. -/
theorem Rdr.setmp {B0 R ms mp : Nat} {H H' : Hp} {s : RS} {pr : List (List UInt8 × Sym × List Row)} (h : Rdr B0 R ms mp H s) (k : Keep (· = mp) H H') (hp : ProcsV B0 R ms mp H' pr) : Rdr B0 R ms mp H' { s with procs := pr } := by
  obtain ⟨ho, hs, ⟨l, ⟨es, clk, hm, hm2⟩, hf⟩, b1, b2, b3⟩ := h
  exact ⟨ho.keep k hm, hs.turn fun _ hl => MapC.keep hl k b3, hp, b1, b2, b3⟩

set_option maxHeartbeats 2000000 in
theorem proc_c {B0 R ms mp : Nat} {rv wv : Value} {call : List UInt8} {inn : Bool} {k : Nat} {t : List UInt8} {rest : List Row} {words : List (List UInt8)} {s : RS} {H : Hp} {K : Ending → Hp → Prop}
    (hR : Rdr B0 R ms mp H s) (hB : B0 ≤ H.size) (g : G0 H) (hr : RowsV H rv ((k, t) :: rest)) (hl : rest.length ≤ 1000000) (hlt : ∀ x ∈ rest, x.2.length ≤ 1000000) (hw : SlV H wv words) (hwl : words.length ≤ 1000000) (hwb : ∀ w ∈ words, w.length ≤ 1000)
    (h : ∀ G, FrJ B0 (MM ms mp) H G → Rdr B0 R ms mp G (procF inn s k rest words).1 → K (.returned (.tuple #[.int .i64 (procF inn s k rest words).2.n, .agg #[.int .i64 (procF inn s k rest words).2.line, .int .i64 (procF inn s k rest words).2.code]])) G) :
    HCall Tryd.prog 87 #[.pointer (some ⟨R, 0, none⟩), .agg #[rv, .string (B call), .bool inn], wv] H K := by
  refine hcall mixed B87 (args := [.pointer (some ⟨R, 0, none⟩), .agg #[rv, .string (B call), .bool inn], wv]) (by simp) ?_
  obtain ⟨wa, wc, rfl⟩ := SlE.form hw
  simp only [go_sem, reduceCtorEq, Nat.reduceEqDiff, Nat.reduceAdd, withc_some, withcs_some, cells_0, cells_s, Option.bind_some, Option.map_some, List.getElem?_toArray, List.getElem?_cons_zero, List.getElem?_cons_succ, Nat.add_zero, Nat.zero_add, Value.cells, splice, List.setIfInBounds_toArray, List.set_cons_zero, List.set_cons_succ, bfill_nil, bfill_cons, bstep_some, withO_some, List.take_zero, List.take_succ_cons, List.drop_zero, List.drop_succ_cons, List.cons_append, List.nil_append, List.append_nil, List.length_cons, List.length_nil, Nat.reduceLeDiff, Nat.le_refl, and_true, true_and, and_self, decide_true, decide_false, Bool.not_true, Bool.not_false, c87, r87_0, opA_alloc 79 ty79]
  refine box_kA fun b4 G1 e4 s1 h4 E1 => ?_
  simp only [go_sem, reduceCtorEq, Nat.reduceEqDiff, Nat.reduceAdd, withc_some, withcs_some, cells_0, cells_s, Option.bind_some, Option.map_some, List.getElem?_toArray, List.getElem?_cons_zero, List.getElem?_cons_succ, Nat.add_zero, Nat.zero_add, Value.cells, splice, List.setIfInBounds_toArray, List.set_cons_zero, List.set_cons_succ, bfill_nil, bfill_cons, bstep_some, withO_some, List.take_zero, List.take_succ_cons, List.drop_zero, List.drop_succ_cons, List.cons_append, List.nil_append, List.append_nil, List.length_cons, List.length_nil, Nat.reduceLeDiff, Nat.le_refl, and_true, true_and, and_self, decide_true, decide_false, Bool.not_true, Bool.not_false, opA_alloc 79 ty79]
  refine box_kA fun b7 G2 e7 s2 h7 E2 => ?_
  have E12 := E1.trans E2
  have h42 := E2.get h4
  simp only [go_sem, reduceCtorEq, Nat.reduceEqDiff, Nat.reduceAdd, withc_some, withcs_some, cells_0, cells_s, Option.bind_some, Option.map_some, List.getElem?_toArray, List.getElem?_cons_zero, List.getElem?_cons_succ, Nat.add_zero, Nat.zero_add, Value.cells, splice, List.setIfInBounds_toArray, List.set_cons_zero, List.set_cons_succ, bfill_nil, bfill_cons, bstep_some, withO_some, List.take_zero, List.take_succ_cons, List.drop_zero, List.drop_succ_cons, List.cons_append, List.nil_append, List.append_nil, List.length_cons, List.length_nil, Nat.reduceLeDiff, Nat.le_refl, and_true, true_and, and_self, decide_true, decide_false, Bool.not_true, Bool.not_false, c87_27, r87_1, cell_of_blk h42, fa82_2, ld4, opA_alloc 79 ty79]
  -- the end of each error
  have fin : ∀ (G G' : Hp) (e : Int), procF inn s k rest words = (s, ⟨0, k, e⟩) → Ext G2 G → G'[b7]? = some (.cells (#[Value.int .i64 0, .int .i64 0].setIfInBounds 0 (.int .i64 k) |>.setIfInBounds 1 (.int .i64 e)) 79 (0, 0)) → Keep (· = b7) G G' → K (.returned (.tuple #[.int .i64 0, .agg #[.int .i64 k, .int .i64 e]])) G' := by
    intro G G' e hs hE h8 k4
    rw [hs] at h
    have E4 : Ext H G' := k4.two (E12.trans hE) (by omega)
    exact h G' E4.ko (hR.ext E4)
  cases inn with
  | true =>
    have hs : procF true s k rest words = (s, ⟨0, k, 9⟩) := by
      unfold procF
      split <;> rfl
    simp only [go_sem, reduceCtorEq, Nat.reduceEqDiff, Nat.reduceAdd, withc_some, withcs_some, cells_0, cells_s, Option.bind_some, Option.map_some, List.getElem?_toArray, List.getElem?_cons_zero, List.getElem?_cons_succ, Nat.add_zero, Nat.zero_add, Value.cells, splice, List.setIfInBounds_toArray, List.set_cons_zero, List.set_cons_succ, bfill_nil, bfill_cons, bstep_some, withO_some, List.take_zero, List.take_succ_cons, List.drop_zero, List.drop_succ_cons, List.cons_append, List.nil_append, List.append_nil, List.length_cons, List.length_nil, Nat.reduceLeDiff, Nat.le_refl, and_true, true_and, and_self, decide_true, decide_false, Bool.not_true, Bool.not_false, c87_1, c87_0, r87_2, cell_of_blk h42, callA_fn0 pl91, fa82_2, ld4, ld82, opA_alloc 79 ty79]
    refine at_c (hr.ext E12) fun G3 E3 => ?_
    simp only [go_sem, reduceCtorEq, Nat.reduceEqDiff, Nat.reduceAdd, withc_some, withcs_some, cells_0, cells_s, Option.bind_some, Option.map_some, List.getElem?_toArray, List.getElem?_cons_zero, List.getElem?_cons_succ, Nat.add_zero, Nat.zero_add, Value.cells, splice, List.setIfInBounds_toArray, List.set_cons_zero, List.set_cons_succ, bfill_nil, bfill_cons, bstep_some, withO_some, List.take_zero, List.take_succ_cons, List.drop_zero, List.drop_succ_cons, List.cons_append, List.nil_append, List.append_nil, List.length_cons, List.length_nil, Nat.reduceLeDiff, Nat.le_refl, and_true, true_and, and_self, decide_true, decide_false, Bool.not_true, Bool.not_false, callA_fn0 pl91, fa82_2, ld4, ld82, opA_alloc 79 ty79]
    refine store_kA (E3.get h7) ty79 (k := fun G4 h8 k4 s4 => ?_)
    simp only [go_sem, reduceCtorEq, Nat.reduceEqDiff, Nat.reduceAdd, withc_some, withcs_some, cells_0, cells_s, Option.bind_some, Option.map_some, List.getElem?_toArray, List.getElem?_cons_zero, List.getElem?_cons_succ, Nat.add_zero, Nat.zero_add, Value.cells, splice, List.setIfInBounds_toArray, List.set_cons_zero, List.set_cons_succ, bfill_nil, bfill_cons, bstep_some, withO_some, List.take_zero, List.take_succ_cons, List.drop_zero, List.drop_succ_cons, List.cons_append, List.nil_append, List.append_nil, List.length_cons, List.length_nil, Nat.reduceLeDiff, Nat.le_refl, and_true, true_and, and_self, decide_true, decide_false, Bool.not_true, Bool.not_false, resW_cell, callA_fn0 pl91, fa82_2, ld4, ld82, opA_alloc 79 ty79]
    rw [rc79 (l := [.int .i64 k, .int .i64 9]) (by simp only [go_sem, reduceCtorEq, Nat.reduceEqDiff, Nat.reduceAdd, withc_some, withcs_some, cells_0, cells_s, Option.bind_some, Option.map_some, List.getElem?_toArray, List.getElem?_cons_zero, List.getElem?_cons_succ, Nat.add_zero, Nat.zero_add, Value.cells, splice, List.setIfInBounds_toArray, List.set_cons_zero, List.set_cons_succ, bfill_nil, bfill_cons, bstep_some, withO_some, List.take_zero, List.take_succ_cons, List.drop_zero, List.drop_succ_cons, List.cons_append, List.nil_append, List.append_nil, List.length_cons, List.length_nil, Nat.reduceLeDiff, Nat.le_refl, and_true, true_and, and_self, decide_true, decide_false, Bool.not_true, Bool.not_false, cell_of_blk h8, callA_fn0 pl91, fa82_2, ld4, ld82, opA_alloc 79 ty79])]
    exact fin G3 G4 9 hs E3 h8 k4
  | false =>
    have err3 : ∀ (G : Hp) (Q : E → Fr → Hp → Prop) (F0 : Fr), procF false s k rest words = (s, ⟨0, k, 3⟩) → Ext G2 G → (∀ F G, Q .ret F G = retK Tryd.prog [.tmp 6, .cell 7 79] K .ret F G) → aw Tryd.prog 104 c87_2 Q ((0, .pointer (some ⟨R, 0, none⟩)) :: (2, .slice wa words.length wc) :: (4, .pointer (some ⟨b4, 0, none⟩)) :: (7, .pointer (some ⟨b7, 0, none⟩)) :: F0) G := by
      intro G Q F0 hs hE hQ
      simp only [go_sem, reduceCtorEq, Nat.reduceEqDiff, Nat.reduceAdd, withc_some, withcs_some, cells_0, cells_s, Option.bind_some, Option.map_some, List.getElem?_toArray, List.getElem?_cons_zero, List.getElem?_cons_succ, Nat.add_zero, Nat.zero_add, Value.cells, splice, List.setIfInBounds_toArray, List.set_cons_zero, List.set_cons_succ, bfill_nil, bfill_cons, bstep_some, withO_some, List.take_zero, List.take_succ_cons, List.drop_zero, List.drop_succ_cons, List.cons_append, List.nil_append, List.append_nil, List.length_cons, List.length_nil, Nat.reduceLeDiff, Nat.le_refl, and_true, true_and, and_self, decide_true, decide_false, Bool.not_true, Bool.not_false, c87_2, r87_4, cell_of_blk (hE.get h42), callA_fn0 pl91, fa82_2, ld4, ld82, opA_alloc 79 ty79]
      refine at_c (hr.ext (E12.trans hE)) fun G3 E3 => ?_
      simp only [go_sem, reduceCtorEq, Nat.reduceEqDiff, Nat.reduceAdd, withc_some, withcs_some, cells_0, cells_s, Option.bind_some, Option.map_some, List.getElem?_toArray, List.getElem?_cons_zero, List.getElem?_cons_succ, Nat.add_zero, Nat.zero_add, Value.cells, splice, List.setIfInBounds_toArray, List.set_cons_zero, List.set_cons_succ, bfill_nil, bfill_cons, bstep_some, withO_some, List.take_zero, List.take_succ_cons, List.drop_zero, List.drop_succ_cons, List.cons_append, List.nil_append, List.append_nil, List.length_cons, List.length_nil, Nat.reduceLeDiff, Nat.le_refl, and_true, true_and, and_self, decide_true, decide_false, Bool.not_true, Bool.not_false, callA_fn0 pl91, fa82_2, ld4, ld82, opA_alloc 79 ty79]
      refine store_kA ((hE.trans E3).get h7) ty79 (k := fun G4 h8 k4 s4 => ?_)
      simp only [go_sem, reduceCtorEq, Nat.reduceEqDiff, Nat.reduceAdd, withc_some, withcs_some, cells_0, cells_s, Option.bind_some, Option.map_some, List.getElem?_toArray, List.getElem?_cons_zero, List.getElem?_cons_succ, Nat.add_zero, Nat.zero_add, Value.cells, splice, List.setIfInBounds_toArray, List.set_cons_zero, List.set_cons_succ, bfill_nil, bfill_cons, bstep_some, withO_some, List.take_zero, List.take_succ_cons, List.drop_zero, List.drop_succ_cons, List.cons_append, List.nil_append, List.append_nil, List.length_cons, List.length_nil, Nat.reduceLeDiff, Nat.le_refl, and_true, true_and, and_self, decide_true, decide_false, Bool.not_true, Bool.not_false, hQ, resW_cell, callA_fn0 pl91, fa82_2, ld4, ld82, opA_alloc 79 ty79]
      rw [rc79 (l := [.int .i64 k, .int .i64 3]) (by simp only [go_sem, reduceCtorEq, Nat.reduceEqDiff, Nat.reduceAdd, withc_some, withcs_some, cells_0, cells_s, Option.bind_some, Option.map_some, List.getElem?_toArray, List.getElem?_cons_zero, List.getElem?_cons_succ, Nat.add_zero, Nat.zero_add, Value.cells, splice, List.setIfInBounds_toArray, List.set_cons_zero, List.set_cons_succ, bfill_nil, bfill_cons, bstep_some, withO_some, List.take_zero, List.take_succ_cons, List.drop_zero, List.drop_succ_cons, List.cons_append, List.nil_append, List.append_nil, List.length_cons, List.length_nil, Nat.reduceLeDiff, Nat.le_refl, and_true, true_and, and_self, decide_true, decide_false, Bool.not_true, Bool.not_false, cell_of_blk h8, callA_fn0 pl91, fa82_2, ld4, ld82, opA_alloc 79 ty79])]
      exact fin G3 G4 3 hs (hE.trans E3) h8 k4
    simp only [go_sem, reduceCtorEq, Nat.reduceEqDiff, Nat.reduceAdd, withc_some, withcs_some, cells_0, cells_s, Option.bind_some, Option.map_some, List.getElem?_toArray, List.getElem?_cons_zero, List.getElem?_cons_succ, Nat.add_zero, Nat.zero_add, Value.cells, splice, List.setIfInBounds_toArray, List.set_cons_zero, List.set_cons_succ, bfill_nil, bfill_cons, bstep_some, withO_some, List.take_zero, List.take_succ_cons, List.drop_zero, List.drop_succ_cons, List.cons_append, List.nil_append, List.append_nil, List.length_cons, List.length_nil, Nat.reduceLeDiff, Nat.le_refl, and_true, true_and, and_self, decide_true, decide_false, Bool.not_true, Bool.not_false, c87_1, c87_26, r87_3, callA_fn0 pl30, callA_fn0 pl91, fa82_2, ld4, ld82, ld9, len_slice Tryd.underlying24, opA_alloc 79 ty79]
    by_cases h2 : words.length < 2
    · have e1 : decide ((words.length : Int) < 2) = true := by rw [decide_eq_true_eq]; omega
      simp only [go_sem, reduceCtorEq, Nat.reduceEqDiff, Nat.reduceAdd, withc_some, withcs_some, cells_0, cells_s, Option.bind_some, Option.map_some, List.getElem?_toArray, List.getElem?_cons_zero, List.getElem?_cons_succ, Nat.add_zero, Nat.zero_add, Value.cells, splice, List.setIfInBounds_toArray, List.set_cons_zero, List.set_cons_succ, bfill_nil, bfill_cons, bstep_some, withO_some, List.take_zero, List.take_succ_cons, List.drop_zero, List.drop_succ_cons, List.cons_append, List.nil_append, List.append_nil, List.length_cons, List.length_nil, Nat.reduceLeDiff, Nat.le_refl, and_true, true_and, and_self, decide_true, decide_false, Bool.not_true, Bool.not_false, e1, c87_3, callA_fn0 pl30, callA_fn0 pl91, fa82_2, ld4, ld82, ld9, len_slice Tryd.underlying24, opA_alloc 79 ty79]
      refine err3 G2 _ _ ?_ (Ext.refl _) (fun F G => by simp only [seqQ_ret])
      match words, h2 with
      | [], _ => rfl
      | [_], _ => rfl
    · have e1 : decide ((words.length : Int) < 2) = false := by rw [decide_eq_false_iff_not]; omega
      obtain ⟨w0, a, ws, rfl⟩ : ∃ w0 a ws, words = w0 :: a :: ws := by
        match words, h2 with
        | w0 :: a :: ws, _ => exact ⟨_, _, _, rfl⟩
        | [], h => exact absurd (by simp) h
        | [_], h => exact absurd (by simp) h
      obtain ⟨wb, woff, wc', ew, wv1⟩ := (hw.ext E12).at (i := 1) (w := a) rfl
      cases ew
      have hab := hwb a (by simp)
      simp only [List.length_cons] at e1 hwl
      simp only [go_sem, reduceCtorEq, Nat.reduceEqDiff, Nat.reduceAdd, withc_some, withcs_some, cells_0, cells_s, Option.bind_some, Option.map_some, List.getElem?_toArray, List.getElem?_cons_zero, List.getElem?_cons_succ, Nat.add_zero, Nat.zero_add, Value.cells, splice, List.setIfInBounds_toArray, List.set_cons_zero, List.set_cons_succ, bfill_nil, bfill_cons, bstep_some, withO_some, List.take_zero, List.take_succ_cons, List.drop_zero, List.drop_succ_cons, List.cons_append, List.nil_append, List.append_nil, List.length_cons, List.length_nil, Nat.reduceLeDiff, Nat.le_refl, and_true, true_and, and_self, decide_true, decide_false, Bool.not_true, Bool.not_false, e1, callA_fn0 pl30, callA_fn0 pl91, fa82_2, ld4, ld82, ld9, len_slice Tryd.underlying24, opA_alloc 79 ty79]
      rw [iadA_slice uStrs ty9 (by omega) (by simp; omega)]
      simp only [go_sem, reduceCtorEq, Nat.reduceEqDiff, Nat.reduceAdd, withc_some, withcs_some, cells_0, cells_s, Option.bind_some, Option.map_some, List.getElem?_toArray, List.getElem?_cons_zero, List.getElem?_cons_succ, Nat.add_zero, Nat.zero_add, Value.cells, splice, List.setIfInBounds_toArray, List.set_cons_zero, List.set_cons_succ, bfill_nil, bfill_cons, bstep_some, withO_some, List.take_zero, List.take_succ_cons, List.drop_zero, List.drop_succ_cons, List.cons_append, List.nil_append, List.append_nil, List.length_cons, List.length_nil, Nat.reduceLeDiff, Nat.le_refl, and_true, true_and, and_self, decide_true, decide_false, Bool.not_true, Bool.not_false, add_none, show Int.toNat 1 = 1 from rfl, Nat.mul_one, wv1, callA_fn0 pl30, callA_fn0 pl91, fa82_2, ld4, ld82, ld9, len_slice Tryd.underlying24, opA_alloc 79 ty79]
      refine symbol_c a (by omega) (g.ext E12) fun G3 E3 => ?_
      cases hsy : symF a with
      | false =>
        simp only [go_sem, reduceCtorEq, Nat.reduceEqDiff, Nat.reduceAdd, withc_some, withcs_some, cells_0, cells_s, Option.bind_some, Option.map_some, List.getElem?_toArray, List.getElem?_cons_zero, List.getElem?_cons_succ, Nat.add_zero, Nat.zero_add, Value.cells, splice, List.setIfInBounds_toArray, List.set_cons_zero, List.set_cons_succ, bfill_nil, bfill_cons, bstep_some, withO_some, List.take_zero, List.take_succ_cons, List.drop_zero, List.drop_succ_cons, List.cons_append, List.nil_append, List.append_nil, List.length_cons, List.length_nil, Nat.reduceLeDiff, Nat.le_refl, and_true, true_and, and_self, decide_true, decide_false, Bool.not_true, Bool.not_false, c87_3, callA_fn0 pl30, callA_fn0 pl91, fa82_2, ld4, ld82, ld9, len_slice Tryd.underlying24, opA_alloc 79 ty79]
        exact err3 G3 _ _ (by unfold procF; simp [hsy]) E3 (fun F G => by simp only [seqQ_ret])
      | true =>
        have E13 := E12.trans E3
        have hcap : ws.length + 1 + 1 ≤ wc := by
          rcases SlE.part (lo := 0) (hi := 0) hw (Nat.le_refl _) (Nat.zero_le _) with h1 | h1
          · simpa using h1
          · simp at h1
        have hws : SlV G3 (.slice (subAddr (some ⟨wb, woff, none⟩) 1 2 wc) (ws.length + 1 + 1 - 2) (wc - 2)) ws := by
          have h1 := SlE.drop (lo := 2) (SlE.ext hw E13) (by simp)
          have e : (strs (w0 :: a :: ws)).drop (2 * 1) = strs ws := by simp [strs]
          rw [e] at h1
          show SlE 9 1 G3 (.slice (subAddr (some ⟨wb, woff, none⟩) 1 2 wc) ws.length (wc - 2)) ws.length (strs ws)
          simpa using h1
        simp only [go_sem, reduceCtorEq, Nat.reduceEqDiff, Nat.reduceAdd, withc_some, withcs_some, cells_0, cells_s, Option.bind_some, Option.map_some, List.getElem?_toArray, List.getElem?_cons_zero, List.getElem?_cons_succ, Nat.add_zero, Nat.zero_add, Value.cells, splice, List.setIfInBounds_toArray, List.set_cons_zero, List.set_cons_succ, bfill_nil, bfill_cons, bstep_some, withO_some, List.take_zero, List.take_succ_cons, List.drop_zero, List.drop_succ_cons, List.cons_append, List.nil_append, List.append_nil, List.length_cons, List.length_nil, Nat.reduceLeDiff, Nat.le_refl, and_true, true_and, and_self, decide_true, decide_false, Bool.not_true, Bool.not_false, c87_3, c87_25, r87_5, callA_fn0 pl30, callA_fn0 pl91, callA_fn0 pl98, fa82_2, ld4, ld82, ld9, len_slice Tryd.underlying24, opA_alloc 79 ty79]
        rw [sliA_slice uStrs ty9 (lit_bound 2 2) (.no _) (by omega) hcap]
        simp only [go_sem, reduceCtorEq, Nat.reduceEqDiff, Nat.reduceAdd, withc_some, withcs_some, cells_0, cells_s, Option.bind_some, Option.map_some, List.getElem?_toArray, List.getElem?_cons_zero, List.getElem?_cons_succ, Nat.add_zero, Nat.zero_add, Value.cells, splice, List.setIfInBounds_toArray, List.set_cons_zero, List.set_cons_succ, bfill_nil, bfill_cons, bstep_some, withO_some, List.take_zero, List.take_succ_cons, List.drop_zero, List.drop_succ_cons, List.cons_append, List.nil_append, List.append_nil, List.length_cons, List.length_nil, Nat.reduceLeDiff, Nat.le_refl, and_true, true_and, and_self, decide_true, decide_false, Bool.not_true, Bool.not_false, callA_fn0 pl30, callA_fn0 pl91, callA_fn0 pl98, fa82_2, ld4, ld82, ld9, len_slice Tryd.underlying24, opA_alloc 79 ty79]
        refine values_c (g.ext E13) hws (fun w hw' => hwb w (by simp [hw'])) (by omega) ?_ ?_
        · intro hv G4 E4
          have E24 := E3.trans E4
          simp only [go_sem, reduceCtorEq, Nat.reduceEqDiff, Nat.reduceAdd, withc_some, withcs_some, cells_0, cells_s, Option.bind_some, Option.map_some, List.getElem?_toArray, List.getElem?_cons_zero, List.getElem?_cons_succ, Nat.add_zero, Nat.zero_add, Value.cells, splice, List.setIfInBounds_toArray, List.set_cons_zero, List.set_cons_succ, bfill_nil, bfill_cons, bstep_some, withO_some, List.take_zero, List.take_succ_cons, List.drop_zero, List.drop_succ_cons, List.cons_append, List.nil_append, List.append_nil, List.length_cons, List.length_nil, Nat.reduceLeDiff, Nat.le_refl, and_true, true_and, and_self, decide_true, decide_false, Bool.not_true, Bool.not_false, c87_24, r87_6, c87_5, c87_4, r87_7, cell_of_blk (E24.get h42), callA_fn0 pl30, callA_fn0 pl91, callA_fn0 pl98, fa82_2, ld4, ld82, ld9, len_slice Tryd.underlying24, opA_alloc 79 ty79]
          refine at_c (hr.ext (E12.trans E24)) fun G5 E5 => ?_
          simp only [go_sem, reduceCtorEq, Nat.reduceEqDiff, Nat.reduceAdd, withc_some, withcs_some, cells_0, cells_s, Option.bind_some, Option.map_some, List.getElem?_toArray, List.getElem?_cons_zero, List.getElem?_cons_succ, Nat.add_zero, Nat.zero_add, Value.cells, splice, List.setIfInBounds_toArray, List.set_cons_zero, List.set_cons_succ, bfill_nil, bfill_cons, bstep_some, withO_some, List.take_zero, List.take_succ_cons, List.drop_zero, List.drop_succ_cons, List.cons_append, List.nil_append, List.append_nil, List.length_cons, List.length_nil, Nat.reduceLeDiff, Nat.le_refl, and_true, true_and, and_self, decide_true, decide_false, Bool.not_true, Bool.not_false, callA_fn0 pl30, callA_fn0 pl91, callA_fn0 pl98, fa82_2, ld4, ld82, ld9, len_slice Tryd.underlying24, opA_alloc 79 ty79]
          refine store_kA ((E24.trans E5).get h7) ty79 (k := fun G6 h8 k4 s4 => ?_)
          simp only [go_sem, reduceCtorEq, Nat.reduceEqDiff, Nat.reduceAdd, withc_some, withcs_some, cells_0, cells_s, Option.bind_some, Option.map_some, List.getElem?_toArray, List.getElem?_cons_zero, List.getElem?_cons_succ, Nat.add_zero, Nat.zero_add, Value.cells, splice, List.setIfInBounds_toArray, List.set_cons_zero, List.set_cons_succ, bfill_nil, bfill_cons, bstep_some, withO_some, List.take_zero, List.take_succ_cons, List.drop_zero, List.drop_succ_cons, List.cons_append, List.nil_append, List.append_nil, List.length_cons, List.length_nil, Nat.reduceLeDiff, Nat.le_refl, and_true, true_and, and_self, decide_true, decide_false, Bool.not_true, Bool.not_false, resW_cell, callA_fn0 pl30, callA_fn0 pl91, callA_fn0 pl98, fa82_2, ld4, ld82, ld9, len_slice Tryd.underlying24, opA_alloc 79 ty79]
          rw [rc79 (l := [.int .i64 k, .int .i64 3]) (by simp only [go_sem, reduceCtorEq, Nat.reduceEqDiff, Nat.reduceAdd, withc_some, withcs_some, cells_0, cells_s, Option.bind_some, Option.map_some, List.getElem?_toArray, List.getElem?_cons_zero, List.getElem?_cons_succ, Nat.add_zero, Nat.zero_add, Value.cells, splice, List.setIfInBounds_toArray, List.set_cons_zero, List.set_cons_succ, bfill_nil, bfill_cons, bstep_some, withO_some, List.take_zero, List.take_succ_cons, List.drop_zero, List.drop_succ_cons, List.cons_append, List.nil_append, List.append_nil, List.length_cons, List.length_nil, Nat.reduceLeDiff, Nat.le_refl, and_true, true_and, and_self, decide_true, decide_false, Bool.not_true, Bool.not_false, cell_of_blk h8, callA_fn0 pl30, callA_fn0 pl91, callA_fn0 pl98, fa82_2, ld4, ld82, ld9, len_slice Tryd.underlying24, opA_alloc 79 ty79])]
          exact fin G5 G6 3 (by unfold procF; simp [hsy, hv]) (E24.trans E5) h8 k4
        · intro v hv G4 r hrH E4 hm
          have E24 := E3.trans E4
          have E14 := E12.trans E24
          obtain ⟨⟨hR0, ov, cells, hRb, hown, hst⟩, hsyms, ⟨pl, hpl, hall⟩, hbms, hbmp, hne⟩ := hR.ext E14
          simp only [go_sem, reduceCtorEq, Nat.reduceEqDiff, Nat.reduceAdd, withc_some, withcs_some, cells_0, cells_s, Option.bind_some, Option.map_some, List.getElem?_toArray, List.getElem?_cons_zero, List.getElem?_cons_succ, Nat.add_zero, Nat.zero_add, Value.cells, splice, List.setIfInBounds_toArray, List.set_cons_zero, List.set_cons_succ, bfill_nil, bfill_cons, bstep_some, withO_some, List.take_zero, List.take_succ_cons, List.drop_zero, List.drop_succ_cons, List.cons_append, List.nil_append, List.append_nil, List.length_cons, List.length_nil, Nat.reduceLeDiff, Nat.le_refl, and_true, true_and, and_self, decide_true, decide_false, Bool.not_true, Bool.not_false, c87_24, r87_6, c87_5, c87_23, r87_8, cell_of_blk hRb, callA_fn0 pl30, callA_fn0 pl91, callA_fn0 pl98, fa77_1, fa82_2, fq77_1, ld4, ld75, ld82, ld9, len_slice Tryd.underlying24, lq75, lq9, opA_alloc 137 ty137, opA_alloc 79 ty79]
          rw [iadQ_slice uStrs ty9 (by omega) (by simp; omega)]
          simp only [go_sem, reduceCtorEq, Nat.reduceEqDiff, Nat.reduceAdd, withc_some, withcs_some, cells_0, cells_s, Option.bind_some, Option.map_some, List.getElem?_toArray, List.getElem?_cons_zero, List.getElem?_cons_succ, Nat.add_zero, Nat.zero_add, Value.cells, splice, List.setIfInBounds_toArray, List.set_cons_zero, List.set_cons_succ, bfill_nil, bfill_cons, bstep_some, withO_some, List.take_zero, List.take_succ_cons, List.drop_zero, List.drop_succ_cons, List.cons_append, List.nil_append, List.append_nil, List.length_cons, List.length_nil, Nat.reduceLeDiff, Nat.le_refl, and_true, true_and, and_self, decide_true, decide_false, Bool.not_true, Bool.not_false, add_none, show Int.toNat 1 = 1 from rfl, Nat.mul_one, cell_ext E24 wv1, qA_lookup, callA_fn0 pl30, callA_fn0 pl91, callA_fn0 pl98, fa77_1, fa82_2, fq77_1, ld4, ld75, ld82, ld9, len_slice Tryd.underlying24, lq75, lq9, opA_alloc 137 ty137, opA_alloc 79 ty79]
          rw [lkpQ_ok uMP uStr ty137 hpl.o]
          simp only [go_sem, reduceCtorEq, Nat.reduceEqDiff, Nat.reduceAdd, withc_some, withcs_some, cells_0, cells_s, Option.bind_some, Option.map_some, List.getElem?_toArray, List.getElem?_cons_zero, List.getElem?_cons_succ, Nat.add_zero, Nat.zero_add, Value.cells, splice, List.setIfInBounds_toArray, List.set_cons_zero, List.set_cons_succ, bfill_nil, bfill_cons, bstep_some, withO_some, List.take_zero, List.take_succ_cons, List.drop_zero, List.drop_succ_cons, List.cons_append, List.nil_append, List.append_nil, List.length_cons, List.length_nil, Nat.reduceLeDiff, Nat.le_refl, and_true, true_and, and_self, decide_true, decide_false, Bool.not_true, Bool.not_false, callA_fn0 pl30, callA_fn0 pl91, callA_fn0 pl98, fa77_1, fa82_2, fq77_1, ld4, ld75, ld82, ld9, len_slice Tryd.underlying24, lq75, lq9, opA_alloc 137 ty137, opA_alloc 79 ty79]
          rcases procs_lookup a hall with ⟨p1, p2⟩ | ⟨v', rows', mv, rv', p1, p2, _⟩
          · rw [p2]
            simp only [go_sem, reduceCtorEq, Nat.reduceEqDiff, Nat.reduceAdd, withc_some, withcs_some, cells_0, cells_s, Option.bind_some, Option.map_some, List.getElem?_toArray, List.getElem?_cons_zero, List.getElem?_cons_succ, Nat.add_zero, Nat.zero_add, Value.cells, splice, List.setIfInBounds_toArray, List.set_cons_zero, List.set_cons_succ, bfill_nil, bfill_cons, bstep_some, withO_some, List.take_zero, List.take_succ_cons, List.drop_zero, List.drop_succ_cons, List.cons_append, List.nil_append, List.append_nil, List.length_cons, List.length_nil, Nat.reduceLeDiff, Nat.le_refl, and_true, true_and, and_self, decide_true, decide_false, Bool.not_true, Bool.not_false, Option.getD_none, Option.isSome_none, callA_fn0 pl30, callA_fn0 pl91, callA_fn0 pl98, fa77_1, fa82_2, fq77_1, ld4, ld75, ld82, ld9, len_slice Tryd.underlying24, lq75, lq9, opA_alloc 137 ty137, opA_alloc 79 ty79]
            refine box_kA fun b10 G5 e10 s10 h10 E5 => ?_
            simp only [go_sem, reduceCtorEq, Nat.reduceEqDiff, Nat.reduceAdd, withc_some, withcs_some, cells_0, cells_s, Option.bind_some, Option.map_some, List.getElem?_toArray, List.getElem?_cons_zero, List.getElem?_cons_succ, Nat.add_zero, Nat.zero_add, Value.cells, splice, List.setIfInBounds_toArray, List.set_cons_zero, List.set_cons_succ, bfill_nil, bfill_cons, bstep_some, withO_some, List.take_zero, List.take_succ_cons, List.drop_zero, List.drop_succ_cons, List.cons_append, List.nil_append, List.append_nil, List.length_cons, List.length_nil, Nat.reduceLeDiff, Nat.le_refl, and_true, true_and, and_self, decide_true, decide_false, Bool.not_true, Bool.not_false, callA_fn0 pl30, callA_fn0 pl91, callA_fn0 pl98, fa77_1, fa82_2, fq77_1, ld4, ld75, ld82, ld9, len_slice Tryd.underlying24, lq75, lq9, opA_alloc 137 ty137, opA_alloc 79 ty79]
            refine ⟨E5, ?_⟩
            refine store_kA h10 ty137 (k := fun G6 h11 k6 s6 => ?_)
            have E6 : Ext G4 G6 := k6.two E5 (by omega)
            have E26 := E24.trans E6
            have hrv := hr.ext (E12.trans E26)
            obtain ⟨ra, rc, rfl⟩ := SlE.form hrv
            obtain ⟨hn, hnc, ht⟩ := hrv.tail
            generalize hnn : ((k, t) :: rest).length = n at *
            subst hn
            simp only [go_sem, reduceCtorEq, Nat.reduceEqDiff, Nat.reduceAdd, withc_some, withcs_some, cells_0, cells_s, Option.bind_some, Option.map_some, List.getElem?_toArray, List.getElem?_cons_zero, List.getElem?_cons_succ, Nat.add_zero, Nat.zero_add, Value.cells, splice, List.setIfInBounds_toArray, List.set_cons_zero, List.set_cons_succ, bfill_nil, bfill_cons, bstep_some, withO_some, List.take_zero, List.take_succ_cons, List.drop_zero, List.drop_succ_cons, List.cons_append, List.nil_append, List.append_nil, List.length_cons, List.length_nil, Nat.reduceLeDiff, Nat.le_refl, and_true, true_and, and_self, decide_true, decide_false, Bool.not_true, Bool.not_false, c87_8, r87_9, c87_7, c87_22, r87_11, cell_of_blk (E26.get h42), callA_fn0 pl30, callA_fn0 pl91, callA_fn0 pl98, fa77_1, fa82_0, fa82_2, fq77_1, ld4, ld68, ld75, ld82, ld9, len_slice Tryd.underlying24, len_slice Tryd.underlying68, lq75, lq9, opA_alloc 137 ty137, opA_alloc 79 ty79]
            rw [sliA_slice uRows ty73 (l := 1) (r := rest.length + 1) (lit_bound 1 1) (.no _) (by omega) hnc]
            simp only [go_sem, reduceCtorEq, Nat.reduceEqDiff, Nat.reduceAdd, withc_some, withcs_some, cells_0, cells_s, Option.bind_some, Option.map_some, List.getElem?_toArray, List.getElem?_cons_zero, List.getElem?_cons_succ, Nat.add_zero, Nat.zero_add, Value.cells, splice, List.setIfInBounds_toArray, List.set_cons_zero, List.set_cons_succ, bfill_nil, bfill_cons, bstep_some, withO_some, List.take_zero, List.take_succ_cons, List.drop_zero, List.drop_succ_cons, List.cons_append, List.nil_append, List.append_nil, List.length_cons, List.length_nil, Nat.reduceLeDiff, Nat.le_refl, and_true, true_and, and_self, decide_true, decide_false, Bool.not_true, Bool.not_false, c87_20, callA_fn0 pl30, callA_fn0 pl91, callA_fn0 pl98, fa77_1, fa82_0, fa82_2, fq77_1, ld4, ld68, ld75, ld82, ld9, len_slice Tryd.underlying24, len_slice Tryd.underlying68, lq75, lq9, opA_alloc 137 ty137, opA_alloc 79 ty79]
            simp only [Nat.add_sub_cancel] at ht ⊢
            refine aw_while (L := c87_19) rfl (fun m F G => ∃ i : Nat, m = rest.length - i ∧ F = [(0, .pointer (some ⟨R, 0, none⟩)), (2, .slice (some ⟨wb, woff, none⟩) (ws.length + 1 + 1) wc), (4, .pointer (some ⟨b4, 0, none⟩)), (7, .pointer (some ⟨b7, 0, none⟩)), (8, .map (some r)), (58, .slice (subAddr ra 2 1 rc) rest.length (rc - 1)), (59, .int .i64 rest.length), (60, .int .i64 i)] ∧ Ext G6 G ∧ i ≤ rest.length ∧ endAt rest = (endAt (rest.drop i)).map (· + i)) (m := rest.length)
              ⟨0, rfl, rfl, Ext.refl _, Nat.zero_le _, by simp⟩ ?_
            rintro m F G ih ⟨i, rfl, rfl, hE, hi, hq⟩
            have E2G := E26.trans hE
            have EHG := E12.trans E2G
            by_cases hlt2 : i < rest.length
            · obtain ⟨⟨m, x⟩, hx⟩ : ∃ y, rest[i]? = some y := ⟨rest[i], List.getElem?_eq_getElem hlt2⟩
              have hxl : x.length ≤ 1000000 := hlt (m, x) (List.mem_of_getElem? hx)
              obtain ⟨rb, roff, rc', er, r0, r1⟩ := (ht.ext hE).atI hx
              rw [drop_some hx] at hq
              simp only [go_sem, reduceCtorEq, Nat.reduceEqDiff, Nat.reduceAdd, withc_some, withcs_some, cells_0, cells_s, Option.bind_some, Option.map_some, List.getElem?_toArray, List.getElem?_cons_zero, List.getElem?_cons_succ, Nat.add_zero, Nat.zero_add, Value.cells, splice, List.setIfInBounds_toArray, List.set_cons_zero, List.set_cons_succ, bfill_nil, bfill_cons, bstep_some, withO_some, List.take_zero, List.take_succ_cons, List.drop_zero, List.drop_succ_cons, List.cons_append, List.nil_append, List.append_nil, List.length_cons, List.length_nil, Nat.reduceLeDiff, Nat.le_refl, and_true, true_and, and_self, decide_true, decide_false, Bool.not_true, Bool.not_false, c87_18, c87_17, r87_12, dlt hlt2, c87_16, c87_15, c87_14, r87_13, callA_fn0 pl30, callA_fn0 pl91, callA_fn0 pl98, fa77_1, fa82_0, fa82_2, fq77_1, ld4, ld68, ld73, ld75, ld82, ld9, len_slice Tryd.underlying24, len_slice Tryd.underlying68, lq75, lq9, opA_alloc 137 ty137, opA_alloc 73 ty73, opA_alloc 79 ty79]
              rw [er, iadA_slice uRows ty73 (by omega) (by omega), Int.toNat_natCast]
              simp only [go_sem, reduceCtorEq, Nat.reduceEqDiff, Nat.reduceAdd, withc_some, withcs_some, cells_0, cells_s, Option.bind_some, Option.map_some, List.getElem?_toArray, List.getElem?_cons_zero, List.getElem?_cons_succ, Nat.add_zero, Nat.zero_add, Value.cells, splice, List.setIfInBounds_toArray, List.set_cons_zero, List.set_cons_succ, bfill_nil, bfill_cons, bstep_some, withO_some, List.take_zero, List.take_succ_cons, List.drop_zero, List.drop_succ_cons, List.cons_append, List.nil_append, List.append_nil, List.length_cons, List.length_nil, Nat.reduceLeDiff, Nat.le_refl, and_true, true_and, and_self, decide_true, decide_false, Bool.not_true, Bool.not_false, add_none, r0, r1, callA_fn0 pl30, callA_fn0 pl91, callA_fn0 pl98, fa77_1, fa82_0, fa82_2, fq77_1, ld4, ld68, ld73, ld75, ld82, ld9, len_slice Tryd.underlying24, len_slice Tryd.underlying68, lq75, lq9, opA_alloc 137 ty137, opA_alloc 73 ty73, opA_alloc 79 ty79]
              refine box_kA fun b13 G7 e13 s13 h13 E7 => ?_
              simp only [go_sem, reduceCtorEq, Nat.reduceEqDiff, Nat.reduceAdd, withc_some, withcs_some, cells_0, cells_s, Option.bind_some, Option.map_some, List.getElem?_toArray, List.getElem?_cons_zero, List.getElem?_cons_succ, Nat.add_zero, Nat.zero_add, Value.cells, splice, List.setIfInBounds_toArray, List.set_cons_zero, List.set_cons_succ, bfill_nil, bfill_cons, bstep_some, withO_some, List.take_zero, List.take_succ_cons, List.drop_zero, List.drop_succ_cons, List.cons_append, List.nil_append, List.append_nil, List.length_cons, List.length_nil, Nat.reduceLeDiff, Nat.le_refl, and_true, true_and, and_self, decide_true, decide_false, Bool.not_true, Bool.not_false, callA_fn0 pl30, callA_fn0 pl91, callA_fn0 pl98, fa77_1, fa82_0, fa82_2, fq77_1, ld4, ld68, ld73, ld75, ld82, ld9, len_slice Tryd.underlying24, len_slice Tryd.underlying68, lq75, lq9, opA_alloc 137 ty137, opA_alloc 73 ty73, opA_alloc 79 ty79]
              refine store_kA h13 ty73 (k := fun G8 h14 k8 s8 => ?_)
              have E8 : Ext G G8 := k8.two E7 (by omega)
              have h14' : G8[b13]? = some (.cells #[.int .i64 m, .string (B x)] 73 (0, 0)) := h14
              simp only [go_sem, reduceCtorEq, Nat.reduceEqDiff, Nat.reduceAdd, withc_some, withcs_some, cells_0, cells_s, Option.bind_some, Option.map_some, List.getElem?_toArray, List.getElem?_cons_zero, List.getElem?_cons_succ, Nat.add_zero, Nat.zero_add, Value.cells, splice, List.setIfInBounds_toArray, List.set_cons_zero, List.set_cons_succ, bfill_nil, bfill_cons, bstep_some, withO_some, List.take_zero, List.take_succ_cons, List.drop_zero, List.drop_succ_cons, List.cons_append, List.nil_append, List.append_nil, List.length_cons, List.length_nil, Nat.reduceLeDiff, Nat.le_refl, and_true, true_and, and_self, decide_true, decide_false, Bool.not_true, Bool.not_false, c87_13, r87_14, cell_of_blk h14', callA_fn0 pl10, callA_fn0 pl30, callA_fn0 pl91, callA_fn0 pl98, fa73_1, fa77_1, fa82_0, fa82_2, fq77_1, ld4, ld68, ld73, ld75, ld82, ld9, len_slice Tryd.underlying24, len_slice Tryd.underlying68, lq75, lq9, opA_alloc 137 ty137, opA_alloc 73 ty73, opA_alloc 79 ty79]
              refine Proofs.YtoabcmhiaknjiaaDoor.scan x G8 (by omega) fun G9 v9 e9 E9 hsc => ?_
              unfold ScanR at hsc
              have E89 := E8.trans E9
              have hea : endAt ((m, x) :: rest.drop (i + 1)) = if scanF x = some [[101, 110, 100]] then some 0 else (endAt (rest.drop (i + 1))).map (· + 1) := rfl
              rw [hea] at hq
              have next : scanF x ≠ some [[101, 110, 100]] → endAt rest = (endAt (rest.drop (i + 1))).map (· + (i + 1)) := by
                intro hne'
                rw [hq, if_neg hne', Option.map_map]
                congr 1
                funext y
                simp only [Function.comp]
                omega
              cases hf : scanF x with
              | none =>
                rw [hf] at hsc
                obtain ⟨rfl, rfl⟩ := hsc
                simp only [go_sem, reduceCtorEq, Nat.reduceEqDiff, Nat.reduceAdd, withc_some, withcs_some, cells_0, cells_s, Option.bind_some, Option.map_some, List.getElem?_toArray, List.getElem?_cons_zero, List.getElem?_cons_succ, Nat.add_zero, Nat.zero_add, Value.cells, splice, List.setIfInBounds_toArray, List.set_cons_zero, List.set_cons_succ, bfill_nil, bfill_cons, bstep_some, withO_some, List.take_zero, List.take_succ_cons, List.drop_zero, List.drop_succ_cons, List.cons_append, List.nil_append, List.append_nil, List.length_cons, List.length_nil, Nat.reduceLeDiff, Nat.le_refl, and_true, true_and, and_self, decide_true, decide_false, Bool.not_true, Bool.not_false, c87_12, r87_15, show decide ((3 : Int) = 0) = false from rfl, c87_11, r87_18, wrap_one (show i + 1 ≤ 9223372036854775807 by omega), callA_fn0 pl10, callA_fn0 pl30, callA_fn0 pl91, callA_fn0 pl98, fa73_1, fa77_1, fa82_0, fa82_2, fq77_1, ld4, ld68, ld73, ld75, ld82, ld9, len_slice Tryd.underlying24, len_slice Tryd.underlying68, lq75, lq9, opA_alloc 137 ty137, opA_alloc 73 ty73, opA_alloc 79 ty79]
                rw [← er]
                exact ih _ _ _ (by omega) ⟨i + 1, rfl, rfl, hE.trans E89, by omega, next (by rw [hf]; simp)⟩
              | some l =>
                rw [hf] at hsc
                obtain ⟨rfl, own⟩ := hsc
                have hsl : SlV G9 v9 l := SlE.own own
                obtain ⟨va9, vc9, rfl⟩ := own.form
                by_cases h1l : l.length = 1
                · obtain ⟨w, rfl⟩ : ∃ w, l = [w] := by
                    match l, h1l with
                    | [w], _ => exact ⟨w, rfl⟩
                  obtain ⟨lb, loff, lc, ee, lw⟩ := hsl.at (i := 0) (w := w) rfl
                  cases ee
                  rw [Nat.add_zero] at lw
                  simp only [go_sem, reduceCtorEq, Nat.reduceEqDiff, Nat.reduceAdd, withc_some, withcs_some, cells_0, cells_s, Option.bind_some, Option.map_some, List.getElem?_toArray, List.getElem?_cons_zero, List.getElem?_cons_succ, Nat.add_zero, Nat.zero_add, Value.cells, splice, List.setIfInBounds_toArray, List.set_cons_zero, List.set_cons_succ, bfill_nil, bfill_cons, bstep_some, withO_some, List.take_zero, List.take_succ_cons, List.drop_zero, List.drop_succ_cons, List.cons_append, List.nil_append, List.append_nil, List.length_cons, List.length_nil, Nat.reduceLeDiff, Nat.le_refl, and_true, true_and, and_self, decide_true, decide_false, Bool.not_true, Bool.not_false, c87_12, r87_15, show decide ((0 : Int) = 0) = true from rfl, List.length_singleton, show decide (((1 : Nat) : Int) = 1) = true from rfl, callA_fn0 pl10, callA_fn0 pl30, callA_fn0 pl91, callA_fn0 pl98, fa73_1, fa77_1, fa82_0, fa82_2, fq77_1, ld4, ld68, ld73, ld75, ld82, ld9, len_slice Tryd.underlying24, len_slice Tryd.underlying68, lq75, lq9, opA_alloc 137 ty137, opA_alloc 73 ty73, opA_alloc 79 ty79]
                  rw [iadA_slice uStrs ty9 (by omega) (by simp)]
                  simp only [go_sem, reduceCtorEq, Nat.reduceEqDiff, Nat.reduceAdd, withc_some, withcs_some, cells_0, cells_s, Option.bind_some, Option.map_some, List.getElem?_toArray, List.getElem?_cons_zero, List.getElem?_cons_succ, Nat.add_zero, Nat.zero_add, Value.cells, splice, List.setIfInBounds_toArray, List.set_cons_zero, List.set_cons_succ, bfill_nil, bfill_cons, bstep_some, withO_some, List.take_zero, List.take_succ_cons, List.drop_zero, List.drop_succ_cons, List.cons_append, List.nil_append, List.append_nil, List.length_cons, List.length_nil, Nat.reduceLeDiff, Nat.le_refl, and_true, true_and, and_self, decide_true, decide_false, Bool.not_true, Bool.not_false, add_none, Int.toNat_zero, Nat.zero_mul, lw, B_lit, B_toList, callA_fn0 pl10, callA_fn0 pl30, callA_fn0 pl91, callA_fn0 pl98, fa73_1, fa77_1, fa82_0, fa82_2, fq77_1, ld4, ld68, ld73, ld75, ld82, ld9, len_slice Tryd.underlying24, len_slice Tryd.underlying68, lq75, lq9, opA_alloc 137 ty137, opA_alloc 73 ty73, opA_alloc 79 ty79]
                  by_cases hend : w = [101, 110, 100]
                  · subst hend
                    have e6 : (([101, 110, 100] : List UInt8) == [101, 110, 100]) = true := rfl
                    rw [if_pos hf] at hq
                    simp only [Option.map_some, Nat.zero_add] at hq
                    have hs : procF false s k rest (w0 :: a :: ws) = ({ s with procs := s.procs ++ [(a, v, rest.take i)] }, ⟨i + 1, 0, 0⟩) := by
                      unfold procF
                      simp [hsy, hv, p1, hq]
                    rw [hs] at h
                    have E29 := E2G.trans E89
                    have EH9 := E12.trans E29
                    have E49 : Ext G4 G9 := E6.trans (hE.trans E89)
                    have hR9 := hR.ext EH9
                    have hpl9 := MapC.ext hpl E49
                    simp only [go_sem, reduceCtorEq, Nat.reduceEqDiff, Nat.reduceAdd, withc_some, withcs_some, cells_0, cells_s, Option.bind_some, Option.map_some, List.getElem?_toArray, List.getElem?_cons_zero, List.getElem?_cons_succ, Nat.add_zero, Nat.zero_add, Value.cells, splice, List.setIfInBounds_toArray, List.set_cons_zero, List.set_cons_succ, bfill_nil, bfill_cons, bstep_some, withO_some, List.take_zero, List.take_succ_cons, List.drop_zero, List.drop_succ_cons, List.cons_append, List.nil_append, List.append_nil, List.length_cons, List.length_nil, Nat.reduceLeDiff, Nat.le_refl, and_true, true_and, and_self, decide_true, decide_false, Bool.not_true, Bool.not_false, e6, c87_11, c87_10, r87_16, cell_of_blk (E49.get hRb), cell_of_blk (E29.get h42), bl137, bq137, callA_fn0 pl10, callA_fn0 pl30, callA_fn0 pl91, callA_fn0 pl98, fa73_1, fa77_1, fa82_0, fa82_2, fq77_1, fq82_0, ld4, ld68, ld73, ld75, ld82, ld9, len_slice Tryd.underlying24, len_slice Tryd.underlying68, lq68, lq75, lq9, opA_alloc 137 ty137, opA_alloc 73 ty73, opA_alloc 79 ty79]
                    rw [iadQ_slice uStrs ty9 (by omega) (by simp; omega)]
                    simp only [go_sem, reduceCtorEq, Nat.reduceEqDiff, Nat.reduceAdd, withc_some, withcs_some, cells_0, cells_s, Option.bind_some, Option.map_some, List.getElem?_toArray, List.getElem?_cons_zero, List.getElem?_cons_succ, Nat.add_zero, Nat.zero_add, Value.cells, splice, List.setIfInBounds_toArray, List.set_cons_zero, List.set_cons_succ, bfill_nil, bfill_cons, bstep_some, withO_some, List.take_zero, List.take_succ_cons, List.drop_zero, List.drop_succ_cons, List.cons_append, List.nil_append, List.append_nil, List.length_cons, List.length_nil, Nat.reduceLeDiff, Nat.le_refl, and_true, true_and, and_self, decide_true, decide_false, Bool.not_true, Bool.not_false, add_none, show Int.toNat 1 = 1 from rfl, Nat.mul_one, cell_ext E29 wv1, cell_of_blk (E29.get h42), wrap_one (show i + 1 ≤ 9223372036854775807 by omega), bl137, bq137, callA_fn0 pl10, callA_fn0 pl30, callA_fn0 pl91, callA_fn0 pl98, fa73_1, fa77_1, fa82_0, fa82_2, fq77_1, fq82_0, ld4, ld68, ld73, ld75, ld82, ld9, len_slice Tryd.underlying24, len_slice Tryd.underlying68, lq68, lq75, lq9, opA_alloc 137 ty137, opA_alloc 73 ty73, opA_alloc 79 ty79]
                    rw [sliQ_slice uRows ty73 (l := 1) (r := i + 1) (lit_bound 1 1) (.nat _ _ (i + 1)) (by omega) (by omega)]
                    simp only [go_sem, reduceCtorEq, Nat.reduceEqDiff, Nat.reduceAdd, withc_some, withcs_some, cells_0, cells_s, Option.bind_some, Option.map_some, List.getElem?_toArray, List.getElem?_cons_zero, List.getElem?_cons_succ, Nat.add_zero, Nat.zero_add, Value.cells, splice, List.setIfInBounds_toArray, List.set_cons_zero, List.set_cons_succ, bfill_nil, bfill_cons, bstep_some, withO_some, List.take_zero, List.take_succ_cons, List.drop_zero, List.drop_succ_cons, List.cons_append, List.nil_append, List.append_nil, List.length_cons, List.length_nil, Nat.reduceLeDiff, Nat.le_refl, and_true, true_and, and_self, decide_true, decide_false, Bool.not_true, Bool.not_false, opA_mapUpdate, bl137, bq137, callA_fn0 pl10, callA_fn0 pl30, callA_fn0 pl91, callA_fn0 pl98, fa73_1, fa77_1, fa82_0, fa82_2, fq77_1, fq82_0, ld4, ld68, ld73, ld75, ld82, ld9, len_slice Tryd.underlying24, len_slice Tryd.underlying68, lq68, lq75, lq9, opA_alloc 137 ty137, opA_alloc 73 ty73, opA_alloc 79 ty79]
                    have hrows : RowsV G9 (.slice (subAddr ra 2 1 rc) (i + 1 - 1) (rc - 1)) (rest.take i) := by
                      have h1 := SlE.take (hi := i) (ht.ext (hE.trans E89)) (by omega)
                      have e : ∀ (l : List Row) (n : Nat), (rowsC l).take (n * 2) = rowsC (l.take n) := by
                        intro l
                        induction l with
                        | nil => intro n; simp [rowsC]
                        | cons y l ih2 =>
                          intro n
                          cases n with
                          | zero => simp [rowsC]
                          | succ n =>
                            rw [rowsC_cons, List.take_succ_cons, rowsC_cons, ← ih2 n, Nat.succ_mul, List.take_append]
                            simp [rowC]
                      rw [e] at h1
                      unfold RowsV
                      rw [List.length_take, Nat.min_eq_left (by omega)]
                      simpa using h1
                    refine mupA_ok uMP uStr hpl9 fun G10 m10 k10 => ?_
                    rw [putM_new p2] at m10
                    have hmpH : mp < H.size := by
                      obtain ⟨l0, hl0, _⟩ := hR.procs
                      exact MapC.lt hl0
                    have hmsH := hR.syms.lt
                    have hs13 := E13.size
                    have hRH : R < H.size := by obtain ⟨_, _, _, q, _⟩ := hR.out; exact get_lt q
                    have hmp9 : ∀ (b : Nat) (c : Array Value) (e : TypeId) (f : Nat × Nat), G9[b]? = some (.cells c e f) → G10[b]? = some (.cells c e f) := by
                      obtain ⟨es, clk, q, _⟩ := hpl9
                      exact fun b c e f hb => k10.get hb (by intro h; subst h; rw [q] at hb; cases hb)
                    have hpr : ProcsV B0 R ms mp G10 (s.procs ++ [(a, v, rest.take i)]) := by
                      refine ⟨_, m10, All2.snoc ?_ ?_⟩
                      · refine ⟨rfl, r, _, rfl, MapC.keep (MapC.ext hm E49) k10 (by omega), valuesF_good _ _ _ ⟨by simp, by simp⟩ (fun w hw' => hwb w (by simp [hw'])) hv, by omega, by omega, ⟨by omega, by omega⟩, SlE.mono hrows fun b c f hb => hmp9 b c _ f hb⟩
                      · refine hall.imp fun p x ⟨e, mv, rv, q1, q2, q3, q4, q5, q6, q7⟩ => ⟨e, mv, rv, q1, MapC.keep (MapC.ext q2 E49) k10 q5, q3, q4, q5, q6, SlE.mono (q7.ext E49) fun b c f hb => hmp9 b c _ f hb⟩
                    have hrd10 := hR9.setmp k10 hpr
                    have hfr10 : FrJ B0 (MM ms mp) H G10 := FrJ.mset (H := H) (G := G9) EH9.ko hbmp (.inr rfl) hpl9 k10
                    have h710 := hmp9 _ _ _ _ (E29.get h7)
                    simp only [go_sem, reduceCtorEq, Nat.reduceEqDiff, Nat.reduceAdd, withc_some, withcs_some, cells_0, cells_s, Option.bind_some, Option.map_some, List.getElem?_toArray, List.getElem?_cons_zero, List.getElem?_cons_succ, Nat.add_zero, Nat.zero_add, Value.cells, splice, List.setIfInBounds_toArray, List.set_cons_zero, List.set_cons_succ, bfill_nil, bfill_cons, bstep_some, withO_some, List.take_zero, List.take_succ_cons, List.drop_zero, List.drop_succ_cons, List.cons_append, List.nil_append, List.append_nil, List.length_cons, List.length_nil, Nat.reduceLeDiff, Nat.le_refl, and_true, true_and, and_self, decide_true, decide_false, Bool.not_true, Bool.not_false, c87_9, r87_17, wrap_one (show i + 1 ≤ 9223372036854775807 by omega), bl137, bl79, bq137, callA_fn0 pl10, callA_fn0 pl30, callA_fn0 pl91, callA_fn0 pl98, fa73_1, fa77_1, fa82_0, fa82_2, fq77_1, fq82_0, ld4, ld68, ld73, ld75, ld82, ld9, len_slice Tryd.underlying24, len_slice Tryd.underlying68, lq68, lq75, lq9, opA_alloc 137 ty137, opA_alloc 73 ty73, opA_alloc 79 ty79]
                    refine store_kA h710 ty79 (k := fun G11 h8 k11 s11 => ?_)
                    simp only [go_sem, reduceCtorEq, Nat.reduceEqDiff, Nat.reduceAdd, withc_some, withcs_some, cells_0, cells_s, Option.bind_some, Option.map_some, List.getElem?_toArray, List.getElem?_cons_zero, List.getElem?_cons_succ, Nat.add_zero, Nat.zero_add, Value.cells, splice, List.setIfInBounds_toArray, List.set_cons_zero, List.set_cons_succ, bfill_nil, bfill_cons, bstep_some, withO_some, List.take_zero, List.take_succ_cons, List.drop_zero, List.drop_succ_cons, List.cons_append, List.nil_append, List.append_nil, List.length_cons, List.length_nil, Nat.reduceLeDiff, Nat.le_refl, and_true, true_and, and_self, decide_true, decide_false, Bool.not_true, Bool.not_false, resW_cell, bl137, bl79, bq137, callA_fn0 pl10, callA_fn0 pl30, callA_fn0 pl91, callA_fn0 pl98, fa73_1, fa77_1, fa82_0, fa82_2, fq77_1, fq82_0, ld4, ld68, ld73, ld75, ld82, ld9, len_slice Tryd.underlying24, len_slice Tryd.underlying68, lq68, lq75, lq9, opA_alloc 137 ty137, opA_alloc 73 ty73, opA_alloc 79 ty79]
                    rw [rc79 (l := [.int .i64 0, .int .i64 0]) (by simp only [go_sem, reduceCtorEq, Nat.reduceEqDiff, Nat.reduceAdd, withc_some, withcs_some, cells_0, cells_s, Option.bind_some, Option.map_some, List.getElem?_toArray, List.getElem?_cons_zero, List.getElem?_cons_succ, Nat.add_zero, Nat.zero_add, Value.cells, splice, List.setIfInBounds_toArray, List.set_cons_zero, List.set_cons_succ, bfill_nil, bfill_cons, bstep_some, withO_some, List.take_zero, List.take_succ_cons, List.drop_zero, List.drop_succ_cons, List.cons_append, List.nil_append, List.append_nil, List.length_cons, List.length_nil, Nat.reduceLeDiff, Nat.le_refl, and_true, true_and, and_self, decide_true, decide_false, Bool.not_true, Bool.not_false, cell_of_blk h8, bl137, bl79, bq137, callA_fn0 pl10, callA_fn0 pl30, callA_fn0 pl91, callA_fn0 pl98, fa73_1, fa77_1, fa82_0, fa82_2, fq77_1, fq82_0, ld4, ld68, ld73, ld75, ld82, ld9, len_slice Tryd.underlying24, len_slice Tryd.underlying68, lq68, lq75, lq9, opA_alloc 137 ty137, opA_alloc 73 ty73, opA_alloc 79 ty79])]
                    exact h G11 (hfr10.new k11 (by omega)) (hrd10.kk (keepK_of h710 k11))
                  · have e6 : (w == [101, 110, 100]) = false := by simpa using hend
                    simp only [go_sem, reduceCtorEq, Nat.reduceEqDiff, Nat.reduceAdd, withc_some, withcs_some, cells_0, cells_s, Option.bind_some, Option.map_some, List.getElem?_toArray, List.getElem?_cons_zero, List.getElem?_cons_succ, Nat.add_zero, Nat.zero_add, Value.cells, splice, List.setIfInBounds_toArray, List.set_cons_zero, List.set_cons_succ, bfill_nil, bfill_cons, bstep_some, withO_some, List.take_zero, List.take_succ_cons, List.drop_zero, List.drop_succ_cons, List.cons_append, List.nil_append, List.append_nil, List.length_cons, List.length_nil, Nat.reduceLeDiff, Nat.le_refl, and_true, true_and, and_self, decide_true, decide_false, Bool.not_true, Bool.not_false, e6, c87_11, r87_18, wrap_one (show i + 1 ≤ 9223372036854775807 by omega), bl137, bl79, bq137, callA_fn0 pl10, callA_fn0 pl30, callA_fn0 pl91, callA_fn0 pl98, fa73_1, fa77_1, fa82_0, fa82_2, fq77_1, fq82_0, ld4, ld68, ld73, ld75, ld82, ld9, len_slice Tryd.underlying24, len_slice Tryd.underlying68, lq68, lq75, lq9, opA_alloc 137 ty137, opA_alloc 73 ty73, opA_alloc 79 ty79]
                    rw [← er]
                    exact ih _ _ _ (by omega) ⟨i + 1, rfl, rfl, hE.trans E89, by omega, next (by rw [hf]; simp; exact hend)⟩
                · have e5 : decide ((l.length : Int) = 1) = false := by rw [decide_eq_false_iff_not]; omega
                  simp only [go_sem, reduceCtorEq, Nat.reduceEqDiff, Nat.reduceAdd, withc_some, withcs_some, cells_0, cells_s, Option.bind_some, Option.map_some, List.getElem?_toArray, List.getElem?_cons_zero, List.getElem?_cons_succ, Nat.add_zero, Nat.zero_add, Value.cells, splice, List.setIfInBounds_toArray, List.set_cons_zero, List.set_cons_succ, bfill_nil, bfill_cons, bstep_some, withO_some, List.take_zero, List.take_succ_cons, List.drop_zero, List.drop_succ_cons, List.cons_append, List.nil_append, List.append_nil, List.length_cons, List.length_nil, Nat.reduceLeDiff, Nat.le_refl, and_true, true_and, and_self, decide_true, decide_false, Bool.not_true, Bool.not_false, c87_12, r87_15, show decide ((0 : Int) = 0) = true from rfl, e5, c87_11, r87_18, wrap_one (show i + 1 ≤ 9223372036854775807 by omega), bl137, bl79, bq137, callA_fn0 pl10, callA_fn0 pl30, callA_fn0 pl91, callA_fn0 pl98, fa73_1, fa77_1, fa82_0, fa82_2, fq77_1, fq82_0, ld4, ld68, ld73, ld75, ld82, ld9, len_slice Tryd.underlying24, len_slice Tryd.underlying68, lq68, lq75, lq9, opA_alloc 137 ty137, opA_alloc 73 ty73, opA_alloc 79 ty79]
                  rw [← er]
                  exact ih _ _ _ (by omega) ⟨i + 1, rfl, rfl, hE.trans E89, by omega, next (by rw [hf]; intro e; cases e; exact h1l rfl)⟩
            · have hil : i = rest.length := by omega
              subst hil
              rw [List.drop_of_length_le (Nat.le_refl _)] at hq
              simp only [go_sem, reduceCtorEq, Nat.reduceEqDiff, Nat.reduceAdd, withc_some, withcs_some, cells_0, cells_s, Option.bind_some, Option.map_some, List.getElem?_toArray, List.getElem?_cons_zero, List.getElem?_cons_succ, Nat.add_zero, Nat.zero_add, Value.cells, splice, List.setIfInBounds_toArray, List.set_cons_zero, List.set_cons_succ, bfill_nil, bfill_cons, bstep_some, withO_some, List.take_zero, List.take_succ_cons, List.drop_zero, List.drop_succ_cons, List.cons_append, List.nil_append, List.append_nil, List.length_cons, List.length_nil, Nat.reduceLeDiff, Nat.le_refl, and_true, true_and, and_self, decide_true, decide_false, Bool.not_true, Bool.not_false, c87_18, c87_17, r87_12, dge (Nat.le_refl rest.length), c87_16, c87_21, r87_19, cell_of_blk (E2G.get h42), bl137, bl79, bq137, callA_fn0 pl10, callA_fn0 pl30, callA_fn0 pl91, callA_fn0 pl98, fa73_1, fa77_1, fa82_0, fa82_2, fq77_1, fq82_0, ld4, ld68, ld73, ld75, ld82, ld9, len_slice Tryd.underlying24, len_slice Tryd.underlying68, lq68, lq75, lq9, opA_alloc 137 ty137, opA_alloc 73 ty73, opA_alloc 79 ty79]
              refine at_c (hr.ext EHG) fun G7 E7 => ?_
              simp only [go_sem, reduceCtorEq, Nat.reduceEqDiff, Nat.reduceAdd, withc_some, withcs_some, cells_0, cells_s, Option.bind_some, Option.map_some, List.getElem?_toArray, List.getElem?_cons_zero, List.getElem?_cons_succ, Nat.add_zero, Nat.zero_add, Value.cells, splice, List.setIfInBounds_toArray, List.set_cons_zero, List.set_cons_succ, bfill_nil, bfill_cons, bstep_some, withO_some, List.take_zero, List.take_succ_cons, List.drop_zero, List.drop_succ_cons, List.cons_append, List.nil_append, List.append_nil, List.length_cons, List.length_nil, Nat.reduceLeDiff, Nat.le_refl, and_true, true_and, and_self, decide_true, decide_false, Bool.not_true, Bool.not_false, bl137, bl79, bq137, callA_fn0 pl10, callA_fn0 pl30, callA_fn0 pl91, callA_fn0 pl98, fa73_1, fa77_1, fa82_0, fa82_2, fq77_1, fq82_0, ld4, ld68, ld73, ld75, ld82, ld9, len_slice Tryd.underlying24, len_slice Tryd.underlying68, lq68, lq75, lq9, opA_alloc 137 ty137, opA_alloc 73 ty73, opA_alloc 79 ty79]
              refine store_kA ((E2G.trans E7).get h7) ty79 (k := fun G8 h8 k8 s8 => ?_)
              simp only [go_sem, reduceCtorEq, Nat.reduceEqDiff, Nat.reduceAdd, withc_some, withcs_some, cells_0, cells_s, Option.bind_some, Option.map_some, List.getElem?_toArray, List.getElem?_cons_zero, List.getElem?_cons_succ, Nat.add_zero, Nat.zero_add, Value.cells, splice, List.setIfInBounds_toArray, List.set_cons_zero, List.set_cons_succ, bfill_nil, bfill_cons, bstep_some, withO_some, List.take_zero, List.take_succ_cons, List.drop_zero, List.drop_succ_cons, List.cons_append, List.nil_append, List.append_nil, List.length_cons, List.length_nil, Nat.reduceLeDiff, Nat.le_refl, and_true, true_and, and_self, decide_true, decide_false, Bool.not_true, Bool.not_false, resW_cell, bl137, bl79, bq137, callA_fn0 pl10, callA_fn0 pl30, callA_fn0 pl91, callA_fn0 pl98, fa73_1, fa77_1, fa82_0, fa82_2, fq77_1, fq82_0, ld4, ld68, ld73, ld75, ld82, ld9, len_slice Tryd.underlying24, len_slice Tryd.underlying68, lq68, lq75, lq9, opA_alloc 137 ty137, opA_alloc 73 ty73, opA_alloc 79 ty79]
              rw [rc79 (l := [.int .i64 k, .int .i64 3]) (by simp only [go_sem, reduceCtorEq, Nat.reduceEqDiff, Nat.reduceAdd, withc_some, withcs_some, cells_0, cells_s, Option.bind_some, Option.map_some, List.getElem?_toArray, List.getElem?_cons_zero, List.getElem?_cons_succ, Nat.add_zero, Nat.zero_add, Value.cells, splice, List.setIfInBounds_toArray, List.set_cons_zero, List.set_cons_succ, bfill_nil, bfill_cons, bstep_some, withO_some, List.take_zero, List.take_succ_cons, List.drop_zero, List.drop_succ_cons, List.cons_append, List.nil_append, List.append_nil, List.length_cons, List.length_nil, Nat.reduceLeDiff, Nat.le_refl, and_true, true_and, and_self, decide_true, decide_false, Bool.not_true, Bool.not_false, cell_of_blk h8, bl137, bl79, bq137, callA_fn0 pl10, callA_fn0 pl30, callA_fn0 pl91, callA_fn0 pl98, fa73_1, fa77_1, fa82_0, fa82_2, fq77_1, fq82_0, ld4, ld68, ld73, ld75, ld82, ld9, len_slice Tryd.underlying24, len_slice Tryd.underlying68, lq68, lq75, lq9, opA_alloc 137 ty137, opA_alloc 73 ty73, opA_alloc 79 ty79])]
              exact fin G7 G8 3 (by unfold procF; simp [hsy, hv, p1, hq, endAt]) (E2G.trans E7) h8 k8
          · rw [p2]
            simp only [go_sem, reduceCtorEq, Nat.reduceEqDiff, Nat.reduceAdd, withc_some, withcs_some, cells_0, cells_s, Option.bind_some, Option.map_some, List.getElem?_toArray, List.getElem?_cons_zero, List.getElem?_cons_succ, Nat.add_zero, Nat.zero_add, Value.cells, splice, List.setIfInBounds_toArray, List.set_cons_zero, List.set_cons_succ, bfill_nil, bfill_cons, bstep_some, withO_some, List.take_zero, List.take_succ_cons, List.drop_zero, List.drop_succ_cons, List.cons_append, List.nil_append, List.append_nil, List.length_cons, List.length_nil, Nat.reduceLeDiff, Nat.le_refl, and_true, true_and, and_self, decide_true, decide_false, Bool.not_true, Bool.not_false, Option.getD_some, Option.isSome_some, bl137, bl79, bq137, callA_fn0 pl10, callA_fn0 pl30, callA_fn0 pl91, callA_fn0 pl98, fa73_1, fa77_1, fa82_0, fa82_2, fq77_1, fq82_0, ld4, ld68, ld73, ld75, ld82, ld9, len_slice Tryd.underlying24, len_slice Tryd.underlying68, lq68, lq75, lq9, opA_alloc 137 ty137, opA_alloc 73 ty73, opA_alloc 79 ty79]
            refine box_kA fun b10 G5 e10 s10 h10 E5 => ?_
            simp only [go_sem, reduceCtorEq, Nat.reduceEqDiff, Nat.reduceAdd, withc_some, withcs_some, cells_0, cells_s, Option.bind_some, Option.map_some, List.getElem?_toArray, List.getElem?_cons_zero, List.getElem?_cons_succ, Nat.add_zero, Nat.zero_add, Value.cells, splice, List.setIfInBounds_toArray, List.set_cons_zero, List.set_cons_succ, bfill_nil, bfill_cons, bstep_some, withO_some, List.take_zero, List.take_succ_cons, List.drop_zero, List.drop_succ_cons, List.cons_append, List.nil_append, List.append_nil, List.length_cons, List.length_nil, Nat.reduceLeDiff, Nat.le_refl, and_true, true_and, and_self, decide_true, decide_false, Bool.not_true, Bool.not_false, bl137, bl79, bq137, callA_fn0 pl10, callA_fn0 pl30, callA_fn0 pl91, callA_fn0 pl98, fa73_1, fa77_1, fa82_0, fa82_2, fq77_1, fq82_0, ld4, ld68, ld73, ld75, ld82, ld9, len_slice Tryd.underlying24, len_slice Tryd.underlying68, lq68, lq75, lq9, opA_alloc 137 ty137, opA_alloc 73 ty73, opA_alloc 79 ty79]
            refine ⟨E5, ?_⟩
            obtain ⟨ra', rc', rfl⟩ : ∃ a c, rv' = .slice a rows'.length c := by
              rename_i hrest
              exact SlE.form hrest.2.2.2.2.2.1
            refine store_kA h10 ty137 (k := fun G6 h11 k6 s6 => ?_)
            have E6 : Ext G4 G6 := k6.two E5 (by omega)
            have E26 := E24.trans E6
            simp only [go_sem, reduceCtorEq, Nat.reduceEqDiff, Nat.reduceAdd, withc_some, withcs_some, cells_0, cells_s, Option.bind_some, Option.map_some, List.getElem?_toArray, List.getElem?_cons_zero, List.getElem?_cons_succ, Nat.add_zero, Nat.zero_add, Value.cells, splice, List.setIfInBounds_toArray, List.set_cons_zero, List.set_cons_succ, bfill_nil, bfill_cons, bstep_some, withO_some, List.take_zero, List.take_succ_cons, List.drop_zero, List.drop_succ_cons, List.cons_append, List.nil_append, List.append_nil, List.length_cons, List.length_nil, Nat.reduceLeDiff, Nat.le_refl, and_true, true_and, and_self, decide_true, decide_false, Bool.not_true, Bool.not_false, c87_8, r87_9, c87_7, c87_6, r87_10, cell_of_blk (E26.get h42), bl137, bl79, bq137, callA_fn0 pl10, callA_fn0 pl30, callA_fn0 pl91, callA_fn0 pl98, fa73_1, fa77_1, fa82_0, fa82_2, fq77_1, fq82_0, ld4, ld68, ld73, ld75, ld82, ld9, len_slice Tryd.underlying24, len_slice Tryd.underlying68, lq68, lq75, lq9, opA_alloc 137 ty137, opA_alloc 73 ty73, opA_alloc 79 ty79]
            refine at_c (hr.ext (E12.trans E26)) fun G7 E7 => ?_
            simp only [go_sem, reduceCtorEq, Nat.reduceEqDiff, Nat.reduceAdd, withc_some, withcs_some, cells_0, cells_s, Option.bind_some, Option.map_some, List.getElem?_toArray, List.getElem?_cons_zero, List.getElem?_cons_succ, Nat.add_zero, Nat.zero_add, Value.cells, splice, List.setIfInBounds_toArray, List.set_cons_zero, List.set_cons_succ, bfill_nil, bfill_cons, bstep_some, withO_some, List.take_zero, List.take_succ_cons, List.drop_zero, List.drop_succ_cons, List.cons_append, List.nil_append, List.append_nil, List.length_cons, List.length_nil, Nat.reduceLeDiff, Nat.le_refl, and_true, true_and, and_self, decide_true, decide_false, Bool.not_true, Bool.not_false, bl137, bl79, bq137, callA_fn0 pl10, callA_fn0 pl30, callA_fn0 pl91, callA_fn0 pl98, fa73_1, fa77_1, fa82_0, fa82_2, fq77_1, fq82_0, ld4, ld68, ld73, ld75, ld82, ld9, len_slice Tryd.underlying24, len_slice Tryd.underlying68, lq68, lq75, lq9, opA_alloc 137 ty137, opA_alloc 73 ty73, opA_alloc 79 ty79]
            refine store_kA ((E26.trans E7).get h7) ty79 (k := fun G8 h8 k8 s8 => ?_)
            simp only [go_sem, reduceCtorEq, Nat.reduceEqDiff, Nat.reduceAdd, withc_some, withcs_some, cells_0, cells_s, Option.bind_some, Option.map_some, List.getElem?_toArray, List.getElem?_cons_zero, List.getElem?_cons_succ, Nat.add_zero, Nat.zero_add, Value.cells, splice, List.setIfInBounds_toArray, List.set_cons_zero, List.set_cons_succ, bfill_nil, bfill_cons, bstep_some, withO_some, List.take_zero, List.take_succ_cons, List.drop_zero, List.drop_succ_cons, List.cons_append, List.nil_append, List.append_nil, List.length_cons, List.length_nil, Nat.reduceLeDiff, Nat.le_refl, and_true, true_and, and_self, decide_true, decide_false, Bool.not_true, Bool.not_false, resW_cell, bl137, bl79, bq137, callA_fn0 pl10, callA_fn0 pl30, callA_fn0 pl91, callA_fn0 pl98, fa73_1, fa77_1, fa82_0, fa82_2, fq77_1, fq82_0, ld4, ld68, ld73, ld75, ld82, ld9, len_slice Tryd.underlying24, len_slice Tryd.underlying68, lq68, lq75, lq9, opA_alloc 137 ty137, opA_alloc 73 ty73, opA_alloc 79 ty79]
            rw [rc79 (l := [.int .i64 k, .int .i64 5]) (by simp only [go_sem, reduceCtorEq, Nat.reduceEqDiff, Nat.reduceAdd, withc_some, withcs_some, cells_0, cells_s, Option.bind_some, Option.map_some, List.getElem?_toArray, List.getElem?_cons_zero, List.getElem?_cons_succ, Nat.add_zero, Nat.zero_add, Value.cells, splice, List.setIfInBounds_toArray, List.set_cons_zero, List.set_cons_succ, bfill_nil, bfill_cons, bstep_some, withO_some, List.take_zero, List.take_succ_cons, List.drop_zero, List.drop_succ_cons, List.cons_append, List.nil_append, List.append_nil, List.length_cons, List.length_nil, Nat.reduceLeDiff, Nat.le_refl, and_true, true_and, and_self, decide_true, decide_false, Bool.not_true, Bool.not_false, cell_of_blk h8, bl137, bl79, bq137, callA_fn0 pl10, callA_fn0 pl30, callA_fn0 pl91, callA_fn0 pl98, fa73_1, fa77_1, fa82_0, fa82_2, fq77_1, fq82_0, ld4, ld68, ld73, ld75, ld82, ld9, len_slice Tryd.underlying24, len_slice Tryd.underlying68, lq68, lq75, lq9, opA_alloc 137 ty137, opA_alloc 73 ty73, opA_alloc 79 ty79])]
            exact fin G7 G8 5 (by unfold procF; simp [hsy, hv, p1]) (E26.trans E7) h8 k8
end Go.Proofs.YtoabcmhiaknjiaaDoor

/- Contracts of jobtext: a line inside of a call. -/
set_option maxRecDepth 100000
set_option linter.unusedSimpArgs false
set_option linter.unusedVariables false
namespace Go.Proofs.YtoabcmhiaknjiaaDoor
open Go.Hw

theorem knownW_eq (w : List UInt8) : knownW w = (hndL.lookup w).isSome := by
  unfold knownW hndL
  simp only [List.lookup_cons, List.lookup_nil]
  cases w == [115, 101, 116] <;> simp only [Bool.true_or, Bool.false_or, Option.isSome_some]
  cases w == [112, 114, 111, 99] <;> simp only [Bool.true_or, Bool.false_or, Option.isSome_some]
  cases w == [101, 110, 100] <;> simp only [Bool.true_or, Bool.false_or, Option.isSome_some]
  cases w == [99, 97, 108, 108] <;> simp only [Bool.true_or, Bool.false_or, Option.isSome_some]
  cases w == [106, 111, 98] <;> simp only [Bool.true_or, Bool.false_or, Option.isSome_some]
  cases w == [115, 116, 101, 112] <;> simp only [Bool.true_or, Bool.false_or, Option.isSome_some]
  cases w == [100, 100] <;> rfl
theorem known_fun : (fun w => (hndL.lookup w).isSome) = knownW := funext fun w => (knownW_eq w).symm

theorem Rdr.stm {B0 R ms mp : Nat} {H H' : Hp} {s : RS} {out : List Stm} (h : Rdr B0 R ms mp H s) (k : FrJ B0 (fun _ => False) H H') (ho : RdrO B0 R ms mp H' out) : Rdr B0 R ms mp H' { s with out := out } := by
  have hm : ∀ (r : Nat) (l : List (List UInt8 × Value)), MapC H r l → MapC H' r l := fun r l hr => MapC.ko hr k fun es kk hh => by
    rcases hh.2 with ⟨c, f, h3 | h3⟩ | ⟨h3, _⟩
    · cases h3
    · cases h3
    · exact h3
  obtain ⟨ho', hs, ⟨l, hl, hf⟩, b1, b2, b3⟩ := h
  exact ⟨ho, hs.turn (fun l h => hm _ l h), ⟨l, hm _ _ hl, hf.imp fun p x ⟨e, mv, rv, h1, h2, hg, h3, h4, h5, h6⟩ => ⟨e, mv, rv, h1, hm _ _ h2, hg, h3, h4, h5, h6.frJ k⟩⟩, b1, b2, b3⟩

theorem quoteF_word : ∀ (n : Nat) (l acc : List UInt8), l.length = n → ∀ w r, quoteF l acc = some (w, r) → w.length + r.length ≤ acc.length + l.length := by
  intro n
  induction n using Nat.strongRecOn with
  | _ n ih =>
    intro l acc hn w r h
    unfold quoteF at h
    match l with
    | [] => cases h
    | c :: t =>
      simp only at h
      split at h
      · cases h
      · split at h
        · have := ih t.length (by subst hn; simp) t (acc ++ [c]) rfl w r h
          simp only [List.length_append, List.length_cons, List.length_nil] at this ⊢; omega
        · match t with
          | [] => simp only [Option.some.injEq, Prod.mk.injEq] at h; obtain ⟨rfl, rfl⟩ := h; simp
          | d :: r' =>
            simp only at h
            split at h
            · have := ih r'.length (by subst hn; simp only [List.length_cons]; omega) r' (acc ++ [39]) rfl w r h
              simp only [List.length_append, List.length_cons, List.length_nil] at this ⊢; omega
            · simp only [Option.some.injEq, Prod.mk.injEq] at h; obtain ⟨rfl, rfl⟩ := h; simp
theorem firstV_word (l : List UInt8) : (firstV l).1.length ≤ l.length ∧ (firstV l).2.1.length ≤ l.length := by
  by_cases hh : l.headD 0 = 39
  · match l, hh with
    | [], hh => exact ⟨by simp [firstV], by simp [firstV]⟩
    | c :: t, hh =>
      have hc : c = 39 := hh
      subst hc
      rw [firstV_quote]
      cases hq : quoteF t [] with
      | none => simp
      | some p =>
        obtain ⟨w, r⟩ := p
        have := quoteF_word _ _ _ rfl _ _ hq
        simp only [List.length_nil, Nat.zero_add] at this
        simp only [List.length_cons]
        omega
  · rw [firstV_plain hh]
    have e := congrArg List.length (List.takeWhile_append_dropWhile (p := fun b : UInt8 => !stopP b.toNat) (l := l))
    rw [List.length_append] at e
    simp only
    omega
theorem scanT_words : ∀ (n : Nat) (l : List UInt8) (acc ws : List (List UInt8)) (m : Nat), l.length ≤ n → l.length ≤ m → (∀ w ∈ acc, w.length ≤ m) → scanT l acc = some ws → ∀ w ∈ ws, w.length ≤ m
  | n, l, acc, ws, m, hn, hm, ha, h => by
    by_cases hl : l = []
    · subst hl
      rw [scanT_nil] at h; cases h; exact ha
    · by_cases h1 : (firstV l).2.2 = true
      · by_cases h2 : (firstV l).2.1 ≠ [] ∧ (firstV l).2.1.headD 0 ≠ 32
        · rw [scanT_bad acc hl (.inr h2)] at h; cases h
        · rw [scanT_step acc hl h1 h2] at h
          have hlt : (firstV l).2.1.length < l.length := firstV_len (w := (firstV l).1) (by rw [← h1])
          have hd := length_dropWhile_le blank (firstV l).2.1
          have hw := (firstV_word l).1
          match n, hn with
          | 0, hn => omega
          | n + 1, hn =>
            refine scanT_words n _ _ _ m (by omega) (by omega) ?_ h
            intro w hw'
            rcases List.mem_append.1 hw' with h3 | h3
            · exact ha w h3
            · simp at h3; subst h3; omega
      · rw [scanT_bad acc hl (.inl (by simpa using h1))] at h; cases h
theorem lineW_words {sym : List UInt8 → Option (List UInt8)} {t : List UInt8} {ws : List (List UInt8)} (h : lineW sym t = .ok ws) : ∀ w ∈ ws, w.length ≤ 1000 := by
  unfold lineW at h
  split at h
  · cases h; simp
  · split at h
    · have hb : (replR sym t).1.length ≤ 1000 := by
        unfold replR
        split
        · split
          · simp
          · simp; omega
        · simp
      cases hs : scanF (replR sym t).1 with
      | none => rw [hs] at h; cases h
      | some w =>
        rw [hs] at h
        cases h
        unfold scanF at hs
        have hd := length_dropWhile_le blank (replR sym t).1
        exact scanT_words _ _ _ _ 1000 (Nat.le_refl _) (by omega) (by simp) hs
    · cases h

theorem hnd_cases {w : List UInt8} {f : Nat} (h : hndL.lookup w = some (fnV f)) :
    (w = [115, 101, 116] ∧ f = 86) ∨ (w = [112, 114, 111, 99] ∧ f = 87) ∨ (w = [101, 110, 100] ∧ f = 88) ∨ (w = [99, 97, 108, 108] ∧ f = 89) ∨ (w ≠ [115, 101, 116] ∧ w ≠ [112, 114, 111, 99] ∧ w ≠ [101, 110, 100] ∧ w ≠ [99, 97, 108, 108] ∧ f = 90) := by
  have hf : ∀ {g : Nat}, some (fnV g) = some (fnV f) → f = g := fun e => by
    simp only [fnV, Option.some.injEq, Value.func.injEq, Fn.func.injEq, and_true] at e
    exact e.symm
  unfold hndL at h
  rw [List.lookup_cons] at h
  by_cases h1 : w = [115, 101, 116]
  · subst h1; exact .inl ⟨rfl, hf h⟩
  rw [show (w == [115, 101, 116]) = false by simpa using h1] at h
  simp only at h
  rw [List.lookup_cons] at h
  by_cases h2 : w = [112, 114, 111, 99]
  · subst h2; exact .inr (.inl ⟨rfl, hf h⟩)
  rw [show (w == [112, 114, 111, 99]) = false by simpa using h2] at h
  simp only at h
  rw [List.lookup_cons] at h
  by_cases h3 : w = [101, 110, 100]
  · subst h3; exact .inr (.inr (.inl ⟨rfl, hf h⟩))
  rw [show (w == [101, 110, 100]) = false by simpa using h3] at h
  simp only at h
  rw [List.lookup_cons] at h
  by_cases h4 : w = [99, 97, 108, 108]
  · subst h4; exact .inr (.inr (.inr (.inl ⟨rfl, hf h⟩)))
  rw [show (w == [99, 97, 108, 108]) = false by simpa using h4] at h
  refine .inr (.inr (.inr (.inr ⟨h1, h2, h3, h4, ?_⟩)))
  simp only at h
  rw [List.lookup_cons] at h
  cases h5 : w == [106, 111, 98] with
  | true => rw [h5] at h; exact hf h
  | false =>
    rw [h5] at h
    simp only at h
    rw [List.lookup_cons] at h
    cases h6 : w == [115, 116, 101, 112] with
    | true => rw [h6] at h; exact hf h
    | false =>
      rw [h6] at h
      simp only at h
      rw [List.lookup_cons] at h
      cases h7 : w == [100, 100] with
      | true => rw [h7] at h; exact hf h
      | false => rw [h7] at h; cases h

theorem callin_c {B0 R ms mp : Nat} {rv wv : Value} {call : List UInt8} {k : Nat} {t : List UInt8} {rest : List Row} {s : RS} {H : Hp} {K : Ending → Hp → Prop}
    (hR : Rdr B0 R ms mp H s) (hr : RowsV H rv ((k, t) :: rest)) (hw : ∃ a n c, wv = .slice a n c)
    (h : ∀ G, FrJ B0 (MM ms mp) H G → Rdr B0 R ms mp G s → K (.returned (.tuple #[.int .i64 0, .agg #[.int .i64 k, .int .i64 9]])) G) :
    HCall Tryd.prog 89 #[.pointer (some ⟨R, 0, none⟩), .agg #[rv, .string (B call), .bool true], wv] H K := by
  refine hcall mixed B89 (args := [.pointer (some ⟨R, 0, none⟩), .agg #[rv, .string (B call), .bool true], wv]) (by simp) ?_
  simp only [go_sem, reduceCtorEq, Nat.reduceEqDiff, Nat.reduceAdd, withc_some, withcs_some, cells_0, cells_s, Option.bind_some, Option.map_some, List.getElem?_toArray, List.getElem?_cons_zero, List.getElem?_cons_succ, Nat.add_zero, Nat.zero_add, Value.cells, splice, List.setIfInBounds_toArray, List.set_cons_zero, List.set_cons_succ, bfill_nil, bfill_cons, bstep_some, withO_some, List.take_zero, List.take_succ_cons, List.drop_zero, List.drop_succ_cons, List.cons_append, List.nil_append, List.append_nil, List.length_cons, List.length_nil, Nat.reduceLeDiff, Nat.le_refl, and_true, true_and, and_self, decide_true, decide_false, Bool.not_true, Bool.not_false, c89, r89_0, opA_alloc 79 ty79]
  refine box_kA fun b4 G1 e4 s1 h4 E1 => ?_
  simp only [go_sem, reduceCtorEq, Nat.reduceEqDiff, Nat.reduceAdd, withc_some, withcs_some, cells_0, cells_s, Option.bind_some, Option.map_some, List.getElem?_toArray, List.getElem?_cons_zero, List.getElem?_cons_succ, Nat.add_zero, Nat.zero_add, Value.cells, splice, List.setIfInBounds_toArray, List.set_cons_zero, List.set_cons_succ, bfill_nil, bfill_cons, bstep_some, withO_some, List.take_zero, List.take_succ_cons, List.drop_zero, List.drop_succ_cons, List.cons_append, List.nil_append, List.append_nil, List.length_cons, List.length_nil, Nat.reduceLeDiff, Nat.le_refl, and_true, true_and, and_self, decide_true, decide_false, Bool.not_true, Bool.not_false, opA_alloc 79 ty79]
  refine box_kA fun b7 G2 e7 s2 h7 E2 => ?_
  have E12 := E1.trans E2
  simp only [go_sem, reduceCtorEq, Nat.reduceEqDiff, Nat.reduceAdd, withc_some, withcs_some, cells_0, cells_s, Option.bind_some, Option.map_some, List.getElem?_toArray, List.getElem?_cons_zero, List.getElem?_cons_succ, Nat.add_zero, Nat.zero_add, Value.cells, splice, List.setIfInBounds_toArray, List.set_cons_zero, List.set_cons_succ, bfill_nil, bfill_cons, bstep_some, withO_some, List.take_zero, List.take_succ_cons, List.drop_zero, List.drop_succ_cons, List.cons_append, List.nil_append, List.append_nil, List.length_cons, List.length_nil, Nat.reduceLeDiff, Nat.le_refl, and_true, true_and, and_self, decide_true, decide_false, Bool.not_true, Bool.not_false, c89_32, r89_1, cell_of_blk (E2.get h4), c89_1, c89_0, r89_2, callA_fn0 pl91, fa82_2, ld4, ld82, opA_alloc 79 ty79]
  refine at_c (hr.ext E12) fun G3 E3 => ?_
  simp only [go_sem, reduceCtorEq, Nat.reduceEqDiff, Nat.reduceAdd, withc_some, withcs_some, cells_0, cells_s, Option.bind_some, Option.map_some, List.getElem?_toArray, List.getElem?_cons_zero, List.getElem?_cons_succ, Nat.add_zero, Nat.zero_add, Value.cells, splice, List.setIfInBounds_toArray, List.set_cons_zero, List.set_cons_succ, bfill_nil, bfill_cons, bstep_some, withO_some, List.take_zero, List.take_succ_cons, List.drop_zero, List.drop_succ_cons, List.cons_append, List.nil_append, List.append_nil, List.length_cons, List.length_nil, Nat.reduceLeDiff, Nat.le_refl, and_true, true_and, and_self, decide_true, decide_false, Bool.not_true, Bool.not_false, callA_fn0 pl91, fa82_2, ld4, ld82, opA_alloc 79 ty79]
  refine store_kA (E3.get h7) ty79 (k := fun G4 h8 k4 s4 => ?_)
  simp only [go_sem, reduceCtorEq, Nat.reduceEqDiff, Nat.reduceAdd, withc_some, withcs_some, cells_0, cells_s, Option.bind_some, Option.map_some, List.getElem?_toArray, List.getElem?_cons_zero, List.getElem?_cons_succ, Nat.add_zero, Nat.zero_add, Value.cells, splice, List.setIfInBounds_toArray, List.set_cons_zero, List.set_cons_succ, bfill_nil, bfill_cons, bstep_some, withO_some, List.take_zero, List.take_succ_cons, List.drop_zero, List.drop_succ_cons, List.cons_append, List.nil_append, List.append_nil, List.length_cons, List.length_nil, Nat.reduceLeDiff, Nat.le_refl, and_true, true_and, and_self, decide_true, decide_false, Bool.not_true, Bool.not_false, resW_cell, callA_fn0 pl91, fa82_2, ld4, ld82, opA_alloc 79 ty79]
  rw [rc79 (l := [.int .i64 k, .int .i64 9]) (by simp only [go_sem, reduceCtorEq, Nat.reduceEqDiff, Nat.reduceAdd, withc_some, withcs_some, cells_0, cells_s, Option.bind_some, Option.map_some, List.getElem?_toArray, List.getElem?_cons_zero, List.getElem?_cons_succ, Nat.add_zero, Nat.zero_add, Value.cells, splice, List.setIfInBounds_toArray, List.set_cons_zero, List.set_cons_succ, bfill_nil, bfill_cons, bstep_some, withO_some, List.take_zero, List.take_succ_cons, List.drop_zero, List.drop_succ_cons, List.cons_append, List.nil_append, List.append_nil, List.length_cons, List.length_nil, Nat.reduceLeDiff, Nat.le_refl, and_true, true_and, and_self, decide_true, decide_false, Bool.not_true, Bool.not_false, cell_of_blk h8, callA_fn0 pl91, fa82_2, ld4, ld82, opA_alloc 79 ty79])]
  have E4 : Ext H G4 := k4.two (E12.trans E3) (by omega)
  exact h G4 E4.ko (hR.ext E4)

theorem hfF_words {LI : List UInt8 → RS → Row → List Row → RS × HR} {inn : Bool} {call : List UInt8} {s : RS} {k : Nat} {rest : List Row} {w : List UInt8} {ws : List (List UInt8)} :
    hfF LI inn call s k rest (w :: ws) = if w = [115, 101, 116] then setF inn s k (w :: ws) else if w = [112, 114, 111, 99] then procF inn s k rest (w :: ws) else if w = [101, 110, 100] then (s, ⟨0, k, 9⟩) else if w = [99, 97, 108, 108] then callF LI inn s k (w :: ws)
      else ({ s with out := (stmF s.out call k rest (w :: ws)).1 }, (stmF s.out call k rest (w :: ws)).2) := by
  unfold hfF
  simp only [List.head?_cons, Option.some.injEq]

/-- A line: LI: what a line inside of a call comes to; the call's contract is handed in. -/
theorem line_any {B0 R ms mp kn : Nat} {rv : Value} {call : List UInt8} {inn : Bool} {k : Nat} {t : List UInt8} {rest : List Row} {s : RS} {H : Hp} {K : Ending → Hp → Prop} (LI : List UInt8 → RS → Row → List Row → RS × HR)
    (hR : Rdr B0 R ms mp H s) (hB0 : 0 < B0) (hBH : B0 ≤ H.size) (g : G0 H) (hkn : MapC H kn hndL) (hr : RowsV H rv ((k, t) :: rest)) (ht : t.length ≤ 1000000) (hlr : ∀ x ∈ rest, x.2.length ≤ 1000000) (hrl : rest.length ≤ 1000000) (hout : s.out.length ≤ 400)
    (hcall : ∀ (G : Hp) (wv : Value) (words : List (List UInt8)) (K2 : Ending → Hp → Prop), Ext H G → SlV G wv words → words.length ≤ 1000000 → (∀ w ∈ words, w.length ≤ 1000) → words.head? = some [99, 97, 108, 108] →
      (∀ G', FrJ B0 (MM ms mp) G G' → Rdr B0 R ms mp G' (callF LI inn s k words).1 → K2 (.returned (.tuple #[.int .i64 (callF LI inn s k words).2.n, .agg #[.int .i64 (callF LI inn s k words).2.line, .int .i64 (callF LI inn s k words).2.code]])) G') →
      HCall Tryd.prog 89 #[.pointer (some ⟨R, 0, none⟩), .agg #[rv, .string (B call), .bool inn], wv] G K2)
    (h : ∀ G, FrJ B0 (MM ms mp) H G → Rdr B0 R ms mp G (lineR s k t knownW (hfF LI inn call s k rest)).1 → K (.returned (.tuple #[.int .i64 (lineR s k t knownW (hfF LI inn call s k rest)).2.n, .agg #[.int .i64 (lineR s k t knownW (hfF LI inn call s k rest)).2.line, .int .i64 (lineR s k t knownW (hfF LI inn call s k rest)).2.code]])) G) :
    HCall Tryd.prog 63 #[.pointer (some ⟨R, 0, none⟩), .map (some kn), .agg #[rv, .string (B call), .bool inn]] H K := by
  refine line_c (hfF LI inn call s k rest) hR hB0 g hkn hr ht ?_ (by rw [known_fun]; exact h)
  intro w ws f hlw hlk G1 wv K3 E hwv hlen hk3
  have hwb := lineW_words hlw
  have hB1 : B0 ≤ G1.size := by have := E.size; omega
  rcases hnd_cases hlk with ⟨rfl, rfl⟩ | ⟨rfl, rfl⟩ | ⟨rfl, rfl⟩ | ⟨rfl, rfl⟩ | ⟨n1, n2, n3, n4, rfl⟩
  · rw [hfF_words, if_pos rfl] at hk3
    exact set_c (hR.ext E) hB1 (g.ext E) (hr.ext E) hwv hlen hwb hk3
  · rw [hfF_words, if_neg (by decide), if_pos rfl] at hk3
    exact proc_c (hR.ext E) hB1 (g.ext E) (hr.ext E) hrl hlr hwv hlen hwb hk3
  · rw [hfF_words, if_neg (by decide), if_neg (by decide), if_pos rfl] at hk3
    exact endh_c (hR.ext E) (hr.ext E) hk3
  · rw [hfF_words, if_neg (by decide), if_neg (by decide), if_neg (by decide), if_pos rfl] at hk3
    exact hcall G1 wv _ K3 E hwv hlen hwb rfl hk3
  · rw [hfF_words, if_neg n1, if_neg n2, if_neg n3, if_neg n4] at hk3
    exact statement_c (hR.ext E).out hB1 (hr.ext E) hrl (fun x hx => by have := hlr x hx; omega) hwv (by simp) hlen (by omega) fun G' f1 f2 => hk3 G' (f1.mono fun x o ⟨a, b⟩ => ⟨a, b.imp_right fun c => c.1.elim⟩) ((hR.ext E).stm f1 f2)
end Go.Proofs.YtoabcmhiaknjiaaDoor

set_option maxRecDepth 100000
namespace Go.Proofs.YtoabcmhiaknjiaaDoor
open Go.Hw
/-! ### 9 dasd/dasdlaw39.awake -/
def r9_0 : List O := [⟨some 0, .assign (.const (.bool false)), 4, none⟩]
def r9_1 : List O := [⟨some 9, .call { callee := .value (.func 10), args := #[.const (.string ⟨#[115, 116, 101, 112, 32, 83, 49, 32, 112, 114, 111, 103, 114, 97, 109, 32, 115, 111, 114, 116, 32, 112, 97, 114, 109, 32, 39, 98, 121, 32, 49, 32, 56, 39]⟩)], argTypes := #[9] }, 26, none⟩,
  ⟨some 8, .move (.tmp 9), 26, none⟩,
  ⟨some 10, .extract (.tmp 8) 0, 24, none⟩,
  ⟨some 11, .extract (.tmp 8) 1, 25, none⟩,
  ⟨some 1, .assign (.tmp 10), 24, none⟩,
  ⟨some 2, .assign (.tmp 11), 25, none⟩]
def r9_2 : List O := [⟨some 13, .makeMap 22 none, 22, none⟩,
  ⟨none, .insert 22 (.tmp 13) (.const (.string ⟨#[68, 65, 89]⟩)) (.const (.string ⟨#[55]⟩)), 0, none⟩,
  ⟨some 14, .move (.tmp 13), 22, none⟩,
  ⟨some 15, .call { callee := .value (.func 12), args := #[.const (.string ⟨#[100, 100, 32, 79, 85, 84, 32, 100, 97, 116, 97, 32, 80, 65, 89, 46, 68, 38, 68, 65, 89, 59, 32, 110, 101, 119]⟩), .tmp 14], argTypes := #[9, 22] }, 28, none⟩,
  ⟨some 12, .move (.tmp 15), 28, none⟩,
  ⟨some 16, .extract (.tmp 12) 0, 9, none⟩,
  ⟨some 17, .extract (.tmp 12) 1, 25, none⟩,
  ⟨some 3, .assign (.tmp 16), 9, none⟩,
  ⟨some 4, .assign (.tmp 17), 25, none⟩]
def r9_3 : List O := [⟨some 19, .call { callee := .value (.func 19), args := #[.const (.string ⟨#[115, 116, 101, 112, 32, 83, 49, 32, 112, 114, 111, 103, 114, 97, 109, 32, 99, 111, 112, 121, 10]⟩)], argTypes := #[9] }, 37, none⟩,
  ⟨some 18, .move (.tmp 19), 37, none⟩,
  ⟨some 20, .extract (.tmp 18) 0, 36, none⟩,
  ⟨some 21, .extract (.tmp 18) 1, 3, none⟩,
  ⟨some 22, .extract (.tmp 18) 2, 25, none⟩,
  ⟨some 5, .assign (.tmp 20), 36, none⟩,
  ⟨some 6, .assign (.tmp 21), 3, none⟩,
  ⟨some 7, .assign (.tmp 22), 25, none⟩]
def r9_4 : List O := [⟨some 23, .move (.tmp 2), 25, none⟩,
  ⟨some 24, .binOp .eql 25 (.tmp 23) (.const (.int .i64 0)) 25, 4, none⟩,
  ⟨some 25, .move (.tmp 24), 4, none⟩,
  ⟨some 26, .move (.tmp 1), 24, some (25, true)⟩,
  ⟨some 27, .call { callee := .builtin .len, args := #[.tmp 26], argTypes := #[24] }, 3, some (25, true)⟩,
  ⟨some 28, .binOp .eql 3 (.tmp 27) (.const (.int .i64 6)) 3, 4, some (25, true)⟩,
  ⟨some 29, .pick (.tmp 25) (.tmp 28) (.const (.bool false)), 4, none⟩,
  ⟨some 30, .move (.tmp 29), 4, none⟩,
  ⟨some 31, .move (.tmp 1), 24, some (30, true)⟩,
  ⟨some 32, .indexAddr 24 (.tmp 31) (.const (.int .i64 5)), 0, some (30, true)⟩,
  ⟨some 33, .load 9 (.tmp 32), 9, some (30, true)⟩,
  ⟨some 34, .binOp .eql 9 (.tmp 33) (.const (.string ⟨#[98, 121, 32, 49, 32, 56]⟩)) 9, 4, some (30, true)⟩,
  ⟨some 35, .pick (.tmp 30) (.tmp 34) (.const (.bool false)), 4, none⟩,
  ⟨some 36, .move (.tmp 35), 4, none⟩,
  ⟨some 37, .move (.tmp 4), 25, some (36, true)⟩,
  ⟨some 38, .binOp .eql 25 (.tmp 37) (.const (.int .i64 0)) 25, 4, some (36, true)⟩,
  ⟨some 39, .pick (.tmp 36) (.tmp 38) (.const (.bool false)), 4, none⟩,
  ⟨some 40, .move (.tmp 39), 4, none⟩,
  ⟨some 41, .move (.tmp 3), 9, some (40, true)⟩,
  ⟨some 42, .binOp .eql 9 (.tmp 41) (.const (.string ⟨#[100, 100, 32, 79, 85, 84, 32, 100, 97, 116, 97, 32, 80, 65, 89, 46, 68, 55, 32, 110, 101, 119]⟩)) 9, 4, some (40, true)⟩,
  ⟨some 43, .pick (.tmp 40) (.tmp 42) (.const (.bool false)), 4, none⟩,
  ⟨some 44, .move (.tmp 43), 4, none⟩,
  ⟨some 45, .move (.tmp 7), 25, some (44, true)⟩,
  ⟨some 46, .binOp .eql 25 (.tmp 45) (.const (.int .i64 0)) 25, 4, some (44, true)⟩,
  ⟨some 47, .pick (.tmp 44) (.tmp 46) (.const (.bool false)), 4, none⟩,
  ⟨some 48, .move (.tmp 47), 4, none⟩,
  ⟨some 49, .move (.tmp 6), 3, some (48, true)⟩,
  ⟨some 50, .binOp .eql 3 (.tmp 49) (.const (.int .i64 0)) 3, 4, some (48, true)⟩,
  ⟨some 51, .pick (.tmp 48) (.tmp 50) (.const (.bool false)), 4, none⟩,
  ⟨some 52, .move (.tmp 51), 4, none⟩,
  ⟨some 53, .move (.tmp 5), 36, some (52, true)⟩,
  ⟨some 54, .call { callee := .builtin .len, args := #[.tmp 53], argTypes := #[36] }, 3, some (52, true)⟩,
  ⟨some 55, .binOp .eql 3 (.tmp 54) (.const (.int .i64 1)) 3, 4, some (52, true)⟩,
  ⟨some 56, .pick (.tmp 52) (.tmp 55) (.const (.bool false)), 4, none⟩,
  ⟨some 57, .move (.tmp 56), 4, none⟩,
  ⟨some 58, .move (.tmp 5), 36, some (57, true)⟩,
  ⟨some 59, .indexAddr 36 (.tmp 58) (.const (.int .i64 0)), 0, some (57, true)⟩,
  ⟨some 60, .fieldAddr 40 (.tmp 59) 0, 0, some (57, true)⟩,
  ⟨some 61, .load 3 (.tmp 60), 3, some (57, true)⟩,
  ⟨some 62, .binOp .eql 3 (.tmp 61) (.const (.int .i64 1)) 3, 4, some (57, true)⟩,
  ⟨some 63, .pick (.tmp 57) (.tmp 62) (.const (.bool false)), 4, none⟩,
  ⟨some 64, .move (.tmp 63), 4, none⟩,
  ⟨some 65, .call { callee := .value (.func 15), args := #[.const (.string ⟨#[97, 32, 98]⟩)], argTypes := #[9] }, 9, some (64, true)⟩,
  ⟨some 66, .binOp .eql 9 (.tmp 65) (.const (.string ⟨#[39, 97, 32, 98, 39]⟩)) 9, 4, some (64, true)⟩,
  ⟨some 67, .pick (.tmp 64) (.tmp 66) (.const (.bool false)), 4, none⟩,
  ⟨some 0, .assign (.tmp 67), 4, none⟩]
def c9_0 : A := .seq (.reg r9_4 [0]) .ret
def c9_1 : A := .seq (.reg r9_3 [1, 2, 3, 4, 5, 6, 7]) c9_0
def c9_2 : A := .seq (.reg r9_2 [1, 2, 3, 4]) c9_1
def c9_3 : A := .seq (.reg r9_1 [1, 2]) c9_2
def c9 : A := .seq (.reg r9_0 []) c9_3
theorem B9 : Body Tryd.prog 9 68 [.tmp 0] c9 := ⟨by kernel_rfl, _, _, [(0, []), (1, [1, 2]), (2, [1, 2, 3, 4]), (3, [1, 2, 3, 4, 5, 6, 7]), (4, [0])], Tryd.func9, rfl, rfl, rfl, by kernel_rfl⟩
/-! ### 7 dasd/dasdlaw39.JobtextWords -/
/-! ### 3 dasd/dasdlaw39.JobtextLines -/
def r3_0 : List O := [⟨some 4, .assign (.const (.bool false)), 4, none⟩]
def r3_1 : List O := [⟨some 15, .call { callee := .value (.func 9), args := #[], argTypes := #[] }, 4, none⟩,
  ⟨some 16, .unOp .not 4 (.tmp 15), 4, none⟩]
def r3_2 : List O := [⟨some 4, .assign (.const (.bool false)), 4, none⟩]
def r3_3 : List O := [⟨some 17, .move (.tmp 0), 9, none⟩,
  ⟨some 18, .call { callee := .builtin .len, args := #[.tmp 17], argTypes := #[9] }, 3, none⟩,
  ⟨some 19, .binOp .gtr 3 (.tmp 18) (.const (.int .i64 1200)) 3, 4, none⟩,
  ⟨some 20, .move (.tmp 19), 4, none⟩,
  ⟨some 21, .move (.tmp 1), 22, some (20, false)⟩,
  ⟨some 22, .call { callee := .builtin .len, args := #[.tmp 21], argTypes := #[22] }, 3, some (20, false)⟩,
  ⟨some 23, .binOp .gtr 3 (.tmp 22) (.const (.int .i64 8)) 3, 4, some (20, false)⟩,
  ⟨some 24, .pick (.tmp 20) (.const (.bool true)) (.tmp 23), 4, none⟩]
def r3_4 : List O := [⟨some 4, .assign (.const (.bool true)), 4, none⟩]
def r3_5 : List O := [⟨some 25, .move (.tmp 1), 22, none⟩,
  ⟨some 26, .range 22 (.tmp 25), 0, none⟩]
def r3_6 : List O := [⟨some 27, .next (.tmp 26) false, 0, none⟩,
  ⟨some 28, .extract (.tmp 27) 0, 4, none⟩]
def r3_7 : List O := [⟨some 29, .entry (.tmp 26), 0, none⟩,
  ⟨some 30, .extract (.tmp 29) 0, 9, none⟩,
  ⟨some 31, .extract (.tmp 29) 1, 9, none⟩,
  ⟨some 5, .assign (.tmp 30), 9, none⟩,
  ⟨some 6, .assign (.tmp 31), 9, none⟩]
def r3_8 : List O := [⟨some 32, .move (.tmp 5), 9, none⟩,
  ⟨some 33, .call { callee := .builtin .len, args := #[.tmp 32], argTypes := #[9] }, 3, none⟩,
  ⟨some 34, .binOp .gtr 3 (.tmp 33) (.const (.int .i64 20)) 3, 4, none⟩,
  ⟨some 35, .move (.tmp 34), 4, none⟩,
  ⟨some 36, .move (.tmp 6), 9, some (35, false)⟩,
  ⟨some 37, .call { callee := .builtin .len, args := #[.tmp 36], argTypes := #[9] }, 3, some (35, false)⟩,
  ⟨some 38, .binOp .gtr 3 (.tmp 37) (.const (.int .i64 1200)) 3, 4, some (35, false)⟩,
  ⟨some 39, .pick (.tmp 35) (.const (.bool true)) (.tmp 38), 4, none⟩]
def r3_9 : List O := [⟨some 4, .assign (.const (.bool true)), 4, none⟩]
def r3_10 : List O := [⟨some 41, .move (.tmp 0), 9, none⟩,
  ⟨some 42, .call { callee := .value (.func 10), args := #[.tmp 41], argTypes := #[9] }, 26, none⟩,
  ⟨some 40, .move (.tmp 42), 26, none⟩,
  ⟨some 43, .extract (.tmp 40) 0, 24, none⟩,
  ⟨some 44, .extract (.tmp 40) 1, 25, none⟩,
  ⟨some 7, .assign (.tmp 43), 24, none⟩,
  ⟨some 8, .assign (.tmp 44), 25, none⟩]
def r3_11 : List O := [⟨some 46, .move (.tmp 0), 9, none⟩,
  ⟨some 47, .call { callee := .value (.func 11), args := #[.tmp 46], argTypes := #[9] }, 26, none⟩,
  ⟨some 45, .move (.tmp 47), 26, none⟩,
  ⟨some 48, .extract (.tmp 45) 0, 24, none⟩,
  ⟨some 49, .extract (.tmp 45) 1, 25, none⟩,
  ⟨some 9, .assign (.tmp 48), 24, none⟩,
  ⟨some 10, .assign (.tmp 49), 25, none⟩]
def r3_12 : List O := [⟨some 51, .move (.tmp 0), 9, none⟩,
  ⟨some 52, .move (.tmp 1), 22, none⟩,
  ⟨some 53, .call { callee := .value (.func 12), args := #[.tmp 51, .tmp 52], argTypes := #[9, 22] }, 28, none⟩,
  ⟨some 50, .move (.tmp 53), 28, none⟩,
  ⟨some 54, .extract (.tmp 50) 0, 9, none⟩,
  ⟨some 55, .extract (.tmp 50) 1, 25, none⟩,
  ⟨some 11, .assign (.tmp 54), 9, none⟩,
  ⟨some 12, .assign (.tmp 55), 25, none⟩]
def r3_13 : List O := [⟨some 57, .move (.tmp 0), 9, none⟩,
  ⟨some 58, .move (.tmp 1), 22, none⟩,
  ⟨some 59, .call { callee := .value (.func 13), args := #[.tmp 57, .tmp 58], argTypes := #[9, 22] }, 28, none⟩,
  ⟨some 56, .move (.tmp 59), 28, none⟩,
  ⟨some 60, .extract (.tmp 56) 0, 9, none⟩,
  ⟨some 61, .extract (.tmp 56) 1, 25, none⟩,
  ⟨some 13, .assign (.tmp 60), 9, none⟩,
  ⟨some 14, .assign (.tmp 61), 25, none⟩]
def r3_14 : List O := [⟨some 62, .move (.tmp 7), 24, none⟩,
  ⟨some 63, .move (.tmp 9), 24, none⟩,
  ⟨some 64, .call { callee := .value (.func 14), args := #[.tmp 62, .tmp 63], argTypes := #[24, 24] }, 4, none⟩,
  ⟨some 65, .move (.tmp 64), 4, none⟩,
  ⟨some 66, .move (.tmp 8), 25, some (65, true)⟩,
  ⟨some 67, .move (.tmp 10), 25, some (65, true)⟩,
  ⟨some 68, .binOp .eql 25 (.tmp 66) (.tmp 67) 25, 4, some (65, true)⟩,
  ⟨some 69, .pick (.tmp 65) (.tmp 68) (.const (.bool false)), 4, none⟩,
  ⟨some 70, .move (.tmp 69), 4, none⟩,
  ⟨some 71, .move (.tmp 11), 9, some (70, true)⟩,
  ⟨some 72, .move (.tmp 13), 9, some (70, true)⟩,
  ⟨some 73, .binOp .eql 9 (.tmp 71) (.tmp 72) 9, 4, some (70, true)⟩,
  ⟨some 74, .pick (.tmp 70) (.tmp 73) (.const (.bool false)), 4, none⟩,
  ⟨some 75, .move (.tmp 74), 4, none⟩,
  ⟨some 76, .move (.tmp 12), 25, some (75, true)⟩,
  ⟨some 77, .move (.tmp 14), 25, some (75, true)⟩,
  ⟨some 78, .binOp .eql 25 (.tmp 76) (.tmp 77) 25, 4, some (75, true)⟩,
  ⟨some 79, .pick (.tmp 75) (.tmp 78) (.const (.bool false)), 4, none⟩,
  ⟨some 80, .move (.tmp 79), 4, none⟩,
  ⟨some 81, .move (.tmp 0), 9, some (80, true)⟩,
  ⟨some 82, .call { callee := .value (.func 15), args := #[.tmp 81], argTypes := #[9] }, 9, some (80, true)⟩,
  ⟨some 83, .move (.tmp 0), 9, some (80, true)⟩,
  ⟨some 84, .call { callee := .value (.func 16), args := #[.tmp 83], argTypes := #[9] }, 9, some (80, true)⟩,
  ⟨some 85, .binOp .eql 9 (.tmp 82) (.tmp 84) 9, 4, some (80, true)⟩,
  ⟨some 86, .pick (.tmp 80) (.tmp 85) (.const (.bool false)), 4, none⟩,
  ⟨some 4, .assign (.tmp 86), 4, none⟩]
def c3_0 : A := .seq (.reg r3_2 [4]) .ret
def c3_1 : A := .cond (.tmp 16) c3_0 .skip
def c3_2 : A := .seq (.reg r3_4 [4]) .ret
def c3_3 : A := .cond (.tmp 24) c3_2 .skip
def c3_4 : A := .seq (.reg r3_9 [4]) .ret
def c3_5 : A := .cond (.tmp 39) c3_4 .skip
def c3_6 : A := .seq (.reg r3_8 [0, 1, 26, 39]) c3_5
def c3_7 : A := .seq (.reg r3_7 [0, 1, 5, 6, 26]) c3_6
def c3_8 : A := .block 1 c3_7
def c3_9 : A := .seq (.cond (.tmp 28) .skip (.exit 0)) (.seq (.keep [0, 1, 26]) c3_8)
def c3_10 : A := .seq (.reg r3_6 [0, 1, 26, 28]) c3_9
def c3_11 : A := .seq c3_10 (.keep [0, 1, 26])
def c3_12 : A := .loop c3_11
def c3_13 : A := .block 0 c3_12
def c3_14 : A := .seq (.reg r3_14 [4]) .ret
def c3_15 : A := .seq (.reg r3_13 [0, 7, 8, 9, 10, 11, 12, 13, 14]) c3_14
def c3_16 : A := .seq (.reg r3_12 [0, 1, 7, 8, 9, 10, 11, 12]) c3_15
def c3_17 : A := .seq (.reg r3_11 [0, 1, 7, 8, 9, 10]) c3_16
def c3_18 : A := .seq (.reg r3_10 [0, 1, 7, 8]) c3_17
def c3_19 : A := .seq (.seq (.reg r3_5 [0, 1, 26]) c3_13) c3_18
def c3_20 : A := .seq (.seq (.reg r3_3 [0, 1, 24]) c3_3) (.seq (.keep [0, 1]) c3_19)
def c3_21 : A := .seq (.seq (.reg r3_1 [0, 1, 16]) c3_1) (.seq (.keep [0, 1]) c3_20)
def c3 : A := .seq (.reg r3_0 [0, 1]) c3_21
/-! ### 4 dasd/dasdlaw39.JobtextSymbols -/
end Go.Proofs.YtoabcmhiaknjiaaDoor

/- The example that every law of chapter 39 checks first. -/
set_option maxRecDepth 100000
set_option linter.unusedSimpArgs false
set_option linter.unusedVariables false
namespace Go.Proofs.YtoabcmhiaknjiaaDoor
open Go.Hw

theorem exStep_row : rowsFrom 0 (linesF exText) = [(1, exStep)] := by rw [exText_lines]; rfl
theorem LF0_step (s : RS) (hs : s.syms = []) (ho : s.out.length < 400) : LF0 s (1, exStep) [] = ({ s with out := s.out ++ [⟨1, [], [[115, 116, 101, 112], [83, 49], [112, 114, 111, 103, 114, 97, 109], [99, 111, 112, 121]], []⟩] }, ⟨0, 0, 0⟩) := by
  unfold LF0 lineR
  rw [hs, exStep_word]
  have e : stmF s.out [] 1 [] [[115, 116, 101, 112], [83, 49], [112, 114, 111, 103, 114, 97, 109], [99, 111, 112, 121]] = (s.out ++ [⟨1, [], [[115, 116, 101, 112], [83, 49], [112, 114, 111, 103, 114, 97, 109], [99, 111, 112, 121]], []⟩], ⟨0, 0, 0⟩) := by
    unfold stmF
    rw [if_neg (by omega), if_neg (by decide)]
  simp only [e]
  rw [if_pos (by decide)]
theorem exText_exp : expandF LF0 exText = ([⟨1, [], [[115, 116, 101, 112], [83, 49], [112, 114, 111, 103, 114, 97, 109], [99, 111, 112, 121]], []⟩], 0, 0) := by
  unfold expandF
  rw [exStep_row, exText_lines]
  rw [if_neg (by decide)]
  simp only [List.length_singleton, readT, LF0_step ⟨[], [], []⟩ rfl (by decide), if_true]
  rfl

theorem stmF_len {out : List Stm} {call : List UInt8} {k : Nat} {rest : List Row} {words : List (List UInt8)} (h : out.length ≤ 400) : (stmF out call k rest words).1.length ≤ 400 := by
  unfold stmF
  split
  · exact h
  · split
    · split
      · exact h
      · simp; omega
    · simp; omega

/-- A line that is a statement. -/
theorem LF0_line {B0 R ms mp kn k : Nat} {s : RS} {G : Hp} {rv : Value} {t w : List UInt8} {ws : List (List UInt8)} {rest : List Row} {K2 : Ending → Hp → Prop} (hB0 : 0 < B0) (h1 : s.syms = []) (h2 : s.out.length ≤ 400) (hBG : B0 ≤ G.size) (hg : G0 G) (hrd : Rdr B0 R ms mp G s) (hmk : MapC G kn hndL) (hrv : RowsV G rv ((k, t) :: rest))
    (hrl : rest.length ≤ 1000000) (ht : t.length ≤ 1000000) (hlr : ∀ x ∈ rest, x.2.length ≤ 1000000000) (hw : lineW (fun x => List.lookup x ([] : List (List UInt8 × List UInt8))) t = .ok (w :: ws)) (hlw : hndL.lookup w = some (fnV 90))
    (hk : ∀ G', FrJ B0 (MM ms mp) G G' → Rdr B0 R ms mp G' (LF0 s (k, t) rest).1 → K2 (.returned (.tuple #[.int .i64 (LF0 s (k, t) rest).2.n, .agg #[.int .i64 (LF0 s (k, t) rest).2.line, .int .i64 (LF0 s (k, t) rest).2.code]])) G') :
    HCall Tryd.prog 63 #[.pointer (some ⟨R, 0, none⟩), .map (some kn), .agg #[rv, .string (B []), .bool false]] G K2 := by
  refine line_c (fun ws => ({ s with out := (stmF s.out [] k rest ws).1 }, (stmF s.out [] k rest ws).2)) hrd hB0 hg hmk hrv ht ?_ ?_
  · intro w' ws' f hl hlk G1 wv K3 E hwv hlen hk3
    rw [h1, hw] at hl
    simp only [Except.ok.injEq, List.cons.injEq] at hl
    obtain ⟨rfl, rfl⟩ := hl
    have hf : f = 90 := by
      rw [hlw] at hlk
      simp only [fnV, Option.some.injEq, Value.func.injEq, Fn.func.injEq, and_true] at hlk
      exact hlk.symm
    subst hf
    exact statement_c (hrd.ext E).out (by have := E.size; omega) (hrv.ext E) hrl hlr hwv (by simp) hlen (by omega) fun G' f1 f2 => hk3 G' (f1.mono fun x o ⟨a, b⟩ => ⟨a, b.imp_right fun c => c.1.elim⟩) ((hrd.ext E).stm f1 f2)
  · rw [known_fun]
    exact hk

theorem exText_c {H : Hp} {K : Ending → Hp → Prop} (g : G0 H) (h : ∀ G v, Ext H G → StmsV G v [⟨1, [], [[115, 116, 101, 112], [83, 49], [112, 114, 111, 103, 114, 97, 109], [99, 111, 112, 121]], []⟩] → K (.returned (.tuple #[v, .int .i64 0, .int .i64 0])) G) :
    HCall Tryd.prog 19 #[.string (B exText)] H K := by
  refine expand_c LF0 (fun s => s.syms = [] ∧ s.out.length ≤ 400) (fun r => r = [(1, exStep)] ∨ r = []) g (by decide) ⟨rfl, by decide⟩ (.inl exStep_row) ?_ ?_ ?_
  · rintro s x rest ⟨h1, h2⟩ hr _
    rcases hr with hr | hr
    · simp only [List.cons.injEq] at hr
      obtain ⟨rfl, rfl⟩ := hr
      have e : LF0 s (1, exStep) [] = ({ s with out := (stmF s.out [] 1 [] [[115, 116, 101, 112], [83, 49], [112, 114, 111, 103, 114, 97, 109], [99, 111, 112, 121]]).1 }, (stmF s.out [] 1 [] [[115, 116, 101, 112], [83, 49], [112, 114, 111, 103, 114, 97, 109], [99, 111, 112, 121]]).2) := by
        unfold LF0 lineR
        rw [h1, exStep_word]
        simp only
        rw [if_pos (by decide)]
      rw [e]
      refine ⟨⟨h1, stmF_len h2⟩, ?_, .inr (by simp)⟩
      unfold stmF
      split
      · exact Nat.le_refl _
      · rw [if_neg (by decide)]; exact Nat.le_refl _
    · cases hr
  · rintro B0 R ms mp s G rv k t rest kn K2 hB0 _ ⟨h1, h2⟩ hrw hBG hg hrd hmk hrv hrl hk
    rcases hrw with hrw | hrw
    · simp only [List.cons.injEq, Prod.mk.injEq] at hrw
      obtain ⟨⟨rfl, rfl⟩, rfl⟩ := hrw
      exact LF0_line hB0 h1 h2 hBG hg hrd hmk hrv hrl (by decide) (by simp) exStep_word rfl hk
    · cases hrw
  · rw [exText_exp]
    intro G v e hs _
    exact h G v e hs

theorem awake_c {H : Hp} {K : Ending → Hp → Prop} (g : G0 H) (h : ∀ G, Ext H G → K (.returned (.bool true)) G) : HCall Tryd.prog 9 #[] H K := by
  refine hcall mixed B9 (args := []) (by simp) ?_
  simp only [go_sem, reduceCtorEq, Nat.reduceEqDiff, Nat.reduceAdd, withc_some, withcs_some, cells_0, cells_s, Option.bind_some, Option.map_some, List.getElem?_toArray, List.getElem?_cons_zero, List.getElem?_cons_succ, Nat.add_zero, Nat.zero_add, Value.cells, splice, List.setIfInBounds_toArray, List.set_cons_zero, List.set_cons_succ, bfill_nil, bfill_cons, bstep_some, withO_some, List.take_zero, List.take_succ_cons, List.drop_zero, List.drop_succ_cons, List.cons_append, List.nil_append, List.append_nil, List.length_cons, List.length_nil, Nat.reduceLeDiff, Nat.le_refl, and_true, true_and, and_self, decide_true, decide_false, Bool.not_true, Bool.not_false, c9, r9_0, c9_3, r9_1, callA_fn0 pl10]
  refine scan exScan H (by decide) fun G1 v e E1 hs => ?_
  unfold ScanR at hs
  rw [exScan_eq] at hs
  obtain ⟨rfl, own⟩ := hs
  obtain ⟨va, vc, rfl⟩ := own.form
  have own' : SlV G1 _ _ := SlE.own own
  simp only [go_sem, reduceCtorEq, Nat.reduceEqDiff, Nat.reduceAdd, withc_some, withcs_some, cells_0, cells_s, Option.bind_some, Option.map_some, List.getElem?_toArray, List.getElem?_cons_zero, List.getElem?_cons_succ, Nat.add_zero, Nat.zero_add, Value.cells, splice, List.setIfInBounds_toArray, List.set_cons_zero, List.set_cons_succ, bfill_nil, bfill_cons, bstep_some, withO_some, List.take_zero, List.take_succ_cons, List.drop_zero, List.drop_succ_cons, List.cons_append, List.nil_append, List.append_nil, List.length_cons, List.length_nil, Nat.reduceLeDiff, Nat.le_refl, and_true, true_and, and_self, decide_true, decide_false, Bool.not_true, Bool.not_false, c9_2, r9_2, opA_makeMap, opA_insert, B_lit, callA_fn0 pl10, callA_fn0 pl12]
  have m0 : MapC (G1.push (.map #[] 0)) G1.size [] := MapC.new
  have e0 : Ext G1 (G1.push (.map #[] 0)) := Ext.push _ _
  generalize G1.push (.map #[] 0) = G2 at *
  generalize hm : G1.size = m at *
  refine mupA_ok Tryd.underlying22 uStr m0 fun G3 m1 k1 => ?_
  have e1 : Ext G1 G3 := k1.two e0 (by omega)
  simp only [go_sem, reduceCtorEq, Nat.reduceEqDiff, Nat.reduceAdd, withc_some, withcs_some, cells_0, cells_s, Option.bind_some, Option.map_some, List.getElem?_toArray, List.getElem?_cons_zero, List.getElem?_cons_succ, Nat.add_zero, Nat.zero_add, Value.cells, splice, List.setIfInBounds_toArray, List.set_cons_zero, List.set_cons_succ, bfill_nil, bfill_cons, bstep_some, withO_some, List.take_zero, List.take_succ_cons, List.drop_zero, List.drop_succ_cons, List.cons_append, List.nil_append, List.append_nil, List.length_cons, List.length_nil, Nat.reduceLeDiff, Nat.le_refl, and_true, true_and, and_self, decide_true, decide_false, Bool.not_true, Bool.not_false, callA_fn0 pl10, callA_fn0 pl12]
  refine replace_c exRepl (.map (some m)) [([68, 65, 89], [55])] G3 (by decide) (by decide) (g.ext (E1.trans e1)) (.inr ⟨m, rfl, m1.o⟩) fun G4 E4 => ?_
  rw [show replR (fun x => List.lookup x [([68, 65, 89], [55])]) exRepl = ([100, 100, 32, 79, 85, 84, 32, 100, 97, 116, 97, 32, 80, 65, 89, 46, 68, 55, 32, 110, 101, 119], 0) from exRepl_eq]
  simp only [go_sem, reduceCtorEq, Nat.reduceEqDiff, Nat.reduceAdd, withc_some, withcs_some, cells_0, cells_s, Option.bind_some, Option.map_some, List.getElem?_toArray, List.getElem?_cons_zero, List.getElem?_cons_succ, Nat.add_zero, Nat.zero_add, Value.cells, splice, List.setIfInBounds_toArray, List.set_cons_zero, List.set_cons_succ, bfill_nil, bfill_cons, bstep_some, withO_some, List.take_zero, List.take_succ_cons, List.drop_zero, List.drop_succ_cons, List.cons_append, List.nil_append, List.append_nil, List.length_cons, List.length_nil, Nat.reduceLeDiff, Nat.le_refl, and_true, true_and, and_self, decide_true, decide_false, Bool.not_true, Bool.not_false, c9_1, r9_3, callA_fn0 pl10, callA_fn0 pl12, callA_fn0 pl19]
  refine exText_c (g.ext (E1.trans (e1.trans E4))) fun G5 v5 E5 hst => ?_
  obtain ⟨cells, hsl, hst⟩ := hst
  obtain ⟨b5, off5, vc5, rfl, hcell⟩ := hsl.cell (i := 0) (by decide)
  obtain ⟨u, hu, hcell⟩ := hcell 0 (by decide)
  obtain ⟨wv, dv, rest, rfl, _⟩ := hst
  cases hu
  replace hcell : cellH G5 ⟨b5, off5, none⟩ = some (.int .i64 ((1 : Nat) : Int)) := hcell
  have E15 := e1.trans (E4.trans E5)
  obtain ⟨wb, woff, wc', ew, w1⟩ := (own'.ext E15).at (i := 5) (w := [98, 121, 32, 49, 32, 56]) rfl
  cases ew
  simp only [go_sem, reduceCtorEq, Nat.reduceEqDiff, Nat.reduceAdd, withc_some, withcs_some, cells_0, cells_s, Option.bind_some, Option.map_some, List.getElem?_toArray, List.getElem?_cons_zero, List.getElem?_cons_succ, Nat.add_zero, Nat.zero_add, Value.cells, splice, List.setIfInBounds_toArray, List.set_cons_zero, List.set_cons_succ, bfill_nil, bfill_cons, bstep_some, withO_some, List.take_zero, List.take_succ_cons, List.drop_zero, List.drop_succ_cons, List.cons_append, List.nil_append, List.append_nil, List.length_cons, List.length_nil, Nat.reduceLeDiff, Nat.le_refl, and_true, true_and, and_self, decide_true, decide_false, Bool.not_true, Bool.not_false, c9_0, r9_4, List.length_cons, List.length_nil, show decide (((0 + 1 + 1 + 1 + 1 + 1 + 1 : Nat) : Int) = 6) = true from rfl, show decide ((0 : Int) = 0) = true from rfl, show decide (((0 + 1 : Nat) : Int) = 1) = true from rfl, callA_fn0 pl10, callA_fn0 pl12, callA_fn0 pl15, callA_fn0 pl19, fa40_0, ld3, ld9, len_slice Tryd.underlying24, len_slice Tryd.underlying36]
  rw [iadA_slice uStrs ty9 (by omega) (by simp)]
  have hb1 : (([98, 121, 32, 49, 32, 56] : List UInt8) == [98, 121, 32, 49, 32, 56]) = true := rfl
  have hb2 : (([100, 100, 32, 79, 85, 84, 32, 100, 97, 116, 97, 32, 80, 65, 89, 46, 68, 55, 32, 110, 101, 119] : List UInt8) == [100, 100, 32, 79, 85, 84, 32, 100, 97, 116, 97, 32, 80, 65, 89, 46, 68, 55, 32, 110, 101, 119]) = true := rfl
  simp only [go_sem, reduceCtorEq, Nat.reduceEqDiff, Nat.reduceAdd, withc_some, withcs_some, cells_0, cells_s, Option.bind_some, Option.map_some, List.getElem?_toArray, List.getElem?_cons_zero, List.getElem?_cons_succ, Nat.add_zero, Nat.zero_add, Value.cells, splice, List.setIfInBounds_toArray, List.set_cons_zero, List.set_cons_succ, bfill_nil, bfill_cons, bstep_some, withO_some, List.take_zero, List.take_succ_cons, List.drop_zero, List.drop_succ_cons, List.cons_append, List.nil_append, List.append_nil, List.length_cons, List.length_nil, Nat.reduceLeDiff, Nat.le_refl, and_true, true_and, and_self, decide_true, decide_false, Bool.not_true, Bool.not_false, add_none, show Int.toNat 5 = 5 from rfl, Nat.mul_one, w1, B_lit, B_toList, hb1, hb2, show decide (((1 : Nat) : Int) = 1) = true from rfl, callA_fn0 pl10, callA_fn0 pl12, callA_fn0 pl15, callA_fn0 pl19, fa40_0, ld3, ld9, len_slice Tryd.underlying24, len_slice Tryd.underlying36]
  rw [iadA_slice Tryd.underlying36 ty40 (by omega) (by simp)]
  simp only [go_sem, reduceCtorEq, Nat.reduceEqDiff, Nat.reduceAdd, withc_some, withcs_some, cells_0, cells_s, Option.bind_some, Option.map_some, List.getElem?_toArray, List.getElem?_cons_zero, List.getElem?_cons_succ, Nat.add_zero, Nat.zero_add, Value.cells, splice, List.setIfInBounds_toArray, List.set_cons_zero, List.set_cons_succ, bfill_nil, bfill_cons, bstep_some, withO_some, List.take_zero, List.take_succ_cons, List.drop_zero, List.drop_succ_cons, List.cons_append, List.nil_append, List.append_nil, List.length_cons, List.length_nil, Nat.reduceLeDiff, Nat.le_refl, and_true, true_and, and_self, decide_true, decide_false, Bool.not_true, Bool.not_false, add_none, Int.toNat_zero, Nat.zero_mul, hcell, show decide (((1 : Nat) : Int) = 1) = true from rfl, B_lit, callA_fn0 pl10, callA_fn0 pl12, callA_fn0 pl15, callA_fn0 pl19, fa40_0, ld3, ld9, len_slice Tryd.underlying24, len_slice Tryd.underlying36]
  refine quote_c [97, 32, 98] (by decide) (g.ext (E1.trans E15)) fun G6 E6 => ?_
  rw [exQuote_eq]
  have hb3 : (([39, 97, 32, 98, 39] : List UInt8) == [39, 97, 32, 98, 39]) = true := rfl
  simp only [go_sem, reduceCtorEq, Nat.reduceEqDiff, Nat.reduceAdd, withc_some, withcs_some, cells_0, cells_s, Option.bind_some, Option.map_some, List.getElem?_toArray, List.getElem?_cons_zero, List.getElem?_cons_succ, Nat.add_zero, Nat.zero_add, Value.cells, splice, List.setIfInBounds_toArray, List.set_cons_zero, List.set_cons_succ, bfill_nil, bfill_cons, bstep_some, withO_some, List.take_zero, List.take_succ_cons, List.drop_zero, List.drop_succ_cons, List.cons_append, List.nil_append, List.append_nil, List.length_cons, List.length_nil, Nat.reduceLeDiff, Nat.le_refl, and_true, true_and, and_self, decide_true, decide_false, Bool.not_true, Bool.not_false, B_lit, B_toList, hb3, callA_fn0 pl10, callA_fn0 pl12, callA_fn0 pl15, callA_fn0 pl19, fa40_0, ld3, ld9, len_slice Tryd.underlying24, len_slice Tryd.underlying36]
  exact h G6 ((E1.trans E15).trans E6)
end Go.Proofs.YtoabcmhiaknjiaaDoor
