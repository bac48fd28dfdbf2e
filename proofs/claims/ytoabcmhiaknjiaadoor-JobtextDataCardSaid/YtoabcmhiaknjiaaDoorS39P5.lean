/- Contracts and laws that the claim leans on, part 5. -/
import Derived.Test.YtoabcmhiaknjiaaDoorS39P2
import Derived.Test.YtoabcmhiaknjiaaDoorS39P4
import Derived.Test.YtoabcmhiaknjiaaDoorProg
import Derived.Test.YtoabcmhiaknjiaaDoorS39P1
import Derived.Handed
import Derived.Carry
import Derived.ChangeShapes
import Derived.LaidLaws
import Derived.ProofKit
import Derived.Stop.Joined
import Derived.Lay
import Derived.SliceStrings
import Derived.ChangeMaps5
import Derived.Test.YtoabcmhiaknjiaaDoorRows
import Derived.Test.YtoabcmhiaknjiaaDoorCards
import Derived.Test.YtoabcmhiaknjiaaDoorTie
import Derived.Shelf.Vars
import Derived.MakeChecks
import Derived.SevenTiedAt
import Derived.JoinedOf
/- Contracts of jobtext: the reader's state; statement. -/
set_option maxRecDepth 100000
set_option linter.unusedSimpArgs false
set_option linter.unusedVariables false
namespace Go.Proofs.YtoabcmhiaknjiaaDoor
open Go.Hw

/-! ### What a reader's work leaves as it was -/

structure KeepO (M : Nat → Obj → Prop) (H H' : Hp) : Prop where
  size : H.size ≤ H'.size
  blk : ∀ b o, H[b]? = some o → ¬ M b o → H'[b]? = some o
theorem KeepO.refl (M : Nat → Obj → Prop) (H : Hp) : KeepO M H H := ⟨Nat.le_refl _, fun _ _ h _ => h⟩
theorem KeepO.trans {M : Nat → Obj → Prop} {a b c : Hp} (h : KeepO M a b) (k : KeepO M b c) : KeepO M a c := ⟨Nat.le_trans h.size k.size, fun x o ho hm => k.blk x o (h.blk x o ho hm) hm⟩
theorem KeepO.mono {M M' : Nat → Obj → Prop} {a b : Hp} (h : KeepO M a b) (hm : ∀ x o, M x o → M' x o) : KeepO M' a b := ⟨h.size, fun x o ho hn => h.blk x o ho fun h1 => hn (hm x o h1)⟩
theorem _root_.Go.Hw.Ext.ko {M : Nat → Obj → Prop} {a b : Hp} (h : Ext a b) : KeepO M a b := ⟨h.size, fun x o ho _ => h.get ho⟩
theorem _root_.Go.Hw.Keep.ko {S : Nat → Prop} {M : Nat → Obj → Prop} {a b : Hp} (h : Keep S a b) (hm : ∀ x o, S x → a[x]? = some o → M x o) : KeepO M a b :=
  ⟨h.size, fun x o ho hn => h.get ho fun hs => hn (hm x o hs ho)⟩

/-- What may turn: from B0 on: readers, rows of statements, the maps of M. -/
def mutJ (B0 : Nat) (M : Nat → Prop) (b : Nat) (o : Obj) : Prop := B0 ≤ b ∧ ((∃ c f, o = .cells c 77 f ∨ o = .cells c 40 f) ∨ (M b ∧ ∃ es k, o = .map es k))
abbrev FrJ (B0 : Nat) (M : Nat → Prop) (H H' : Hp) : Prop := KeepO (mutJ B0 M) H H'
theorem FrJ.ext {B0 : Nat} {M : Nat → Prop} {H0 H G : Hp} (h : Ext H0 H) (k : FrJ B0 M H G) (hB : H0.size ≤ B0) : Ext H0 G :=
  ⟨Nat.le_trans h.size k.size, fun b hb => by
    have h1 := h.blk b hb
    obtain ⟨o, ho⟩ : ∃ o, H0[b]? = some o := ⟨H0[b], Array.getElem?_eq_getElem hb⟩
    rw [ho] at h1 ⊢
    exact k.blk b o h1 fun hm => by have := hm.1; omega⟩
theorem sl_frJ {B0 E sz : Nat} {M : Nat → Prop} {H H' : Hp} {v : Value} {n : Nat} {l : List Value} (h : SlE E sz H v n l) (k : FrJ B0 M H H') (h1 : E ≠ 77) (h2 : E ≠ 40) : SlE E sz H' v n l :=
  h.mono fun b c f hb => k.blk b _ hb fun hm => by
    rcases hm.2 with ⟨c', f', h3 | h3⟩ | ⟨_, es, kk, h3⟩ <;> cases h3
    · exact h1 rfl
    · exact h2 rfl
theorem RowsV.frJ {B0 : Nat} {M : Nat → Prop} {H H' : Hp} {v : Value} {rows : List Row} (h : RowsV H v rows) (k : FrJ B0 M H H') : RowsV H' v rows := sl_frJ h k (by decide) (by decide)
theorem cells_frJ {B0 : Nat} {M : Nat → Prop} {H H' : Hp} (k : FrJ B0 M H H') {b E : Nat} {c : Array Value} {f : Nat × Nat} (hb : H[b]? = some (.cells c E f)) (h1 : E ≠ 77) (h2 : E ≠ 40) : H'[b]? = some (.cells c E f) :=
  k.blk b _ hb fun hm => by
    rcases hm.2 with ⟨c', f', h3 | h3⟩ | ⟨_, es, kk, h3⟩ <;> cases h3
    · exact h1 rfl
    · exact h2 rfl

/-- A slice of words. -/
def SlV (H : Hp) (v : Value) (ws : List (List UInt8)) : Prop := SlE 9 1 H v ws.length (strs ws)
theorem SlV.ext {H H' : Hp} {v : Value} {ws : List (List UInt8)} (h : SlV H v ws) (e : Ext H H') : SlV H' v ws := SlE.ext h e
theorem SlV.frJ {B0 : Nat} {M : Nat → Prop} {H H' : Hp} {v : Value} {ws : List (List UInt8)} (h : SlV H v ws) (k : FrJ B0 M H H') : SlV H' v ws := sl_frJ h k (by decide) (by decide)
theorem SlV.at {H : Hp} {v : Value} {ws : List (List UInt8)} (h : SlV H v ws) {i : Nat} {w : List UInt8} (hi : ws[i]? = some w) :
    ∃ b off c, v = .slice (some ⟨b, off, none⟩) ws.length c ∧ cellH H ⟨b, off + i, none⟩ = some (.string (B w)) := by
  obtain ⟨b, off, c, h1, h2⟩ := SlE.cell h (some_lt hi)
  obtain ⟨u, h3, h4⟩ := h2 0 (by omega)
  refine ⟨b, off, c, h1, ?_⟩
  simp only [Nat.mul_one, Nat.add_zero] at h3 h4
  unfold strs at h3
  rw [List.getElem?_map, hi] at h3
  cases h3; exact h4

/-- Statements and their cells. -/
def stmC (H : Hp) : List Stm → List Value → Prop
  | [], cs => cs = []
  | s :: r, cs => ∃ wv dv rest, cs = [.int .i64 s.line, .string (B s.call), wv, dv] ++ rest ∧ SlV H wv s.words ∧ SlV H dv s.data ∧ stmC H r rest
theorem stmC.mono {H H' : Hp} (hk : ∀ v ws, SlV H v ws → SlV H' v ws) : ∀ (l : List Stm) (cs : List Value), stmC H l cs → stmC H' l cs
  | [], cs, h => h
  | s :: r, cs, ⟨wv, dv, rest, h1, h2, h3, h4⟩ => ⟨wv, dv, rest, h1, hk _ _ h2, hk _ _ h3, stmC.mono hk r rest h4⟩
theorem stmC.snoc {H : Hp} {s : Stm} {wv dv : Value} (hw : SlV H wv s.words) (hd : SlV H dv s.data) : ∀ (l : List Stm) (cs : List Value), stmC H l cs → stmC H (l ++ [s]) (cs ++ [.int .i64 s.line, .string (B s.call), wv, dv])
  | [], cs, h => by
    have : cs = [] := h
    subst this
    exact ⟨wv, dv, [], by simp, hw, hd, rfl⟩
  | x :: r, cs, ⟨wv', dv', rest, h1, h2, h3, h4⟩ => ⟨wv', dv', _, by rw [h1, List.append_assoc], h2, h3, stmC.snoc hw hd r rest h4⟩

/-- A reader at R: what it has read. -/
def RdrO (B0 R ms mp : Nat) (H : Hp) (out : List Stm) : Prop :=
  B0 ≤ R ∧ ∃ ov cells, H[R]? = some (.cells #[.map (some ms), .map (some mp), ov] 77 (0, 0)) ∧ OwnS (B0 ≤ ·) 40 4 H ov out.length cells ∧ stmC H out cells
theorem RdrO.ext {B0 R ms mp : Nat} {H H' : Hp} {out : List Stm} (h : RdrO B0 R ms mp H out) (e : Ext H H') : RdrO B0 R ms mp H' out := by
  obtain ⟨h0, ov, cells, h1, h2, h3⟩ := h
  exact ⟨h0, ov, cells, e.get h1, h2.ext e, stmC.mono (fun v ws h => h.ext e) _ _ h3⟩

/-- A slice literal of one element of several cells. -/
theorem bslA_oneA {P : Program} {H : Hp} {K : Value → Hp → Prop} {X : List PanicEntry → Hp → Prop} {T E : TypeId} {z : Value} {sz by_ : Nat} {v : Value} (hT : P.underlying T = some (.slice E)) (hE : TyOK P E (some z) sz by_) (hz : z.cells.size = sz) (hv : v.cells.size = sz) (h0 : sz ≠ 0 := by decide) (h1 : sz ≤ 16777216 := by decide) :
    bslA P T 1 [(0, v)] K X H = K (.slice (some ⟨H.size, 0, none⟩) 1 1) (H.push (.cells v.cells E)) := by
  refine bslA_lit hT hE (by omega) h0 ?_ (by decide)
  unfold Instr.fill
  simp only [Nat.one_mul, Nat.zero_mul]
  have hc : ¬ ((decide (v.cells.size ≠ sz) || decide (0 + v.cells.size > (Array.map (fun x => z.cells[x % z.cells.size]!) (Array.range sz)).size)) = true) := by
    simp [hv]
  rw [if_neg hc]
  unfold Instr.fill
  have := put_zip 0 v.cells.toList 0 (Array.map (fun x => z.cells[x % z.cells.size]!) (Array.range sz)) (by simp [hv])
  simp only [Nat.zero_add, List.take_zero, List.nil_append, Array.length_toList, hv] at this
  have e : v.cells.toList.toArray = v.cells := by simp
  rw [e] at this
  have e2 : List.drop sz (Array.map (fun x => z.cells[x % z.cells.size]!) (Array.range sz)).toList = [] := by simp
  rw [e2, List.append_nil, e] at this
  simpa using this

theorem uStms : Tryd.prog.underlying 36 = some (.slice 40) := Tryd.underlying36
set_option maxHeartbeats 2000000 in
theorem statement_c {B0 R ms mp : Nat} {rv wv : Value} {call : List UInt8} {inn : Bool} {k : Nat} {t : List UInt8} {rest : List Row} {words : List (List UInt8)} {out : List Stm} {H : Hp} {K : Ending → Hp → Prop}
    (hR : RdrO B0 R ms mp H out) (hB : B0 ≤ H.size) (hr : RowsV H rv ((k, t) :: rest)) (hl : rest.length ≤ 1000000) (hlt : ∀ x ∈ rest, x.2.length ≤ 1000000000) (hw : SlV H wv words) (hw0 : words ≠ []) (hwl : words.length ≤ 1000000) (hout : out.length ≤ 1000000)
    (h : ∀ G, FrJ B0 (fun _ => False) H G → RdrO B0 R ms mp G (stmF out call k rest words).1 → K (.returned (.tuple #[.int .i64 (stmF out call k rest words).2.n, .agg #[.int .i64 (stmF out call k rest words).2.line, .int .i64 (stmF out call k rest words).2.code]])) G) :
    HCall Tryd.prog 90 #[.pointer (some ⟨R, 0, none⟩), .agg #[rv, .string (B call), .bool inn], wv] H K := by
  refine hcall mixed B90 (args := [.pointer (some ⟨R, 0, none⟩), .agg #[rv, .string (B call), .bool inn], wv]) (by simp) ?_
  obtain ⟨hR0, ov, cells, hRb, hown, hst⟩ := hR
  obtain ⟨oa, oc, rfl⟩ := hown.form
  obtain ⟨wa, wc, rfl⟩ := SlE.form hw
  simp only [go_sem, reduceCtorEq, Nat.reduceEqDiff, Nat.reduceAdd, withc_some, withcs_some, cells_0, cells_s, Option.bind_some, Option.map_some, List.getElem?_toArray, List.getElem?_cons_zero, List.getElem?_cons_succ, Nat.add_zero, Nat.zero_add, Value.cells, splice, List.setIfInBounds_toArray, List.set_cons_zero, List.set_cons_succ, bfill_nil, bfill_cons, bstep_some, withO_some, List.take_zero, List.take_succ_cons, List.drop_zero, List.drop_succ_cons, List.cons_append, List.nil_append, List.append_nil, List.length_cons, List.length_nil, Nat.reduceLeDiff, Nat.le_refl, and_true, true_and, and_self, decide_true, decide_false, Bool.not_true, Bool.not_false, c90, r90_0, opA_alloc 79 ty79]
  refine box_kA fun b4 G1 e4 s1 h4 E1 => ?_
  simp only [go_sem, reduceCtorEq, Nat.reduceEqDiff, Nat.reduceAdd, withc_some, withcs_some, cells_0, cells_s, Option.bind_some, Option.map_some, List.getElem?_toArray, List.getElem?_cons_zero, List.getElem?_cons_succ, Nat.add_zero, Nat.zero_add, Value.cells, splice, List.setIfInBounds_toArray, List.set_cons_zero, List.set_cons_succ, bfill_nil, bfill_cons, bstep_some, withO_some, List.take_zero, List.take_succ_cons, List.drop_zero, List.drop_succ_cons, List.cons_append, List.nil_append, List.append_nil, List.length_cons, List.length_nil, Nat.reduceLeDiff, Nat.le_refl, and_true, true_and, and_self, decide_true, decide_false, Bool.not_true, Bool.not_false, opA_alloc 79 ty79]
  refine box_kA fun b7 G2 e7 s2 h7 E2 => ?_
  have E12 := E1.trans E2
  simp only [go_sem, reduceCtorEq, Nat.reduceEqDiff, Nat.reduceAdd, withc_some, withcs_some, cells_0, cells_s, Option.bind_some, Option.map_some, List.getElem?_toArray, List.getElem?_cons_zero, List.getElem?_cons_succ, Nat.add_zero, Nat.zero_add, Value.cells, splice, List.setIfInBounds_toArray, List.set_cons_zero, List.set_cons_succ, bfill_nil, bfill_cons, bstep_some, withO_some, List.take_zero, List.take_succ_cons, List.drop_zero, List.drop_succ_cons, List.cons_append, List.nil_append, List.append_nil, List.length_cons, List.length_nil, Nat.reduceLeDiff, Nat.le_refl, and_true, true_and, and_self, decide_true, decide_false, Bool.not_true, Bool.not_false, c90_12, r90_1, cell_of_blk (E12.get hRb), fa77_2, ld36, len_slice Tryd.underlying36, opA_alloc 79 ty79]
  by_cases h400 : 400 ≤ out.length
  · have e1 : decide ((400 : Int) ≤ (out.length : Int)) = true := by rw [decide_eq_true_eq]; omega
    have hs : stmF out call k rest words = (out, ⟨0, k, 8⟩) := by unfold stmF; rw [if_pos h400]
    rw [hs] at h
    simp only [go_sem, reduceCtorEq, Nat.reduceEqDiff, Nat.reduceAdd, withc_some, withcs_some, cells_0, cells_s, Option.bind_some, Option.map_some, List.getElem?_toArray, List.getElem?_cons_zero, List.getElem?_cons_succ, Nat.add_zero, Nat.zero_add, Value.cells, splice, List.setIfInBounds_toArray, List.set_cons_zero, List.set_cons_succ, bfill_nil, bfill_cons, bstep_some, withO_some, List.take_zero, List.take_succ_cons, List.drop_zero, List.drop_succ_cons, List.cons_append, List.nil_append, List.append_nil, List.length_cons, List.length_nil, Nat.reduceLeDiff, Nat.le_refl, and_true, true_and, and_self, decide_true, decide_false, Bool.not_true, Bool.not_false, e1, c90_1, c90_0, r90_2, cell_of_blk (E2.get h4), callA_fn0 pl91, fa77_2, ld36, ld82, len_slice Tryd.underlying36, opA_alloc 79 ty79]
    refine at_c (hr.ext E12) fun G3 E3 => ?_
    simp only [go_sem, reduceCtorEq, Nat.reduceEqDiff, Nat.reduceAdd, withc_some, withcs_some, cells_0, cells_s, Option.bind_some, Option.map_some, List.getElem?_toArray, List.getElem?_cons_zero, List.getElem?_cons_succ, Nat.add_zero, Nat.zero_add, Value.cells, splice, List.setIfInBounds_toArray, List.set_cons_zero, List.set_cons_succ, bfill_nil, bfill_cons, bstep_some, withO_some, List.take_zero, List.take_succ_cons, List.drop_zero, List.drop_succ_cons, List.cons_append, List.nil_append, List.append_nil, List.length_cons, List.length_nil, Nat.reduceLeDiff, Nat.le_refl, and_true, true_and, and_self, decide_true, decide_false, Bool.not_true, Bool.not_false, callA_fn0 pl91, fa77_2, ld36, ld82, len_slice Tryd.underlying36, opA_alloc 79 ty79]
    refine store_kA (E3.get h7) ty79 (k := fun G4 h8 k4 s4 => ?_)
    simp only [go_sem, reduceCtorEq, Nat.reduceEqDiff, Nat.reduceAdd, withc_some, withcs_some, cells_0, cells_s, Option.bind_some, Option.map_some, List.getElem?_toArray, List.getElem?_cons_zero, List.getElem?_cons_succ, Nat.add_zero, Nat.zero_add, Value.cells, splice, List.setIfInBounds_toArray, List.set_cons_zero, List.set_cons_succ, bfill_nil, bfill_cons, bstep_some, withO_some, List.take_zero, List.take_succ_cons, List.drop_zero, List.drop_succ_cons, List.cons_append, List.nil_append, List.append_nil, List.length_cons, List.length_nil, Nat.reduceLeDiff, Nat.le_refl, and_true, true_and, and_self, decide_true, decide_false, Bool.not_true, Bool.not_false, resW_cell, callA_fn0 pl91, fa77_2, ld36, ld82, len_slice Tryd.underlying36, opA_alloc 79 ty79]
    rw [rc79 (l := [.int .i64 k, .int .i64 8]) (by simp only [go_sem, reduceCtorEq, Nat.reduceEqDiff, Nat.reduceAdd, withc_some, withcs_some, cells_0, cells_s, Option.bind_some, Option.map_some, List.getElem?_toArray, List.getElem?_cons_zero, List.getElem?_cons_succ, Nat.add_zero, Nat.zero_add, Value.cells, splice, List.setIfInBounds_toArray, List.set_cons_zero, List.set_cons_succ, bfill_nil, bfill_cons, bstep_some, withO_some, List.take_zero, List.take_succ_cons, List.drop_zero, List.drop_succ_cons, List.cons_append, List.nil_append, List.append_nil, List.length_cons, List.length_nil, Nat.reduceLeDiff, Nat.le_refl, and_true, true_and, and_self, decide_true, decide_false, Bool.not_true, Bool.not_false, cell_of_blk h8, callA_fn0 pl91, fa77_2, ld36, ld82, len_slice Tryd.underlying36, opA_alloc 79 ty79])]
    have E4 : Ext H G4 := k4.two (E12.trans E3) (by omega)
    exact h G4 E4.ko (RdrO.ext ⟨hR0, _, cells, hRb, hown, hst⟩ E4)
  · have e1 : decide ((400 : Int) ≤ (out.length : Int)) = false := by rw [decide_eq_false_iff_not]; omega
    obtain ⟨rb, roff, rc, rfl, r0, r1⟩ := hr.at0
    simp only [go_sem, reduceCtorEq, Nat.reduceEqDiff, Nat.reduceAdd, withc_some, withcs_some, cells_0, cells_s, Option.bind_some, Option.map_some, List.getElem?_toArray, List.getElem?_cons_zero, List.getElem?_cons_succ, Nat.add_zero, Nat.zero_add, Value.cells, splice, List.setIfInBounds_toArray, List.set_cons_zero, List.set_cons_succ, bfill_nil, bfill_cons, bstep_some, withO_some, List.take_zero, List.take_succ_cons, List.drop_zero, List.drop_succ_cons, List.cons_append, List.nil_append, List.append_nil, List.length_cons, List.length_nil, Nat.reduceLeDiff, Nat.le_refl, and_true, true_and, and_self, decide_true, decide_false, Bool.not_true, Bool.not_false, e1, c90_1, c90_11, r90_3, cell_of_blk (E2.get h4), bl40, bq40, callA_fn0 pl91, fa73_0, fa77_2, fa82_0, fa82_1, fq73_0, fq82_0, fq82_1, ld3, ld36, ld68, ld82, ld9, len_slice Tryd.underlying36, lq3, lq68, lq9, opA_alloc 40 ty40, opA_alloc 79 ty79]
    rw [iadQ_slice uRows ty73 (by omega) (by omega)]
    simp only [go_sem, reduceCtorEq, Nat.reduceEqDiff, Nat.reduceAdd, withc_some, withcs_some, cells_0, cells_s, Option.bind_some, Option.map_some, List.getElem?_toArray, List.getElem?_cons_zero, List.getElem?_cons_succ, Nat.add_zero, Nat.zero_add, Value.cells, splice, List.setIfInBounds_toArray, List.set_cons_zero, List.set_cons_succ, bfill_nil, bfill_cons, bstep_some, withO_some, List.take_zero, List.take_succ_cons, List.drop_zero, List.drop_succ_cons, List.cons_append, List.nil_append, List.append_nil, List.length_cons, List.length_nil, Nat.reduceLeDiff, Nat.le_refl, and_true, true_and, and_self, decide_true, decide_false, Bool.not_true, Bool.not_false, add_none, cell_ext E12 r0, Int.toNat_zero, Nat.zero_mul, cell_of_blk (E2.get h4), if_true, bl40, bq40, callA_fn0 pl91, fa73_0, fa77_2, fa82_0, fa82_1, fq73_0, fq82_0, fq82_1, ld3, ld36, ld68, ld82, ld9, len_slice Tryd.underlying36, lq3, lq68, lq9, opA_alloc 40 ty40, opA_alloc 79 ty79]
    refine box_kA fun b8 G3 e8 s3 h8 E3 => ?_
    simp only [go_sem, reduceCtorEq, Nat.reduceEqDiff, Nat.reduceAdd, withc_some, withcs_some, cells_0, cells_s, Option.bind_some, Option.map_some, List.getElem?_toArray, List.getElem?_cons_zero, List.getElem?_cons_succ, Nat.add_zero, Nat.zero_add, Value.cells, splice, List.setIfInBounds_toArray, List.set_cons_zero, List.set_cons_succ, bfill_nil, bfill_cons, bstep_some, withO_some, List.take_zero, List.take_succ_cons, List.drop_zero, List.drop_succ_cons, List.cons_append, List.nil_append, List.append_nil, List.length_cons, List.length_nil, Nat.reduceLeDiff, Nat.le_refl, and_true, true_and, and_self, decide_true, decide_false, Bool.not_true, Bool.not_false, bl40, bq40, callA_fn0 pl91, fa73_0, fa77_2, fa82_0, fa82_1, fq73_0, fq82_0, fq82_1, ld3, ld36, ld68, ld82, ld9, len_slice Tryd.underlying36, lq3, lq68, lq9, opA_alloc 40 ty40, opA_alloc 79 ty79]
    refine ⟨E3, ?_⟩
    refine store_kA h8 ty40 (k := fun G4 h9 k4 s4 => ?_)
    have h9' : G4[b8]? = some (.cells #[.int .i64 k, .string (B call), .slice wa words.length wc, .slice none 0 0] 40 (0, 0)) := h9
    have E4 : Ext G2 G4 := k4.two E3 (by omega)
    obtain ⟨w0, hw00⟩ : ∃ w, words[0]? = some w := ⟨words[0]'(List.length_pos_iff.2 hw0), List.getElem?_eq_getElem _⟩
    obtain ⟨wb, woff, wc', ew, w1⟩ := (hw.ext (E12.trans E4)).at hw00
    cases ew
    rw [Nat.add_zero] at w1
    have hwpos := List.length_pos_iff.2 hw0
    simp only [go_sem, reduceCtorEq, Nat.reduceEqDiff, Nat.reduceAdd, withc_some, withcs_some, cells_0, cells_s, Option.bind_some, Option.map_some, List.getElem?_toArray, List.getElem?_cons_zero, List.getElem?_cons_succ, Nat.add_zero, Nat.zero_add, Value.cells, splice, List.setIfInBounds_toArray, List.set_cons_zero, List.set_cons_succ, bfill_nil, bfill_cons, bstep_some, withO_some, List.take_zero, List.take_succ_cons, List.drop_zero, List.drop_succ_cons, List.cons_append, List.nil_append, List.append_nil, List.length_cons, List.length_nil, Nat.reduceLeDiff, Nat.le_refl, and_true, true_and, and_self, decide_true, decide_false, Bool.not_true, Bool.not_false, c90_10, r90_4, c90_9, r90_5, bl40, bq40, callA_fn0 pl91, fa73_0, fa77_2, fa82_0, fa82_1, fq73_0, fq82_0, fq82_1, ld3, ld36, ld68, ld82, ld9, len_slice Tryd.underlying24, len_slice Tryd.underlying36, lq3, lq68, lq9, opA_alloc 40 ty40, opA_alloc 79 ty79]
    rw [iadA_slice uStrs ty9 (by omega) (by omega)]
    simp only [go_sem, reduceCtorEq, Nat.reduceEqDiff, Nat.reduceAdd, withc_some, withcs_some, cells_0, cells_s, Option.bind_some, Option.map_some, List.getElem?_toArray, List.getElem?_cons_zero, List.getElem?_cons_succ, Nat.add_zero, Nat.zero_add, Value.cells, splice, List.setIfInBounds_toArray, List.set_cons_zero, List.set_cons_succ, bfill_nil, bfill_cons, bstep_some, withO_some, List.take_zero, List.take_succ_cons, List.drop_zero, List.drop_succ_cons, List.cons_append, List.nil_append, List.append_nil, List.length_cons, List.length_nil, Nat.reduceLeDiff, Nat.le_refl, and_true, true_and, and_self, decide_true, decide_false, Bool.not_true, Bool.not_false, add_none, Int.toNat_zero, Nat.zero_mul, w1, B_lit, B_toList, bl40, bq40, callA_fn0 pl91, fa73_0, fa77_2, fa82_0, fa82_1, fq73_0, fq82_0, fq82_1, ld3, ld36, ld68, ld82, ld9, len_slice Tryd.underlying24, len_slice Tryd.underlying36, lq3, lq68, lq9, opA_alloc 40 ty40, opA_alloc 79 ty79]
    -- behind the test
    have fin : ∀ (G : Hp) (dv : Value) (data : List (List UInt8)) (n : Nat), Ext G2 G → G[b8]? = some (.cells #[.int .i64 k, .string (B call), .slice (some ⟨wb, woff, none⟩) words.length wc, dv] 40 (0, 0)) → SlV G dv data →
        stmF out call k rest words = (out ++ [⟨k, call, words, data⟩], ⟨n, 0, 0⟩) → aw Tryd.prog 70 c90_8 (retK Tryd.prog [.tmp 6, .cell 7 79] K) [(0, .pointer (some ⟨R, 0, none⟩)), (7, .pointer (some ⟨b7, 0, none⟩)), (8, .pointer (some ⟨b8, 0, none⟩)), (9, .int .i64 n)] G := by
      intro G dv data n hE g8 hd hs
      rw [hs] at h
      obtain ⟨da, dc, rfl⟩ := SlE.form hd
      have E := E12.trans hE
      have hRg := E.get hRb
      simp only [go_sem, reduceCtorEq, Nat.reduceEqDiff, Nat.reduceAdd, withc_some, withcs_some, cells_0, cells_s, Option.bind_some, Option.map_some, List.getElem?_toArray, List.getElem?_cons_zero, List.getElem?_cons_succ, Nat.add_zero, Nat.zero_add, Value.cells, splice, List.setIfInBounds_toArray, List.set_cons_zero, List.set_cons_succ, bfill_nil, bfill_cons, bstep_some, withO_some, List.take_zero, List.take_succ_cons, List.drop_zero, List.drop_succ_cons, List.cons_append, List.nil_append, List.append_nil, List.length_cons, List.length_nil, Nat.reduceLeDiff, Nat.le_refl, and_true, true_and, and_self, decide_true, decide_false, Bool.not_true, Bool.not_false, c90_8, r90_10, cell_of_blk hRg, bl40, bq40, callA_fn0 pl91, fa73_0, fa77_2, fa82_0, fa82_1, fq73_0, fq77_2, fq82_0, fq82_1, ld3, ld36, ld40, ld68, ld82, ld9, len_slice Tryd.underlying24, len_slice Tryd.underlying36, lq3, lq36, lq68, lq9, opA_alloc 40 ty40, opA_alloc 79 ty79]
      rw [loadQ_agg Tryd.underlying40 rfl ty40 (show cellsH G ⟨b8, 0, none⟩ 0 4 = some [.int .i64 k, .string (B call), .slice (some ⟨wb, woff, none⟩) words.length wc, .slice da data.length dc] by rw [cellsH_of_blk g8 4 0 (by simp)]; rfl)]
      simp only [go_sem, reduceCtorEq, Nat.reduceEqDiff, Nat.reduceAdd, withc_some, withcs_some, cells_0, cells_s, Option.bind_some, Option.map_some, List.getElem?_toArray, List.getElem?_cons_zero, List.getElem?_cons_succ, Nat.add_zero, Nat.zero_add, Value.cells, splice, List.setIfInBounds_toArray, List.set_cons_zero, List.set_cons_succ, bfill_nil, bfill_cons, bstep_some, withO_some, List.take_zero, List.take_succ_cons, List.drop_zero, List.drop_succ_cons, List.cons_append, List.nil_append, List.append_nil, List.length_cons, List.length_nil, Nat.reduceLeDiff, Nat.le_refl, and_true, true_and, and_self, decide_true, decide_false, Bool.not_true, Bool.not_false, bl40, bq40, callA_fn0 pl91, fa73_0, fa77_2, fa82_0, fa82_1, fq73_0, fq77_2, fq82_0, fq82_1, ld3, ld36, ld40, ld68, ld82, ld9, len_slice Tryd.underlying24, len_slice Tryd.underlying36, lq3, lq36, lq68, lq9, opA_alloc 40 ty40, opA_alloc 79 ty79]
      rw [bslA_oneA uStms ty40 rfl rfl]
      simp only [go_sem, reduceCtorEq, Nat.reduceEqDiff, Nat.reduceAdd, withc_some, withcs_some, cells_0, cells_s, Option.bind_some, Option.map_some, List.getElem?_toArray, List.getElem?_cons_zero, List.getElem?_cons_succ, Nat.add_zero, Nat.zero_add, Value.cells, splice, List.setIfInBounds_toArray, List.set_cons_zero, List.set_cons_succ, bfill_nil, bfill_cons, bstep_some, withO_some, List.take_zero, List.take_succ_cons, List.drop_zero, List.drop_succ_cons, List.cons_append, List.nil_append, List.append_nil, List.length_cons, List.length_nil, Nat.reduceLeDiff, Nat.le_refl, and_true, true_and, and_self, decide_true, decide_false, Bool.not_true, Bool.not_false, bl40, bq40, callA_fn0 pl91, fa73_0, fa77_2, fa82_0, fa82_1, fq73_0, fq77_2, fq82_0, fq82_1, ld3, ld36, ld40, ld68, ld82, ld9, len_slice Tryd.underlying24, len_slice Tryd.underlying36, lq3, lq36, lq68, lq9, opA_alloc 40 ty40, opA_alloc 79 ty79]
      refine ⟨Ext.push _ _, ?_⟩
      refine append_lit (ok := (B0 ≤ ·)) (m := 1) (hown.ext E) uStms ty40 rfl rfl (by intro u hu; simp at hu; rcases hu with rfl | rfl | rfl | rfl <;> rfl) (fun b hb => by have := E.size; omega) (by omega) (by omega) fun v' G5 own5 k5 f5 => ?_
      have nR := own_ne (hown.ext E) hRg (by simp)
      have n7 := own_ne (hown.ext E) (hE.get h7) (by simp)
      have hR5 := k5.get hRg nR
      have h75 := k5.get (hE.get h7) n7
      obtain ⟨va, vc, rfl⟩ := own5.form
      simp only [go_sem, reduceCtorEq, Nat.reduceEqDiff, Nat.reduceAdd, withc_some, withcs_some, cells_0, cells_s, Option.bind_some, Option.map_some, List.getElem?_toArray, List.getElem?_cons_zero, List.getElem?_cons_succ, Nat.add_zero, Nat.zero_add, Value.cells, splice, List.setIfInBounds_toArray, List.set_cons_zero, List.set_cons_succ, bfill_nil, bfill_cons, bstep_some, withO_some, List.take_zero, List.take_succ_cons, List.drop_zero, List.drop_succ_cons, List.cons_append, List.nil_append, List.append_nil, List.length_cons, List.length_nil, Nat.reduceLeDiff, Nat.le_refl, and_true, true_and, and_self, decide_true, decide_false, Bool.not_true, Bool.not_false, bl40, bq40, callA_fn0 pl91, fa73_0, fa77_2, fa82_0, fa82_1, fq73_0, fq77_2, fq82_0, fq82_1, ld3, ld36, ld40, ld68, ld82, ld9, len_slice Tryd.underlying24, len_slice Tryd.underlying36, lq3, lq36, lq68, lq9, opA_alloc 40 ty40, opA_alloc 79 ty79]
      refine store_k1 hR5 ty36 (k := fun G6 hR6 k6 s6 => ?_)
      have h76 := k6.get h75 (by intro e; subst e; rw [h75] at hR5; cases hR5)
      simp only [go_sem, reduceCtorEq, Nat.reduceEqDiff, Nat.reduceAdd, withc_some, withcs_some, cells_0, cells_s, Option.bind_some, Option.map_some, List.getElem?_toArray, List.getElem?_cons_zero, List.getElem?_cons_succ, Nat.add_zero, Nat.zero_add, Value.cells, splice, List.setIfInBounds_toArray, List.set_cons_zero, List.set_cons_succ, bfill_nil, bfill_cons, bstep_some, withO_some, List.take_zero, List.take_succ_cons, List.drop_zero, List.drop_succ_cons, List.cons_append, List.nil_append, List.append_nil, List.length_cons, List.length_nil, Nat.reduceLeDiff, Nat.le_refl, and_true, true_and, and_self, decide_true, decide_false, Bool.not_true, Bool.not_false, c90_7, r90_11, bl40, bl79, bq40, callA_fn0 pl91, fa73_0, fa77_2, fa82_0, fa82_1, fq73_0, fq77_2, fq82_0, fq82_1, ld3, ld36, ld40, ld68, ld82, ld9, len_slice Tryd.underlying24, len_slice Tryd.underlying36, lq3, lq36, lq68, lq9, opA_alloc 40 ty40, opA_alloc 79 ty79]
      refine store_kA h76 ty79 (k := fun G7 h77 k7 s7 => ?_)
      simp only [go_sem, reduceCtorEq, Nat.reduceEqDiff, Nat.reduceAdd, withc_some, withcs_some, cells_0, cells_s, Option.bind_some, Option.map_some, List.getElem?_toArray, List.getElem?_cons_zero, List.getElem?_cons_succ, Nat.add_zero, Nat.zero_add, Value.cells, splice, List.setIfInBounds_toArray, List.set_cons_zero, List.set_cons_succ, bfill_nil, bfill_cons, bstep_some, withO_some, List.take_zero, List.take_succ_cons, List.drop_zero, List.drop_succ_cons, List.cons_append, List.nil_append, List.append_nil, List.length_cons, List.length_nil, Nat.reduceLeDiff, Nat.le_refl, and_true, true_and, and_self, decide_true, decide_false, Bool.not_true, Bool.not_false, resW_cell, bl40, bl79, bq40, callA_fn0 pl91, fa73_0, fa77_2, fa82_0, fa82_1, fq73_0, fq77_2, fq82_0, fq82_1, ld3, ld36, ld40, ld68, ld82, ld9, len_slice Tryd.underlying24, len_slice Tryd.underlying36, lq3, lq36, lq68, lq9, opA_alloc 40 ty40, opA_alloc 79 ty79]
      rw [rc79 (l := [.int .i64 0, .int .i64 0]) (by simp only [go_sem, reduceCtorEq, Nat.reduceEqDiff, Nat.reduceAdd, withc_some, withcs_some, cells_0, cells_s, Option.bind_some, Option.map_some, List.getElem?_toArray, List.getElem?_cons_zero, List.getElem?_cons_succ, Nat.add_zero, Nat.zero_add, Value.cells, splice, List.setIfInBounds_toArray, List.set_cons_zero, List.set_cons_succ, bfill_nil, bfill_cons, bstep_some, withO_some, List.take_zero, List.take_succ_cons, List.drop_zero, List.drop_succ_cons, List.cons_append, List.nil_append, List.append_nil, List.length_cons, List.length_nil, Nat.reduceLeDiff, Nat.le_refl, and_true, true_and, and_self, decide_true, decide_false, Bool.not_true, Bool.not_false, cell_of_blk h77, bl40, bl79, bq40, callA_fn0 pl91, fa73_0, fa77_2, fa82_0, fa82_1, fq73_0, fq77_2, fq82_0, fq82_1, ld3, ld36, ld40, ld68, ld82, ld9, len_slice Tryd.underlying24, len_slice Tryd.underlying36, lq3, lq36, lq68, lq9, opA_alloc 40 ty40, opA_alloc 79 ty79])]
      have hR7 := k7.get hR6 (by intro e; subst e; rw [h76] at hR6; cases hR6)
      have keepS : ∀ (b : Nat) (c : Array Value) (f : Nat × Nat), G[b]? = some (Obj.cells c 9 f) → G7[b]? = some (Obj.cells c 9 f) := by
        intro b c f hb
        have b5 := k5.get hb (own_ne (hown.ext E) hb (by simp))
        have b6 := k6.get b5 (by intro e; subst e; rw [b5] at hR5; cases hR5)
        exact k7.get b6 (by intro e; subst e; rw [b6] at h76; cases h76)
      have hfr : FrJ B0 (fun _ => False) H G7 := by
        refine ⟨by have := E.size; have := k5.size; omega, fun b o hb hm => ?_⟩
        have b1 := E.get hb
        have n5 : ¬ blkOf (.slice oa out.length oc) b := by
          intro hbl
          refine hm ⟨hown.ok b hbl, .inl ?_⟩
          by_cases hkd : ∃ c f, o = .cells c 40 f
          · obtain ⟨c, f, e⟩ := hkd; exact ⟨c, f, .inr e⟩
          · exact absurd hbl (own_ne (hown.ext E) b1 (fun c f e => hkd ⟨c, f, e⟩))
        have b5 := k5.get b1 n5
        have b6 := k6.get b5 (by intro e; subst e; rw [hRb] at hb; cases hb; exact hm ⟨hR0, .inl ⟨_, _, .inl rfl⟩⟩)
        exact k7.get b6 (by have := get_lt hb; have := E1.size; intro e; omega)
      refine h G7 hfr ⟨hR0, _, cells ++ [.int .i64 k, .string (B call), .slice (some ⟨wb, woff, none⟩) words.length wc, .slice da data.length dc], hR7, ?_, ?_⟩
      · have := own_set_ne (own_set_ne own5 hR5 (by simp) k6) h76 (by simp) k7
        simpa using this
      · refine stmC.snoc (s := ⟨k, call, words, data⟩) (SlE.mono (hw.ext E) keepS) (SlE.mono hd keepS) _ _ ?_
        exact stmC.mono (fun v ws hv => SlE.mono (hv.ext E) keepS) _ _ hst
    have hsimple : ¬ (words[0]? = some [100, 100] ∧ words.length = 3 ∧ words[2]? = some [105, 110, 108, 105, 110, 101]) → stmF out call k rest words = (out ++ [⟨k, call, words, []⟩], ⟨0, 0, 0⟩) := by
      intro hn; unfold stmF; rw [if_neg h400, if_neg hn]
    by_cases hdd : w0 = [100, 100]
    · subst hdd
      have e2 : (([100, 100] : List UInt8) == [100, 100]) = true := rfl
      by_cases h3 : words.length = 3
      · have e3 : decide ((words.length : Int) = 3) = true := by rw [decide_eq_true_eq]; omega
        obtain ⟨w2, hw22⟩ : ∃ w, words[2]? = some w := ⟨words[2], List.getElem?_eq_getElem (by omega)⟩
        obtain ⟨wb', woff', wc', ew, wv2⟩ := (hw.ext (E12.trans E4)).at hw22
        cases ew
        simp only [go_sem, reduceCtorEq, Nat.reduceEqDiff, Nat.reduceAdd, withc_some, withcs_some, cells_0, cells_s, Option.bind_some, Option.map_some, List.getElem?_toArray, List.getElem?_cons_zero, List.getElem?_cons_succ, Nat.add_zero, Nat.zero_add, Value.cells, splice, List.setIfInBounds_toArray, List.set_cons_zero, List.set_cons_succ, bfill_nil, bfill_cons, bstep_some, withO_some, List.take_zero, List.take_succ_cons, List.drop_zero, List.drop_succ_cons, List.cons_append, List.nil_append, List.append_nil, List.length_cons, List.length_nil, Nat.reduceLeDiff, Nat.le_refl, and_true, true_and, and_self, decide_true, decide_false, Bool.not_true, Bool.not_false, e2, e3, bl40, bl79, bq40, callA_fn0 pl91, fa73_0, fa77_2, fa82_0, fa82_1, fq73_0, fq77_2, fq82_0, fq82_1, ld3, ld36, ld40, ld68, ld82, ld9, len_slice Tryd.underlying24, len_slice Tryd.underlying36, lq3, lq36, lq68, lq9, opA_alloc 40 ty40, opA_alloc 79 ty79]
        rw [iadA_slice uStrs ty9 (by omega) (by omega)]
        simp only [go_sem, reduceCtorEq, Nat.reduceEqDiff, Nat.reduceAdd, withc_some, withcs_some, cells_0, cells_s, Option.bind_some, Option.map_some, List.getElem?_toArray, List.getElem?_cons_zero, List.getElem?_cons_succ, Nat.add_zero, Nat.zero_add, Value.cells, splice, List.setIfInBounds_toArray, List.set_cons_zero, List.set_cons_succ, bfill_nil, bfill_cons, bstep_some, withO_some, List.take_zero, List.take_succ_cons, List.drop_zero, List.drop_succ_cons, List.cons_append, List.nil_append, List.append_nil, List.length_cons, List.length_nil, Nat.reduceLeDiff, Nat.le_refl, and_true, true_and, and_self, decide_true, decide_false, Bool.not_true, Bool.not_false, add_none, show Int.toNat 2 = 2 from rfl, Nat.mul_one, wv2, B_lit, B_toList, bl40, bl79, bq40, callA_fn0 pl91, fa73_0, fa77_2, fa82_0, fa82_1, fq73_0, fq77_2, fq82_0, fq82_1, ld3, ld36, ld40, ld68, ld82, ld9, len_slice Tryd.underlying24, len_slice Tryd.underlying36, lq3, lq36, lq68, lq9, opA_alloc 40 ty40, opA_alloc 79 ty79]
        by_cases hin : w2 = [105, 110, 108, 105, 110, 101]
        · subst hin
          have e4 : (([105, 110, 108, 105, 110, 101] : List UInt8) == [105, 110, 108, 105, 110, 101]) = true := rfl
          have hcond : words[0]? = some [100, 100] ∧ words.length = 3 ∧ words[2]? = some [105, 110, 108, 105, 110, 101] := ⟨hw00, h3, hw22⟩
          simp only [go_sem, reduceCtorEq, Nat.reduceEqDiff, Nat.reduceAdd, withc_some, withcs_some, cells_0, cells_s, Option.bind_some, Option.map_some, List.getElem?_toArray, List.getElem?_cons_zero, List.getElem?_cons_succ, Nat.add_zero, Nat.zero_add, Value.cells, splice, List.setIfInBounds_toArray, List.set_cons_zero, List.set_cons_succ, bfill_nil, bfill_cons, bstep_some, withO_some, List.take_zero, List.take_succ_cons, List.drop_zero, List.drop_succ_cons, List.cons_append, List.nil_append, List.append_nil, List.length_cons, List.length_nil, Nat.reduceLeDiff, Nat.le_refl, and_true, true_and, and_self, decide_true, decide_false, Bool.not_true, Bool.not_false, e4, c90_6, c90_5, r90_6, cell_of_blk (E4.get (E2.get h4)), bl40, bl79, bq40, callA_fn0 pl101, callA_fn0 pl91, fa73_0, fa77_2, fa82_0, fa82_1, fq73_0, fq77_2, fq82_0, fq82_1, ld3, ld36, ld40, ld68, ld82, ld9, len_slice Tryd.underlying24, len_slice Tryd.underlying36, lq3, lq36, lq68, lq9, opA_alloc 40 ty40, opA_alloc 79 ty79]
          have hrx := hr.ext (E12.trans E4)
          refine inline_c hrx hl hlt (fun G dv l hi hE hdv => ?_) (fun G m c hi hE => ?_)
          · have hst2 : stmF out call k rest words = (out ++ [⟨k, call, words, l⟩], ⟨l.length + 1, 0, 0⟩) := by
              unfold stmF; rw [if_neg h400, if_pos hcond]; simp only [hi]
            obtain ⟨da, dc, rfl⟩ := hdv.form
            have hl64 := inlineT_len _ _ _ _ (by simp) hi
            simp only [go_sem, reduceCtorEq, Nat.reduceEqDiff, Nat.reduceAdd, withc_some, withcs_some, cells_0, cells_s, Option.bind_some, Option.map_some, List.getElem?_toArray, List.getElem?_cons_zero, List.getElem?_cons_succ, Nat.add_zero, Nat.zero_add, Value.cells, splice, List.setIfInBounds_toArray, List.set_cons_zero, List.set_cons_succ, bfill_nil, bfill_cons, bstep_some, withO_some, List.take_zero, List.take_succ_cons, List.drop_zero, List.drop_succ_cons, List.cons_append, List.nil_append, List.append_nil, List.length_cons, List.length_nil, Nat.reduceLeDiff, Nat.le_refl, and_true, true_and, and_self, decide_true, decide_false, Bool.not_true, Bool.not_false, bl40, bl79, bq40, callA_fn0 pl101, callA_fn0 pl91, fa73_0, fa77_2, fa82_0, fa82_1, fq73_0, fq77_2, fq82_0, fq82_1, ld3, ld36, ld40, ld68, ld82, ld9, len_slice Tryd.underlying24, len_slice Tryd.underlying36, lq3, lq36, lq68, lq9, opA_alloc 40 ty40, opA_alloc 79 ty79]
            refine box_kA fun b11 G5 e11 s5 h11 E5 => ?_
            simp only [go_sem, reduceCtorEq, Nat.reduceEqDiff, Nat.reduceAdd, withc_some, withcs_some, cells_0, cells_s, Option.bind_some, Option.map_some, List.getElem?_toArray, List.getElem?_cons_zero, List.getElem?_cons_succ, Nat.add_zero, Nat.zero_add, Value.cells, splice, List.setIfInBounds_toArray, List.set_cons_zero, List.set_cons_succ, bfill_nil, bfill_cons, bstep_some, withO_some, List.take_zero, List.take_succ_cons, List.drop_zero, List.drop_succ_cons, List.cons_append, List.nil_append, List.append_nil, List.length_cons, List.length_nil, Nat.reduceLeDiff, Nat.le_refl, and_true, true_and, and_self, decide_true, decide_false, Bool.not_true, Bool.not_false, bl40, bl79, bq40, callA_fn0 pl101, callA_fn0 pl91, fa73_0, fa77_2, fa82_0, fa82_1, fq73_0, fq77_2, fq82_0, fq82_1, ld3, ld36, ld40, ld68, ld82, ld9, len_slice Tryd.underlying24, len_slice Tryd.underlying36, lq3, lq36, lq68, lq9, opA_alloc 40 ty40, opA_alloc 79 ty79]
            refine store_kA h11 ty79 (k := fun G6 h12 k6 s6 => ?_)
            have h12' : G6[b11]? = some (.cells #[.int .i64 0, .int .i64 0] 79 (0, 0)) := h12
            have E6 : Ext G G6 := k6.two E5 (by omega)
            simp only [go_sem, reduceCtorEq, Nat.reduceEqDiff, Nat.reduceAdd, withc_some, withcs_some, cells_0, cells_s, Option.bind_some, Option.map_some, List.getElem?_toArray, List.getElem?_cons_zero, List.getElem?_cons_succ, Nat.add_zero, Nat.zero_add, Value.cells, splice, List.setIfInBounds_toArray, List.set_cons_zero, List.set_cons_succ, bfill_nil, bfill_cons, bstep_some, withO_some, List.take_zero, List.take_succ_cons, List.drop_zero, List.drop_succ_cons, List.cons_append, List.nil_append, List.append_nil, List.length_cons, List.length_nil, Nat.reduceLeDiff, Nat.le_refl, and_true, true_and, and_self, decide_true, decide_false, Bool.not_true, Bool.not_false, c90_4, r90_7, cell_of_blk h12', c90_3, r90_9, show decide ((0 : Int) = 0) = true from rfl, bl40, bl79, bq40, callA_fn0 pl101, callA_fn0 pl91, fa40_3, fa73_0, fa77_2, fa79_1, fa82_0, fa82_1, fq73_0, fq77_2, fq82_0, fq82_1, ld25, ld3, ld36, ld40, ld68, ld82, ld9, len_slice Tryd.underlying24, len_slice Tryd.underlying36, lq3, lq36, lq68, lq9, opA_alloc 40 ty40, opA_alloc 79 ty79]
            have g8 := (hE.trans E6).get h9'
            have h76 := (hE.trans E6).get (E4.get h7)
            refine store_k1 g8 ty24 (k := fun G7 h13 k7 s7 => ?_)
            simp only [go_sem, reduceCtorEq, Nat.reduceEqDiff, Nat.reduceAdd, withc_some, withcs_some, cells_0, cells_s, Option.bind_some, Option.map_some, List.getElem?_toArray, List.getElem?_cons_zero, List.getElem?_cons_succ, Nat.add_zero, Nat.zero_add, Value.cells, splice, List.setIfInBounds_toArray, List.set_cons_zero, List.set_cons_succ, bfill_nil, bfill_cons, bstep_some, withO_some, List.take_zero, List.take_succ_cons, List.drop_zero, List.drop_succ_cons, List.cons_append, List.nil_append, List.append_nil, List.length_cons, List.length_nil, Nat.reduceLeDiff, Nat.le_refl, and_true, true_and, and_self, decide_true, decide_false, Bool.not_true, Bool.not_false, wrap_one (show l.length + 1 ≤ 9223372036854775807 by omega), bl40, bl79, bq40, callA_fn0 pl101, callA_fn0 pl91, fa40_3, fa73_0, fa77_2, fa79_1, fa82_0, fa82_1, fq73_0, fq77_2, fq82_0, fq82_1, ld25, ld3, ld36, ld40, ld68, ld82, ld9, len_slice Tryd.underlying24, len_slice Tryd.underlying36, lq3, lq36, lq68, lq9, opA_alloc 40 ty40, opA_alloc 79 ty79]
            have h13' : G7[b8]? = some (.cells #[.int .i64 k, .string (B call), .slice (some ⟨wb, woff, none⟩) words.length wc, .slice da l.length dc] 40 (0, 0)) := h13
            have E7 : Ext G2 G7 := k7.two (E4.trans (hE.trans E6)) (by omega)
            refine fin G7 _ l _ E7 h13' ?_ hst2
            refine SlE.mono (SlE.own (hdv.ext E6)) fun b c f hb => k7.get hb (by intro e; subst e; rw [hb] at g8; cases g8)
          · have hst2 : stmF out call k rest words = (out, ⟨0, m, c⟩) := by
              unfold stmF; rw [if_neg h400, if_pos hcond]; simp only [hi]
            rw [hst2] at h
            simp only [go_sem, reduceCtorEq, Nat.reduceEqDiff, Nat.reduceAdd, withc_some, withcs_some, cells_0, cells_s, Option.bind_some, Option.map_some, List.getElem?_toArray, List.getElem?_cons_zero, List.getElem?_cons_succ, Nat.add_zero, Nat.zero_add, Value.cells, splice, List.setIfInBounds_toArray, List.set_cons_zero, List.set_cons_succ, bfill_nil, bfill_cons, bstep_some, withO_some, List.take_zero, List.take_succ_cons, List.drop_zero, List.drop_succ_cons, List.cons_append, List.nil_append, List.append_nil, List.length_cons, List.length_nil, Nat.reduceLeDiff, Nat.le_refl, and_true, true_and, and_self, decide_true, decide_false, Bool.not_true, Bool.not_false, bl40, bl79, bq40, callA_fn0 pl101, callA_fn0 pl91, fa40_3, fa73_0, fa77_2, fa79_1, fa82_0, fa82_1, fq73_0, fq77_2, fq82_0, fq82_1, ld25, ld3, ld36, ld40, ld68, ld82, ld9, len_slice Tryd.underlying24, len_slice Tryd.underlying36, lq3, lq36, lq68, lq9, opA_alloc 40 ty40, opA_alloc 79 ty79]
            refine box_kA fun b11 G5 e11 s5 h11 E5 => ?_
            simp only [go_sem, reduceCtorEq, Nat.reduceEqDiff, Nat.reduceAdd, withc_some, withcs_some, cells_0, cells_s, Option.bind_some, Option.map_some, List.getElem?_toArray, List.getElem?_cons_zero, List.getElem?_cons_succ, Nat.add_zero, Nat.zero_add, Value.cells, splice, List.setIfInBounds_toArray, List.set_cons_zero, List.set_cons_succ, bfill_nil, bfill_cons, bstep_some, withO_some, List.take_zero, List.take_succ_cons, List.drop_zero, List.drop_succ_cons, List.cons_append, List.nil_append, List.append_nil, List.length_cons, List.length_nil, Nat.reduceLeDiff, Nat.le_refl, and_true, true_and, and_self, decide_true, decide_false, Bool.not_true, Bool.not_false, bl40, bl79, bq40, callA_fn0 pl101, callA_fn0 pl91, fa40_3, fa73_0, fa77_2, fa79_1, fa82_0, fa82_1, fq73_0, fq77_2, fq82_0, fq82_1, ld25, ld3, ld36, ld40, ld68, ld82, ld9, len_slice Tryd.underlying24, len_slice Tryd.underlying36, lq3, lq36, lq68, lq9, opA_alloc 40 ty40, opA_alloc 79 ty79]
            refine store_kA h11 ty79 (k := fun G6 h12 k6 s6 => ?_)
            have h12' : G6[b11]? = some (.cells #[.int .i64 m, .int .i64 c] 79 (0, 0)) := h12
            have E6 : Ext G G6 := k6.two E5 (by omega)
            have h76 := (hE.trans E6).get (E4.get h7)
            have hc0 : decide (c = 0) = false := by
              have := inlineT_err _ _ _ _ _ hi
              simpa using this
            simp only [go_sem, reduceCtorEq, Nat.reduceEqDiff, Nat.reduceAdd, withc_some, withcs_some, cells_0, cells_s, Option.bind_some, Option.map_some, List.getElem?_toArray, List.getElem?_cons_zero, List.getElem?_cons_succ, Nat.add_zero, Nat.zero_add, Value.cells, splice, List.setIfInBounds_toArray, List.set_cons_zero, List.set_cons_succ, bfill_nil, bfill_cons, bstep_some, withO_some, List.take_zero, List.take_succ_cons, List.drop_zero, List.drop_succ_cons, List.cons_append, List.nil_append, List.append_nil, List.length_cons, List.length_nil, Nat.reduceLeDiff, Nat.le_refl, and_true, true_and, and_self, decide_true, decide_false, Bool.not_true, Bool.not_false, c90_4, r90_7, cell_of_blk h12', c90_3, c90_2, r90_8, hc0, bl40, bl79, bq40, callA_fn0 pl101, callA_fn0 pl91, fa40_3, fa73_0, fa77_2, fa79_1, fa82_0, fa82_1, fq73_0, fq77_2, fq82_0, fq82_1, ld25, ld3, ld36, ld40, ld68, ld79, ld82, ld9, len_slice Tryd.underlying24, len_slice Tryd.underlying36, lq3, lq36, lq68, lq9, opA_alloc 40 ty40, opA_alloc 79 ty79]
            rw [loadQ_agg Tryd.underlying79 rfl ty79 (show cellsH G6 ⟨b11, 0, none⟩ 0 2 = some [.int .i64 m, .int .i64 c] by rw [cellsH_of_blk h12' 2 0 (by simp)]; rfl)]
            simp only [go_sem, reduceCtorEq, Nat.reduceEqDiff, Nat.reduceAdd, withc_some, withcs_some, cells_0, cells_s, Option.bind_some, Option.map_some, List.getElem?_toArray, List.getElem?_cons_zero, List.getElem?_cons_succ, Nat.add_zero, Nat.zero_add, Value.cells, splice, List.setIfInBounds_toArray, List.set_cons_zero, List.set_cons_succ, bfill_nil, bfill_cons, bstep_some, withO_some, List.take_zero, List.take_succ_cons, List.drop_zero, List.drop_succ_cons, List.cons_append, List.nil_append, List.append_nil, List.length_cons, List.length_nil, Nat.reduceLeDiff, Nat.le_refl, and_true, true_and, and_self, decide_true, decide_false, Bool.not_true, Bool.not_false, bl40, bl79, bq40, callA_fn0 pl101, callA_fn0 pl91, fa40_3, fa73_0, fa77_2, fa79_1, fa82_0, fa82_1, fq73_0, fq77_2, fq82_0, fq82_1, ld25, ld3, ld36, ld40, ld68, ld79, ld82, ld9, len_slice Tryd.underlying24, len_slice Tryd.underlying36, lq3, lq36, lq68, lq9, opA_alloc 40 ty40, opA_alloc 79 ty79]
            refine store_kA h76 ty79 (k := fun G7 h13 k7 s7 => ?_)
            simp only [go_sem, reduceCtorEq, Nat.reduceEqDiff, Nat.reduceAdd, withc_some, withcs_some, cells_0, cells_s, Option.bind_some, Option.map_some, List.getElem?_toArray, List.getElem?_cons_zero, List.getElem?_cons_succ, Nat.add_zero, Nat.zero_add, Value.cells, splice, List.setIfInBounds_toArray, List.set_cons_zero, List.set_cons_succ, bfill_nil, bfill_cons, bstep_some, withO_some, List.take_zero, List.take_succ_cons, List.drop_zero, List.drop_succ_cons, List.cons_append, List.nil_append, List.append_nil, List.length_cons, List.length_nil, Nat.reduceLeDiff, Nat.le_refl, and_true, true_and, and_self, decide_true, decide_false, Bool.not_true, Bool.not_false, resW_cell, bl40, bl79, bq40, callA_fn0 pl101, callA_fn0 pl91, fa40_3, fa73_0, fa77_2, fa79_1, fa82_0, fa82_1, fq73_0, fq77_2, fq82_0, fq82_1, ld25, ld3, ld36, ld40, ld68, ld79, ld82, ld9, len_slice Tryd.underlying24, len_slice Tryd.underlying36, lq3, lq36, lq68, lq9, opA_alloc 40 ty40, opA_alloc 79 ty79]
            rw [rc79 (l := [.int .i64 m, .int .i64 c]) (by simp only [go_sem, reduceCtorEq, Nat.reduceEqDiff, Nat.reduceAdd, withc_some, withcs_some, cells_0, cells_s, Option.bind_some, Option.map_some, List.getElem?_toArray, List.getElem?_cons_zero, List.getElem?_cons_succ, Nat.add_zero, Nat.zero_add, Value.cells, splice, List.setIfInBounds_toArray, List.set_cons_zero, List.set_cons_succ, bfill_nil, bfill_cons, bstep_some, withO_some, List.take_zero, List.take_succ_cons, List.drop_zero, List.drop_succ_cons, List.cons_append, List.nil_append, List.append_nil, List.length_cons, List.length_nil, Nat.reduceLeDiff, Nat.le_refl, and_true, true_and, and_self, decide_true, decide_false, Bool.not_true, Bool.not_false, cell_of_blk h13, bl40, bl79, bq40, callA_fn0 pl101, callA_fn0 pl91, fa40_3, fa73_0, fa77_2, fa79_1, fa82_0, fa82_1, fq73_0, fq77_2, fq82_0, fq82_1, ld25, ld3, ld36, ld40, ld68, ld79, ld82, ld9, len_slice Tryd.underlying24, len_slice Tryd.underlying36, lq3, lq36, lq68, lq9, opA_alloc 40 ty40, opA_alloc 79 ty79])]
            have E7 : Ext H G7 := k7.two (E12.trans (E4.trans (hE.trans E6))) (by omega)
            exact h G7 E7.ko (RdrO.ext ⟨hR0, _, cells, hRb, hown, hst⟩ E7)
        · have e4 : (w2 == [105, 110, 108, 105, 110, 101]) = false := by simpa using hin
          simp only [go_sem, reduceCtorEq, Nat.reduceEqDiff, Nat.reduceAdd, withc_some, withcs_some, cells_0, cells_s, Option.bind_some, Option.map_some, List.getElem?_toArray, List.getElem?_cons_zero, List.getElem?_cons_succ, Nat.add_zero, Nat.zero_add, Value.cells, splice, List.setIfInBounds_toArray, List.set_cons_zero, List.set_cons_succ, bfill_nil, bfill_cons, bstep_some, withO_some, List.take_zero, List.take_succ_cons, List.drop_zero, List.drop_succ_cons, List.cons_append, List.nil_append, List.append_nil, List.length_cons, List.length_nil, Nat.reduceLeDiff, Nat.le_refl, and_true, true_and, and_self, decide_true, decide_false, Bool.not_true, Bool.not_false, e4, c90_6, bl40, bl79, bq40, callA_fn0 pl101, callA_fn0 pl91, fa40_3, fa73_0, fa77_2, fa79_1, fa82_0, fa82_1, fq73_0, fq77_2, fq82_0, fq82_1, ld25, ld3, ld36, ld40, ld68, ld79, ld82, ld9, len_slice Tryd.underlying24, len_slice Tryd.underlying36, lq3, lq36, lq68, lq9, opA_alloc 40 ty40, opA_alloc 79 ty79]
          exact fin G4 _ [] 0 E4 h9' SlE.nil (hsimple (fun hh => hin (by rw [hw22] at hh; exact Option.some.inj hh.2.2)))
      · have e3 : decide ((words.length : Int) = 3) = false := by rw [decide_eq_false_iff_not]; omega
        simp only [go_sem, reduceCtorEq, Nat.reduceEqDiff, Nat.reduceAdd, withc_some, withcs_some, cells_0, cells_s, Option.bind_some, Option.map_some, List.getElem?_toArray, List.getElem?_cons_zero, List.getElem?_cons_succ, Nat.add_zero, Nat.zero_add, Value.cells, splice, List.setIfInBounds_toArray, List.set_cons_zero, List.set_cons_succ, bfill_nil, bfill_cons, bstep_some, withO_some, List.take_zero, List.take_succ_cons, List.drop_zero, List.drop_succ_cons, List.cons_append, List.nil_append, List.append_nil, List.length_cons, List.length_nil, Nat.reduceLeDiff, Nat.le_refl, and_true, true_and, and_self, decide_true, decide_false, Bool.not_true, Bool.not_false, e2, e3, c90_6, bl40, bl79, bq40, callA_fn0 pl101, callA_fn0 pl91, fa40_3, fa73_0, fa77_2, fa79_1, fa82_0, fa82_1, fq73_0, fq77_2, fq82_0, fq82_1, ld25, ld3, ld36, ld40, ld68, ld79, ld82, ld9, len_slice Tryd.underlying24, len_slice Tryd.underlying36, lq3, lq36, lq68, lq9, opA_alloc 40 ty40, opA_alloc 79 ty79]
        exact fin G4 _ [] 0 E4 h9' SlE.nil (hsimple (fun hh => h3 hh.2.1))
    · have e2 : (w0 == [100, 100]) = false := by simpa using hdd
      simp only [go_sem, reduceCtorEq, Nat.reduceEqDiff, Nat.reduceAdd, withc_some, withcs_some, cells_0, cells_s, Option.bind_some, Option.map_some, List.getElem?_toArray, List.getElem?_cons_zero, List.getElem?_cons_succ, Nat.add_zero, Nat.zero_add, Value.cells, splice, List.setIfInBounds_toArray, List.set_cons_zero, List.set_cons_succ, bfill_nil, bfill_cons, bstep_some, withO_some, List.take_zero, List.take_succ_cons, List.drop_zero, List.drop_succ_cons, List.cons_append, List.nil_append, List.append_nil, List.length_cons, List.length_nil, Nat.reduceLeDiff, Nat.le_refl, and_true, true_and, and_self, decide_true, decide_false, Bool.not_true, Bool.not_false, e2, c90_6, bl40, bl79, bq40, callA_fn0 pl101, callA_fn0 pl91, fa40_3, fa73_0, fa77_2, fa79_1, fa82_0, fa82_1, fq73_0, fq77_2, fq82_0, fq82_1, ld25, ld3, ld36, ld40, ld68, ld79, ld82, ld9, len_slice Tryd.underlying24, len_slice Tryd.underlying36, lq3, lq36, lq68, lq9, opA_alloc 40 ty40, opA_alloc 79 ty79]
      exact fin G4 _ [] 0 E4 h9' SlE.nil (hsimple (fun hh => hdd (by rw [hw00] at hh; exact Option.some.inj hh.1)))
end Go.Proofs.YtoabcmhiaknjiaaDoor

/- Contracts of jobtext: line, read. -/
set_option maxRecDepth 100000
set_option linter.unusedSimpArgs false
set_option linter.unusedVariables false
namespace Go.Proofs.YtoabcmhiaknjiaaDoor
open Go.Hw

def symV (l : Sym) : List (List UInt8 × Value) := l.map fun p => (p.1, .string (B p.2))
/-- A procedure's value. -/
def PrV (B0 ms mp : Nat) (H : Hp) (p : List UInt8 × Sym × List Row) (x : List UInt8 × Value) : Prop :=
  x.1 = p.1 ∧ ∃ mv rv, x.2 = .agg #[.map (some mv), rv] ∧ MapC H mv (symV p.2.1) ∧ mv ≠ ms ∧ mv ≠ mp ∧ B0 ≤ mv ∧ RowsV H rv p.2.2
inductive All2 {α β : Type} (R : α → β → Prop) : List α → List β → Prop
  | nil : All2 R [] []
  | cons {a : α} {b : β} {l : List α} {m : List β} : R a b → All2 R l m → All2 R (a :: l) (b :: m)
theorem All2.imp {α β : Type} {R S : α → β → Prop} (h : ∀ a b, R a b → S a b) : ∀ {l : List α} {m : List β}, All2 R l m → All2 S l m
  | _, _, .nil => .nil
  | _, _, .cons h1 h2 => .cons (h _ _ h1) (h2.imp h)
def ProcsV (B0 ms mp : Nat) (H : Hp) (procs : List (List UInt8 × Sym × List Row)) : Prop := ∃ l, MapC H mp l ∧ All2 (PrV B0 ms mp H) procs l

structure Rdr (B0 R ms mp : Nat) (H : Hp) (s : RS) : Prop where
  out : RdrO B0 R ms mp H s.out
  syms : MapC H ms (symV s.syms)
  procs : ProcsV B0 ms mp H s.procs
  bms : B0 ≤ ms
  bmp : B0 ≤ mp
  ne : ms ≠ mp

/-- All but one kind's blocks are as they were. -/
def KeepK (E : Nat) (H H' : Hp) : Prop := ∀ (b : Nat) (o : Obj), H[b]? = some o → (∀ c f, o ≠ .cells c E f) → H'[b]? = some o
theorem MapC.kk {E : Nat} {H H' : Hp} {r : Nat} {l : List (List UInt8 × Value)} (h : MapC H r l) (k : KeepK E H H') : MapC H' r l := by
  obtain ⟨es, clk, h1, h2, h3⟩ := h
  exact ⟨es, clk, k r _ h1 (by simp), h2, h3⟩
theorem sl_kk {E E' sz : Nat} {H H' : Hp} {v : Value} {n : Nat} {l : List Value} (h : SlE E' sz H v n l) (k : KeepK E H H') (hne : E' ≠ E) : SlE E' sz H' v n l :=
  h.mono fun b c f hb => k b _ hb (fun c' f' e => by cases e; exact hne rfl)
theorem Rdr.kkE {E B0 R ms mp : Nat} {H H' : Hp} {s : RS} (h : Rdr B0 R ms mp H s) (k : KeepK E H H') (n1 : 77 ≠ E) (n2 : 40 ≠ E) (n3 : 9 ≠ E) (n4 : 73 ≠ E) : Rdr B0 R ms mp H' s := by
  obtain ⟨⟨h0, ov, cells, h1, h2, h3⟩, hs, ⟨l, hl, hf⟩, b1, b2, b3⟩ := h
  refine ⟨⟨h0, ov, cells, k _ _ h1 (fun c f e => by cases e; exact n1 rfl), ?_, stmC.mono (fun v ws hv => sl_kk hv k n3) _ _ h3⟩, MapC.kk hs k, ⟨l, MapC.kk hl k, ?_⟩, b1, b2, b3⟩
  · rcases h2 with h | ⟨b, cap, c, f, o1, o2, o3, o4⟩
    · exact .inl h
    · exact .inr ⟨b, cap, c, f, o1, o2, k _ _ o3 (fun c f e => by cases e; exact n2 rfl), o4⟩
  · exact hf.imp fun p x ⟨e, mv, rv, h1, h2, h3, h4, h5, h6⟩ => ⟨e, mv, rv, h1, MapC.kk h2 k, h3, h4, h5, sl_kk h6 k n4⟩
theorem Rdr.kk {B0 R ms mp : Nat} {H H' : Hp} {s : RS} (h : Rdr B0 R ms mp H s) (k : KeepK 79 H H') : Rdr B0 R ms mp H' s := h.kkE k (by decide) (by decide) (by decide) (by decide)
/-- A store into a block of another kind. -/
theorem keepK_of {x E : Nat} {c : Array Value} {f : Nat × Nat} {G G' : Hp} (hx : G[x]? = some (.cells c E f)) (k : Keep (· = x) G G') : KeepK E G G' := fun b o hb ho => k.get hb (by intro e; subst e; rw [hx] at hb; cases hb; exact ho _ _ rfl)
theorem FrJ.new {B0 x : Nat} {M : Nat → Prop} {H G G' : Hp} (h : FrJ B0 M H G) (k : Keep (· = x) G G') (hx : H.size ≤ x) : FrJ B0 M H G' :=
  ⟨Nat.le_trans h.size k.size, fun b o hb hm => k.get (h.blk b o hb hm) (by have := get_lt hb; intro e; omega)⟩
theorem MapC.ko {M : Nat → Obj → Prop} {H H' : Hp} {r : Nat} {l : List (List UInt8 × Value)} (h : MapC H r l) (k : KeepO M H H') (hm : ∀ es kk, ¬ M r (.map es kk)) : MapC H' r l := by
  obtain ⟨es, clk, h1, h2, h3⟩ := h
  exact ⟨es, clk, k.blk r _ h1 (hm _ _), h2, h3⟩
theorem Rdr.ext {B0 R ms mp : Nat} {H H' : Hp} {s : RS} (h : Rdr B0 R ms mp H s) (e : Ext H H') : Rdr B0 R ms mp H' s := h.kk fun b o hb _ => e.get hb
theorem G0.frJ {B0 : Nat} {M : Nat → Prop} {H H' : Hp} (g : G0 H) (k : FrJ B0 M H H') (hB : 0 < B0) : G0 H' := by
  obtain ⟨m, hm⟩ := g
  refine ⟨m, ?_⟩
  unfold cellH at hm ⊢
  cases hb : H[0]? with
  | none => simp only [hb] at hm; cases hm
  | some o =>
    have := k.blk 0 o hb (fun h => by have := h.1; omega)
    simp only [hb] at hm
    simp only [this]
    exact hm

theorem hnd_plain {w : List UInt8} {v : Value} (h : hndL.lookup w = some v) : ∃ f, v = fnV f ∧ Plain Tryd.prog f := by
  obtain ⟨p, hp, rfl⟩ := lookup_mem h
  simp only [hndL, List.mem_cons, List.mem_nil_iff, or_false] at hp
  rcases hp with rfl | rfl | rfl | rfl | rfl | rfl | rfl
  · exact ⟨_, rfl, pl86⟩
  · exact ⟨_, rfl, pl87⟩
  · exact ⟨_, rfl, pl88⟩
  · exact ⟨_, rfl, pl89⟩
  · exact ⟨_, rfl, pl90⟩
  · exact ⟨_, rfl, pl90⟩
  · exact ⟨_, rfl, pl90⟩

abbrev MM (ms mp : Nat) : Nat → Prop := fun b => b = ms ∨ b = mp

set_option maxHeartbeats 2000000 in
theorem line_c {B0 R ms mp kn : Nat} {rv : Value} {call : List UInt8} {inn : Bool} {k : Nat} {t : List UInt8} {rest : List Row} {s : RS} {H : Hp} {K : Ending → Hp → Prop} (hf : List (List UInt8) → RS × HR)
    (hR : Rdr B0 R ms mp H s) (hB0 : 0 < B0) (g : G0 H) (hkn : MapC H kn hndL) (hr : RowsV H rv ((k, t) :: rest)) (ht : t.length ≤ 1000000) (hsv : ∀ p ∈ s.syms, p.2.length ≤ 100000000)
    (hdo : ∀ w ws f, lineW (s.syms.lookup ·) t = .ok (w :: ws) → hndL.lookup w = some (fnV f) → ∀ (G : Hp) (wv : Value) (K2 : Ending → Hp → Prop), Ext H G → SlV G wv (w :: ws) → (w :: ws).length ≤ 1000000 →
      (∀ G', FrJ B0 (MM ms mp) G G' → Rdr B0 R ms mp G' (hf (w :: ws)).1 → K2 (.returned (.tuple #[.int .i64 (hf (w :: ws)).2.n, .agg #[.int .i64 (hf (w :: ws)).2.line, .int .i64 (hf (w :: ws)).2.code]])) G') →
      HCall Tryd.prog f #[.pointer (some ⟨R, 0, none⟩), .agg #[rv, .string (B call), .bool inn], wv] G K2)
    (h : ∀ G, FrJ B0 (MM ms mp) H G → Rdr B0 R ms mp G (lineR s k t (fun w => (hndL.lookup w).isSome) hf).1 → K (.returned (.tuple #[.int .i64 (lineR s k t (fun w => (hndL.lookup w).isSome) hf).2.n, .agg #[.int .i64 (lineR s k t (fun w => (hndL.lookup w).isSome) hf).2.line, .int .i64 (lineR s k t (fun w => (hndL.lookup w).isSome) hf).2.code]])) G) :
    HCall Tryd.prog 63 #[.pointer (some ⟨R, 0, none⟩), .map (some kn), .agg #[rv, .string (B call), .bool inn]] H K := by
  refine hcall mixed B63 (args := [.pointer (some ⟨R, 0, none⟩), .map (some kn), .agg #[rv, .string (B call), .bool inn]]) (by simp) ?_
  obtain ⟨rb, roff, rc, rfl, r0, r1⟩ := hr.at0
  obtain ⟨⟨hR0, ov, cells, hRb, hown, hst⟩, hsym, hprocs, hbms, hbmp, hne⟩ := id hR
  simp only [go_sem, reduceCtorEq, Nat.reduceEqDiff, Nat.reduceAdd, withc_some, withcs_some, cells_0, cells_s, Option.bind_some, Option.map_some, List.getElem?_toArray, List.getElem?_cons_zero, List.getElem?_cons_succ, Nat.add_zero, Nat.zero_add, Value.cells, splice, List.setIfInBounds_toArray, List.set_cons_zero, List.set_cons_succ, bfill_nil, bfill_cons, bstep_some, withO_some, List.take_zero, List.take_succ_cons, List.drop_zero, List.drop_succ_cons, List.cons_append, List.nil_append, List.append_nil, List.length_cons, List.length_nil, Nat.reduceLeDiff, Nat.le_refl, and_true, true_and, and_self, decide_true, decide_false, Bool.not_true, Bool.not_false, c63, r63_0, opA_alloc 79 ty79]
  refine box_kA fun b5 G1 e5 s1 h5 E1 => ?_
  simp only [go_sem, reduceCtorEq, Nat.reduceEqDiff, Nat.reduceAdd, withc_some, withcs_some, cells_0, cells_s, Option.bind_some, Option.map_some, List.getElem?_toArray, List.getElem?_cons_zero, List.getElem?_cons_succ, Nat.add_zero, Nat.zero_add, Value.cells, splice, List.setIfInBounds_toArray, List.set_cons_zero, List.set_cons_succ, bfill_nil, bfill_cons, bstep_some, withO_some, List.take_zero, List.take_succ_cons, List.drop_zero, List.drop_succ_cons, List.cons_append, List.nil_append, List.append_nil, List.length_cons, List.length_nil, Nat.reduceLeDiff, Nat.le_refl, and_true, true_and, and_self, decide_true, decide_false, Bool.not_true, Bool.not_false, opA_alloc 79 ty79]
  refine box_kA fun b7 G2 e7 s2 h7 E2 => ?_
  have E12 := E1.trans E2
  have h52 := E2.get h5
  simp only [go_sem, reduceCtorEq, Nat.reduceEqDiff, Nat.reduceAdd, withc_some, withcs_some, cells_0, cells_s, Option.bind_some, Option.map_some, List.getElem?_toArray, List.getElem?_cons_zero, List.getElem?_cons_succ, Nat.add_zero, Nat.zero_add, Value.cells, splice, List.setIfInBounds_toArray, List.set_cons_zero, List.set_cons_succ, bfill_nil, bfill_cons, bstep_some, withO_some, List.take_zero, List.take_succ_cons, List.drop_zero, List.drop_succ_cons, List.cons_append, List.nil_append, List.append_nil, List.length_cons, List.length_nil, Nat.reduceLeDiff, Nat.le_refl, and_true, true_and, and_self, decide_true, decide_false, Bool.not_true, Bool.not_false, c63_19, r63_1, cell_of_blk h52, callA_fn0 pl23, fa73_1, fa82_0, ld68, ld9, opA_alloc 79 ty79]
  rw [iadA_slice uRows ty73 (by omega) (by omega)]
  simp only [go_sem, reduceCtorEq, Nat.reduceEqDiff, Nat.reduceAdd, withc_some, withcs_some, cells_0, cells_s, Option.bind_some, Option.map_some, List.getElem?_toArray, List.getElem?_cons_zero, List.getElem?_cons_succ, Nat.add_zero, Nat.zero_add, Value.cells, splice, List.setIfInBounds_toArray, List.set_cons_zero, List.set_cons_succ, bfill_nil, bfill_cons, bstep_some, withO_some, List.take_zero, List.take_succ_cons, List.drop_zero, List.drop_succ_cons, List.cons_append, List.nil_append, List.append_nil, List.length_cons, List.length_nil, Nat.reduceLeDiff, Nat.le_refl, and_true, true_and, and_self, decide_true, decide_false, Bool.not_true, Bool.not_false, add_none, cell_ext E12 r1, Int.toNat_zero, Nat.zero_mul, callA_fn0 pl23, fa73_1, fa82_0, ld68, ld9, opA_alloc 79 ty79]
  refine trimLeft_blank G2 t (by omega) ?_
  have hdone : ∀ (G G' : Hp) (s' : RS), FrJ B0 (MM ms mp) H G → Rdr B0 R ms mp G s' → (∃ c, G[b7]? = some (.cells c 79 (0, 0))) → Keep (· = b7) G G' → FrJ B0 (MM ms mp) H G' ∧ Rdr B0 R ms mp G' s' := by
    rintro G G' s' hfr hrd ⟨c, hc⟩ hk
    refine ⟨⟨Nat.le_trans hfr.size hk.size, fun b o hb hm => hk.get (hfr.blk b o hb hm) (by have := get_lt hb; have := E1.size; intro e; omega)⟩, hrd.kk fun b o hb ho => hk.get hb ?_⟩
    intro e; subst e; rw [hc] at hb; cases hb; exact ho _ _ rfl
  have hlw : lineW (s.syms.lookup ·) t = if t.dropWhile blank = [] ∨ (t.dropWhile blank).head? = some 35 then .ok []
      else if (replR (s.syms.lookup ·) t).2 = 0 then
        match scanF (replR (s.syms.lookup ·) t).1 with
        | none => .error 3
        | some ws => .ok ws
      else .error (replR (s.syms.lookup ·) t).2 := rfl
  have hbl : (fun x : UInt8 => x == 32) = blank := rfl
  rw [hbl]
  have hfin0 : ∀ (G : Hp) (Q : E → Fr → Hp → Prop) (F0 : Fr), lineW (s.syms.lookup ·) t = .ok [] → Ext G2 G → (∀ F G, Q .ret F G = retK Tryd.prog [.tmp 6, .cell 7 79] K .ret F G) → aw Tryd.prog 78 c63_0 Q ((0, .pointer (some ⟨R, 0, none⟩)) :: (1, .map (some kn)) :: (5, .pointer (some ⟨b5, 0, none⟩)) :: (7, .pointer (some ⟨b7, 0, none⟩)) :: F0) G := by
    intro G Q F0 hl hE hQ
    have hres : lineR s k t (fun w => (hndL.lookup w).isSome) hf = (s, ⟨0, 0, 0⟩) := by unfold lineR; rw [hl]
    rw [hres] at h
    simp only [go_sem, reduceCtorEq, Nat.reduceEqDiff, Nat.reduceAdd, withc_some, withcs_some, cells_0, cells_s, Option.bind_some, Option.map_some, List.getElem?_toArray, List.getElem?_cons_zero, List.getElem?_cons_succ, Nat.add_zero, Nat.zero_add, Value.cells, splice, List.setIfInBounds_toArray, List.set_cons_zero, List.set_cons_succ, bfill_nil, bfill_cons, bstep_some, withO_some, List.take_zero, List.take_succ_cons, List.drop_zero, List.drop_succ_cons, List.cons_append, List.nil_append, List.append_nil, List.length_cons, List.length_nil, Nat.reduceLeDiff, Nat.le_refl, and_true, true_and, and_self, decide_true, decide_false, Bool.not_true, Bool.not_false, c63_0, r63_3, bl79, callA_fn0 pl23, fa73_1, fa82_0, ld68, ld9, opA_alloc 79 ty79]
    refine store_kA (hE.get h7) ty79 (k := fun G4 h8 k4 s4 => ?_)
    simp only [go_sem, reduceCtorEq, Nat.reduceEqDiff, Nat.reduceAdd, withc_some, withcs_some, cells_0, cells_s, Option.bind_some, Option.map_some, List.getElem?_toArray, List.getElem?_cons_zero, List.getElem?_cons_succ, Nat.add_zero, Nat.zero_add, Value.cells, splice, List.setIfInBounds_toArray, List.set_cons_zero, List.set_cons_succ, bfill_nil, bfill_cons, bstep_some, withO_some, List.take_zero, List.take_succ_cons, List.drop_zero, List.drop_succ_cons, List.cons_append, List.nil_append, List.append_nil, List.length_cons, List.length_nil, Nat.reduceLeDiff, Nat.le_refl, and_true, true_and, and_self, decide_true, decide_false, Bool.not_true, Bool.not_false, hQ, resW_cell, bl79, callA_fn0 pl23, fa73_1, fa82_0, ld68, ld9, opA_alloc 79 ty79]
    rw [rc79 (l := [.int .i64 0, .int .i64 0]) (by simp only [go_sem, reduceCtorEq, Nat.reduceEqDiff, Nat.reduceAdd, withc_some, withcs_some, cells_0, cells_s, Option.bind_some, Option.map_some, List.getElem?_toArray, List.getElem?_cons_zero, List.getElem?_cons_succ, Nat.add_zero, Nat.zero_add, Value.cells, splice, List.setIfInBounds_toArray, List.set_cons_zero, List.set_cons_succ, bfill_nil, bfill_cons, bstep_some, withO_some, List.take_zero, List.take_succ_cons, List.drop_zero, List.drop_succ_cons, List.cons_append, List.nil_append, List.append_nil, List.length_cons, List.length_nil, Nat.reduceLeDiff, Nat.le_refl, and_true, true_and, and_self, decide_true, decide_false, Bool.not_true, Bool.not_false, cell_of_blk h8, bl79, callA_fn0 pl23, fa73_1, fa82_0, ld68, ld9, opA_alloc 79 ty79])]
    obtain ⟨f1, f2⟩ := hdone G G4 s (E12.trans hE).ko (hR.ext (E12.trans hE)) ⟨_, hE.get h7⟩ k4
    exact h G4 f1 f2
  have hdl := length_dropWhile_le blank t
  by_cases hid : t.dropWhile blank = []
  · have e1 : (t.dropWhile blank == []) = true := by simp [hid]
    simp only [go_sem, reduceCtorEq, Nat.reduceEqDiff, Nat.reduceAdd, withc_some, withcs_some, cells_0, cells_s, Option.bind_some, Option.map_some, List.getElem?_toArray, List.getElem?_cons_zero, List.getElem?_cons_succ, Nat.add_zero, Nat.zero_add, Value.cells, splice, List.setIfInBounds_toArray, List.set_cons_zero, List.set_cons_succ, bfill_nil, bfill_cons, bstep_some, withO_some, List.take_zero, List.take_succ_cons, List.drop_zero, List.drop_succ_cons, List.cons_append, List.nil_append, List.append_nil, List.length_cons, List.length_nil, Nat.reduceLeDiff, Nat.le_refl, and_true, true_and, and_self, decide_true, decide_false, Bool.not_true, Bool.not_false, c63_18, r63_2, B_lit, B_toList, e1, c63_1, bl79, callA_fn0 pl23, fa73_1, fa82_0, ld68, ld9, opA_alloc 79 ty79]
    exact hfin0 G2 _ _ (by rw [hlw, if_pos (.inl hid)]) (Ext.refl _) (fun F G => by simp only [seqQ_ret, blkE_ret])
  · have e1 : (t.dropWhile blank == []) = false := by simpa using hid
    obtain ⟨c0, tr, hct⟩ : ∃ c0 tr, t.dropWhile blank = c0 :: tr := List.exists_cons_of_ne_nil hid
    have hc0 : (t.dropWhile blank)[0]? = some c0 := by rw [hct]; rfl
    simp only [go_sem, reduceCtorEq, Nat.reduceEqDiff, Nat.reduceAdd, withc_some, withcs_some, cells_0, cells_s, Option.bind_some, Option.map_some, List.getElem?_toArray, List.getElem?_cons_zero, List.getElem?_cons_succ, Nat.add_zero, Nat.zero_add, Value.cells, splice, List.setIfInBounds_toArray, List.set_cons_zero, List.set_cons_succ, bfill_nil, bfill_cons, bstep_some, withO_some, List.take_zero, List.take_succ_cons, List.drop_zero, List.drop_succ_cons, List.cons_append, List.nil_append, List.append_nil, List.length_cons, List.length_nil, Nat.reduceLeDiff, Nat.le_refl, and_true, true_and, and_self, decide_true, decide_false, Bool.not_true, Bool.not_false, c63_18, r63_2, B_lit, B_toList, e1, c63_1, bl79, callA_fn0 pl23, fa73_1, fa82_0, ld68, ld9, opA_alloc 79 ty79]
    rw [show (Value.int .i64 0) = .int .i64 ((0 : Nat) : Int) from rfl, idxA_at uStr hc0]
    by_cases h35 : c0 = 35
    · subst h35
      have e2 : decide (((35 : UInt8).toNat : Int) = 35) = true := rfl
      simp only [go_sem, reduceCtorEq, Nat.reduceEqDiff, Nat.reduceAdd, withc_some, withcs_some, cells_0, cells_s, Option.bind_some, Option.map_some, List.getElem?_toArray, List.getElem?_cons_zero, List.getElem?_cons_succ, Nat.add_zero, Nat.zero_add, Value.cells, splice, List.setIfInBounds_toArray, List.set_cons_zero, List.set_cons_succ, bfill_nil, bfill_cons, bstep_some, withO_some, List.take_zero, List.take_succ_cons, List.drop_zero, List.drop_succ_cons, List.cons_append, List.nil_append, List.append_nil, List.length_cons, List.length_nil, Nat.reduceLeDiff, Nat.le_refl, and_true, true_and, and_self, decide_true, decide_false, Bool.not_true, Bool.not_false, e2, bl79, callA_fn0 pl23, fa73_1, fa82_0, ld68, ld9, opA_alloc 79 ty79]
      exact hfin0 G2 _ _ (by rw [hlw, if_pos (.inr (by rw [hct]; rfl))]) (Ext.refl _) (fun F G => by simp only [seqQ_ret, blkE_ret])
    · have e2 : decide ((c0.toNat : Int) = 35) = false := u8_ne (b := 35) h35
      have hnid : ¬ (t.dropWhile blank = [] ∨ (t.dropWhile blank).head? = some 35) := by
        rw [hct]; simp; exact h35
      rw [if_neg hnid] at hlw
      simp only [go_sem, reduceCtorEq, Nat.reduceEqDiff, Nat.reduceAdd, withc_some, withcs_some, cells_0, cells_s, Option.bind_some, Option.map_some, List.getElem?_toArray, List.getElem?_cons_zero, List.getElem?_cons_succ, Nat.add_zero, Nat.zero_add, Value.cells, splice, List.setIfInBounds_toArray, List.set_cons_zero, List.set_cons_succ, bfill_nil, bfill_cons, bstep_some, withO_some, List.take_zero, List.take_succ_cons, List.drop_zero, List.drop_succ_cons, List.cons_append, List.nil_append, List.append_nil, List.length_cons, List.length_nil, Nat.reduceLeDiff, Nat.le_refl, and_true, true_and, and_self, decide_true, decide_false, Bool.not_true, Bool.not_false, e2, c63_17, r63_4, cell_of_blk h52, bl79, callA_fn0 pl12, callA_fn0 pl23, callQ_fn0 pl12, fa73_1, fa77_0, fa82_0, fq73_1, fq77_0, fq82_0, ld22, ld68, ld9, lq22, lq68, lq9, opA_alloc 79 ty79]
      rw [iadQ_slice uRows ty73 (by omega) (by omega)]
      simp only [go_sem, reduceCtorEq, Nat.reduceEqDiff, Nat.reduceAdd, withc_some, withcs_some, cells_0, cells_s, Option.bind_some, Option.map_some, List.getElem?_toArray, List.getElem?_cons_zero, List.getElem?_cons_succ, Nat.add_zero, Nat.zero_add, Value.cells, splice, List.setIfInBounds_toArray, List.set_cons_zero, List.set_cons_succ, bfill_nil, bfill_cons, bstep_some, withO_some, List.take_zero, List.take_succ_cons, List.drop_zero, List.drop_succ_cons, List.cons_append, List.nil_append, List.append_nil, List.length_cons, List.length_nil, Nat.reduceLeDiff, Nat.le_refl, and_true, true_and, and_self, decide_true, decide_false, Bool.not_true, Bool.not_false, add_none, cell_ext E12 r1, Int.toNat_zero, Nat.zero_mul, cell_of_blk (E12.get hRb), cell_of_blk h52, bl79, callA_fn0 pl12, callA_fn0 pl23, callQ_fn0 pl12, fa73_1, fa77_0, fa82_0, fq73_1, fq77_0, fq82_0, ld22, ld68, ld9, lq22, lq68, lq9, opA_alloc 79 ty79]
      have hsv2 : SymV G2 (.map (some ms)) s.syms := .inr ⟨ms, rfl, (MapC.ext hsym E12).o⟩
      refine replace_c t (.map (some ms)) s.syms G2 (by omega) hsv (g.ext E12) hsv2 fun G3 E3 => ?_
      have E13 := E12.trans E3
      -- an error in the line
      have hfinE2 : ∀ (G : Hp) (Q : E → Fr → Hp → Prop) (F0 : Fr) (e : Int) (y : Value), lineW (s.syms.lookup ·) t = .error e → Ext G2 G → (∀ F G, Q .ret F G = retK Tryd.prog [.tmp 6, .cell 7 79] K .ret F G) → aw Tryd.prog 78 c63_2 Q ((0, .pointer (some ⟨R, 0, none⟩)) :: (1, .map (some kn)) :: (5, .pointer (some ⟨b5, 0, none⟩)) :: (7, .pointer (some ⟨b7, 0, none⟩)) :: (8, y) :: (9, .int .i64 e) :: F0) G := by
        intro G Q F0 e y hl hE hQ
        have hres : lineR s k t (fun w => (hndL.lookup w).isSome) hf = (s, ⟨0, k, e⟩) := by unfold lineR; rw [hl]
        rw [hres] at h
        simp only [go_sem, reduceCtorEq, Nat.reduceEqDiff, Nat.reduceAdd, withc_some, withcs_some, cells_0, cells_s, Option.bind_some, Option.map_some, List.getElem?_toArray, List.getElem?_cons_zero, List.getElem?_cons_succ, Nat.add_zero, Nat.zero_add, Value.cells, splice, List.setIfInBounds_toArray, List.set_cons_zero, List.set_cons_succ, bfill_nil, bfill_cons, bstep_some, withO_some, List.take_zero, List.take_succ_cons, List.drop_zero, List.drop_succ_cons, List.cons_append, List.nil_append, List.append_nil, List.length_cons, List.length_nil, Nat.reduceLeDiff, Nat.le_refl, and_true, true_and, and_self, decide_true, decide_false, Bool.not_true, Bool.not_false, c63_2, r63_6, cell_of_blk (hE.get h52), bl79, callA_fn0 pl12, callA_fn0 pl23, callA_fn0 pl91, callQ_fn0 pl12, fa73_1, fa77_0, fa82_0, fq73_1, fq77_0, fq82_0, ld22, ld68, ld82, ld9, lq22, lq68, lq9, opA_alloc 79 ty79]
        refine at_c (hr.ext (E12.trans hE)) fun G4 E4 => ?_
        simp only [go_sem, reduceCtorEq, Nat.reduceEqDiff, Nat.reduceAdd, withc_some, withcs_some, cells_0, cells_s, Option.bind_some, Option.map_some, List.getElem?_toArray, List.getElem?_cons_zero, List.getElem?_cons_succ, Nat.add_zero, Nat.zero_add, Value.cells, splice, List.setIfInBounds_toArray, List.set_cons_zero, List.set_cons_succ, bfill_nil, bfill_cons, bstep_some, withO_some, List.take_zero, List.take_succ_cons, List.drop_zero, List.drop_succ_cons, List.cons_append, List.nil_append, List.append_nil, List.length_cons, List.length_nil, Nat.reduceLeDiff, Nat.le_refl, and_true, true_and, and_self, decide_true, decide_false, Bool.not_true, Bool.not_false, bl79, callA_fn0 pl12, callA_fn0 pl23, callA_fn0 pl91, callQ_fn0 pl12, fa73_1, fa77_0, fa82_0, fq73_1, fq77_0, fq82_0, ld22, ld68, ld82, ld9, lq22, lq68, lq9, opA_alloc 79 ty79]
        refine store_kA ((hE.trans E4).get h7) ty79 (k := fun G5 h8 k4 s4 => ?_)
        simp only [go_sem, reduceCtorEq, Nat.reduceEqDiff, Nat.reduceAdd, withc_some, withcs_some, cells_0, cells_s, Option.bind_some, Option.map_some, List.getElem?_toArray, List.getElem?_cons_zero, List.getElem?_cons_succ, Nat.add_zero, Nat.zero_add, Value.cells, splice, List.setIfInBounds_toArray, List.set_cons_zero, List.set_cons_succ, bfill_nil, bfill_cons, bstep_some, withO_some, List.take_zero, List.take_succ_cons, List.drop_zero, List.drop_succ_cons, List.cons_append, List.nil_append, List.append_nil, List.length_cons, List.length_nil, Nat.reduceLeDiff, Nat.le_refl, and_true, true_and, and_self, decide_true, decide_false, Bool.not_true, Bool.not_false, hQ, resW_cell, bl79, callA_fn0 pl12, callA_fn0 pl23, callA_fn0 pl91, callQ_fn0 pl12, fa73_1, fa77_0, fa82_0, fq73_1, fq77_0, fq82_0, ld22, ld68, ld82, ld9, lq22, lq68, lq9, opA_alloc 79 ty79]
        rw [rc79 (l := [.int .i64 k, .int .i64 e]) (by simp only [go_sem, reduceCtorEq, Nat.reduceEqDiff, Nat.reduceAdd, withc_some, withcs_some, cells_0, cells_s, Option.bind_some, Option.map_some, List.getElem?_toArray, List.getElem?_cons_zero, List.getElem?_cons_succ, Nat.add_zero, Nat.zero_add, Value.cells, splice, List.setIfInBounds_toArray, List.set_cons_zero, List.set_cons_succ, bfill_nil, bfill_cons, bstep_some, withO_some, List.take_zero, List.take_succ_cons, List.drop_zero, List.drop_succ_cons, List.cons_append, List.nil_append, List.append_nil, List.length_cons, List.length_nil, Nat.reduceLeDiff, Nat.le_refl, and_true, true_and, and_self, decide_true, decide_false, Bool.not_true, Bool.not_false, cell_of_blk h8, bl79, callA_fn0 pl12, callA_fn0 pl23, callA_fn0 pl91, callQ_fn0 pl12, fa73_1, fa77_0, fa82_0, fq73_1, fq77_0, fq82_0, ld22, ld68, ld82, ld9, lq22, lq68, lq9, opA_alloc 79 ty79])]
        obtain ⟨f1, f2⟩ := hdone G4 G5 s (E12.trans (hE.trans E4)).ko (hR.ext (E12.trans (hE.trans E4))) ⟨_, (hE.trans E4).get h7⟩ k4
        exact h G5 f1 f2
      have hfinE4 : ∀ (G : Hp) (Q : E → Fr → Hp → Prop) (F0 : Fr) (e : Int), lineW (s.syms.lookup ·) t = .error e → Ext G2 G → (∀ F G, Q .ret F G = retK Tryd.prog [.tmp 6, .cell 7 79] K .ret F G) → aw Tryd.prog 78 c63_4 Q ((0, .pointer (some ⟨R, 0, none⟩)) :: (1, .map (some kn)) :: (5, .pointer (some ⟨b5, 0, none⟩)) :: (7, .pointer (some ⟨b7, 0, none⟩)) :: (9, .int .i64 e) :: F0) G := by
        intro G Q F0 e hl hE hQ
        have hres : lineR s k t (fun w => (hndL.lookup w).isSome) hf = (s, ⟨0, k, e⟩) := by unfold lineR; rw [hl]
        rw [hres] at h
        simp only [go_sem, reduceCtorEq, Nat.reduceEqDiff, Nat.reduceAdd, withc_some, withcs_some, cells_0, cells_s, Option.bind_some, Option.map_some, List.getElem?_toArray, List.getElem?_cons_zero, List.getElem?_cons_succ, Nat.add_zero, Nat.zero_add, Value.cells, splice, List.setIfInBounds_toArray, List.set_cons_zero, List.set_cons_succ, bfill_nil, bfill_cons, bstep_some, withO_some, List.take_zero, List.take_succ_cons, List.drop_zero, List.drop_succ_cons, List.cons_append, List.nil_append, List.append_nil, List.length_cons, List.length_nil, Nat.reduceLeDiff, Nat.le_refl, and_true, true_and, and_self, decide_true, decide_false, Bool.not_true, Bool.not_false, c63_4, r63_9, cell_of_blk (hE.get h52), bl79, callA_fn0 pl12, callA_fn0 pl23, callA_fn0 pl91, callQ_fn0 pl12, fa73_1, fa77_0, fa82_0, fq73_1, fq77_0, fq82_0, ld22, ld68, ld82, ld9, lq22, lq68, lq9, opA_alloc 79 ty79]
        refine at_c (hr.ext (E12.trans hE)) fun G4 E4 => ?_
        simp only [go_sem, reduceCtorEq, Nat.reduceEqDiff, Nat.reduceAdd, withc_some, withcs_some, cells_0, cells_s, Option.bind_some, Option.map_some, List.getElem?_toArray, List.getElem?_cons_zero, List.getElem?_cons_succ, Nat.add_zero, Nat.zero_add, Value.cells, splice, List.setIfInBounds_toArray, List.set_cons_zero, List.set_cons_succ, bfill_nil, bfill_cons, bstep_some, withO_some, List.take_zero, List.take_succ_cons, List.drop_zero, List.drop_succ_cons, List.cons_append, List.nil_append, List.append_nil, List.length_cons, List.length_nil, Nat.reduceLeDiff, Nat.le_refl, and_true, true_and, and_self, decide_true, decide_false, Bool.not_true, Bool.not_false, bl79, callA_fn0 pl12, callA_fn0 pl23, callA_fn0 pl91, callQ_fn0 pl12, fa73_1, fa77_0, fa82_0, fq73_1, fq77_0, fq82_0, ld22, ld68, ld82, ld9, lq22, lq68, lq9, opA_alloc 79 ty79]
        refine store_kA ((hE.trans E4).get h7) ty79 (k := fun G5 h8 k4 s4 => ?_)
        simp only [go_sem, reduceCtorEq, Nat.reduceEqDiff, Nat.reduceAdd, withc_some, withcs_some, cells_0, cells_s, Option.bind_some, Option.map_some, List.getElem?_toArray, List.getElem?_cons_zero, List.getElem?_cons_succ, Nat.add_zero, Nat.zero_add, Value.cells, splice, List.setIfInBounds_toArray, List.set_cons_zero, List.set_cons_succ, bfill_nil, bfill_cons, bstep_some, withO_some, List.take_zero, List.take_succ_cons, List.drop_zero, List.drop_succ_cons, List.cons_append, List.nil_append, List.append_nil, List.length_cons, List.length_nil, Nat.reduceLeDiff, Nat.le_refl, and_true, true_and, and_self, decide_true, decide_false, Bool.not_true, Bool.not_false, hQ, resW_cell, bl79, callA_fn0 pl12, callA_fn0 pl23, callA_fn0 pl91, callQ_fn0 pl12, fa73_1, fa77_0, fa82_0, fq73_1, fq77_0, fq82_0, ld22, ld68, ld82, ld9, lq22, lq68, lq9, opA_alloc 79 ty79]
        rw [rc79 (l := [.int .i64 k, .int .i64 e]) (by simp only [go_sem, reduceCtorEq, Nat.reduceEqDiff, Nat.reduceAdd, withc_some, withcs_some, cells_0, cells_s, Option.bind_some, Option.map_some, List.getElem?_toArray, List.getElem?_cons_zero, List.getElem?_cons_succ, Nat.add_zero, Nat.zero_add, Value.cells, splice, List.setIfInBounds_toArray, List.set_cons_zero, List.set_cons_succ, bfill_nil, bfill_cons, bstep_some, withO_some, List.take_zero, List.take_succ_cons, List.drop_zero, List.drop_succ_cons, List.cons_append, List.nil_append, List.append_nil, List.length_cons, List.length_nil, Nat.reduceLeDiff, Nat.le_refl, and_true, true_and, and_self, decide_true, decide_false, Bool.not_true, Bool.not_false, cell_of_blk h8, bl79, callA_fn0 pl12, callA_fn0 pl23, callA_fn0 pl91, callQ_fn0 pl12, fa73_1, fa77_0, fa82_0, fq73_1, fq77_0, fq82_0, ld22, ld68, ld82, ld9, lq22, lq68, lq9, opA_alloc 79 ty79])]
        obtain ⟨f1, f2⟩ := hdone G4 G5 s (E12.trans (hE.trans E4)).ko (hR.ext (E12.trans (hE.trans E4))) ⟨_, (hE.trans E4).get h7⟩ k4
        exact h G5 f1 f2
      have hbnd : (replR (s.syms.lookup ·) t).1.length ≤ 1000 := by
        unfold replR
        split
        · split
          · simp
          · simp; omega
        · simp
      simp only [go_sem, reduceCtorEq, Nat.reduceEqDiff, Nat.reduceAdd, withc_some, withcs_some, cells_0, cells_s, Option.bind_some, Option.map_some, List.getElem?_toArray, List.getElem?_cons_zero, List.getElem?_cons_succ, Nat.add_zero, Nat.zero_add, Value.cells, splice, List.setIfInBounds_toArray, List.set_cons_zero, List.set_cons_succ, bfill_nil, bfill_cons, bstep_some, withO_some, List.take_zero, List.take_succ_cons, List.drop_zero, List.drop_succ_cons, List.cons_append, List.nil_append, List.append_nil, List.length_cons, List.length_nil, Nat.reduceLeDiff, Nat.le_refl, and_true, true_and, and_self, decide_true, decide_false, Bool.not_true, Bool.not_false, c63_16, r63_5, bl79, callA_fn0 pl12, callA_fn0 pl23, callA_fn0 pl91, callQ_fn0 pl12, fa73_1, fa77_0, fa82_0, fq73_1, fq77_0, fq82_0, ld22, ld68, ld82, ld9, lq22, lq68, lq9, opA_alloc 79 ty79]
      by_cases he0 : (replR (s.syms.lookup ·) t).2 = 0
      · rw [if_pos he0] at hlw
        have e3 : decide ((replR (s.syms.lookup ·) t).2 = 0) = true := by simpa using he0
        simp only [go_sem, reduceCtorEq, Nat.reduceEqDiff, Nat.reduceAdd, withc_some, withcs_some, cells_0, cells_s, Option.bind_some, Option.map_some, List.getElem?_toArray, List.getElem?_cons_zero, List.getElem?_cons_succ, Nat.add_zero, Nat.zero_add, Value.cells, splice, List.setIfInBounds_toArray, List.set_cons_zero, List.set_cons_succ, bfill_nil, bfill_cons, bstep_some, withO_some, List.take_zero, List.take_succ_cons, List.drop_zero, List.drop_succ_cons, List.cons_append, List.nil_append, List.append_nil, List.length_cons, List.length_nil, Nat.reduceLeDiff, Nat.le_refl, and_true, true_and, and_self, decide_true, decide_false, Bool.not_true, Bool.not_false, e3, c63_3, c63_15, r63_7, bl79, callA_fn0 pl10, callA_fn0 pl12, callA_fn0 pl23, callA_fn0 pl91, callQ_fn0 pl12, fa73_1, fa77_0, fa82_0, fq73_1, fq77_0, fq82_0, ld22, ld68, ld82, ld9, lq22, lq68, lq9, opA_alloc 79 ty79]
        refine Proofs.YtoabcmhiaknjiaaDoor.scan _ G3 (by omega) fun G4 v e E4 hsc => ?_
        unfold ScanR at hsc
        have E24 := E3.trans E4
        simp only [go_sem, reduceCtorEq, Nat.reduceEqDiff, Nat.reduceAdd, withc_some, withcs_some, cells_0, cells_s, Option.bind_some, Option.map_some, List.getElem?_toArray, List.getElem?_cons_zero, List.getElem?_cons_succ, Nat.add_zero, Nat.zero_add, Value.cells, splice, List.setIfInBounds_toArray, List.set_cons_zero, List.set_cons_succ, bfill_nil, bfill_cons, bstep_some, withO_some, List.take_zero, List.take_succ_cons, List.drop_zero, List.drop_succ_cons, List.cons_append, List.nil_append, List.append_nil, List.length_cons, List.length_nil, Nat.reduceLeDiff, Nat.le_refl, and_true, true_and, and_self, decide_true, decide_false, Bool.not_true, Bool.not_false, c63_14, r63_8, bl79, callA_fn0 pl10, callA_fn0 pl12, callA_fn0 pl23, callA_fn0 pl91, callQ_fn0 pl12, fa73_1, fa77_0, fa82_0, fq73_1, fq77_0, fq82_0, ld22, ld68, ld82, ld9, lq22, lq68, lq9, opA_alloc 79 ty79]
        cases hsf : scanF (replR (s.syms.lookup ·) t).1 with
        | none =>
          rw [hsf] at hsc hlw
          obtain ⟨rfl, rfl⟩ := hsc
          simp only [go_sem, reduceCtorEq, Nat.reduceEqDiff, Nat.reduceAdd, withc_some, withcs_some, cells_0, cells_s, Option.bind_some, Option.map_some, List.getElem?_toArray, List.getElem?_cons_zero, List.getElem?_cons_succ, Nat.add_zero, Nat.zero_add, Value.cells, splice, List.setIfInBounds_toArray, List.set_cons_zero, List.set_cons_succ, bfill_nil, bfill_cons, bstep_some, withO_some, List.take_zero, List.take_succ_cons, List.drop_zero, List.drop_succ_cons, List.cons_append, List.nil_append, List.append_nil, List.length_cons, List.length_nil, Nat.reduceLeDiff, Nat.le_refl, and_true, true_and, and_self, decide_true, decide_false, Bool.not_true, Bool.not_false, show decide ((3 : Int) = 0) = false from rfl, c63_5, bl79, callA_fn0 pl10, callA_fn0 pl12, callA_fn0 pl23, callA_fn0 pl91, callQ_fn0 pl12, fa73_1, fa77_0, fa82_0, fq73_1, fq77_0, fq82_0, ld22, ld68, ld82, ld9, lq22, lq68, lq9, opA_alloc 79 ty79]
          exact hfinE4 G4 _ _ 3 hlw E24 (fun F G => by simp only [seqQ_ret])
        | some ws =>
          rw [hsf] at hsc hlw
          obtain ⟨rfl, own⟩ := hsc
          obtain ⟨va, vc, rfl⟩ := own.form
          have hwl : ws.length ≤ 1000 := by
            have := scanF_len hsf
            omega
          simp only [go_sem, reduceCtorEq, Nat.reduceEqDiff, Nat.reduceAdd, withc_some, withcs_some, cells_0, cells_s, Option.bind_some, Option.map_some, List.getElem?_toArray, List.getElem?_cons_zero, List.getElem?_cons_succ, Nat.add_zero, Nat.zero_add, Value.cells, splice, List.setIfInBounds_toArray, List.set_cons_zero, List.set_cons_succ, bfill_nil, bfill_cons, bstep_some, withO_some, List.take_zero, List.take_succ_cons, List.drop_zero, List.drop_succ_cons, List.cons_append, List.nil_append, List.append_nil, List.length_cons, List.length_nil, Nat.reduceLeDiff, Nat.le_refl, and_true, true_and, and_self, decide_true, decide_false, Bool.not_true, Bool.not_false, show decide ((0 : Int) = 0) = true from rfl, c63_5, c63_13, r63_10, bl79, callA_fn0 pl10, callA_fn0 pl12, callA_fn0 pl23, callA_fn0 pl91, callQ_fn0 pl12, fa73_1, fa77_0, fa82_0, fq73_1, fq77_0, fq82_0, ld22, ld68, ld82, ld9, len_slice Tryd.underlying24, lq22, lq68, lq9, opA_alloc 79 ty79]
          match ws, hlw, own, hwl with
          | [], hlw, own, hwl =>
            simp only [go_sem, reduceCtorEq, Nat.reduceEqDiff, Nat.reduceAdd, withc_some, withcs_some, cells_0, cells_s, Option.bind_some, Option.map_some, List.getElem?_toArray, List.getElem?_cons_zero, List.getElem?_cons_succ, Nat.add_zero, Nat.zero_add, Value.cells, splice, List.setIfInBounds_toArray, List.set_cons_zero, List.set_cons_succ, bfill_nil, bfill_cons, bstep_some, withO_some, List.take_zero, List.take_succ_cons, List.drop_zero, List.drop_succ_cons, List.cons_append, List.nil_append, List.append_nil, List.length_cons, List.length_nil, Nat.reduceLeDiff, Nat.le_refl, and_true, true_and, and_self, decide_true, decide_false, Bool.not_true, Bool.not_false, List.length_nil, Int.natCast_zero, show decide ((0 : Int) = 0) = true from rfl, c63_7, c63_6, r63_11, bl79, callA_fn0 pl10, callA_fn0 pl12, callA_fn0 pl23, callA_fn0 pl91, callQ_fn0 pl12, fa73_1, fa77_0, fa82_0, fq73_1, fq77_0, fq82_0, ld22, ld68, ld82, ld9, len_slice Tryd.underlying24, lq22, lq68, lq9, opA_alloc 79 ty79]
            have hres : lineR s k t (fun w => (hndL.lookup w).isSome) hf = (s, ⟨0, 0, 0⟩) := by unfold lineR; rw [hlw]
            rw [hres] at h
            refine store_kA (E24.get h7) ty79 (k := fun G5 h8 k4 s4 => ?_)
            simp only [go_sem, reduceCtorEq, Nat.reduceEqDiff, Nat.reduceAdd, withc_some, withcs_some, cells_0, cells_s, Option.bind_some, Option.map_some, List.getElem?_toArray, List.getElem?_cons_zero, List.getElem?_cons_succ, Nat.add_zero, Nat.zero_add, Value.cells, splice, List.setIfInBounds_toArray, List.set_cons_zero, List.set_cons_succ, bfill_nil, bfill_cons, bstep_some, withO_some, List.take_zero, List.take_succ_cons, List.drop_zero, List.drop_succ_cons, List.cons_append, List.nil_append, List.append_nil, List.length_cons, List.length_nil, Nat.reduceLeDiff, Nat.le_refl, and_true, true_and, and_self, decide_true, decide_false, Bool.not_true, Bool.not_false, resW_cell, bl79, callA_fn0 pl10, callA_fn0 pl12, callA_fn0 pl23, callA_fn0 pl91, callQ_fn0 pl12, fa73_1, fa77_0, fa82_0, fq73_1, fq77_0, fq82_0, ld22, ld68, ld82, ld9, len_slice Tryd.underlying24, lq22, lq68, lq9, opA_alloc 79 ty79]
            rw [rc79 (l := [.int .i64 0, .int .i64 0]) (by simp only [go_sem, reduceCtorEq, Nat.reduceEqDiff, Nat.reduceAdd, withc_some, withcs_some, cells_0, cells_s, Option.bind_some, Option.map_some, List.getElem?_toArray, List.getElem?_cons_zero, List.getElem?_cons_succ, Nat.add_zero, Nat.zero_add, Value.cells, splice, List.setIfInBounds_toArray, List.set_cons_zero, List.set_cons_succ, bfill_nil, bfill_cons, bstep_some, withO_some, List.take_zero, List.take_succ_cons, List.drop_zero, List.drop_succ_cons, List.cons_append, List.nil_append, List.append_nil, List.length_cons, List.length_nil, Nat.reduceLeDiff, Nat.le_refl, and_true, true_and, and_self, decide_true, decide_false, Bool.not_true, Bool.not_false, cell_of_blk h8, bl79, callA_fn0 pl10, callA_fn0 pl12, callA_fn0 pl23, callA_fn0 pl91, callQ_fn0 pl12, fa73_1, fa77_0, fa82_0, fq73_1, fq77_0, fq82_0, ld22, ld68, ld82, ld9, len_slice Tryd.underlying24, lq22, lq68, lq9, opA_alloc 79 ty79])]
            obtain ⟨f1, f2⟩ := hdone G4 G5 s (E12.trans E24).ko (hR.ext (E12.trans E24)) ⟨_, E24.get h7⟩ k4
            exact h G5 f1 f2
          | w :: ws, hlw, own, hwl =>
            have hsl : SlV G4 (.slice va (w :: ws).length vc) (w :: ws) := SlE.own own
            have e5 : decide (((w :: ws).length : Int) = 0) = false := by rw [decide_eq_false_iff_not, List.length_cons]; omega
            obtain ⟨wb, woff, wc', ew, w1⟩ := hsl.at (i := 0) (w := w) rfl
            cases ew
            rw [Nat.add_zero] at w1
            simp only [List.length_cons] at e5
            simp only [go_sem, reduceCtorEq, Nat.reduceEqDiff, Nat.reduceAdd, withc_some, withcs_some, cells_0, cells_s, Option.bind_some, Option.map_some, List.getElem?_toArray, List.getElem?_cons_zero, List.getElem?_cons_succ, Nat.add_zero, Nat.zero_add, Value.cells, splice, List.setIfInBounds_toArray, List.set_cons_zero, List.set_cons_succ, bfill_nil, bfill_cons, bstep_some, withO_some, List.take_zero, List.take_succ_cons, List.drop_zero, List.drop_succ_cons, List.cons_append, List.nil_append, List.append_nil, List.length_cons, List.length_nil, Nat.reduceLeDiff, Nat.le_refl, and_true, true_and, and_self, decide_true, decide_false, Bool.not_true, Bool.not_false, e5, c63_7, c63_12, r63_12, bl79, callA_fn0 pl10, callA_fn0 pl12, callA_fn0 pl23, callA_fn0 pl91, callQ_fn0 pl12, fa73_1, fa77_0, fa82_0, fq73_1, fq77_0, fq82_0, ld22, ld68, ld82, ld9, len_slice Tryd.underlying24, lq22, lq68, lq9, opA_alloc 79 ty79]
            rw [iadA_slice uStrs ty9 (by omega) (by simp)]
            simp only [go_sem, reduceCtorEq, Nat.reduceEqDiff, Nat.reduceAdd, withc_some, withcs_some, cells_0, cells_s, Option.bind_some, Option.map_some, List.getElem?_toArray, List.getElem?_cons_zero, List.getElem?_cons_succ, Nat.add_zero, Nat.zero_add, Value.cells, splice, List.setIfInBounds_toArray, List.set_cons_zero, List.set_cons_succ, bfill_nil, bfill_cons, bstep_some, withO_some, List.take_zero, List.take_succ_cons, List.drop_zero, List.drop_succ_cons, List.cons_append, List.nil_append, List.append_nil, List.length_cons, List.length_nil, Nat.reduceLeDiff, Nat.le_refl, and_true, true_and, and_self, decide_true, decide_false, Bool.not_true, Bool.not_false, add_none, Int.toNat_zero, Nat.zero_mul, w1, opA_lookup, bl79, callA_fn0 pl10, callA_fn0 pl12, callA_fn0 pl23, callA_fn0 pl91, callQ_fn0 pl12, fa73_1, fa77_0, fa82_0, fq73_1, fq77_0, fq82_0, ld22, ld68, ld82, ld9, len_slice Tryd.underlying24, lq22, lq68, lq9, opA_alloc 79 ty79]
            rw [lkpA_ok uHM uStr ty124 (MapC.ext hkn (E12.trans E24)).o]
            cases hlk : hndL.lookup w with
            | none =>
              simp only [go_sem, reduceCtorEq, Nat.reduceEqDiff, Nat.reduceAdd, withc_some, withcs_some, cells_0, cells_s, Option.bind_some, Option.map_some, List.getElem?_toArray, List.getElem?_cons_zero, List.getElem?_cons_succ, Nat.add_zero, Nat.zero_add, Value.cells, splice, List.setIfInBounds_toArray, List.set_cons_zero, List.set_cons_succ, bfill_nil, bfill_cons, bstep_some, withO_some, List.take_zero, List.take_succ_cons, List.drop_zero, List.drop_succ_cons, List.cons_append, List.nil_append, List.append_nil, List.length_cons, List.length_nil, Nat.reduceLeDiff, Nat.le_refl, and_true, true_and, and_self, decide_true, decide_false, Bool.not_true, Bool.not_false, Option.isSome_none, c63_11, r63_13, c63_9, c63_8, r63_14, cell_of_blk (E24.get h52), bl79, callA_fn0 pl10, callA_fn0 pl12, callA_fn0 pl23, callA_fn0 pl91, callQ_fn0 pl12, fa73_1, fa77_0, fa82_0, fq73_1, fq77_0, fq82_0, ld22, ld68, ld82, ld9, len_slice Tryd.underlying24, lq22, lq68, lq9, opA_alloc 79 ty79]
              have hres : lineR s k t (fun w => (hndL.lookup w).isSome) hf = (s, ⟨0, k, 3⟩) := by unfold lineR; rw [hlw]; simp [hlk]
              rw [hres] at h
              refine at_c (hr.ext (E12.trans E24)) fun G5 E5 => ?_
              simp only [go_sem, reduceCtorEq, Nat.reduceEqDiff, Nat.reduceAdd, withc_some, withcs_some, cells_0, cells_s, Option.bind_some, Option.map_some, List.getElem?_toArray, List.getElem?_cons_zero, List.getElem?_cons_succ, Nat.add_zero, Nat.zero_add, Value.cells, splice, List.setIfInBounds_toArray, List.set_cons_zero, List.set_cons_succ, bfill_nil, bfill_cons, bstep_some, withO_some, List.take_zero, List.take_succ_cons, List.drop_zero, List.drop_succ_cons, List.cons_append, List.nil_append, List.append_nil, List.length_cons, List.length_nil, Nat.reduceLeDiff, Nat.le_refl, and_true, true_and, and_self, decide_true, decide_false, Bool.not_true, Bool.not_false, bl79, callA_fn0 pl10, callA_fn0 pl12, callA_fn0 pl23, callA_fn0 pl91, callQ_fn0 pl12, fa73_1, fa77_0, fa82_0, fq73_1, fq77_0, fq82_0, ld22, ld68, ld82, ld9, len_slice Tryd.underlying24, lq22, lq68, lq9, opA_alloc 79 ty79]
              refine store_kA ((E24.trans E5).get h7) ty79 (k := fun G6 h8 k4 s4 => ?_)
              simp only [go_sem, reduceCtorEq, Nat.reduceEqDiff, Nat.reduceAdd, withc_some, withcs_some, cells_0, cells_s, Option.bind_some, Option.map_some, List.getElem?_toArray, List.getElem?_cons_zero, List.getElem?_cons_succ, Nat.add_zero, Nat.zero_add, Value.cells, splice, List.setIfInBounds_toArray, List.set_cons_zero, List.set_cons_succ, bfill_nil, bfill_cons, bstep_some, withO_some, List.take_zero, List.take_succ_cons, List.drop_zero, List.drop_succ_cons, List.cons_append, List.nil_append, List.append_nil, List.length_cons, List.length_nil, Nat.reduceLeDiff, Nat.le_refl, and_true, true_and, and_self, decide_true, decide_false, Bool.not_true, Bool.not_false, resW_cell, bl79, callA_fn0 pl10, callA_fn0 pl12, callA_fn0 pl23, callA_fn0 pl91, callQ_fn0 pl12, fa73_1, fa77_0, fa82_0, fq73_1, fq77_0, fq82_0, ld22, ld68, ld82, ld9, len_slice Tryd.underlying24, lq22, lq68, lq9, opA_alloc 79 ty79]
              rw [rc79 (l := [.int .i64 k, .int .i64 3]) (by simp only [go_sem, reduceCtorEq, Nat.reduceEqDiff, Nat.reduceAdd, withc_some, withcs_some, cells_0, cells_s, Option.bind_some, Option.map_some, List.getElem?_toArray, List.getElem?_cons_zero, List.getElem?_cons_succ, Nat.add_zero, Nat.zero_add, Value.cells, splice, List.setIfInBounds_toArray, List.set_cons_zero, List.set_cons_succ, bfill_nil, bfill_cons, bstep_some, withO_some, List.take_zero, List.take_succ_cons, List.drop_zero, List.drop_succ_cons, List.cons_append, List.nil_append, List.append_nil, List.length_cons, List.length_nil, Nat.reduceLeDiff, Nat.le_refl, and_true, true_and, and_self, decide_true, decide_false, Bool.not_true, Bool.not_false, cell_of_blk h8, bl79, callA_fn0 pl10, callA_fn0 pl12, callA_fn0 pl23, callA_fn0 pl91, callQ_fn0 pl12, fa73_1, fa77_0, fa82_0, fq73_1, fq77_0, fq82_0, ld22, ld68, ld82, ld9, len_slice Tryd.underlying24, lq22, lq68, lq9, opA_alloc 79 ty79])]
              obtain ⟨f1, f2⟩ := hdone G5 G6 s (E12.trans (E24.trans E5)).ko (hR.ext (E12.trans (E24.trans E5))) ⟨_, (E24.trans E5).get h7⟩ k4
              exact h G6 f1 f2
            | some v =>
              obtain ⟨f, rfl, hpl⟩ := hnd_plain hlk
              have hres : lineR s k t (fun w => (hndL.lookup w).isSome) hf = hf (w :: ws) := by unfold lineR; rw [hlw]; simp [hlk]
              rw [hres] at h
              simp only [go_sem, reduceCtorEq, Nat.reduceEqDiff, Nat.reduceAdd, withc_some, withcs_some, cells_0, cells_s, Option.bind_some, Option.map_some, List.getElem?_toArray, List.getElem?_cons_zero, List.getElem?_cons_succ, Nat.add_zero, Nat.zero_add, Value.cells, splice, List.setIfInBounds_toArray, List.set_cons_zero, List.set_cons_succ, bfill_nil, bfill_cons, bstep_some, withO_some, List.take_zero, List.take_succ_cons, List.drop_zero, List.drop_succ_cons, List.cons_append, List.nil_append, List.append_nil, List.length_cons, List.length_nil, Nat.reduceLeDiff, Nat.le_refl, and_true, true_and, and_self, decide_true, decide_false, Bool.not_true, Bool.not_false, Option.isSome_some, Option.getD_some, c63_11, r63_13, c63_9, c63_10, r63_15, cell_of_blk (E24.get h52), bl79, callA_fn0 pl10, callA_fn0 pl12, callA_fn0 pl23, callA_fn0 pl91, callQ_fn0 pl12, fa73_1, fa77_0, fa82_0, fq73_1, fq77_0, fq82_0, ld22, ld68, ld82, ld9, len_slice Tryd.underlying24, lq22, lq68, lq9, opA_alloc 79 ty79]
              unfold fnV
              rw [callA_fn0 hpl]
              refine hdo w ws f hlw hlk G4 _ _ (E12.trans E24) hsl (by omega) fun G5 hfr hrd => ?_
              simp only [go_sem, reduceCtorEq, Nat.reduceEqDiff, Nat.reduceAdd, withc_some, withcs_some, cells_0, cells_s, Option.bind_some, Option.map_some, List.getElem?_toArray, List.getElem?_cons_zero, List.getElem?_cons_succ, Nat.add_zero, Nat.zero_add, Value.cells, splice, List.setIfInBounds_toArray, List.set_cons_zero, List.set_cons_succ, bfill_nil, bfill_cons, bstep_some, withO_some, List.take_zero, List.take_succ_cons, List.drop_zero, List.drop_succ_cons, List.cons_append, List.nil_append, List.append_nil, List.length_cons, List.length_nil, Nat.reduceLeDiff, Nat.le_refl, and_true, true_and, and_self, decide_true, decide_false, Bool.not_true, Bool.not_false, bl79, callA_fn0 pl10, callA_fn0 pl12, callA_fn0 pl23, callA_fn0 pl91, callQ_fn0 pl12, fa73_1, fa77_0, fa82_0, fq73_1, fq77_0, fq82_0, ld22, ld68, ld82, ld9, len_slice Tryd.underlying24, lq22, lq68, lq9, opA_alloc 79 ty79]
              have h75 := cells_frJ hfr (E24.get h7) (by decide) (by decide)
              refine store_kA h75 ty79 (k := fun G6 h8 k4 s4 => ?_)
              simp only [go_sem, reduceCtorEq, Nat.reduceEqDiff, Nat.reduceAdd, withc_some, withcs_some, cells_0, cells_s, Option.bind_some, Option.map_some, List.getElem?_toArray, List.getElem?_cons_zero, List.getElem?_cons_succ, Nat.add_zero, Nat.zero_add, Value.cells, splice, List.setIfInBounds_toArray, List.set_cons_zero, List.set_cons_succ, bfill_nil, bfill_cons, bstep_some, withO_some, List.take_zero, List.take_succ_cons, List.drop_zero, List.drop_succ_cons, List.cons_append, List.nil_append, List.append_nil, List.length_cons, List.length_nil, Nat.reduceLeDiff, Nat.le_refl, and_true, true_and, and_self, decide_true, decide_false, Bool.not_true, Bool.not_false, resW_cell, bl79, callA_fn0 pl10, callA_fn0 pl12, callA_fn0 pl23, callA_fn0 pl91, callQ_fn0 pl12, fa73_1, fa77_0, fa82_0, fq73_1, fq77_0, fq82_0, ld22, ld68, ld82, ld9, len_slice Tryd.underlying24, lq22, lq68, lq9, opA_alloc 79 ty79]
              rw [rc79 (l := [.int .i64 (hf (w :: ws)).2.line, .int .i64 (hf (w :: ws)).2.code]) (by simp only [go_sem, reduceCtorEq, Nat.reduceEqDiff, Nat.reduceAdd, withc_some, withcs_some, cells_0, cells_s, Option.bind_some, Option.map_some, List.getElem?_toArray, List.getElem?_cons_zero, List.getElem?_cons_succ, Nat.add_zero, Nat.zero_add, Value.cells, splice, List.setIfInBounds_toArray, List.set_cons_zero, List.set_cons_succ, bfill_nil, bfill_cons, bstep_some, withO_some, List.take_zero, List.take_succ_cons, List.drop_zero, List.drop_succ_cons, List.cons_append, List.nil_append, List.append_nil, List.length_cons, List.length_nil, Nat.reduceLeDiff, Nat.le_refl, and_true, true_and, and_self, decide_true, decide_false, Bool.not_true, Bool.not_false, cell_of_blk h8, bl79, callA_fn0 pl10, callA_fn0 pl12, callA_fn0 pl23, callA_fn0 pl91, callQ_fn0 pl12, fa73_1, fa77_0, fa82_0, fq73_1, fq77_0, fq82_0, ld22, ld68, ld82, ld9, len_slice Tryd.underlying24, lq22, lq68, lq9, opA_alloc 79 ty79])]
              obtain ⟨f1, f2⟩ := hdone G5 G6 _ ((E12.trans E24).ko.trans hfr) hrd ⟨_, h75⟩ k4
              exact h G6 f1 f2
      · rw [if_neg he0] at hlw
        have e3 : decide ((replR (s.syms.lookup ·) t).2 = 0) = false := by simpa using he0
        simp only [go_sem, reduceCtorEq, Nat.reduceEqDiff, Nat.reduceAdd, withc_some, withcs_some, cells_0, cells_s, Option.bind_some, Option.map_some, List.getElem?_toArray, List.getElem?_cons_zero, List.getElem?_cons_succ, Nat.add_zero, Nat.zero_add, Value.cells, splice, List.setIfInBounds_toArray, List.set_cons_zero, List.set_cons_succ, bfill_nil, bfill_cons, bstep_some, withO_some, List.take_zero, List.take_succ_cons, List.drop_zero, List.drop_succ_cons, List.cons_append, List.nil_append, List.append_nil, List.length_cons, List.length_nil, Nat.reduceLeDiff, Nat.le_refl, and_true, true_and, and_self, decide_true, decide_false, Bool.not_true, Bool.not_false, e3, c63_3, bl79, callA_fn0 pl10, callA_fn0 pl12, callA_fn0 pl23, callA_fn0 pl91, callQ_fn0 pl12, fa73_1, fa77_0, fa82_0, fq73_1, fq77_0, fq82_0, ld22, ld68, ld82, ld9, len_slice Tryd.underlying24, lq22, lq68, lq9, opA_alloc 79 ty79]
        exact hfinE2 G3 _ _ _ _ hlw E3 (fun F G => by simp only [seqQ_ret])
end Go.Proofs.YtoabcmhiaknjiaaDoor

/- Contracts of jobtext: read. -/
set_option maxRecDepth 100000
set_option linter.unusedSimpArgs false
set_option linter.unusedVariables false
namespace Go.Proofs.YtoabcmhiaknjiaaDoor
open Go.Hw

set_option maxHeartbeats 2000000 in
theorem read_c {B0 R ms mp : Nat} {rv : Value} {call : List UInt8} {inn : Bool} {rows : List Row} {s : RS} {H : Hp} {K : Ending → Hp → Prop} (LF : RS → Row → List Row → RS × HR) (Iv : RS → Prop) (Rw : List Row → Prop)
    (hR : Rdr B0 R ms mp H s) (hB0 : 0 < B0) (hBH : B0 ≤ H.size) (g : G0 H) (hr : RowsV H rv rows) (hIv : Iv s) (hRw : Rw rows) (hrl : rows.length ≤ 1000000)
    (hstep : ∀ s x rest, Iv s → Rw (x :: rest) → (LF s x rest).2.code = 0 → Iv (LF s x rest).1 ∧ (LF s x rest).2.n ≤ rest.length ∧ Rw (rest.drop (LF s x rest).2.n))
    (hline : ∀ (s : RS) (G : Hp) (rv : Value) (k : Nat) (t : List UInt8) (rest : List Row) (kn : Nat) (K2 : Ending → Hp → Prop), Iv s → Rw ((k, t) :: rest) → B0 ≤ G.size → G0 G → Rdr B0 R ms mp G s → MapC G kn hndL → RowsV G rv ((k, t) :: rest) → (rest.length ≤ 1000000) →
      (∀ G', FrJ B0 (MM ms mp) G G' → Rdr B0 R ms mp G' (LF s (k, t) rest).1 → K2 (.returned (.tuple #[.int .i64 (LF s (k, t) rest).2.n, .agg #[.int .i64 (LF s (k, t) rest).2.line, .int .i64 (LF s (k, t) rest).2.code]])) G') →
      HCall Tryd.prog 63 #[.pointer (some ⟨R, 0, none⟩), .map (some kn), .agg #[rv, .string (B call), .bool inn]] G K2)
    (h : ∀ G, FrJ B0 (MM ms mp) H G → Rdr B0 R ms mp G (readT LF rows.length s rows).1 → K (.returned (.agg #[.int .i64 (readT LF rows.length s rows).2.1, .int .i64 (readT LF rows.length s rows).2.2])) G) :
    HCall Tryd.prog 39 #[.pointer (some ⟨R, 0, none⟩), .agg #[rv, .string (B call), .bool inn]] H K := by
  refine hcall mixed B39 (args := [.pointer (some ⟨R, 0, none⟩), .agg #[rv, .string (B call), .bool inn]]) (by simp) ?_
  obtain ⟨ra, rc, rfl⟩ := SlE.form hr
  simp only [go_sem, reduceCtorEq, Nat.reduceEqDiff, Nat.reduceAdd, withc_some, withcs_some, cells_0, cells_s, Option.bind_some, Option.map_some, List.getElem?_toArray, List.getElem?_cons_zero, List.getElem?_cons_succ, Nat.add_zero, Nat.zero_add, Value.cells, splice, List.setIfInBounds_toArray, List.set_cons_zero, List.set_cons_succ, bfill_nil, bfill_cons, bstep_some, withO_some, List.take_zero, List.take_succ_cons, List.drop_zero, List.drop_succ_cons, List.cons_append, List.nil_append, List.append_nil, List.length_cons, List.length_nil, Nat.reduceLeDiff, Nat.le_refl, and_true, true_and, and_self, decide_true, decide_false, Bool.not_true, Bool.not_false, c39, r39_0, opA_alloc 79 ty79]
  refine box_kA fun b3 G1 e3 s1 h3 E1 => ?_
  simp only [go_sem, reduceCtorEq, Nat.reduceEqDiff, Nat.reduceAdd, withc_some, withcs_some, cells_0, cells_s, Option.bind_some, Option.map_some, List.getElem?_toArray, List.getElem?_cons_zero, List.getElem?_cons_succ, Nat.add_zero, Nat.zero_add, Value.cells, splice, List.setIfInBounds_toArray, List.set_cons_zero, List.set_cons_succ, bfill_nil, bfill_cons, bstep_some, withO_some, List.take_zero, List.take_succ_cons, List.drop_zero, List.drop_succ_cons, List.cons_append, List.nil_append, List.append_nil, List.length_cons, List.length_nil, Nat.reduceLeDiff, Nat.le_refl, and_true, true_and, and_self, decide_true, decide_false, Bool.not_true, Bool.not_false, opA_alloc 79 ty79]
  refine box_kA fun b4 G2 e4 s2 h4 E2 => ?_
  have E12 := E1.trans E2
  simp only [go_sem, reduceCtorEq, Nat.reduceEqDiff, Nat.reduceAdd, withc_some, withcs_some, cells_0, cells_s, Option.bind_some, Option.map_some, List.getElem?_toArray, List.getElem?_cons_zero, List.getElem?_cons_succ, Nat.add_zero, Nat.zero_add, Value.cells, splice, List.setIfInBounds_toArray, List.set_cons_zero, List.set_cons_succ, bfill_nil, bfill_cons, bstep_some, withO_some, List.take_zero, List.take_succ_cons, List.drop_zero, List.drop_succ_cons, List.cons_append, List.nil_append, List.append_nil, List.length_cons, List.length_nil, Nat.reduceLeDiff, Nat.le_refl, and_true, true_and, and_self, decide_true, decide_false, Bool.not_true, Bool.not_false, c39_11, r39_1, callA_fn0 pl62, opA_alloc 79 ty79]
  refine handlers_c fun kn G3 hkn E3 hm => ?_
  have E13 := E12.trans E3
  simp only [go_sem, reduceCtorEq, Nat.reduceEqDiff, Nat.reduceAdd, withc_some, withcs_some, cells_0, cells_s, Option.bind_some, Option.map_some, List.getElem?_toArray, List.getElem?_cons_zero, List.getElem?_cons_succ, Nat.add_zero, Nat.zero_add, Value.cells, splice, List.setIfInBounds_toArray, List.set_cons_zero, List.set_cons_succ, bfill_nil, bfill_cons, bstep_some, withO_some, List.take_zero, List.take_succ_cons, List.drop_zero, List.drop_succ_cons, List.cons_append, List.nil_append, List.append_nil, List.length_cons, List.length_nil, Nat.reduceLeDiff, Nat.le_refl, and_true, true_and, and_self, decide_true, decide_false, Bool.not_true, Bool.not_false, c39_10, callA_fn0 pl62, opA_alloc 79 ty79]
  have hms : ms < H.size := by obtain ⟨es, kk, q, _⟩ := hR.syms; exact get_lt q
  have hmp : mp < H.size := by obtain ⟨l, ⟨es, kk, q, _⟩, _⟩ := hR.procs; exact get_lt q
  refine aw_while (L := c39_8) rfl (fun m F G => ∃ (n : Nat) (s' : RS) (rows' : List Row) (rv' : Value), m = rows'.length ∧ F = [(0, .pointer (some ⟨R, 0, none⟩)), (3, .pointer (some ⟨b3, 0, none⟩)), (4, .pointer (some ⟨b4, 0, none⟩)), (5, .map (some kn))] ∧
      FrJ B0 (MM ms mp) H G ∧ G[b3]? = some (.cells #[rv', .string (B call), .bool inn] 82 (0, 0)) ∧ G[b4]? = some (.cells #[.int .i64 0, .int .i64 0] 79 (0, 0)) ∧ Rdr B0 R ms mp G s' ∧ MapC G kn hndL ∧ RowsV G rv' rows' ∧ G0 G ∧ Iv s' ∧ Rw rows' ∧ rows'.length ≤ n ∧ rows'.length ≤ 1000000 ∧ readT LF rows.length s rows = readT LF n s' rows') (m := rows.length)
    ⟨rows.length, s, rows, _, rfl, rfl, E13.ko, E3.get (E2.get h3), E3.get h4, hR.ext E13, hm, hr.ext E13, g.ext E13, hIv, hRw, Nat.le_refl _, hrl, rfl⟩ ?_
  rintro m F G ih ⟨n, s', rows', rv', rfl, rfl, hfr, g3, g4, hrd, hmk, hrv, hg, hiv, hrw, hn, hl, hq⟩
  obtain ⟨a', c', rfl⟩ := SlE.form hrv
  match rows', hrv, hrw, hn, hl, hq with
  | [], hrv, hrw, hn, hl, hq =>
    have e1 : decide ((0 : Int) < ((0 : Nat) : Int)) = false := by decide
    simp only [go_sem, reduceCtorEq, Nat.reduceEqDiff, Nat.reduceAdd, withc_some, withcs_some, cells_0, cells_s, Option.bind_some, Option.map_some, List.getElem?_toArray, List.getElem?_cons_zero, List.getElem?_cons_succ, Nat.add_zero, Nat.zero_add, Value.cells, splice, List.setIfInBounds_toArray, List.set_cons_zero, List.set_cons_succ, bfill_nil, bfill_cons, bstep_some, withO_some, List.take_zero, List.take_succ_cons, List.drop_zero, List.drop_succ_cons, List.cons_append, List.nil_append, List.append_nil, List.length_cons, List.length_nil, Nat.reduceLeDiff, Nat.le_refl, and_true, true_and, and_self, decide_true, decide_false, Bool.not_true, Bool.not_false, c39_7, c39_6, r39_2, cell_of_blk g3, List.length_nil, e1, c39_0, c39_9, r39_7, bl79, callA_fn0 pl62, fa82_0, ld68, len_slice Tryd.underlying68, opA_alloc 79 ty79]
    refine store_kA g4 ty79 (k := fun G4 h5 k5 s5 => ?_)
    simp only [go_sem, reduceCtorEq, Nat.reduceEqDiff, Nat.reduceAdd, withc_some, withcs_some, cells_0, cells_s, Option.bind_some, Option.map_some, List.getElem?_toArray, List.getElem?_cons_zero, List.getElem?_cons_succ, Nat.add_zero, Nat.zero_add, Value.cells, splice, List.setIfInBounds_toArray, List.set_cons_zero, List.set_cons_succ, bfill_nil, bfill_cons, bstep_some, withO_some, List.take_zero, List.take_succ_cons, List.drop_zero, List.drop_succ_cons, List.cons_append, List.nil_append, List.append_nil, List.length_cons, List.length_nil, Nat.reduceLeDiff, Nat.le_refl, and_true, true_and, and_self, decide_true, decide_false, Bool.not_true, Bool.not_false, resW_cell, bl79, callA_fn0 pl62, fa82_0, ld68, len_slice Tryd.underlying68, opA_alloc 79 ty79]
    rw [rc79 (l := [.int .i64 0, .int .i64 0]) (by simp only [go_sem, reduceCtorEq, Nat.reduceEqDiff, Nat.reduceAdd, withc_some, withcs_some, cells_0, cells_s, Option.bind_some, Option.map_some, List.getElem?_toArray, List.getElem?_cons_zero, List.getElem?_cons_succ, Nat.add_zero, Nat.zero_add, Value.cells, splice, List.setIfInBounds_toArray, List.set_cons_zero, List.set_cons_succ, bfill_nil, bfill_cons, bstep_some, withO_some, List.take_zero, List.take_succ_cons, List.drop_zero, List.drop_succ_cons, List.cons_append, List.nil_append, List.append_nil, List.length_cons, List.length_nil, Nat.reduceLeDiff, Nat.le_refl, and_true, true_and, and_self, decide_true, decide_false, Bool.not_true, Bool.not_false, cell_of_blk h5, bl79, callA_fn0 pl62, fa82_0, ld68, len_slice Tryd.underlying68, opA_alloc 79 ty79])]
    have hq' : readT LF rows.length s rows = (s', 0, 0) := by rw [hq]; cases n <;> rfl
    rw [hq'] at h
    exact h G4 (hfr.new k5 (by omega)) (hrd.kk (keepK_of g4 k5))
  | (k, t) :: rest, hrv, hrw, hn, hl, hq =>
    have e1 : decide ((0 : Int) < ((rest.length + 1 : Nat) : Int)) = true := by rw [decide_eq_true_eq]; omega
    simp only [List.length_cons] at hn hl
    simp only [go_sem, reduceCtorEq, Nat.reduceEqDiff, Nat.reduceAdd, withc_some, withcs_some, cells_0, cells_s, Option.bind_some, Option.map_some, List.getElem?_toArray, List.getElem?_cons_zero, List.getElem?_cons_succ, Nat.add_zero, Nat.zero_add, Value.cells, splice, List.setIfInBounds_toArray, List.set_cons_zero, List.set_cons_succ, bfill_nil, bfill_cons, bstep_some, withO_some, List.take_zero, List.take_succ_cons, List.drop_zero, List.drop_succ_cons, List.cons_append, List.nil_append, List.append_nil, List.length_cons, List.length_nil, Nat.reduceLeDiff, Nat.le_refl, and_true, true_and, and_self, decide_true, decide_false, Bool.not_true, Bool.not_false, c39_7, c39_6, r39_2, cell_of_blk g3, e1, c39_0, c39_5, c39_4, r39_3, bl79, callA_fn0 pl62, callA_fn0 pl63, fa82_0, ld68, ld82, len_slice Tryd.underlying68, opA_alloc 79 ty79]
    have hBG : B0 ≤ G.size := Nat.le_trans hBH hfr.size
    refine hline s' G _ k t rest kn _ hiv hrw hBG hg hrd hmk (by simpa using hrv) (by omega) fun G4 f4 hrd4 => ?_
    have g34 := cells_frJ f4 g3 (by decide) (by decide)
    have g44 := cells_frJ f4 g4 (by decide) (by decide)
    have hfr4 := hfr.trans f4
    simp only [go_sem, reduceCtorEq, Nat.reduceEqDiff, Nat.reduceAdd, withc_some, withcs_some, cells_0, cells_s, Option.bind_some, Option.map_some, List.getElem?_toArray, List.getElem?_cons_zero, List.getElem?_cons_succ, Nat.add_zero, Nat.zero_add, Value.cells, splice, List.setIfInBounds_toArray, List.set_cons_zero, List.set_cons_succ, bfill_nil, bfill_cons, bstep_some, withO_some, List.take_zero, List.take_succ_cons, List.drop_zero, List.drop_succ_cons, List.cons_append, List.nil_append, List.append_nil, List.length_cons, List.length_nil, Nat.reduceLeDiff, Nat.le_refl, and_true, true_and, and_self, decide_true, decide_false, Bool.not_true, Bool.not_false, bl79, callA_fn0 pl62, callA_fn0 pl63, fa82_0, ld68, ld82, len_slice Tryd.underlying68, opA_alloc 79 ty79]
    refine box_kA fun b7 G5 e7 s5 h7 E5 => ?_
    simp only [go_sem, reduceCtorEq, Nat.reduceEqDiff, Nat.reduceAdd, withc_some, withcs_some, cells_0, cells_s, Option.bind_some, Option.map_some, List.getElem?_toArray, List.getElem?_cons_zero, List.getElem?_cons_succ, Nat.add_zero, Nat.zero_add, Value.cells, splice, List.setIfInBounds_toArray, List.set_cons_zero, List.set_cons_succ, bfill_nil, bfill_cons, bstep_some, withO_some, List.take_zero, List.take_succ_cons, List.drop_zero, List.drop_succ_cons, List.cons_append, List.nil_append, List.append_nil, List.length_cons, List.length_nil, Nat.reduceLeDiff, Nat.le_refl, and_true, true_and, and_self, decide_true, decide_false, Bool.not_true, Bool.not_false, bl79, callA_fn0 pl62, callA_fn0 pl63, fa82_0, ld68, ld82, len_slice Tryd.underlying68, opA_alloc 79 ty79]
    refine store_kA h7 ty79 (k := fun G6 h8 k6 s6 => ?_)
    have h8' : G6[b7]? = some (.cells #[.int .i64 (LF s' (k, t) rest).2.line, .int .i64 (LF s' (k, t) rest).2.code] 79 (0, 0)) := h8
    have E46 : Ext G4 G6 := k6.two E5 (by omega)
    have hfr6 : FrJ B0 (MM ms mp) H G6 := hfr4.trans E46.ko
    by_cases hc0 : (LF s' (k, t) rest).2.code = 0
    · have e2 : decide ((LF s' (k, t) rest).2.code = 0) = true := by simpa using hc0
      obtain ⟨hv1, hv2, hv3⟩ := hstep s' (k, t) rest hiv hrw hc0
      obtain ⟨hrn, hrc, htl⟩ := hrv.tail
      have hdrop : RowsV G6 (.slice (subAddr a' 2 ((LF s' (k, t) rest).2.n + 1) c') (rest.length + 1 - ((LF s' (k, t) rest).2.n + 1)) (c' - ((LF s' (k, t) rest).2.n + 1))) (rest.drop (LF s' (k, t) rest).2.n) := by
        have h1 := SlE.drop (hrv.frJ f4 |>.ext E46) (lo := (LF s' (k, t) rest).2.n + 1) (by simp; omega)
        unfold RowsV
        have e : ∀ (m : Nat) (l : List Row), (rowsC l).drop (m * 2) = rowsC (l.drop m) := by
          intro m
          induction m with
          | zero => intro l; simp
          | succ m ih =>
            intro l
            cases l with
            | nil => simp [rowsC]
            | cons x r => rw [rowsC_cons, Nat.succ_mul, Nat.add_comm, ← List.drop_drop]; simpa [rowC] using ih r
        rw [e] at h1
        simpa using h1
      simp only [go_sem, reduceCtorEq, Nat.reduceEqDiff, Nat.reduceAdd, withc_some, withcs_some, cells_0, cells_s, Option.bind_some, Option.map_some, List.getElem?_toArray, List.getElem?_cons_zero, List.getElem?_cons_succ, Nat.add_zero, Nat.zero_add, Value.cells, splice, List.setIfInBounds_toArray, List.set_cons_zero, List.set_cons_succ, bfill_nil, bfill_cons, bstep_some, withO_some, List.take_zero, List.take_succ_cons, List.drop_zero, List.drop_succ_cons, List.cons_append, List.nil_append, List.append_nil, List.length_cons, List.length_nil, Nat.reduceLeDiff, Nat.le_refl, and_true, true_and, and_self, decide_true, decide_false, Bool.not_true, Bool.not_false, c39_3, r39_4, cell_of_blk h8', e2, c39_2, r39_6, cell_of_blk (E46.get g34), wrap_one (show (LF s' (k, t) rest).2.n + 1 ≤ 9223372036854775807 by omega), bl79, callA_fn0 pl62, callA_fn0 pl63, fa79_1, fa82_0, ld25, ld68, ld82, len_slice Tryd.underlying68, opA_alloc 79 ty79]
      rw [sliA_slice uRows ty73 (.nat _ _ ((LF s' (k, t) rest).2.n + 1)) (.no _) (by omega) (by simp only [List.length_cons] at hrc; omega)]
      simp only [go_sem, reduceCtorEq, Nat.reduceEqDiff, Nat.reduceAdd, withc_some, withcs_some, cells_0, cells_s, Option.bind_some, Option.map_some, List.getElem?_toArray, List.getElem?_cons_zero, List.getElem?_cons_succ, Nat.add_zero, Nat.zero_add, Value.cells, splice, List.setIfInBounds_toArray, List.set_cons_zero, List.set_cons_succ, bfill_nil, bfill_cons, bstep_some, withO_some, List.take_zero, List.take_succ_cons, List.drop_zero, List.drop_succ_cons, List.cons_append, List.nil_append, List.append_nil, List.length_cons, List.length_nil, Nat.reduceLeDiff, Nat.le_refl, and_true, true_and, and_self, decide_true, decide_false, Bool.not_true, Bool.not_false, bl79, callA_fn0 pl62, callA_fn0 pl63, fa79_1, fa82_0, ld25, ld68, ld82, len_slice Tryd.underlying68, opA_alloc 79 ty79]
      refine store_k1 (E46.get g34) ty68 (k := fun G7 h9 k7 s7 => ?_)
      have hg7 : G0 G7 := by
        obtain ⟨m, hm⟩ := (G0.frJ hg f4 hB0).ext E46
        exact ⟨m, cell_keep k7 hm (by show ¬ (0 = b3); omega)⟩
      have hkm : MapC G7 kn hndL := by
        have hkn1 : MapC G4 kn hndL := MapC.ko hmk f4 (fun es kk hmut => by
          rcases hmut.2 with ⟨_, _, hh | hh⟩ | ⟨hh, _⟩
          · cases hh
          · cases hh
          · rcases hh with hh | hh <;> (have := E12.size; omega))
        exact MapC.kk (hkn1.ext E46) (keepK_of (E46.get g34) k7)
      match n, hn, hq with
      | n + 1, hn, hq =>
        have hq2 : readT LF rows.length s rows = readT LF n (LF s' (k, t) rest).1 (rest.drop (LF s' (k, t) rest).2.n) := by
          rw [hq]; show (if _ then _ else _) = _; rw [if_pos hc0]
        exact ih _ _ _ (by simp; omega) ⟨n, (LF s' (k, t) rest).1, rest.drop (LF s' (k, t) rest).2.n, _, rfl, rfl, hfr6.new k7 (by omega), h9, k7.get (E46.get g44) (by intro e; subst e; rw [g44] at g34; cases g34),
          (hrd4.ext E46).kkE (keepK_of (E46.get g34) k7) (by decide) (by decide) (by decide) (by decide), hkm, sl_kk hdrop (keepK_of (E46.get g34) k7) (by decide), hg7, hv1, hv3, by simp; omega, by simp; omega, hq2⟩
    · have e2 : decide ((LF s' (k, t) rest).2.code = 0) = false := by simpa using hc0
      simp only [go_sem, reduceCtorEq, Nat.reduceEqDiff, Nat.reduceAdd, withc_some, withcs_some, cells_0, cells_s, Option.bind_some, Option.map_some, List.getElem?_toArray, List.getElem?_cons_zero, List.getElem?_cons_succ, Nat.add_zero, Nat.zero_add, Value.cells, splice, List.setIfInBounds_toArray, List.set_cons_zero, List.set_cons_succ, bfill_nil, bfill_cons, bstep_some, withO_some, List.take_zero, List.take_succ_cons, List.drop_zero, List.drop_succ_cons, List.cons_append, List.nil_append, List.append_nil, List.length_cons, List.length_nil, Nat.reduceLeDiff, Nat.le_refl, and_true, true_and, and_self, decide_true, decide_false, Bool.not_true, Bool.not_false, c39_3, r39_4, cell_of_blk h8', e2, c39_2, c39_1, r39_5, bl79, callA_fn0 pl62, callA_fn0 pl63, fa79_1, fa82_0, ld25, ld68, ld79, ld82, len_slice Tryd.underlying68, opA_alloc 79 ty79]
      refine store_kA (E46.get g44) ty79 (k := fun G7 h9 k7 s7 => ?_)
      simp only [go_sem, reduceCtorEq, Nat.reduceEqDiff, Nat.reduceAdd, withc_some, withcs_some, cells_0, cells_s, Option.bind_some, Option.map_some, List.getElem?_toArray, List.getElem?_cons_zero, List.getElem?_cons_succ, Nat.add_zero, Nat.zero_add, Value.cells, splice, List.setIfInBounds_toArray, List.set_cons_zero, List.set_cons_succ, bfill_nil, bfill_cons, bstep_some, withO_some, List.take_zero, List.take_succ_cons, List.drop_zero, List.drop_succ_cons, List.cons_append, List.nil_append, List.append_nil, List.length_cons, List.length_nil, Nat.reduceLeDiff, Nat.le_refl, and_true, true_and, and_self, decide_true, decide_false, Bool.not_true, Bool.not_false, resW_cell, bl79, callA_fn0 pl62, callA_fn0 pl63, fa79_1, fa82_0, ld25, ld68, ld79, ld82, len_slice Tryd.underlying68, opA_alloc 79 ty79]
      rw [rc79 (l := [.int .i64 (LF s' (k, t) rest).2.line, .int .i64 (LF s' (k, t) rest).2.code]) (by simp only [go_sem, reduceCtorEq, Nat.reduceEqDiff, Nat.reduceAdd, withc_some, withcs_some, cells_0, cells_s, Option.bind_some, Option.map_some, List.getElem?_toArray, List.getElem?_cons_zero, List.getElem?_cons_succ, Nat.add_zero, Nat.zero_add, Value.cells, splice, List.setIfInBounds_toArray, List.set_cons_zero, List.set_cons_succ, bfill_nil, bfill_cons, bstep_some, withO_some, List.take_zero, List.take_succ_cons, List.drop_zero, List.drop_succ_cons, List.cons_append, List.nil_append, List.append_nil, List.length_cons, List.length_nil, Nat.reduceLeDiff, Nat.le_refl, and_true, true_and, and_self, decide_true, decide_false, Bool.not_true, Bool.not_false, cell_of_blk h9, bl79, callA_fn0 pl62, callA_fn0 pl63, fa79_1, fa82_0, ld25, ld68, ld79, ld82, len_slice Tryd.underlying68, opA_alloc 79 ty79])]
      have hq' : readT LF rows.length s rows = ((LF s' (k, t) rest).1, (LF s' (k, t) rest).2.line, (LF s' (k, t) rest).2.code) := by
        rw [hq]
        match n, hn with
        | n + 1, _ => show (if _ then _ else _) = _; rw [if_neg hc0]
      rw [hq'] at h
      exact h G7 (hfr6.new k7 (by omega)) ((hrd4.ext E46).kk (keepK_of (E46.get g44) k7))
end Go.Proofs.YtoabcmhiaknjiaaDoor

/- Contracts of jobtext: Expand. -/
set_option maxRecDepth 100000
set_option linter.unusedSimpArgs false
set_option linter.unusedVariables false
namespace Go.Proofs.YtoabcmhiaknjiaaDoor
open Go.Hw

theorem opA_makeFuncC {P : Program} {F : Fr} {d : Option Nat} {ty : TypeId} {g : Option (Nat × Bool)} {H : Hp} {K : Value → Hp → Prop} {X : List PanicEntry → Hp → Prop} {fn : Fn} {cap : Array Operand} :
    opA P ⟨d, .makeFunc fn #[] cap, ty, g⟩ F H K X = withvs F cap.toList fun vs => K (.func fn #[] vs.toArray) H := by
  refine opA_n (l := cap.toList) (by simp [Op.operands]) (f := fun vs => Sem.pure (.value (.func fn #[] vs.toArray))) fun ρ => ?_
  simp only [execOp, O.oper, Instr.makeFunc, lmap]
  have e : Array.map ρ (#[] : Array Operand) = #[] := by simp
  rw [e]
  rfl

theorem lines_c {t : List UInt8} {H : Hp} {K : Ending → Hp → Prop} (h : ∀ b G, H.size ≤ b → Ext H G → G[b]? = some (.cells #[.string (B t)] 9 (0, 0)) → K (.returned (.func (.func 60) #[] #[.pointer (some ⟨b, 0, none⟩)])) G) : HCall Tryd.prog 37 #[.string (B t)] H K := by
  refine hcall mixed B37 (args := [.string (B t)]) (by simp) ?_
  simp only [go_sem, reduceCtorEq, Nat.reduceEqDiff, Nat.reduceAdd, withc_some, withcs_some, cells_0, cells_s, Option.bind_some, Option.map_some, List.getElem?_toArray, List.getElem?_cons_zero, List.getElem?_cons_succ, Nat.add_zero, Nat.zero_add, Value.cells, splice, List.setIfInBounds_toArray, List.set_cons_zero, List.set_cons_succ, bfill_nil, bfill_cons, bstep_some, withO_some, List.take_zero, List.take_succ_cons, List.drop_zero, List.drop_succ_cons, List.cons_append, List.nil_append, List.append_nil, List.length_cons, List.length_nil, Nat.reduceLeDiff, Nat.le_refl, and_true, true_and, and_self, decide_true, decide_false, Bool.not_true, Bool.not_false, c37, r37_0]
  refine box_k1 (k := fun b G1 e1 s1 h1 E1 => ?_)
  simp only [go_sem, reduceCtorEq, Nat.reduceEqDiff, Nat.reduceAdd, withc_some, withcs_some, cells_0, cells_s, Option.bind_some, Option.map_some, List.getElem?_toArray, List.getElem?_cons_zero, List.getElem?_cons_succ, Nat.add_zero, Nat.zero_add, Value.cells, splice, List.setIfInBounds_toArray, List.set_cons_zero, List.set_cons_succ, bfill_nil, bfill_cons, bstep_some, withO_some, List.take_zero, List.take_succ_cons, List.drop_zero, List.drop_succ_cons, List.cons_append, List.nil_append, List.append_nil, List.length_cons, List.length_nil, Nat.reduceLeDiff, Nat.le_refl, and_true, true_and, and_self, decide_true, decide_false, Bool.not_true, Bool.not_false, c37_0, r37_1, opA_makeFuncC]
  exact h b G1 (by omega) E1 h1


theorem rowsC_snoc (pre : List (List UInt8)) (t : List UInt8) : rowsC (rowsFrom 0 (pre ++ [t])) = rowsC (rowsFrom 0 pre) ++ [.int .i64 ((pre.length + 1 : Nat) : Int), .string (B t)] := by
  rw [rowsFrom_append, rowsC_append]
  simp [rowsFrom, rowsC, rowC]

theorem dropWhile_hd {p : UInt8 → Bool} : ∀ {l : List UInt8} {x : UInt8} {r : List UInt8}, l.dropWhile p = x :: r → p x = false
  | a :: l, x, r, h => by
    rw [List.dropWhile_cons] at h
    split at h
    · exact dropWhile_hd h
    · rename_i hn
      cases h; simpa using hn
theorem notMem_takeWhile {l : List UInt8} : (10 : UInt8) ∉ l.takeWhile notNl := by
  intro h
  have := List.all_takeWhile (p := notNl) (l := l)
  rw [List.all_eq_true] at this
  have := this _ h
  simp [notNl] at this
theorem trim_nl {t : List UInt8} : Lib.trimSuffix (lineHd t) [10] = t.takeWhile notNl := by
  unfold lineHd Lib.trimSuffix Lib.hasSuffix
  cases hd : t.dropWhile notNl with
  | nil =>
    simp only [List.take_nil, List.append_nil]
    rw [if_neg]
    intro h
    rw [List.isSuffixOf_iff_suffix] at h
    exact notMem_takeWhile (h.subset (by simp))
  | cons x r =>
    have := dropWhile_hd hd
    have hx : x = 10 := by simpa [notNl] using this
    subst hx
    rw [if_pos (by rw [List.isSuffixOf_iff_suffix]; exact ⟨_, rfl⟩)]
    simp
theorem linesT_len : ∀ (n : Nat) (l : List UInt8), (linesT n l).length ≤ n
  | 0, _ => Nat.le_refl _
  | n + 1, l => by
    simp only [linesT]
    split
    · simp
    · have := linesT_len n (lineTl l); simp; omega
theorem linesF_len (l : List UInt8) : (linesF l).length ≤ l.length := linesT_len _ _
theorem lineHd_len (t : List UInt8) : (lineHd t).length ≤ t.length := by
  have h := congrArg List.length (List.takeWhile_append_dropWhile (p := notNl) (l := t))
  rw [List.length_append] at h
  unfold lineHd
  rw [List.length_append, List.length_take]
  omega

/-- A slice of statements. -/
def StmsV (H : Hp) (v : Value) (l : List Stm) : Prop := ∃ cells, SlE 40 4 H v l.length cells ∧ stmC H l cells

theorem retS_ret {P : Program} {B : Nat} {rs : List ResultVar} {K : Ending → Hp → Prop} {F : Fr} {H : Hp} : retS P B rs K .ret F H = ∀ H', Shut B H H' → resW P F H' (fun vs => K (.returned (pack vs)) H') rs := (rfl)

theorem G0.pos {H : Hp} (g : G0 H) : 0 < H.size := by
  obtain ⟨m, hm⟩ := g
  unfold cellH at hm
  cases hb : H[0]? with
  | none => simp only [hb] at hm; cases hm
  | some o => exact get_lt hb
theorem shut_ext {H G G' : Hp} (e : Ext H G) (s : Shut H.size G G') : Ext H G' := ⟨by rw [s.1]; exact e.size, fun b hb => (s.2 b (.inl hb)).trans (e.blk b hb)⟩
theorem shut_get {B : Nat} {G G' : Hp} (s : Shut B G G') {b : Nat} {o : Obj} (h : G[b]? = some o) (ho : ∀ d, o ≠ .deferred d) : G'[b]? = some o := (s.2 b (.inr fun d e => ho d (by rw [h] at e; cases e; rfl))).trans h

set_option maxHeartbeats 4000000 in
theorem expand_c {t : List UInt8} {H : Hp} {K : Ending → Hp → Prop} (LF : RS → Row → List Row → RS × HR) (Iv : RS → Prop) (Rw : List Row → Prop) (g : G0 H) (ht : t.length ≤ 1000000)
    (hIv : Iv ⟨[], [], []⟩) (hRw : Rw (rowsFrom 0 (linesF t)))
    (hstep : ∀ s x rest, Iv s → Rw (x :: rest) → (LF s x rest).2.code = 0 → Iv (LF s x rest).1 ∧ (LF s x rest).2.n ≤ rest.length ∧ Rw (rest.drop (LF s x rest).2.n))
    (hline : ∀ (B0 R ms mp : Nat) (s : RS) (G : Hp) (rv : Value) (k : Nat) (t : List UInt8) (rest : List Row) (kn : Nat) (K2 : Ending → Hp → Prop), 0 < B0 → Iv s → Rw ((k, t) :: rest) → B0 ≤ G.size → G0 G → Rdr B0 R ms mp G s → MapC G kn hndL → RowsV G rv ((k, t) :: rest) → (rest.length ≤ 1000000) →
      (∀ G', FrJ B0 (MM ms mp) G G' → Rdr B0 R ms mp G' (LF s (k, t) rest).1 → K2 (.returned (.tuple #[.int .i64 (LF s (k, t) rest).2.n, .agg #[.int .i64 (LF s (k, t) rest).2.line, .int .i64 (LF s (k, t) rest).2.code]])) G') →
      HCall Tryd.prog 63 #[.pointer (some ⟨R, 0, none⟩), .map (some kn), .agg #[rv, .string (B []), .bool false]] G K2)
    (h : ∀ G v, Ext H G → StmsV G v (expandF LF t).1 → (v = .slice none 0 0 ∨ (expandF LF t).2.2 = 0) → K (.returned (.tuple #[v, .int .i64 (expandF LF t).2.1, .int .i64 (expandF LF t).2.2])) G) :
    HCall Tryd.prog 19 #[.string (B t)] H K := by
  refine hcallR mixed B19 (args := [.string (B t)]) (by simp) ?_
  simp only [go_sem, reduceCtorEq, Nat.reduceEqDiff, Nat.reduceAdd, withc_some, withcs_some, cells_0, cells_s, Option.bind_some, Option.map_some, List.getElem?_toArray, List.getElem?_cons_zero, List.getElem?_cons_succ, Nat.add_zero, Nat.zero_add, Value.cells, splice, List.setIfInBounds_toArray, List.set_cons_zero, List.set_cons_succ, bfill_nil, bfill_cons, bstep_some, withO_some, List.take_zero, List.take_succ_cons, List.drop_zero, List.drop_succ_cons, List.cons_append, List.nil_append, List.append_nil, List.length_cons, List.length_nil, Nat.reduceLeDiff, Nat.le_refl, and_true, true_and, and_self, decide_true, decide_false, Bool.not_true, Bool.not_false, c19, r19_0, c19_13, r19_1, opA_alloc 68 ty68]
  refine box_k1 (k := fun b5 G1 e5 s1 h5 E1 => ?_)
  simp only [go_sem, reduceCtorEq, Nat.reduceEqDiff, Nat.reduceAdd, withc_some, withcs_some, cells_0, cells_s, Option.bind_some, Option.map_some, List.getElem?_toArray, List.getElem?_cons_zero, List.getElem?_cons_succ, Nat.add_zero, Nat.zero_add, Value.cells, splice, List.setIfInBounds_toArray, List.set_cons_zero, List.set_cons_succ, bfill_nil, bfill_cons, bstep_some, withO_some, List.take_zero, List.take_succ_cons, List.drop_zero, List.drop_succ_cons, List.cons_append, List.nil_append, List.append_nil, List.length_cons, List.length_nil, Nat.reduceLeDiff, Nat.le_refl, and_true, true_and, and_self, decide_true, decide_false, Bool.not_true, Bool.not_false, c19_12, r19_2, callA_fn0 pl37, opA_alloc 68 ty68]
  refine lines_c fun bs G2 hbs E2 h2 => ?_
  simp only [go_sem, reduceCtorEq, Nat.reduceEqDiff, Nat.reduceAdd, withc_some, withcs_some, cells_0, cells_s, Option.bind_some, Option.map_some, List.getElem?_toArray, List.getElem?_cons_zero, List.getElem?_cons_succ, Nat.add_zero, Nat.zero_add, Value.cells, splice, List.setIfInBounds_toArray, List.set_cons_zero, List.set_cons_succ, bfill_nil, bfill_cons, bstep_some, withO_some, List.take_zero, List.take_succ_cons, List.drop_zero, List.drop_succ_cons, List.cons_append, List.nil_append, List.append_nil, List.length_cons, List.length_nil, Nat.reduceLeDiff, Nat.le_refl, and_true, true_and, and_self, decide_true, decide_false, Bool.not_true, Bool.not_false, c19_2, callA_fn0 pl37, opA_alloc 68 ty68]
  have h52 := E2.get h5
  have E12 := E1.trans E2
  refine aw_rf (it := 60) (first := #[]) (cap := #[.pointer (some ⟨bs, 0, none⟩)]) rfl pl60 (by rfl) fun lp hlp hround => ?_
  have hps : lp.params.size = 1 := by have := congrArg List.length hlp.params; simpa using this
  have e0 : (#[] ++ #[Value.func (Fn.yield (G2.size + 1)) #[] #[]] ++ #[Value.pointer (some ⟨bs, 0, none⟩)] : Array Value) = #[.func (.yield (G2.size + 1)) #[] #[], .pointer (some ⟨bs, 0, none⟩)] := rfl
  rw [e0]
  generalize hl : G2.size + 1 = l at *
  have hH3l : ((G2.push (.deferred (some []))).push (.loop lp))[l]? = some (.loop lp) := by
    have e : l = (G2.push (.deferred (some []))).size := by rw [← hl, Array.size_push]
    rw [e, Array.getElem?_push_size]
  have E23 : Ext G2 ((G2.push (.deferred (some []))).push (.loop lp)) := (Ext.push _ _).trans (Ext.push _ _)
  generalize ((G2.push (.deferred (some []))).push (.loop lp)) = G3 at *
  have hb52 := get_lt h52
  have hbs2 := get_lt h2
  have hl5 : l ≠ b5 := by omega
  have hls : l ≠ bs := by omega
  have hne : bs ≠ b5 := by intro e; subst e; rw [h52] at h2; cases h2
  refine lines1_c (l := l) (b := bs) (lp := lp) hps (fun u G => ∃ (pre : List (List UInt8)) (v : Value), linesF t = pre ++ linesF u ∧ G[b5]? = some (.cells #[v] 68 (0, 0)) ∧ OwnS (H.size ≤ ·) 73 2 G v pre.length (rowsC (rowsFrom 0 pre)) ∧ G[bs]? = some (.cells #[.string (B u)] 9 (0, 0)) ∧ G[l]? = some (.loop lp) ∧ Ext H G ∧ pre.length ≤ t.length ∧ u.length ≤ t.length)
    (fun u G ⟨pre, v, q1, q2, q3, q4, q5, _⟩ => ⟨q4, q5, hls⟩) ?_ t G3 ⟨[], _, by simp, E23.get h52, OwnS.nil _ _ _ _, E23.get h2, hH3l, E12.trans E23, by simp, Nat.le_refl _⟩ (by omega) ?_
  · rintro u G Ga K2 hu ⟨pre, v, q1, q2, q3, q4, q5, q6, q7, q8⟩ k1 k2 hk
    obtain ⟨va, vc, rfl⟩ := q3.form
    have a5 := k2.get q2 (fun e => hne e.symm)
    have al := k2.get q5 hls
    have aown : OwnS (H.size ≤ ·) 73 2 Ga (.slice va pre.length vc) pre.length (rowsC (rowsFrom 0 pre)) := own_set_ne q3 q4 (by simp) k2
    have aE : Ext H Ga := k2.two q6 (by omega)
    have hpl : pre.length + 1 ≤ t.length + 1 := by omega
    refine hround [.string (B (lineHd u))] Ga K2 rfl al ?_
    simp only [go_sem, reduceCtorEq, Nat.reduceEqDiff, Nat.reduceAdd, withc_some, withcs_some, cells_0, cells_s, Option.bind_some, Option.map_some, List.getElem?_toArray, List.getElem?_cons_zero, List.getElem?_cons_succ, Nat.add_zero, Nat.zero_add, Value.cells, splice, List.setIfInBounds_toArray, List.set_cons_zero, List.set_cons_succ, bfill_nil, bfill_cons, bstep_some, withO_some, List.take_zero, List.take_succ_cons, List.drop_zero, List.drop_succ_cons, List.cons_append, List.nil_append, List.append_nil, List.length_cons, List.length_nil, Nat.reduceLeDiff, Nat.le_refl, and_true, true_and, and_self, decide_true, decide_false, Bool.not_true, Bool.not_false, bindF, r19_3, noE_normal, callA_fn0 pl37, opA_alloc 68 ty68]
    refine ⟨al, ?_⟩
    have hkl : Keep (· = l) Ga (Ga.setIfInBounds l (.loop { lp with state := .busy })) := ⟨by simp, fun b hb hn => by rw [Array.getElem?_setIfInBounds_ne (fun e => hn e.symm)]⟩
    have b5' := hkl.get a5 (fun e => hl5 e.symm)
    have bown := own_set_ne aown al (by simp) hkl
    have bs' := hkl.get k1 (fun e => hls e.symm)
    have bE : Ext H (Ga.setIfInBounds l (.loop { lp with state := .busy })) := hkl.two aE (by have := E12.size; omega)
    have bl : (Ga.setIfInBounds l (.loop { lp with state := .busy }))[l]? = some (.loop { lp with state := .busy }) := by
      have := get_lt al
      rw [Array.getElem?_setIfInBounds]; simp [this]
    generalize (Ga.setIfInBounds l (.loop { lp with state := .busy })) = Gb at *
    simp only [go_sem, reduceCtorEq, Nat.reduceEqDiff, Nat.reduceAdd, withc_some, withcs_some, cells_0, cells_s, Option.bind_some, Option.map_some, List.getElem?_toArray, List.getElem?_cons_zero, List.getElem?_cons_succ, Nat.add_zero, Nat.zero_add, Value.cells, splice, List.setIfInBounds_toArray, List.set_cons_zero, List.set_cons_succ, bfill_nil, bfill_cons, bstep_some, withO_some, List.take_zero, List.take_succ_cons, List.drop_zero, List.drop_succ_cons, List.cons_append, List.nil_append, List.append_nil, List.length_cons, List.length_nil, Nat.reduceLeDiff, Nat.le_refl, and_true, true_and, and_self, decide_true, decide_false, Bool.not_true, Bool.not_false, c19_0, r19_4, cell_of_blk b5', wrap_one (show pre.length + 1 ≤ 9223372036854775807 by omega), bl73, bq73, callA_fn0 pl37, callA_fn0 pl38, callQ_fn0 pl38, ld68, lenQ_slice Tryd.underlying68, len_slice Tryd.underlying68, lq68, opA_alloc 68 ty68]
    have hlu := lineHd_len u
    refine ⟨_, fun Gx eG => trimSuffix_c (lineHd u) [10] (by omega) ⟨rfl, rfl⟩, ?_⟩
    rw [trim_nl]
    simp only [go_sem, reduceCtorEq, Nat.reduceEqDiff, Nat.reduceAdd, withc_some, withcs_some, cells_0, cells_s, Option.bind_some, Option.map_some, List.getElem?_toArray, List.getElem?_cons_zero, List.getElem?_cons_succ, Nat.add_zero, Nat.zero_add, Value.cells, splice, List.setIfInBounds_toArray, List.set_cons_zero, List.set_cons_succ, bfill_nil, bfill_cons, bstep_some, withO_some, List.take_zero, List.take_succ_cons, List.drop_zero, List.drop_succ_cons, List.cons_append, List.nil_append, List.append_nil, List.length_cons, List.length_nil, Nat.reduceLeDiff, Nat.le_refl, and_true, true_and, and_self, decide_true, decide_false, Bool.not_true, Bool.not_false, bl73, bq73, callA_fn0 pl37, callA_fn0 pl38, callQ_fn0 pl38, ld68, lenQ_slice Tryd.underlying68, len_slice Tryd.underlying68, lq68, opA_alloc 68 ty68]
    rw [bslA_oneA uRows ty73 rfl rfl]
    simp only [go_sem, reduceCtorEq, Nat.reduceEqDiff, Nat.reduceAdd, withc_some, withcs_some, cells_0, cells_s, Option.bind_some, Option.map_some, List.getElem?_toArray, List.getElem?_cons_zero, List.getElem?_cons_succ, Nat.add_zero, Nat.zero_add, Value.cells, splice, List.setIfInBounds_toArray, List.set_cons_zero, List.set_cons_succ, bfill_nil, bfill_cons, bstep_some, withO_some, List.take_zero, List.take_succ_cons, List.drop_zero, List.drop_succ_cons, List.cons_append, List.nil_append, List.append_nil, List.length_cons, List.length_nil, Nat.reduceLeDiff, Nat.le_refl, and_true, true_and, and_self, decide_true, decide_false, Bool.not_true, Bool.not_false, bl73, bq73, callA_fn0 pl37, callA_fn0 pl38, callQ_fn0 pl38, ld68, lenQ_slice Tryd.underlying68, len_slice Tryd.underlying68, lq68, opA_alloc 68 ty68]
    refine ⟨Ext.push _ _, ?_⟩
    refine append_lit (ok := (H.size ≤ ·)) (m := 1) bown uRows ty73 rfl rfl (by intro u hu; simp at hu; rcases hu with rfl | rfl <;> rfl) (fun b hb => by have := bE.size; omega) (by omega) (by omega) fun v' G5 own5 k5 f5 => ?_
    have n5 := own_ne bown b5' (by simp)
    have ns := own_ne bown bs' (by simp)
    have nl := own_ne bown bl (by simp)
    obtain ⟨va', vc', rfl⟩ := own5.form
    simp only [go_sem, reduceCtorEq, Nat.reduceEqDiff, Nat.reduceAdd, withc_some, withcs_some, cells_0, cells_s, Option.bind_some, Option.map_some, List.getElem?_toArray, List.getElem?_cons_zero, List.getElem?_cons_succ, Nat.add_zero, Nat.zero_add, Value.cells, splice, List.setIfInBounds_toArray, List.set_cons_zero, List.set_cons_succ, bfill_nil, bfill_cons, bstep_some, withO_some, List.take_zero, List.take_succ_cons, List.drop_zero, List.drop_succ_cons, List.cons_append, List.nil_append, List.append_nil, List.length_cons, List.length_nil, Nat.reduceLeDiff, Nat.le_refl, and_true, true_and, and_self, decide_true, decide_false, Bool.not_true, Bool.not_false, bl73, bq73, callA_fn0 pl37, callA_fn0 pl38, callQ_fn0 pl38, ld68, lenQ_slice Tryd.underlying68, len_slice Tryd.underlying68, lq68, opA_alloc 68 ty68]
    refine store_k1 (k5.get b5' n5) ty68 (k := fun G6 h6 k6 s6 => ?_)
    have hl6 := k6.get (k5.get bl nl) hl5
    simp only [go_sem, reduceCtorEq, Nat.reduceEqDiff, Nat.reduceAdd, withc_some, withcs_some, cells_0, cells_s, Option.bind_some, Option.map_some, List.getElem?_toArray, List.getElem?_cons_zero, List.getElem?_cons_succ, Nat.add_zero, Nat.zero_add, Value.cells, splice, List.setIfInBounds_toArray, List.set_cons_zero, List.set_cons_succ, bfill_nil, bfill_cons, bstep_some, withO_some, List.take_zero, List.take_succ_cons, List.drop_zero, List.drop_succ_cons, List.cons_append, List.nil_append, List.append_nil, List.length_cons, List.length_nil, Nat.reduceLeDiff, Nat.le_refl, and_true, true_and, and_self, decide_true, decide_false, Bool.not_true, Bool.not_false, rndK, bl73, bq73, callA_fn0 pl37, callA_fn0 pl38, callQ_fn0 pl38, ld68, lenQ_slice Tryd.underlying68, len_slice Tryd.underlying68, lq68, opA_alloc 68 ty68]
    refine ⟨hl6, hk _ ⟨pre ++ [u.takeWhile notNl], .slice va' (pre.length + 1) vc', by rw [q1, linesF_cons hu, List.append_assoc]; rfl, ?_⟩⟩
    have k7 : Keep (· = l) G6 (G6.setIfInBounds l (.loop lp)) := ⟨by simp, fun b hb hn => by rw [Array.getElem?_setIfInBounds_ne (fun e => hn e.symm)]⟩
    have hb6s := k6.get (k5.get bs' ns) hne
    have own6 := own_set_ne own5 (k5.get b5' n5) (by simp) k6
    have own7 := own_set_ne own6 hl6 (by simp) k7
    have e6 : Ext H G6 := k6.two (Ext.own bE bown (fun _ h => h) k5) (by omega)
    refine ⟨k7.get h6 (fun e => hl5 e.symm), ?_, k7.get hb6s (fun e => hls e.symm), get_set hl6, k7.two e6 (by have := E12.size; omega), ?_, ?_⟩
    · rw [rowsC_snoc, List.length_append]; exact own7
    · have h1 := congrArg List.length q1
      rw [linesF_cons hu, List.length_append, List.length_cons] at h1
      have := linesF_len t
      rw [List.length_append, List.length_singleton]; omega
    · have := lineTl_len hu; omega
  · rintro G ⟨pre, v, q1, q2, q3, q4, q5, q6, q7, q8⟩
    rw [linesF_nil, List.append_nil] at q1
    subst q1
    obtain ⟨va, vc, rfl⟩ := q3.form
    refine ⟨lp, q5, by rw [hlp.state]; decide, ?_⟩
    rw [hlp.pending]
    have k1 : Keep (· = l) G (G.setIfInBounds l (.loop { lp with state := .exhausted, pending := none })) := ⟨by simp, fun b hb hn => by rw [Array.getElem?_setIfInBounds_ne (fun e => hn e.symm)]⟩
    have own1 := own_set_ne q3 q5 (by simp) k1
    have e1 : Ext H (G.setIfInBounds l (.loop { lp with state := .exhausted, pending := none })) := k1.two q6 (by have := E12.size; omega)
    have b51 := k1.get q2 (fun e => hl5 e.symm)
    generalize (G.setIfInBounds l (.loop { lp with state := .exhausted, pending := none })) = G4 at *
    have herr : (16384 < t.length ∨ 512 < (linesF t).length) → aw Tryd.prog 48 (c19_3) (seqQ Tryd.prog 48 ((A.keep [5]).seq c19_10) (retS Tryd.prog H.size [ResultVar.tmp 2, ResultVar.tmp 3, ResultVar.tmp 4] K)) [(5, .pointer (some ⟨b5, 0, none⟩)), (28, .bool true)] G4 := by
      intro hc
      have he : expandF LF t = ([], 0, 8) := by unfold expandF; rw [if_pos hc]
      rw [he] at h
      simp only [go_sem, reduceCtorEq, Nat.reduceEqDiff, Nat.reduceAdd, withc_some, withcs_some, cells_0, cells_s, Option.bind_some, Option.map_some, List.getElem?_toArray, List.getElem?_cons_zero, List.getElem?_cons_succ, Nat.add_zero, Nat.zero_add, Value.cells, splice, List.setIfInBounds_toArray, List.set_cons_zero, List.set_cons_succ, bfill_nil, bfill_cons, bstep_some, withO_some, List.take_zero, List.take_succ_cons, List.drop_zero, List.drop_succ_cons, List.cons_append, List.nil_append, List.append_nil, List.length_cons, List.length_nil, Nat.reduceLeDiff, Nat.le_refl, and_true, true_and, and_self, decide_true, decide_false, Bool.not_true, Bool.not_false, c19_3, r19_6, retS_ret, bl73, bq73, callA_fn0 pl37, callA_fn0 pl38, callQ_fn0 pl38, ld68, lenQ_slice Tryd.underlying68, len_slice Tryd.underlying68, lq68, opA_alloc 68 ty68]
      intro H' hs
      exact h H' _ (shut_ext e1 hs) ⟨[], SlE.nil, rfl⟩ (.inl rfl)
    have hlen := linesF_len t
    by_cases hlt : 16384 < t.length
    · have e2 : decide ((16384 : Int) < (t.length : Int)) = true := by rw [decide_eq_true_eq]; omega
      simp only [go_sem, reduceCtorEq, Nat.reduceEqDiff, Nat.reduceAdd, withc_some, withcs_some, cells_0, cells_s, Option.bind_some, Option.map_some, List.getElem?_toArray, List.getElem?_cons_zero, List.getElem?_cons_succ, Nat.add_zero, Nat.zero_add, Value.cells, splice, List.setIfInBounds_toArray, List.set_cons_zero, List.set_cons_succ, bfill_nil, bfill_cons, bstep_some, withO_some, List.take_zero, List.take_succ_cons, List.drop_zero, List.drop_succ_cons, List.cons_append, List.nil_append, List.append_nil, List.length_cons, List.length_nil, Nat.reduceLeDiff, Nat.le_refl, and_true, true_and, and_self, decide_true, decide_false, Bool.not_true, Bool.not_false, c19_11, r19_5, cell_of_blk b51, e2, c19_4, bl73, bq73, callA_fn0 pl37, callA_fn0 pl38, callQ_fn0 pl38, ld68, lenQ_slice Tryd.underlying68, len_B Tryd.underlying9, len_slice Tryd.underlying68, lq68, opA_alloc 68 ty68]
      exact herr (.inl hlt)
    · have e2 : decide ((16384 : Int) < (t.length : Int)) = false := by rw [decide_eq_false_iff_not]; omega
      by_cases hlr : 512 < (linesF t).length
      · have e3 : decide ((512 : Int) < ((linesF t).length : Int)) = true := by rw [decide_eq_true_eq]; omega
        simp only [go_sem, reduceCtorEq, Nat.reduceEqDiff, Nat.reduceAdd, withc_some, withcs_some, cells_0, cells_s, Option.bind_some, Option.map_some, List.getElem?_toArray, List.getElem?_cons_zero, List.getElem?_cons_succ, Nat.add_zero, Nat.zero_add, Value.cells, splice, List.setIfInBounds_toArray, List.set_cons_zero, List.set_cons_succ, bfill_nil, bfill_cons, bstep_some, withO_some, List.take_zero, List.take_succ_cons, List.drop_zero, List.drop_succ_cons, List.cons_append, List.nil_append, List.append_nil, List.length_cons, List.length_nil, Nat.reduceLeDiff, Nat.le_refl, and_true, true_and, and_self, decide_true, decide_false, Bool.not_true, Bool.not_false, c19_11, r19_5, cell_of_blk b51, e2, e3, c19_4, bl73, bq73, callA_fn0 pl37, callA_fn0 pl38, callQ_fn0 pl38, ld68, lenQ_slice Tryd.underlying68, len_B Tryd.underlying9, len_slice Tryd.underlying68, lq68, opA_alloc 68 ty68]
        exact herr (.inr hlr)
      · have e3 : decide ((512 : Int) < ((linesF t).length : Int)) = false := by rw [decide_eq_false_iff_not]; omega
        simp only [go_sem, reduceCtorEq, Nat.reduceEqDiff, Nat.reduceAdd, withc_some, withcs_some, cells_0, cells_s, Option.bind_some, Option.map_some, List.getElem?_toArray, List.getElem?_cons_zero, List.getElem?_cons_succ, Nat.add_zero, Nat.zero_add, Value.cells, splice, List.setIfInBounds_toArray, List.set_cons_zero, List.set_cons_succ, bfill_nil, bfill_cons, bstep_some, withO_some, List.take_zero, List.take_succ_cons, List.drop_zero, List.drop_succ_cons, List.cons_append, List.nil_append, List.append_nil, List.length_cons, List.length_nil, Nat.reduceLeDiff, Nat.le_refl, and_true, true_and, and_self, decide_true, decide_false, Bool.not_true, Bool.not_false, c19_11, r19_5, cell_of_blk b51, e2, e3, c19_4, c19_10, r19_7, opA_makeMap, bl73, bl77, bq73, callA_fn0 pl37, callA_fn0 pl38, callQ_fn0 pl38, ld68, lenQ_slice Tryd.underlying68, len_B Tryd.underlying9, len_slice Tryd.underlying68, lq68, opA_alloc 68 ty68]
        have m1 : MapC ((G4.push (.map #[] 0)).push (.map #[] 0)) G4.size [] := MapC.new.ext (Ext.push _ _)
        have m2 : MapC ((G4.push (.map #[] 0)).push (.map #[] 0)) (G4.push (.map #[] 0)).size [] := MapC.new
        have hmne : G4.size ≠ (G4.push (.map #[] 0)).size := by simp
        have hmp : G4.size ≤ (G4.push (.map #[] 0)).size := by simp
        have e45 : Ext G4 ((G4.push (.map #[] 0)).push (.map #[] 0)) := (Ext.push _ _).trans (Ext.push _ _)
        generalize ((G4.push (.map #[] 0)).push (.map #[] 0)) = G5 at *
        generalize (G4.push (.map #[] 0)).size = mp at *
        generalize hms : G4.size = ms at *
        refine box_kA fun bR G6 eR sR hR6 E6 => ?_
        have hR6' : G6[bR]? = some (.cells #[.map (some ms), .map (some mp), .slice none 0 0] 77 (0, 0)) := hR6
        have h56 := E6.get (e45.get b51)
        simp only [go_sem, reduceCtorEq, Nat.reduceEqDiff, Nat.reduceAdd, withc_some, withcs_some, cells_0, cells_s, Option.bind_some, Option.map_some, List.getElem?_toArray, List.getElem?_cons_zero, List.getElem?_cons_succ, Nat.add_zero, Nat.zero_add, Value.cells, splice, List.setIfInBounds_toArray, List.set_cons_zero, List.set_cons_succ, bfill_nil, bfill_cons, bstep_some, withO_some, List.take_zero, List.take_succ_cons, List.drop_zero, List.drop_succ_cons, List.cons_append, List.nil_append, List.append_nil, List.length_cons, List.length_nil, Nat.reduceLeDiff, Nat.le_refl, and_true, true_and, and_self, decide_true, decide_false, Bool.not_true, Bool.not_false, c19_9, r19_8, cell_of_blk h56, bl73, bl77, bl82, bq73, callA_fn0 pl37, callA_fn0 pl38, callA_fn0 pl39, callQ_fn0 pl38, ld68, lenQ_slice Tryd.underlying68, len_B Tryd.underlying9, len_slice Tryd.underlying68, lq68, opA_alloc 68 ty68, opA_alloc 79 ty79]
        have hsz := e1.size
        have hsz5 := e45.size
        have hH0 := Proofs.YtoabcmhiaknjiaaDoor.G0.pos g
        refine read_c (B0 := H.size) (R := bR) (ms := ms) (mp := mp) (s := ⟨[], [], []⟩) (rows := rowsFrom 0 (linesF t)) LF Iv Rw ⟨⟨by omega, _, [], hR6', OwnS.nil _ _ _ _, rfl⟩, m1.ext E6, ⟨[], m2.ext E6, .nil⟩, by omega, by omega, hmne⟩ hH0 (by have := E6.size; omega) (g.ext (e1.trans (e45.trans E6))) ?_ hIv hRw (by rw [rowsFrom_length]; omega) hstep (fun s G rv k t rest kn K2 a1 a2 a3 a4 a5 a6 a7 a8 a9 => hline H.size bR ms mp s G rv k t rest kn K2 hH0 a1 a2 a3 a4 a5 a6 a7 a8 a9) ?_
        · unfold RowsV
          rw [rowsFrom_length]
          exact (SlE.own own1).ext (e45.trans E6)
        intro G7 hfr hrd
        simp only [go_sem, reduceCtorEq, Nat.reduceEqDiff, Nat.reduceAdd, withc_some, withcs_some, cells_0, cells_s, Option.bind_some, Option.map_some, List.getElem?_toArray, List.getElem?_cons_zero, List.getElem?_cons_succ, Nat.add_zero, Nat.zero_add, Value.cells, splice, List.setIfInBounds_toArray, List.set_cons_zero, List.set_cons_succ, bfill_nil, bfill_cons, bstep_some, withO_some, List.take_zero, List.take_succ_cons, List.drop_zero, List.drop_succ_cons, List.cons_append, List.nil_append, List.append_nil, List.length_cons, List.length_nil, Nat.reduceLeDiff, Nat.le_refl, and_true, true_and, and_self, decide_true, decide_false, Bool.not_true, Bool.not_false, bl73, bl77, bl82, bq73, callA_fn0 pl37, callA_fn0 pl38, callA_fn0 pl39, callQ_fn0 pl38, ld68, lenQ_slice Tryd.underlying68, len_B Tryd.underlying9, len_slice Tryd.underlying68, lq68, opA_alloc 68 ty68, opA_alloc 79 ty79]
        refine box_kA fun b8 G8 e8 s8 h8 E8 => ?_
        have hE7 : Ext H G7 := FrJ.ext (e1.trans (e45.trans E6)) hfr (Nat.le_refl _)
        rw [rowsFrom_length]
        rw [rowsFrom_length] at hrd
        have hex : expandF LF t = if (readT LF (linesF t).length ⟨[], [], []⟩ (rowsFrom 0 (linesF t))).2.2 = 0 then ((readT LF (linesF t).length ⟨[], [], []⟩ (rowsFrom 0 (linesF t))).1.out, 0, 0)
          else ([], (readT LF (linesF t).length ⟨[], [], []⟩ (rowsFrom 0 (linesF t))).2.1, (readT LF (linesF t).length ⟨[], [], []⟩ (rowsFrom 0 (linesF t))).2.2) := by
          unfold expandF; rw [if_neg (by omega)]
        generalize (readT LF (linesF t).length ⟨[], [], []⟩ (rowsFrom 0 (linesF t))) = res at *
        simp only [go_sem, reduceCtorEq, Nat.reduceEqDiff, Nat.reduceAdd, withc_some, withcs_some, cells_0, cells_s, Option.bind_some, Option.map_some, List.getElem?_toArray, List.getElem?_cons_zero, List.getElem?_cons_succ, Nat.add_zero, Nat.zero_add, Value.cells, splice, List.setIfInBounds_toArray, List.set_cons_zero, List.set_cons_succ, bfill_nil, bfill_cons, bstep_some, withO_some, List.take_zero, List.take_succ_cons, List.drop_zero, List.drop_succ_cons, List.cons_append, List.nil_append, List.append_nil, List.length_cons, List.length_nil, Nat.reduceLeDiff, Nat.le_refl, and_true, true_and, and_self, decide_true, decide_false, Bool.not_true, Bool.not_false, bl73, bl77, bl82, bq73, callA_fn0 pl37, callA_fn0 pl38, callA_fn0 pl39, callQ_fn0 pl38, ld68, lenQ_slice Tryd.underlying68, len_B Tryd.underlying9, len_slice Tryd.underlying68, lq68, opA_alloc 68 ty68, opA_alloc 79 ty79]
        refine store_kA h8 ty79 (k := fun G9 h9 k9 s9 => ?_)
        have h9' : G9[b8]? = some (.cells #[.int .i64 res.2.1, .int .i64 res.2.2] 79 (0, 0)) := h9
        have hrd9 := (hrd.ext E8).kk (keepK_of h8 k9)
        have hE9 : Ext H G9 := k9.two (hE7.trans E8) (by have := hE7.size; omega)
        by_cases hc : res.2.2 = 0
        · have e4 : decide (res.2.2 = 0) = true := by simpa using hc
          rw [if_pos hc] at hex
          rw [hex] at h
          obtain ⟨_, ov, cells, hb, hown, hst⟩ := hrd9.out
          simp only [go_sem, reduceCtorEq, Nat.reduceEqDiff, Nat.reduceAdd, withc_some, withcs_some, cells_0, cells_s, Option.bind_some, Option.map_some, List.getElem?_toArray, List.getElem?_cons_zero, List.getElem?_cons_succ, Nat.add_zero, Nat.zero_add, Value.cells, splice, List.setIfInBounds_toArray, List.set_cons_zero, List.set_cons_succ, bfill_nil, bfill_cons, bstep_some, withO_some, List.take_zero, List.take_succ_cons, List.drop_zero, List.drop_succ_cons, List.cons_append, List.nil_append, List.append_nil, List.length_cons, List.length_nil, Nat.reduceLeDiff, Nat.le_refl, and_true, true_and, and_self, decide_true, decide_false, Bool.not_true, Bool.not_false, c19_7, r19_9, cell_of_blk h9', e4, c19_6, c19_8, r19_11, cell_of_blk hb, retS_ret, bl73, bl77, bl82, bq73, callA_fn0 pl37, callA_fn0 pl38, callA_fn0 pl39, callQ_fn0 pl38, fa77_2, fa79_1, ld25, ld36, ld68, lenQ_slice Tryd.underlying68, len_B Tryd.underlying9, len_slice Tryd.underlying68, lq68, opA_alloc 68 ty68, opA_alloc 79 ty79]
          intro H' hs
          have hst' : StmsV H' ov res.1.out := by
            refine ⟨cells, SlE.mono (SlE.own hown) (fun b c f hb => shut_get hs hb (by simp)), stmC.mono (fun v ws hv => SlE.mono hv (fun b c f hb => shut_get hs hb (by simp))) _ _ hst⟩
          exact h H' _ (shut_ext hE9 hs) hst' (.inr rfl)
        · have e4 : decide (res.2.2 = 0) = false := by simpa using hc
          rw [if_neg hc] at hex
          rw [hex] at h
          simp only [go_sem, reduceCtorEq, Nat.reduceEqDiff, Nat.reduceAdd, withc_some, withcs_some, cells_0, cells_s, Option.bind_some, Option.map_some, List.getElem?_toArray, List.getElem?_cons_zero, List.getElem?_cons_succ, Nat.add_zero, Nat.zero_add, Value.cells, splice, List.setIfInBounds_toArray, List.set_cons_zero, List.set_cons_succ, bfill_nil, bfill_cons, bstep_some, withO_some, List.take_zero, List.take_succ_cons, List.drop_zero, List.drop_succ_cons, List.cons_append, List.nil_append, List.append_nil, List.length_cons, List.length_nil, Nat.reduceLeDiff, Nat.le_refl, and_true, true_and, and_self, decide_true, decide_false, Bool.not_true, Bool.not_false, c19_7, r19_9, cell_of_blk h9', e4, c19_6, c19_5, r19_10, retS_ret, bl73, bl77, bl82, bq73, callA_fn0 pl37, callA_fn0 pl38, callA_fn0 pl39, callQ_fn0 pl38, fa77_2, fa79_0, fa79_1, fq79_0, fq79_1, ld25, ld3, ld36, ld68, lenQ_slice Tryd.underlying68, len_B Tryd.underlying9, len_slice Tryd.underlying68, lq25, lq3, lq68, opA_alloc 68 ty68, opA_alloc 79 ty79]
          intro H' hs
          exact h H' _ (shut_ext hE9 hs) ⟨[], SlE.nil, rfl⟩ (.inl rfl)

end Go.Proofs.YtoabcmhiaknjiaaDoor

set_option maxRecDepth 100000
namespace Go.Proofs.YtoabcmhiaknjiaaDoor
open Go.Hw
/-! ### 9 dasd/dasdlaw39.awake -/
def r9_0 : List O := [⟨some 0, .assign (.const (.bool false)), 4, none⟩]
def r9_1 : List O := [⟨some 9, .call { callee := .value (.func 10), args := #[.const (.string ⟨#[115, 116, 101, 112, 32, 83, 49, 32, 112, 114, 111, 103, 114, 97, 109, 32, 115, 111, 114, 116, 32, 112, 97, 114, 109, 32, 39, 98, 121, 32, 49, 32, 56, 39]⟩)], argTypes := #[9] }, 26, none⟩,
  ⟨some 8, .move (.tmp 9), 26, none⟩,
  ⟨some 10, .extract (.tmp 8) 0, 24, none⟩,
  ⟨some 11, .extract (.tmp 8) 1, 25, none⟩,
  ⟨some 1, .assign (.tmp 10), 24, none⟩,
  ⟨some 2, .assign (.tmp 11), 25, none⟩]
def r9_2 : List O := [⟨some 13, .makeMap 22 none, 22, none⟩,
  ⟨none, .insert 22 (.tmp 13) (.const (.string ⟨#[68, 65, 89]⟩)) (.const (.string ⟨#[55]⟩)), 0, none⟩,
  ⟨some 14, .move (.tmp 13), 22, none⟩,
  ⟨some 15, .call { callee := .value (.func 12), args := #[.const (.string ⟨#[100, 100, 32, 79, 85, 84, 32, 100, 97, 116, 97, 32, 80, 65, 89, 46, 68, 38, 68, 65, 89, 59, 32, 110, 101, 119]⟩), .tmp 14], argTypes := #[9, 22] }, 28, none⟩,
  ⟨some 12, .move (.tmp 15), 28, none⟩,
  ⟨some 16, .extract (.tmp 12) 0, 9, none⟩,
  ⟨some 17, .extract (.tmp 12) 1, 25, none⟩,
  ⟨some 3, .assign (.tmp 16), 9, none⟩,
  ⟨some 4, .assign (.tmp 17), 25, none⟩]
def r9_3 : List O := [⟨some 19, .call { callee := .value (.func 19), args := #[.const (.string ⟨#[115, 116, 101, 112, 32, 83, 49, 32, 112, 114, 111, 103, 114, 97, 109, 32, 99, 111, 112, 121, 10]⟩)], argTypes := #[9] }, 37, none⟩,
  ⟨some 18, .move (.tmp 19), 37, none⟩,
  ⟨some 20, .extract (.tmp 18) 0, 36, none⟩,
  ⟨some 21, .extract (.tmp 18) 1, 3, none⟩,
  ⟨some 22, .extract (.tmp 18) 2, 25, none⟩,
  ⟨some 5, .assign (.tmp 20), 36, none⟩,
  ⟨some 6, .assign (.tmp 21), 3, none⟩,
  ⟨some 7, .assign (.tmp 22), 25, none⟩]
def r9_4 : List O := [⟨some 23, .move (.tmp 2), 25, none⟩,
  ⟨some 24, .binOp .eql 25 (.tmp 23) (.const (.int .i64 0)) 25, 4, none⟩,
  ⟨some 25, .move (.tmp 24), 4, none⟩,
  ⟨some 26, .move (.tmp 1), 24, some (25, true)⟩,
  ⟨some 27, .call { callee := .builtin .len, args := #[.tmp 26], argTypes := #[24] }, 3, some (25, true)⟩,
  ⟨some 28, .binOp .eql 3 (.tmp 27) (.const (.int .i64 6)) 3, 4, some (25, true)⟩,
  ⟨some 29, .pick (.tmp 25) (.tmp 28) (.const (.bool false)), 4, none⟩,
  ⟨some 30, .move (.tmp 29), 4, none⟩,
  ⟨some 31, .move (.tmp 1), 24, some (30, true)⟩,
  ⟨some 32, .indexAddr 24 (.tmp 31) (.const (.int .i64 5)), 0, some (30, true)⟩,
  ⟨some 33, .load 9 (.tmp 32), 9, some (30, true)⟩,
  ⟨some 34, .binOp .eql 9 (.tmp 33) (.const (.string ⟨#[98, 121, 32, 49, 32, 56]⟩)) 9, 4, some (30, true)⟩,
  ⟨some 35, .pick (.tmp 30) (.tmp 34) (.const (.bool false)), 4, none⟩,
  ⟨some 36, .move (.tmp 35), 4, none⟩,
  ⟨some 37, .move (.tmp 4), 25, some (36, true)⟩,
  ⟨some 38, .binOp .eql 25 (.tmp 37) (.const (.int .i64 0)) 25, 4, some (36, true)⟩,
  ⟨some 39, .pick (.tmp 36) (.tmp 38) (.const (.bool false)), 4, none⟩,
  ⟨some 40, .move (.tmp 39), 4, none⟩,
  ⟨some 41, .move (.tmp 3), 9, some (40, true)⟩,
  ⟨some 42, .binOp .eql 9 (.tmp 41) (.const (.string ⟨#[100, 100, 32, 79, 85, 84, 32, 100, 97, 116, 97, 32, 80, 65, 89, 46, 68, 55, 32, 110, 101, 119]⟩)) 9, 4, some (40, true)⟩,
  ⟨some 43, .pick (.tmp 40) (.tmp 42) (.const (.bool false)), 4, none⟩,
  ⟨some 44, .move (.tmp 43), 4, none⟩,
  ⟨some 45, .move (.tmp 7), 25, some (44, true)⟩,
  ⟨some 46, .binOp .eql 25 (.tmp 45) (.const (.int .i64 0)) 25, 4, some (44, true)⟩,
  ⟨some 47, .pick (.tmp 44) (.tmp 46) (.const (.bool false)), 4, none⟩,
  ⟨some 48, .move (.tmp 47), 4, none⟩,
  ⟨some 49, .move (.tmp 6), 3, some (48, true)⟩,
  ⟨some 50, .binOp .eql 3 (.tmp 49) (.const (.int .i64 0)) 3, 4, some (48, true)⟩,
  ⟨some 51, .pick (.tmp 48) (.tmp 50) (.const (.bool false)), 4, none⟩,
  ⟨some 52, .move (.tmp 51), 4, none⟩,
  ⟨some 53, .move (.tmp 5), 36, some (52, true)⟩,
  ⟨some 54, .call { callee := .builtin .len, args := #[.tmp 53], argTypes := #[36] }, 3, some (52, true)⟩,
  ⟨some 55, .binOp .eql 3 (.tmp 54) (.const (.int .i64 1)) 3, 4, some (52, true)⟩,
  ⟨some 56, .pick (.tmp 52) (.tmp 55) (.const (.bool false)), 4, none⟩,
  ⟨some 57, .move (.tmp 56), 4, none⟩,
  ⟨some 58, .move (.tmp 5), 36, some (57, true)⟩,
  ⟨some 59, .indexAddr 36 (.tmp 58) (.const (.int .i64 0)), 0, some (57, true)⟩,
  ⟨some 60, .fieldAddr 40 (.tmp 59) 0, 0, some (57, true)⟩,
  ⟨some 61, .load 3 (.tmp 60), 3, some (57, true)⟩,
  ⟨some 62, .binOp .eql 3 (.tmp 61) (.const (.int .i64 1)) 3, 4, some (57, true)⟩,
  ⟨some 63, .pick (.tmp 57) (.tmp 62) (.const (.bool false)), 4, none⟩,
  ⟨some 64, .move (.tmp 63), 4, none⟩,
  ⟨some 65, .call { callee := .value (.func 15), args := #[.const (.string ⟨#[97, 32, 98]⟩)], argTypes := #[9] }, 9, some (64, true)⟩,
  ⟨some 66, .binOp .eql 9 (.tmp 65) (.const (.string ⟨#[39, 97, 32, 98, 39]⟩)) 9, 4, some (64, true)⟩,
  ⟨some 67, .pick (.tmp 64) (.tmp 66) (.const (.bool false)), 4, none⟩,
  ⟨some 0, .assign (.tmp 67), 4, none⟩]
def c9_0 : A := .seq (.reg r9_4 [0]) .ret
def c9_1 : A := .seq (.reg r9_3 [1, 2, 3, 4, 5, 6, 7]) c9_0
def c9_2 : A := .seq (.reg r9_2 [1, 2, 3, 4]) c9_1
def c9_3 : A := .seq (.reg r9_1 [1, 2]) c9_2
def c9 : A := .seq (.reg r9_0 []) c9_3
theorem B9 : Body Tryd.prog 9 68 [.tmp 0] c9 := ⟨by kernel_rfl, _, _, [(0, []), (1, [1, 2]), (2, [1, 2, 3, 4]), (3, [1, 2, 3, 4, 5, 6, 7]), (4, [0])], Tryd.func9, rfl, rfl, rfl, by kernel_rfl⟩
/-! ### 7 dasd/dasdlaw39.JobtextWords -/
def r7_0 : List O := [⟨some 6, .assign (.const (.bool false)), 4, none⟩]
def r7_1 : List O := [⟨some 13, .call { callee := .value (.func 9), args := #[], argTypes := #[] }, 4, none⟩,
  ⟨some 14, .unOp .not 4 (.tmp 13), 4, none⟩]
def r7_2 : List O := [⟨some 6, .assign (.const (.bool false)), 4, none⟩]
def r7_3 : List O := [⟨some 15, .move (.tmp 0), 24, none⟩,
  ⟨some 16, .call { callee := .builtin .len, args := #[.tmp 15], argTypes := #[24] }, 3, none⟩,
  ⟨some 17, .binOp .gtr 3 (.tmp 16) (.const (.int .i64 10)) 3, 4, none⟩]
def r7_4 : List O := [⟨some 6, .assign (.const (.bool true)), 4, none⟩]
def r7_5 : List O := [⟨some 18, .move (.tmp 1), 5, none⟩,
  ⟨some 19, .binOp .rem 5 (.tmp 18) (.const (.int .u8 4)) 5, 5, none⟩,
  ⟨some 20, .convert 5 3 (.tmp 19), 3, none⟩,
  ⟨some 21, .call { callee := .value (.func 21), args := #[.const (.string ⟨#[32]⟩), .tmp 20], argTypes := #[9, 3] }, 9, none⟩,
  ⟨some 7, .assign (.tmp 21), 9, none⟩]
def r7_6 : List O := [⟨some 22, .move (.tmp 0), 24, none⟩,
  ⟨some 23, .call { callee := .builtin .len, args := #[.tmp 22], argTypes := #[24] }, 3, none⟩,
  ⟨some 24, .move (.const (.int .i64 0)), 3, none⟩]
def r7_7 : List O := [⟨some 25, .binOp .lss 3 (.tmp 24) (.tmp 23) 3, 0, none⟩]
def r7_8 : List O := [⟨some 26, .move (.tmp 24), 3, none⟩,
  ⟨some 27, .indexAddr 24 (.tmp 22) (.tmp 24), 0, none⟩,
  ⟨some 28, .load 9 (.tmp 27), 9, none⟩,
  ⟨some 8, .assign (.tmp 26), 3, none⟩,
  ⟨some 9, .assign (.tmp 28), 9, none⟩]
def r7_9 : List O := [⟨some 29, .move (.tmp 9), 9, none⟩,
  ⟨some 30, .call { callee := .builtin .len, args := #[.tmp 29], argTypes := #[9] }, 3, none⟩,
  ⟨some 31, .binOp .gtr 3 (.tmp 30) (.const (.int .i64 60)) 3, 4, none⟩]
def r7_10 : List O := [⟨some 6, .assign (.const (.bool true)), 4, none⟩]
def r7_11 : List O := [⟨some 32, .move (.tmp 9), 9, none⟩,
  ⟨some 33, .call { callee := .builtin .len, args := #[.tmp 32], argTypes := #[9] }, 3, none⟩,
  ⟨some 34, .move (.const (.int .i64 0)), 3, none⟩]
def r7_12 : List O := [⟨some 35, .binOp .lss 3 (.tmp 34) (.tmp 33) 3, 4, none⟩]
def r7_13 : List O := [⟨some 36, .move (.tmp 34), 3, none⟩,
  ⟨some 10, .assign (.tmp 36), 3, none⟩]
def r7_14 : List O := [⟨some 37, .move (.tmp 9), 9, none⟩,
  ⟨some 38, .move (.tmp 10), 3, none⟩,
  ⟨some 39, .index 9 (.tmp 37) (.tmp 38), 5, none⟩,
  ⟨some 40, .binOp .lss 5 (.tmp 39) (.const (.int .u8 32)) 5, 4, none⟩,
  ⟨some 41, .move (.tmp 40), 4, none⟩,
  ⟨some 42, .move (.tmp 9), 9, some (41, false)⟩,
  ⟨some 43, .move (.tmp 10), 3, some (41, false)⟩,
  ⟨some 44, .index 9 (.tmp 42) (.tmp 43), 5, some (41, false)⟩,
  ⟨some 45, .binOp .gtr 5 (.tmp 44) (.const (.int .u8 126)) 5, 4, some (41, false)⟩,
  ⟨some 46, .pick (.tmp 41) (.const (.bool true)) (.tmp 45), 4, none⟩]
def r7_15 : List O := [⟨some 6, .assign (.const (.bool true)), 4, none⟩]
def r7_16 : List O := [⟨some 47, .binOp .add 3 (.tmp 34) (.const (.int .i64 1)) 3, 3, none⟩,
  ⟨some 34, .move (.tmp 47), 3, none⟩]
def r7_17 : List O := [⟨some 48, .move (.tmp 8), 3, none⟩,
  ⟨some 49, .binOp .gtr 3 (.tmp 48) (.const (.int .i64 0)) 3, 4, none⟩]
def r7_18 : List O := [⟨some 50, .move (.tmp 7), 9, none⟩,
  ⟨some 51, .move (.tmp 2), 5, none⟩,
  ⟨some 52, .binOp .rem 5 (.tmp 51) (.const (.int .u8 3)) 5, 5, none⟩,
  ⟨some 53, .convert 5 3 (.tmp 52), 3, none⟩,
  ⟨some 54, .binOp .add 3 (.const (.int .i64 1)) (.tmp 53) 3, 3, none⟩,
  ⟨some 55, .call { callee := .value (.func 21), args := #[.const (.string ⟨#[32]⟩), .tmp 54], argTypes := #[9, 3] }, 9, none⟩,
  ⟨some 56, .binOp .add 9 (.tmp 50) (.tmp 55) 9, 9, none⟩,
  ⟨some 7, .assign (.tmp 56), 9, none⟩]
def r7_19 : List O := [⟨some 57, .move (.tmp 7), 9, none⟩,
  ⟨some 58, .move (.tmp 9), 9, none⟩,
  ⟨some 59, .call { callee := .value (.func 15), args := #[.tmp 58], argTypes := #[9] }, 9, none⟩,
  ⟨some 60, .binOp .add 9 (.tmp 57) (.tmp 59) 9, 9, none⟩,
  ⟨some 7, .assign (.tmp 60), 9, none⟩]
def r7_20 : List O := [⟨some 61, .binOp .add 3 (.tmp 24) (.const (.int .i64 1)) 3, 3, none⟩,
  ⟨some 24, .move (.tmp 61), 3, none⟩]
def r7_21 : List O := [⟨some 63, .move (.tmp 7), 9, none⟩,
  ⟨some 64, .move (.tmp 2), 5, none⟩,
  ⟨some 65, .binOp .rem 5 (.tmp 64) (.const (.int .u8 4)) 5, 5, none⟩,
  ⟨some 66, .convert 5 3 (.tmp 65), 3, none⟩,
  ⟨some 67, .call { callee := .value (.func 21), args := #[.const (.string ⟨#[32]⟩), .tmp 66], argTypes := #[9, 3] }, 9, none⟩,
  ⟨some 68, .binOp .add 9 (.tmp 63) (.tmp 67) 9, 9, none⟩,
  ⟨some 69, .call { callee := .value (.func 10), args := #[.tmp 68], argTypes := #[9] }, 26, none⟩,
  ⟨some 62, .move (.tmp 69), 26, none⟩,
  ⟨some 70, .extract (.tmp 62) 0, 24, none⟩,
  ⟨some 71, .extract (.tmp 62) 1, 25, none⟩,
  ⟨some 11, .assign (.tmp 70), 24, none⟩,
  ⟨some 12, .assign (.tmp 71), 25, none⟩]
def r7_22 : List O := [⟨some 72, .move (.tmp 12), 25, none⟩,
  ⟨some 73, .binOp .eql 25 (.tmp 72) (.const (.int .i64 0)) 25, 4, none⟩,
  ⟨some 74, .move (.tmp 73), 4, none⟩,
  ⟨some 75, .move (.tmp 11), 24, some (74, true)⟩,
  ⟨some 76, .move (.tmp 0), 24, some (74, true)⟩,
  ⟨some 77, .call { callee := .value (.func 14), args := #[.tmp 75, .tmp 76], argTypes := #[24, 24] }, 4, some (74, true)⟩,
  ⟨some 78, .pick (.tmp 74) (.tmp 77) (.const (.bool false)), 4, none⟩,
  ⟨some 6, .assign (.tmp 78), 4, none⟩]
def c7_0 : A := .seq (.reg r7_2 [6]) .ret
def c7_1 : A := .cond (.tmp 14) c7_0 .skip
def c7_2 : A := .seq (.reg r7_4 [6]) .ret
def c7_3 : A := .cond (.tmp 17) c7_2 .skip
def c7_4 : A := .seq (.reg r7_10 [6]) .ret
def c7_5 : A := .cond (.tmp 31) c7_4 .skip
def c7_6 : A := .seq (.reg r7_15 [6]) .ret
def c7_7 : A := .cond (.tmp 46) c7_6 .skip
def c7_8 : A := .seq (.reg r7_14 [0, 2, 7, 8, 9, 22, 23, 24, 33, 34, 46]) c7_7
def c7_9 : A := .seq (.reg r7_13 [0, 2, 7, 8, 9, 10, 22, 23, 24, 33, 34]) c7_8
def c7_10 : A := .seq (.block 3 c7_9) (.reg r7_16 [0, 2, 7, 8, 9, 22, 23, 24, 33, 34])
def c7_11 : A := .seq (.cond (.tmp 35) .skip (.exit 2)) (.seq (.keep [0, 2, 7, 8, 9, 22, 23, 24, 33, 34]) c7_10)
def c7_12 : A := .seq (.reg r7_12 [0, 2, 7, 8, 9, 22, 23, 24, 33, 34, 35]) c7_11
def c7_13 : A := .seq c7_12 (.keep [0, 2, 7, 8, 9, 22, 23, 24, 33, 34])
def c7_14 : A := .loop c7_13
def c7_15 : A := .block 2 c7_14
def c7_16 : A := .cond (.tmp 49) (.reg r7_18 [0, 2, 7, 9, 22, 23, 24]) .skip
def c7_17 : A := .seq (.seq (.reg r7_17 [0, 2, 7, 9, 22, 23, 24, 49]) c7_16) (.seq (.keep [0, 2, 7, 9, 22, 23, 24]) (.reg r7_19 [0, 2, 7, 22, 23, 24]))
def c7_18 : A := .seq (.seq (.reg r7_11 [0, 2, 7, 8, 9, 22, 23, 24, 33, 34]) c7_15) c7_17
def c7_19 : A := .seq (.seq (.reg r7_9 [0, 2, 7, 8, 9, 22, 23, 24, 31]) c7_5) (.seq (.keep [0, 2, 7, 8, 9, 22, 23, 24]) c7_18)
def c7_20 : A := .seq (.reg r7_8 [0, 2, 7, 8, 9, 22, 23, 24]) c7_19
def c7_21 : A := .seq (.block 1 c7_20) (.reg r7_20 [0, 2, 7, 22, 23, 24])
def c7_22 : A := .seq (.cond (.tmp 25) .skip (.exit 0)) (.seq (.keep [0, 2, 7, 22, 23, 24]) c7_21)
def c7_23 : A := .seq (.reg r7_7 [0, 2, 7, 22, 23, 24, 25]) c7_22
def c7_24 : A := .seq c7_23 (.keep [0, 2, 7, 22, 23, 24])
def c7_25 : A := .loop c7_24
def c7_26 : A := .block 0 c7_25
def c7_27 : A := .seq (.reg r7_22 [6]) .ret
def c7_28 : A := .seq (.reg r7_21 [0, 11, 12]) c7_27
def c7_29 : A := .seq (.seq (.reg r7_6 [0, 2, 7, 22, 23, 24]) c7_26) c7_28
def c7_30 : A := .seq (.reg r7_5 [0, 2, 7]) c7_29
def c7_31 : A := .seq (.seq (.reg r7_3 [0, 1, 2, 17]) c7_3) (.seq (.keep [0, 1, 2]) c7_30)
def c7_32 : A := .seq (.seq (.reg r7_1 [0, 1, 2, 14]) c7_1) (.seq (.keep [0, 1, 2]) c7_31)
def c7 : A := .seq (.reg r7_0 [0, 1, 2]) c7_32
theorem B7 : Body Tryd.prog 7 79 [.tmp 6] c7 := ⟨by kernel_rfl, _, _, [(0, [0, 1, 2]), (1, [0, 1, 2, 14]), (2, [6]), (3, [0, 1, 2, 17]), (4, [6]), (5, [0, 2, 7]), (6, [0, 2, 7, 22, 23, 24]), (7, [0, 2, 7, 22, 23, 24, 25]), (8, [0, 2, 7, 8, 9, 22, 23, 24]), (9, [0, 2, 7, 8, 9, 22, 23, 24, 31]), (10, [6]), (11, [0, 2, 7, 8, 9, 22, 23, 24, 33, 34]), (12, [0, 2, 7, 8, 9, 22, 23, 24, 33, 34, 35]), (13, [0, 2, 7, 8, 9, 10, 22, 23, 24, 33, 34]), (14, [0, 2, 7, 8, 9, 22, 23, 24, 33, 34, 46]), (15, [6]), (16, [0, 2, 7, 8, 9, 22, 23, 24, 33, 34]), (17, [0, 2, 7, 9, 22, 23, 24, 49]), (18, [0, 2, 7, 9, 22, 23, 24]), (19, [0, 2, 7, 22, 23, 24]), (20, [0, 2, 7, 22, 23, 24]), (21, [0, 11, 12]), (22, [6]), (1007, [0, 2, 7, 22, 23, 24]), (1012, [0, 2, 7, 8, 9, 22, 23, 24, 33, 34]), (2003, [0, 1, 2]), (2005, [0, 1, 2]), (2008, [0, 2, 7, 22, 23, 24]), (2011, [0, 2, 7, 8, 9, 22, 23, 24]), (2013, [0, 2, 7, 8, 9, 22, 23, 24, 33, 34]), (2019, [0, 2, 7, 9, 22, 23, 24])], Tryd.func7, rfl, rfl, rfl, by kernel_rfl⟩
/-! ### 3 dasd/dasdlaw39.JobtextLines -/
def r3_0 : List O := [⟨some 4, .assign (.const (.bool false)), 4, none⟩]
def r3_1 : List O := [⟨some 15, .call { callee := .value (.func 9), args := #[], argTypes := #[] }, 4, none⟩,
  ⟨some 16, .unOp .not 4 (.tmp 15), 4, none⟩]
def r3_2 : List O := [⟨some 4, .assign (.const (.bool false)), 4, none⟩]
def r3_3 : List O := [⟨some 17, .move (.tmp 0), 9, none⟩,
  ⟨some 18, .call { callee := .builtin .len, args := #[.tmp 17], argTypes := #[9] }, 3, none⟩,
  ⟨some 19, .binOp .gtr 3 (.tmp 18) (.const (.int .i64 1200)) 3, 4, none⟩,
  ⟨some 20, .move (.tmp 19), 4, none⟩,
  ⟨some 21, .move (.tmp 1), 22, some (20, false)⟩,
  ⟨some 22, .call { callee := .builtin .len, args := #[.tmp 21], argTypes := #[22] }, 3, some (20, false)⟩,
  ⟨some 23, .binOp .gtr 3 (.tmp 22) (.const (.int .i64 8)) 3, 4, some (20, false)⟩,
  ⟨some 24, .pick (.tmp 20) (.const (.bool true)) (.tmp 23), 4, none⟩]
def r3_4 : List O := [⟨some 4, .assign (.const (.bool true)), 4, none⟩]
def r3_5 : List O := [⟨some 25, .move (.tmp 1), 22, none⟩,
  ⟨some 26, .range 22 (.tmp 25), 0, none⟩]
def r3_6 : List O := [⟨some 27, .next (.tmp 26) false, 0, none⟩,
  ⟨some 28, .extract (.tmp 27) 0, 4, none⟩]
def r3_7 : List O := [⟨some 29, .entry (.tmp 26), 0, none⟩,
  ⟨some 30, .extract (.tmp 29) 0, 9, none⟩,
  ⟨some 31, .extract (.tmp 29) 1, 9, none⟩,
  ⟨some 5, .assign (.tmp 30), 9, none⟩,
  ⟨some 6, .assign (.tmp 31), 9, none⟩]
def r3_8 : List O := [⟨some 32, .move (.tmp 5), 9, none⟩,
  ⟨some 33, .call { callee := .builtin .len, args := #[.tmp 32], argTypes := #[9] }, 3, none⟩,
  ⟨some 34, .binOp .gtr 3 (.tmp 33) (.const (.int .i64 20)) 3, 4, none⟩,
  ⟨some 35, .move (.tmp 34), 4, none⟩,
  ⟨some 36, .move (.tmp 6), 9, some (35, false)⟩,
  ⟨some 37, .call { callee := .builtin .len, args := #[.tmp 36], argTypes := #[9] }, 3, some (35, false)⟩,
  ⟨some 38, .binOp .gtr 3 (.tmp 37) (.const (.int .i64 1200)) 3, 4, some (35, false)⟩,
  ⟨some 39, .pick (.tmp 35) (.const (.bool true)) (.tmp 38), 4, none⟩]
def r3_9 : List O := [⟨some 4, .assign (.const (.bool true)), 4, none⟩]
def r3_10 : List O := [⟨some 41, .move (.tmp 0), 9, none⟩,
  ⟨some 42, .call { callee := .value (.func 10), args := #[.tmp 41], argTypes := #[9] }, 26, none⟩,
  ⟨some 40, .move (.tmp 42), 26, none⟩,
  ⟨some 43, .extract (.tmp 40) 0, 24, none⟩,
  ⟨some 44, .extract (.tmp 40) 1, 25, none⟩,
  ⟨some 7, .assign (.tmp 43), 24, none⟩,
  ⟨some 8, .assign (.tmp 44), 25, none⟩]
def r3_11 : List O := [⟨some 46, .move (.tmp 0), 9, none⟩,
  ⟨some 47, .call { callee := .value (.func 11), args := #[.tmp 46], argTypes := #[9] }, 26, none⟩,
  ⟨some 45, .move (.tmp 47), 26, none⟩,
  ⟨some 48, .extract (.tmp 45) 0, 24, none⟩,
  ⟨some 49, .extract (.tmp 45) 1, 25, none⟩,
  ⟨some 9, .assign (.tmp 48), 24, none⟩,
  ⟨some 10, .assign (.tmp 49), 25, none⟩]
def r3_12 : List O := [⟨some 51, .move (.tmp 0), 9, none⟩,
  ⟨some 52, .move (.tmp 1), 22, none⟩,
  ⟨some 53, .call { callee := .value (.func 12), args := #[.tmp 51, .tmp 52], argTypes := #[9, 22] }, 28, none⟩,
  ⟨some 50, .move (.tmp 53), 28, none⟩,
  ⟨some 54, .extract (.tmp 50) 0, 9, none⟩,
  ⟨some 55, .extract (.tmp 50) 1, 25, none⟩,
  ⟨some 11, .assign (.tmp 54), 9, none⟩,
  ⟨some 12, .assign (.tmp 55), 25, none⟩]
def r3_13 : List O := [⟨some 57, .move (.tmp 0), 9, none⟩,
  ⟨some 58, .move (.tmp 1), 22, none⟩,
  ⟨some 59, .call { callee := .value (.func 13), args := #[.tmp 57, .tmp 58], argTypes := #[9, 22] }, 28, none⟩,
  ⟨some 56, .move (.tmp 59), 28, none⟩,
  ⟨some 60, .extract (.tmp 56) 0, 9, none⟩,
  ⟨some 61, .extract (.tmp 56) 1, 25, none⟩,
  ⟨some 13, .assign (.tmp 60), 9, none⟩,
  ⟨some 14, .assign (.tmp 61), 25, none⟩]
def r3_14 : List O := [⟨some 62, .move (.tmp 7), 24, none⟩,
  ⟨some 63, .move (.tmp 9), 24, none⟩,
  ⟨some 64, .call { callee := .value (.func 14), args := #[.tmp 62, .tmp 63], argTypes := #[24, 24] }, 4, none⟩,
  ⟨some 65, .move (.tmp 64), 4, none⟩,
  ⟨some 66, .move (.tmp 8), 25, some (65, true)⟩,
  ⟨some 67, .move (.tmp 10), 25, some (65, true)⟩,
  ⟨some 68, .binOp .eql 25 (.tmp 66) (.tmp 67) 25, 4, some (65, true)⟩,
  ⟨some 69, .pick (.tmp 65) (.tmp 68) (.const (.bool false)), 4, none⟩,
  ⟨some 70, .move (.tmp 69), 4, none⟩,
  ⟨some 71, .move (.tmp 11), 9, some (70, true)⟩,
  ⟨some 72, .move (.tmp 13), 9, some (70, true)⟩,
  ⟨some 73, .binOp .eql 9 (.tmp 71) (.tmp 72) 9, 4, some (70, true)⟩,
  ⟨some 74, .pick (.tmp 70) (.tmp 73) (.const (.bool false)), 4, none⟩,
  ⟨some 75, .move (.tmp 74), 4, none⟩,
  ⟨some 76, .move (.tmp 12), 25, some (75, true)⟩,
  ⟨some 77, .move (.tmp 14), 25, some (75, true)⟩,
  ⟨some 78, .binOp .eql 25 (.tmp 76) (.tmp 77) 25, 4, some (75, true)⟩,
  ⟨some 79, .pick (.tmp 75) (.tmp 78) (.const (.bool false)), 4, none⟩,
  ⟨some 80, .move (.tmp 79), 4, none⟩,
  ⟨some 81, .move (.tmp 0), 9, some (80, true)⟩,
  ⟨some 82, .call { callee := .value (.func 15), args := #[.tmp 81], argTypes := #[9] }, 9, some (80, true)⟩,
  ⟨some 83, .move (.tmp 0), 9, some (80, true)⟩,
  ⟨some 84, .call { callee := .value (.func 16), args := #[.tmp 83], argTypes := #[9] }, 9, some (80, true)⟩,
  ⟨some 85, .binOp .eql 9 (.tmp 82) (.tmp 84) 9, 4, some (80, true)⟩,
  ⟨some 86, .pick (.tmp 80) (.tmp 85) (.const (.bool false)), 4, none⟩,
  ⟨some 4, .assign (.tmp 86), 4, none⟩]
def c3_0 : A := .seq (.reg r3_2 [4]) .ret
def c3_1 : A := .cond (.tmp 16) c3_0 .skip
def c3_2 : A := .seq (.reg r3_4 [4]) .ret
def c3_3 : A := .cond (.tmp 24) c3_2 .skip
def c3_4 : A := .seq (.reg r3_9 [4]) .ret
def c3_5 : A := .cond (.tmp 39) c3_4 .skip
def c3_6 : A := .seq (.reg r3_8 [0, 1, 26, 39]) c3_5
def c3_7 : A := .seq (.reg r3_7 [0, 1, 5, 6, 26]) c3_6
def c3_8 : A := .block 1 c3_7
def c3_9 : A := .seq (.cond (.tmp 28) .skip (.exit 0)) (.seq (.keep [0, 1, 26]) c3_8)
def c3_10 : A := .seq (.reg r3_6 [0, 1, 26, 28]) c3_9
def c3_11 : A := .seq c3_10 (.keep [0, 1, 26])
def c3_12 : A := .loop c3_11
def c3_13 : A := .block 0 c3_12
def c3_14 : A := .seq (.reg r3_14 [4]) .ret
def c3_15 : A := .seq (.reg r3_13 [0, 7, 8, 9, 10, 11, 12, 13, 14]) c3_14
def c3_16 : A := .seq (.reg r3_12 [0, 1, 7, 8, 9, 10, 11, 12]) c3_15
def c3_17 : A := .seq (.reg r3_11 [0, 1, 7, 8, 9, 10]) c3_16
def c3_18 : A := .seq (.reg r3_10 [0, 1, 7, 8]) c3_17
def c3_19 : A := .seq (.seq (.reg r3_5 [0, 1, 26]) c3_13) c3_18
def c3_20 : A := .seq (.seq (.reg r3_3 [0, 1, 24]) c3_3) (.seq (.keep [0, 1]) c3_19)
def c3_21 : A := .seq (.seq (.reg r3_1 [0, 1, 16]) c3_1) (.seq (.keep [0, 1]) c3_20)
def c3 : A := .seq (.reg r3_0 [0, 1]) c3_21
theorem B3 : Body Tryd.prog 3 87 [.tmp 4] c3 := ⟨by kernel_rfl, _, _, [(0, [0, 1]), (1, [0, 1, 16]), (2, [4]), (3, [0, 1, 24]), (4, [4]), (5, [0, 1, 26]), (6, [0, 1, 26, 28]), (7, [0, 1, 5, 6, 26]), (8, [0, 1, 26, 39]), (9, [4]), (10, [0, 1, 7, 8]), (11, [0, 1, 7, 8, 9, 10]), (12, [0, 1, 7, 8, 9, 10, 11, 12]), (13, [0, 7, 8, 9, 10, 11, 12, 13, 14]), (14, [4]), (1006, [0, 1, 26]), (2003, [0, 1]), (2005, [0, 1]), (2007, [0, 1, 26])], Tryd.func3, rfl, rfl, rfl, by kernel_rfl⟩
/-! ### 4 dasd/dasdlaw39.JobtextSymbols -/
def r4_0 : List O := [⟨some 4, .assign (.const (.bool false)), 4, none⟩]
def r4_1 : List O := [⟨some 15, .call { callee := .value (.func 9), args := #[], argTypes := #[] }, 4, none⟩,
  ⟨some 16, .unOp .not 4 (.tmp 15), 4, none⟩]
def r4_2 : List O := [⟨some 4, .assign (.const (.bool false)), 4, none⟩]
def r4_3 : List O := [⟨some 17, .move (.tmp 0), 24, none⟩,
  ⟨some 18, .call { callee := .builtin .len, args := #[.tmp 17], argTypes := #[24] }, 3, none⟩,
  ⟨some 19, .binOp .gtr 3 (.tmp 18) (.const (.int .i64 60)) 3, 4, none⟩,
  ⟨some 20, .move (.tmp 19), 4, none⟩,
  ⟨some 21, .move (.tmp 1), 9, some (20, false)⟩,
  ⟨some 22, .call { callee := .builtin .len, args := #[.tmp 21], argTypes := #[9] }, 3, some (20, false)⟩,
  ⟨some 23, .binOp .gtr 3 (.tmp 22) (.const (.int .i64 40)) 3, 4, some (20, false)⟩,
  ⟨some 24, .pick (.tmp 20) (.const (.bool true)) (.tmp 23), 4, none⟩]
def r4_4 : List O := [⟨some 4, .assign (.const (.bool true)), 4, none⟩]
def r4_5 : List O := [⟨some 5, .assign (.const (.string ⟨#[]⟩)), 9, none⟩,
  ⟨some 6, .assign (.const (.string ⟨#[]⟩)), 9, none⟩]
def r4_6 : List O := [⟨some 25, .move (.tmp 0), 24, none⟩,
  ⟨some 26, .call { callee := .builtin .len, args := #[.tmp 25], argTypes := #[24] }, 3, none⟩,
  ⟨some 27, .move (.const (.int .i64 0)), 3, none⟩]
def r4_7 : List O := [⟨some 28, .binOp .lss 3 (.tmp 27) (.tmp 26) 3, 0, none⟩]
def r4_8 : List O := [⟨some 29, .move (.tmp 27), 3, none⟩,
  ⟨some 30, .indexAddr 24 (.tmp 25) (.tmp 27), 0, none⟩,
  ⟨some 31, .load 9 (.tmp 30), 9, none⟩,
  ⟨some 7, .assign (.tmp 29), 3, none⟩,
  ⟨some 8, .assign (.tmp 31), 9, none⟩]
def r4_9 : List O := [⟨some 32, .move (.tmp 8), 9, none⟩,
  ⟨some 33, .call { callee := .builtin .len, args := #[.tmp 32], argTypes := #[9] }, 3, none⟩,
  ⟨some 34, .binOp .gtr 3 (.tmp 33) (.const (.int .i64 40)) 3, 4, none⟩]
def r4_10 : List O := [⟨some 4, .assign (.const (.bool true)), 4, none⟩]
def r4_11 : List O := [⟨some 35, .move (.tmp 7), 3, none⟩,
  ⟨some 36, .binOp .rem 3 (.tmp 35) (.const (.int .i64 2)) 3, 3, none⟩,
  ⟨some 37, .binOp .eql 3 (.tmp 36) (.const (.int .i64 0)) 3, 4, none⟩]
def r4_12 : List O := [⟨some 38, .move (.tmp 5), 9, none⟩,
  ⟨some 39, .move (.tmp 8), 9, none⟩,
  ⟨some 40, .call { callee := .value (.func 17), args := #[.tmp 39, .const (.string ⟨#[38]⟩), .const (.string ⟨#[38, 38]⟩)], argTypes := #[9, 9, 9] }, 9, none⟩,
  ⟨some 41, .binOp .add 9 (.tmp 38) (.tmp 40) 9, 9, none⟩,
  ⟨some 5, .assign (.tmp 41), 9, none⟩]
def r4_13 : List O := [⟨some 42, .move (.tmp 6), 9, none⟩,
  ⟨some 43, .move (.tmp 8), 9, none⟩,
  ⟨some 44, .binOp .add 9 (.tmp 42) (.tmp 43) 9, 9, none⟩,
  ⟨some 6, .assign (.tmp 44), 9, none⟩]
def r4_14 : List O := [⟨some 45, .move (.tmp 5), 9, none⟩,
  ⟨some 46, .binOp .add 9 (.tmp 45) (.const (.string ⟨#[38, 68, 65, 89, 49, 59]⟩)) 9, 9, none⟩,
  ⟨some 5, .assign (.tmp 46), 9, none⟩]
def r4_15 : List O := [⟨some 47, .move (.tmp 6), 9, none⟩,
  ⟨some 48, .move (.tmp 1), 9, none⟩,
  ⟨some 49, .binOp .add 9 (.tmp 47) (.tmp 48) 9, 9, none⟩,
  ⟨some 6, .assign (.tmp 49), 9, none⟩]
def r4_16 : List O := [⟨some 50, .binOp .add 3 (.tmp 27) (.const (.int .i64 1)) 3, 3, none⟩,
  ⟨some 27, .move (.tmp 50), 3, none⟩]
def r4_17 : List O := [⟨some 52, .move (.tmp 5), 9, none⟩,
  ⟨some 53, .makeMap 22 none, 22, none⟩,
  ⟨some 54, .move (.tmp 1), 9, none⟩,
  ⟨none, .insert 22 (.tmp 53) (.const (.string ⟨#[68, 65, 89, 49]⟩)) (.tmp 54), 0, none⟩,
  ⟨none, .insert 22 (.tmp 53) (.const (.string ⟨#[68, 65, 89]⟩)) (.const (.string ⟨#[63]⟩)), 0, none⟩,
  ⟨some 55, .move (.tmp 53), 22, none⟩,
  ⟨some 56, .call { callee := .value (.func 12), args := #[.tmp 52, .tmp 55], argTypes := #[9, 22] }, 28, none⟩,
  ⟨some 51, .move (.tmp 56), 28, none⟩,
  ⟨some 57, .extract (.tmp 51) 0, 9, none⟩,
  ⟨some 58, .extract (.tmp 51) 1, 25, none⟩,
  ⟨some 9, .assign (.tmp 57), 9, none⟩,
  ⟨some 10, .assign (.tmp 58), 25, none⟩]
def r4_18 : List O := [⟨some 59, .move (.tmp 6), 9, none⟩,
  ⟨some 60, .call { callee := .builtin .len, args := #[.tmp 59], argTypes := #[9] }, 3, none⟩,
  ⟨some 61, .binOp .gtr 3 (.tmp 60) (.const (.int .i64 1000)) 3, 4, none⟩]
def r4_19 : List O := [⟨some 62, .move (.tmp 10), 25, none⟩,
  ⟨some 63, .binOp .eql 25 (.tmp 62) (.const (.int .i64 8)) 25, 4, none⟩,
  ⟨some 64, .move (.tmp 63), 4, none⟩,
  ⟨some 65, .move (.tmp 9), 9, some (64, true)⟩,
  ⟨some 66, .binOp .eql 9 (.tmp 65) (.const (.string ⟨#[]⟩)) 9, 4, some (64, true)⟩,
  ⟨some 67, .pick (.tmp 64) (.tmp 66) (.const (.bool false)), 4, none⟩,
  ⟨some 4, .assign (.tmp 67), 4, none⟩]
def r4_20 : List O := [⟨some 69, .move (.tmp 5), 9, none⟩,
  ⟨some 70, .binOp .add 9 (.tmp 69) (.const (.string ⟨#[38, 78, 79, 78, 69, 59]⟩)) 9, 9, none⟩,
  ⟨some 71, .makeMap 22 none, 22, none⟩,
  ⟨some 72, .move (.tmp 1), 9, none⟩,
  ⟨none, .insert 22 (.tmp 71) (.const (.string ⟨#[68, 65, 89, 49]⟩)) (.tmp 72), 0, none⟩,
  ⟨some 73, .move (.tmp 71), 22, none⟩,
  ⟨some 74, .call { callee := .value (.func 12), args := #[.tmp 70, .tmp 73], argTypes := #[9, 22] }, 28, none⟩,
  ⟨some 68, .move (.tmp 74), 28, none⟩,
  ⟨some 75, .extract (.tmp 68) 0, 9, none⟩,
  ⟨some 76, .extract (.tmp 68) 1, 25, none⟩,
  ⟨some 11, .assign (.tmp 75), 9, none⟩,
  ⟨some 12, .assign (.tmp 76), 25, none⟩]
def r4_21 : List O := [⟨some 78, .move (.tmp 5), 9, none⟩,
  ⟨some 79, .binOp .add 9 (.tmp 78) (.const (.string ⟨#[38, 68, 65, 89, 49]⟩)) 9, 9, none⟩,
  ⟨some 80, .makeMap 22 none, 22, none⟩,
  ⟨some 81, .move (.tmp 1), 9, none⟩,
  ⟨none, .insert 22 (.tmp 80) (.const (.string ⟨#[68, 65, 89, 49]⟩)) (.tmp 81), 0, none⟩,
  ⟨some 82, .move (.tmp 80), 22, none⟩,
  ⟨some 83, .call { callee := .value (.func 12), args := #[.tmp 79, .tmp 82], argTypes := #[9, 22] }, 28, none⟩,
  ⟨some 77, .move (.tmp 83), 28, none⟩,
  ⟨some 84, .extract (.tmp 77) 0, 9, none⟩,
  ⟨some 85, .extract (.tmp 77) 1, 25, none⟩,
  ⟨some 13, .assign (.tmp 84), 9, none⟩,
  ⟨some 14, .assign (.tmp 85), 25, none⟩]
def r4_22 : List O := [⟨some 86, .move (.tmp 10), 25, none⟩,
  ⟨some 87, .binOp .eql 25 (.tmp 86) (.const (.int .i64 0)) 25, 4, none⟩,
  ⟨some 88, .move (.tmp 87), 4, none⟩,
  ⟨some 89, .move (.tmp 9), 9, some (88, true)⟩,
  ⟨some 90, .move (.tmp 6), 9, some (88, true)⟩,
  ⟨some 91, .binOp .eql 9 (.tmp 89) (.tmp 90) 9, 4, some (88, true)⟩,
  ⟨some 92, .pick (.tmp 88) (.tmp 91) (.const (.bool false)), 4, none⟩,
  ⟨some 93, .move (.tmp 92), 4, none⟩,
  ⟨some 94, .move (.tmp 12), 25, some (93, true)⟩,
  ⟨some 95, .binOp .eql 25 (.tmp 94) (.const (.int .i64 4)) 25, 4, some (93, true)⟩,
  ⟨some 96, .pick (.tmp 93) (.tmp 95) (.const (.bool false)), 4, none⟩,
  ⟨some 97, .move (.tmp 96), 4, none⟩,
  ⟨some 98, .move (.tmp 14), 25, some (97, true)⟩,
  ⟨some 99, .binOp .eql 25 (.tmp 98) (.const (.int .i64 3)) 25, 4, some (97, true)⟩,
  ⟨some 100, .pick (.tmp 97) (.tmp 99) (.const (.bool false)), 4, none⟩,
  ⟨some 4, .assign (.tmp 100), 4, none⟩]
def c4_0 : A := .seq (.reg r4_2 [4]) .ret
def c4_1 : A := .cond (.tmp 16) c4_0 .skip
def c4_2 : A := .seq (.reg r4_4 [4]) .ret
def c4_3 : A := .cond (.tmp 24) c4_2 .skip
def c4_4 : A := .seq (.reg r4_10 [4]) .ret
def c4_5 : A := .cond (.tmp 34) c4_4 .skip
def c4_6 : A := .seq (.reg r4_12 [1, 5, 6, 8, 25, 26, 27]) (.reg r4_13 [1, 5, 6, 25, 26, 27])
def c4_7 : A := .seq (.reg r4_14 [1, 5, 6, 25, 26, 27]) (.reg r4_15 [1, 5, 6, 25, 26, 27])
def c4_8 : A := .cond (.tmp 37) c4_6 c4_7
def c4_9 : A := .seq (.reg r4_11 [1, 5, 6, 8, 25, 26, 27, 37]) c4_8
def c4_10 : A := .seq (.seq (.reg r4_9 [1, 5, 6, 7, 8, 25, 26, 27, 34]) c4_5) (.seq (.keep [1, 5, 6, 7, 8, 25, 26, 27]) c4_9)
def c4_11 : A := .seq (.reg r4_8 [1, 5, 6, 7, 8, 25, 26, 27]) c4_10
def c4_12 : A := .seq (.block 1 c4_11) (.reg r4_16 [1, 5, 6, 25, 26, 27])
def c4_13 : A := .seq (.cond (.tmp 28) .skip (.exit 0)) (.seq (.keep [1, 5, 6, 25, 26, 27]) c4_12)
def c4_14 : A := .seq (.reg r4_7 [1, 5, 6, 25, 26, 27, 28]) c4_13
def c4_15 : A := .seq c4_14 (.keep [1, 5, 6, 25, 26, 27])
def c4_16 : A := .loop c4_15
def c4_17 : A := .block 0 c4_16
def c4_18 : A := .seq (.reg r4_19 [4]) .ret
def c4_19 : A := .cond (.tmp 61) c4_18 .skip
def c4_20 : A := .seq (.reg r4_22 [4]) .ret
def c4_21 : A := .seq (.reg r4_21 [6, 9, 10, 12, 14]) c4_20
def c4_22 : A := .seq (.reg r4_20 [1, 5, 6, 9, 10, 12]) c4_21
def c4_23 : A := .seq (.seq (.reg r4_18 [1, 5, 6, 9, 10, 61]) c4_19) (.seq (.keep [1, 5, 6, 9, 10]) c4_22)
def c4_24 : A := .seq (.reg r4_17 [1, 5, 6, 9, 10]) c4_23
def c4_25 : A := .seq (.seq (.reg r4_6 [1, 5, 6, 25, 26, 27]) c4_17) c4_24
def c4_26 : A := .seq (.reg r4_5 [0, 1, 5, 6]) c4_25
def c4_27 : A := .seq (.seq (.reg r4_3 [0, 1, 24]) c4_3) (.seq (.keep [0, 1]) c4_26)
def c4_28 : A := .seq (.seq (.reg r4_1 [0, 1, 16]) c4_1) (.seq (.keep [0, 1]) c4_27)
def c4 : A := .seq (.reg r4_0 [0, 1]) c4_28
theorem B4 : Body Tryd.prog 4 101 [.tmp 4] c4 := ⟨by kernel_rfl, _, _, [(0, [0, 1]), (1, [0, 1, 16]), (2, [4]), (3, [0, 1, 24]), (4, [4]), (5, [0, 1, 5, 6]), (6, [1, 5, 6, 25, 26, 27]), (7, [1, 5, 6, 25, 26, 27, 28]), (8, [1, 5, 6, 7, 8, 25, 26, 27]), (9, [1, 5, 6, 7, 8, 25, 26, 27, 34]), (10, [4]), (11, [1, 5, 6, 8, 25, 26, 27, 37]), (12, [1, 5, 6, 8, 25, 26, 27]), (13, [1, 5, 6, 25, 26, 27]), (14, [1, 5, 6, 25, 26, 27]), (15, [1, 5, 6, 25, 26, 27]), (16, [1, 5, 6, 25, 26, 27]), (17, [1, 5, 6, 9, 10]), (18, [1, 5, 6, 9, 10, 61]), (19, [4]), (20, [1, 5, 6, 9, 10, 12]), (21, [6, 9, 10, 12, 14]), (22, [4]), (1007, [1, 5, 6, 25, 26, 27]), (2003, [0, 1]), (2005, [0, 1]), (2008, [1, 5, 6, 25, 26, 27]), (2011, [1, 5, 6, 7, 8, 25, 26, 27]), (2020, [1, 5, 6, 9, 10])], Tryd.func4, rfl, rfl, rfl, by kernel_rfl⟩
end Go.Proofs.YtoabcmhiaknjiaaDoor

/- The example that every law of chapter 39 checks first. -/
set_option maxRecDepth 100000
set_option linter.unusedSimpArgs false
set_option linter.unusedVariables false
namespace Go.Proofs.YtoabcmhiaknjiaaDoor
open Go.Hw

theorem knownW_eq (w : List UInt8) : knownW w = (hndL.lookup w).isSome := by
  unfold knownW hndL
  simp only [List.lookup_cons, List.lookup_nil]
  cases w == [115, 101, 116] <;> simp only [Bool.true_or, Bool.false_or, Option.isSome_some]
  cases w == [112, 114, 111, 99] <;> simp only [Bool.true_or, Bool.false_or, Option.isSome_some]
  cases w == [101, 110, 100] <;> simp only [Bool.true_or, Bool.false_or, Option.isSome_some]
  cases w == [99, 97, 108, 108] <;> simp only [Bool.true_or, Bool.false_or, Option.isSome_some]
  cases w == [106, 111, 98] <;> simp only [Bool.true_or, Bool.false_or, Option.isSome_some]
  cases w == [115, 116, 101, 112] <;> simp only [Bool.true_or, Bool.false_or, Option.isSome_some]
  cases w == [100, 100] <;> rfl
theorem known_fun : (fun w => (hndL.lookup w).isSome) = knownW := funext fun w => (knownW_eq w).symm

theorem exStep_row : rowsFrom 0 (linesF exText) = [(1, exStep)] := by rw [exText_lines]; rfl
theorem LF0_step (s : RS) (hs : s.syms = []) (ho : s.out.length < 400) : LF0 s (1, exStep) [] = ({ s with out := s.out ++ [⟨1, [], [[115, 116, 101, 112], [83, 49], [112, 114, 111, 103, 114, 97, 109], [99, 111, 112, 121]], []⟩] }, ⟨0, 0, 0⟩) := by
  unfold LF0 lineR
  rw [hs, exStep_word]
  have e : stmF s.out [] 1 [] [[115, 116, 101, 112], [83, 49], [112, 114, 111, 103, 114, 97, 109], [99, 111, 112, 121]] = (s.out ++ [⟨1, [], [[115, 116, 101, 112], [83, 49], [112, 114, 111, 103, 114, 97, 109], [99, 111, 112, 121]], []⟩], ⟨0, 0, 0⟩) := by
    unfold stmF
    rw [if_neg (by omega), if_neg (by decide)]
  simp only [e]
  rw [if_pos (by decide)]
theorem exText_exp : expandF LF0 exText = ([⟨1, [], [[115, 116, 101, 112], [83, 49], [112, 114, 111, 103, 114, 97, 109], [99, 111, 112, 121]], []⟩], 0, 0) := by
  unfold expandF
  rw [exStep_row, exText_lines]
  rw [if_neg (by decide)]
  simp only [List.length_singleton, readT, LF0_step ⟨[], [], []⟩ rfl (by decide), if_true]
  rfl

theorem Rdr.stm {B0 R ms mp : Nat} {H H' : Hp} {s : RS} {out : List Stm} (h : Rdr B0 R ms mp H s) (k : FrJ B0 (fun _ => False) H H') (ho : RdrO B0 R ms mp H' out) : Rdr B0 R ms mp H' { s with out := out } := by
  have hm : ∀ (r : Nat) (l : List (List UInt8 × Value)), MapC H r l → MapC H' r l := fun r l hr => MapC.ko hr k fun es kk hh => by
    rcases hh.2 with ⟨c, f, h3 | h3⟩ | ⟨h3, _⟩
    · cases h3
    · cases h3
    · exact h3
  obtain ⟨ho', hs, ⟨l, hl, hf⟩, b1, b2, b3⟩ := h
  exact ⟨ho, hm _ _ hs, ⟨l, hm _ _ hl, hf.imp fun p x ⟨e, mv, rv, h1, h2, h3, h4, h5, h6⟩ => ⟨e, mv, rv, h1, hm _ _ h2, h3, h4, h5, h6.frJ k⟩⟩, b1, b2, b3⟩

theorem stmF_len {out : List Stm} {call : List UInt8} {k : Nat} {rest : List Row} {words : List (List UInt8)} (h : out.length ≤ 400) : (stmF out call k rest words).1.length ≤ 400 := by
  unfold stmF
  split
  · exact h
  · split
    · split
      · exact h
      · simp; omega
    · simp; omega

/-- A line that is a statement. -/
theorem LF0_line {B0 R ms mp kn k : Nat} {s : RS} {G : Hp} {rv : Value} {t w : List UInt8} {ws : List (List UInt8)} {rest : List Row} {K2 : Ending → Hp → Prop} (hB0 : 0 < B0) (h1 : s.syms = []) (h2 : s.out.length ≤ 400) (hBG : B0 ≤ G.size) (hg : G0 G) (hrd : Rdr B0 R ms mp G s) (hmk : MapC G kn hndL) (hrv : RowsV G rv ((k, t) :: rest))
    (hrl : rest.length ≤ 1000000) (ht : t.length ≤ 1000000) (hlr : ∀ x ∈ rest, x.2.length ≤ 1000000000) (hw : lineW (fun x => List.lookup x ([] : List (List UInt8 × List UInt8))) t = .ok (w :: ws)) (hlw : hndL.lookup w = some (fnV 90))
    (hk : ∀ G', FrJ B0 (MM ms mp) G G' → Rdr B0 R ms mp G' (LF0 s (k, t) rest).1 → K2 (.returned (.tuple #[.int .i64 (LF0 s (k, t) rest).2.n, .agg #[.int .i64 (LF0 s (k, t) rest).2.line, .int .i64 (LF0 s (k, t) rest).2.code]])) G') :
    HCall Tryd.prog 63 #[.pointer (some ⟨R, 0, none⟩), .map (some kn), .agg #[rv, .string (B []), .bool false]] G K2 := by
  refine line_c (fun ws => ({ s with out := (stmF s.out [] k rest ws).1 }, (stmF s.out [] k rest ws).2)) hrd hB0 hg hmk hrv ht (by rw [h1]; simp) ?_ ?_
  · intro w' ws' f hl hlk G1 wv K3 E hwv hlen hk3
    rw [h1, hw] at hl
    simp only [Except.ok.injEq, List.cons.injEq] at hl
    obtain ⟨rfl, rfl⟩ := hl
    have hf : f = 90 := by
      rw [hlw] at hlk
      simp only [fnV, Option.some.injEq, Value.func.injEq, Fn.func.injEq, and_true] at hlk
      exact hlk.symm
    subst hf
    exact statement_c (hrd.ext E).out (by have := E.size; omega) (hrv.ext E) hrl hlr hwv (by simp) hlen (by omega) fun G' f1 f2 => hk3 G' (f1.mono fun x o ⟨a, b⟩ => ⟨a, b.imp_right fun c => c.1.elim⟩) ((hrd.ext E).stm f1 f2)
  · rw [known_fun]
    exact hk

theorem exText_c {H : Hp} {K : Ending → Hp → Prop} (g : G0 H) (h : ∀ G v, Ext H G → StmsV G v [⟨1, [], [[115, 116, 101, 112], [83, 49], [112, 114, 111, 103, 114, 97, 109], [99, 111, 112, 121]], []⟩] → K (.returned (.tuple #[v, .int .i64 0, .int .i64 0])) G) :
    HCall Tryd.prog 19 #[.string (B exText)] H K := by
  refine expand_c LF0 (fun s => s.syms = [] ∧ s.out.length ≤ 400) (fun r => r = [(1, exStep)] ∨ r = []) g (by decide) ⟨rfl, by decide⟩ (.inl exStep_row) ?_ ?_ ?_
  · rintro s x rest ⟨h1, h2⟩ hr _
    rcases hr with hr | hr
    · simp only [List.cons.injEq] at hr
      obtain ⟨rfl, rfl⟩ := hr
      have e : LF0 s (1, exStep) [] = ({ s with out := (stmF s.out [] 1 [] [[115, 116, 101, 112], [83, 49], [112, 114, 111, 103, 114, 97, 109], [99, 111, 112, 121]]).1 }, (stmF s.out [] 1 [] [[115, 116, 101, 112], [83, 49], [112, 114, 111, 103, 114, 97, 109], [99, 111, 112, 121]]).2) := by
        unfold LF0 lineR
        rw [h1, exStep_word]
        simp only
        rw [if_pos (by decide)]
      rw [e]
      refine ⟨⟨h1, stmF_len h2⟩, ?_, .inr (by simp)⟩
      unfold stmF
      split
      · exact Nat.le_refl _
      · rw [if_neg (by decide)]; exact Nat.le_refl _
    · cases hr
  · rintro B0 R ms mp s G rv k t rest kn K2 hB0 ⟨h1, h2⟩ hrw hBG hg hrd hmk hrv hrl hk
    rcases hrw with hrw | hrw
    · simp only [List.cons.injEq, Prod.mk.injEq] at hrw
      obtain ⟨⟨rfl, rfl⟩, rfl⟩ := hrw
      exact LF0_line hB0 h1 h2 hBG hg hrd hmk hrv hrl (by decide) (by simp) exStep_word rfl hk
    · cases hrw
  · rw [exText_exp]
    intro G v e hs _
    exact h G v e hs

theorem awake_c {H : Hp} {K : Ending → Hp → Prop} (g : G0 H) (h : ∀ G, Ext H G → K (.returned (.bool true)) G) : HCall Tryd.prog 9 #[] H K := by
  refine hcall mixed B9 (args := []) (by simp) ?_
  simp only [go_sem, reduceCtorEq, Nat.reduceEqDiff, Nat.reduceAdd, withc_some, withcs_some, cells_0, cells_s, Option.bind_some, Option.map_some, List.getElem?_toArray, List.getElem?_cons_zero, List.getElem?_cons_succ, Nat.add_zero, Nat.zero_add, Value.cells, splice, List.setIfInBounds_toArray, List.set_cons_zero, List.set_cons_succ, bfill_nil, bfill_cons, bstep_some, withO_some, List.take_zero, List.take_succ_cons, List.drop_zero, List.drop_succ_cons, List.cons_append, List.nil_append, List.append_nil, List.length_cons, List.length_nil, Nat.reduceLeDiff, Nat.le_refl, and_true, true_and, and_self, decide_true, decide_false, Bool.not_true, Bool.not_false, c9, r9_0, c9_3, r9_1, callA_fn0 pl10]
  refine scan exScan H (by decide) fun G1 v e E1 hs => ?_
  unfold ScanR at hs
  rw [exScan_eq] at hs
  obtain ⟨rfl, own⟩ := hs
  obtain ⟨va, vc, rfl⟩ := own.form
  have own' : SlV G1 _ _ := SlE.own own
  simp only [go_sem, reduceCtorEq, Nat.reduceEqDiff, Nat.reduceAdd, withc_some, withcs_some, cells_0, cells_s, Option.bind_some, Option.map_some, List.getElem?_toArray, List.getElem?_cons_zero, List.getElem?_cons_succ, Nat.add_zero, Nat.zero_add, Value.cells, splice, List.setIfInBounds_toArray, List.set_cons_zero, List.set_cons_succ, bfill_nil, bfill_cons, bstep_some, withO_some, List.take_zero, List.take_succ_cons, List.drop_zero, List.drop_succ_cons, List.cons_append, List.nil_append, List.append_nil, List.length_cons, List.length_nil, Nat.reduceLeDiff, Nat.le_refl, and_true, true_and, and_self, decide_true, decide_false, Bool.not_true, Bool.not_false, c9_2, r9_2, opA_makeMap, opA_insert, B_lit, callA_fn0 pl10, callA_fn0 pl12]
  have m0 : MapC (G1.push (.map #[] 0)) G1.size [] := MapC.new
  have e0 : Ext G1 (G1.push (.map #[] 0)) := Ext.push _ _
  generalize G1.push (.map #[] 0) = G2 at *
  generalize hm : G1.size = m at *
  refine mupA_ok Tryd.underlying22 uStr m0 fun G3 m1 k1 => ?_
  have e1 : Ext G1 G3 := k1.two e0 (by omega)
  simp only [go_sem, reduceCtorEq, Nat.reduceEqDiff, Nat.reduceAdd, withc_some, withcs_some, cells_0, cells_s, Option.bind_some, Option.map_some, List.getElem?_toArray, List.getElem?_cons_zero, List.getElem?_cons_succ, Nat.add_zero, Nat.zero_add, Value.cells, splice, List.setIfInBounds_toArray, List.set_cons_zero, List.set_cons_succ, bfill_nil, bfill_cons, bstep_some, withO_some, List.take_zero, List.take_succ_cons, List.drop_zero, List.drop_succ_cons, List.cons_append, List.nil_append, List.append_nil, List.length_cons, List.length_nil, Nat.reduceLeDiff, Nat.le_refl, and_true, true_and, and_self, decide_true, decide_false, Bool.not_true, Bool.not_false, callA_fn0 pl10, callA_fn0 pl12]
  refine replace_c exRepl (.map (some m)) [([68, 65, 89], [55])] G3 (by decide) (by decide) (g.ext (E1.trans e1)) (.inr ⟨m, rfl, m1.o⟩) fun G4 E4 => ?_
  rw [show replR (fun x => List.lookup x [([68, 65, 89], [55])]) exRepl = ([100, 100, 32, 79, 85, 84, 32, 100, 97, 116, 97, 32, 80, 65, 89, 46, 68, 55, 32, 110, 101, 119], 0) from exRepl_eq]
  simp only [go_sem, reduceCtorEq, Nat.reduceEqDiff, Nat.reduceAdd, withc_some, withcs_some, cells_0, cells_s, Option.bind_some, Option.map_some, List.getElem?_toArray, List.getElem?_cons_zero, List.getElem?_cons_succ, Nat.add_zero, Nat.zero_add, Value.cells, splice, List.setIfInBounds_toArray, List.set_cons_zero, List.set_cons_succ, bfill_nil, bfill_cons, bstep_some, withO_some, List.take_zero, List.take_succ_cons, List.drop_zero, List.drop_succ_cons, List.cons_append, List.nil_append, List.append_nil, List.length_cons, List.length_nil, Nat.reduceLeDiff, Nat.le_refl, and_true, true_and, and_self, decide_true, decide_false, Bool.not_true, Bool.not_false, c9_1, r9_3, callA_fn0 pl10, callA_fn0 pl12, callA_fn0 pl19]
  refine exText_c (g.ext (E1.trans (e1.trans E4))) fun G5 v5 E5 hst => ?_
  obtain ⟨cells, hsl, hst⟩ := hst
  obtain ⟨b5, off5, vc5, rfl, hcell⟩ := hsl.cell (i := 0) (by decide)
  obtain ⟨u, hu, hcell⟩ := hcell 0 (by decide)
  obtain ⟨wv, dv, rest, rfl, _⟩ := hst
  cases hu
  replace hcell : cellH G5 ⟨b5, off5, none⟩ = some (.int .i64 ((1 : Nat) : Int)) := hcell
  have E15 := e1.trans (E4.trans E5)
  obtain ⟨wb, woff, wc', ew, w1⟩ := (own'.ext E15).at (i := 5) (w := [98, 121, 32, 49, 32, 56]) rfl
  cases ew
  simp only [go_sem, reduceCtorEq, Nat.reduceEqDiff, Nat.reduceAdd, withc_some, withcs_some, cells_0, cells_s, Option.bind_some, Option.map_some, List.getElem?_toArray, List.getElem?_cons_zero, List.getElem?_cons_succ, Nat.add_zero, Nat.zero_add, Value.cells, splice, List.setIfInBounds_toArray, List.set_cons_zero, List.set_cons_succ, bfill_nil, bfill_cons, bstep_some, withO_some, List.take_zero, List.take_succ_cons, List.drop_zero, List.drop_succ_cons, List.cons_append, List.nil_append, List.append_nil, List.length_cons, List.length_nil, Nat.reduceLeDiff, Nat.le_refl, and_true, true_and, and_self, decide_true, decide_false, Bool.not_true, Bool.not_false, c9_0, r9_4, List.length_cons, List.length_nil, show decide (((0 + 1 + 1 + 1 + 1 + 1 + 1 : Nat) : Int) = 6) = true from rfl, show decide ((0 : Int) = 0) = true from rfl, show decide (((0 + 1 : Nat) : Int) = 1) = true from rfl, callA_fn0 pl10, callA_fn0 pl12, callA_fn0 pl15, callA_fn0 pl19, fa40_0, ld3, ld9, len_slice Tryd.underlying24, len_slice Tryd.underlying36]
  rw [iadA_slice uStrs ty9 (by omega) (by simp)]
  have hb1 : (([98, 121, 32, 49, 32, 56] : List UInt8) == [98, 121, 32, 49, 32, 56]) = true := rfl
  have hb2 : (([100, 100, 32, 79, 85, 84, 32, 100, 97, 116, 97, 32, 80, 65, 89, 46, 68, 55, 32, 110, 101, 119] : List UInt8) == [100, 100, 32, 79, 85, 84, 32, 100, 97, 116, 97, 32, 80, 65, 89, 46, 68, 55, 32, 110, 101, 119]) = true := rfl
  simp only [go_sem, reduceCtorEq, Nat.reduceEqDiff, Nat.reduceAdd, withc_some, withcs_some, cells_0, cells_s, Option.bind_some, Option.map_some, List.getElem?_toArray, List.getElem?_cons_zero, List.getElem?_cons_succ, Nat.add_zero, Nat.zero_add, Value.cells, splice, List.setIfInBounds_toArray, List.set_cons_zero, List.set_cons_succ, bfill_nil, bfill_cons, bstep_some, withO_some, List.take_zero, List.take_succ_cons, List.drop_zero, List.drop_succ_cons, List.cons_append, List.nil_append, List.append_nil, List.length_cons, List.length_nil, Nat.reduceLeDiff, Nat.le_refl, and_true, true_and, and_self, decide_true, decide_false, Bool.not_true, Bool.not_false, add_none, show Int.toNat 5 = 5 from rfl, Nat.mul_one, w1, B_lit, B_toList, hb1, hb2, show decide (((1 : Nat) : Int) = 1) = true from rfl, callA_fn0 pl10, callA_fn0 pl12, callA_fn0 pl15, callA_fn0 pl19, fa40_0, ld3, ld9, len_slice Tryd.underlying24, len_slice Tryd.underlying36]
  rw [iadA_slice Tryd.underlying36 ty40 (by omega) (by simp)]
  simp only [go_sem, reduceCtorEq, Nat.reduceEqDiff, Nat.reduceAdd, withc_some, withcs_some, cells_0, cells_s, Option.bind_some, Option.map_some, List.getElem?_toArray, List.getElem?_cons_zero, List.getElem?_cons_succ, Nat.add_zero, Nat.zero_add, Value.cells, splice, List.setIfInBounds_toArray, List.set_cons_zero, List.set_cons_succ, bfill_nil, bfill_cons, bstep_some, withO_some, List.take_zero, List.take_succ_cons, List.drop_zero, List.drop_succ_cons, List.cons_append, List.nil_append, List.append_nil, List.length_cons, List.length_nil, Nat.reduceLeDiff, Nat.le_refl, and_true, true_and, and_self, decide_true, decide_false, Bool.not_true, Bool.not_false, add_none, Int.toNat_zero, Nat.zero_mul, hcell, show decide (((1 : Nat) : Int) = 1) = true from rfl, B_lit, callA_fn0 pl10, callA_fn0 pl12, callA_fn0 pl15, callA_fn0 pl19, fa40_0, ld3, ld9, len_slice Tryd.underlying24, len_slice Tryd.underlying36]
  refine quote_c [97, 32, 98] (by decide) (g.ext (E1.trans E15)) fun G6 E6 => ?_
  rw [exQuote_eq]
  have hb3 : (([39, 97, 32, 98, 39] : List UInt8) == [39, 97, 32, 98, 39]) = true := rfl
  simp only [go_sem, reduceCtorEq, Nat.reduceEqDiff, Nat.reduceAdd, withc_some, withcs_some, cells_0, cells_s, Option.bind_some, Option.map_some, List.getElem?_toArray, List.getElem?_cons_zero, List.getElem?_cons_succ, Nat.add_zero, Nat.zero_add, Value.cells, splice, List.setIfInBounds_toArray, List.set_cons_zero, List.set_cons_succ, bfill_nil, bfill_cons, bstep_some, withO_some, List.take_zero, List.take_succ_cons, List.drop_zero, List.drop_succ_cons, List.cons_append, List.nil_append, List.append_nil, List.length_cons, List.length_nil, Nat.reduceLeDiff, Nat.le_refl, and_true, true_and, and_self, decide_true, decide_false, Bool.not_true, Bool.not_false, B_lit, B_toList, hb3, callA_fn0 pl10, callA_fn0 pl12, callA_fn0 pl15, callA_fn0 pl19, fa40_0, ld3, ld9, len_slice Tryd.underlying24, len_slice Tryd.underlying36]
  exact h G6 ((E1.trans E15).trans E6)
end Go.Proofs.YtoabcmhiaknjiaaDoor

set_option maxRecDepth 100000
namespace Go.Proofs.YtoabcmhiaknjiaaDoor
open Go.Hw
/-! ### 6 dasd/dasdlaw39.JobtextData -/
def r6_0 : List O := [⟨some 4, .assign (.const (.bool false)), 4, none⟩]
def r6_1 : List O := [⟨some 15, .call { callee := .value (.func 9), args := #[], argTypes := #[] }, 4, none⟩,
  ⟨some 16, .unOp .not 4 (.tmp 15), 4, none⟩]
def r6_2 : List O := [⟨some 4, .assign (.const (.bool false)), 4, none⟩]
def r6_3 : List O := [⟨some 17, .move (.tmp 0), 24, none⟩,
  ⟨some 18, .call { callee := .builtin .len, args := #[.tmp 17], argTypes := #[24] }, 3, none⟩,
  ⟨some 19, .binOp .gtr 3 (.tmp 18) (.const (.int .i64 64)) 3, 4, none⟩]
def r6_4 : List O := [⟨some 4, .assign (.const (.bool true)), 4, none⟩]
def r6_5 : List O := [⟨some 5, .assign (.const (.string ⟨#[100, 100, 32, 73, 78, 32, 105, 110, 108, 105, 110, 101, 10]⟩)), 9, none⟩]
def r6_6 : List O := [⟨some 20, .move (.tmp 0), 24, none⟩,
  ⟨some 21, .call { callee := .builtin .len, args := #[.tmp 20], argTypes := #[24] }, 3, none⟩,
  ⟨some 22, .move (.const (.int .i64 0)), 3, none⟩]
def r6_7 : List O := [⟨some 23, .binOp .lss 3 (.tmp 22) (.tmp 21) 3, 0, none⟩]
def r6_8 : List O := [⟨some 24, .indexAddr 24 (.tmp 20) (.tmp 22), 0, none⟩,
  ⟨some 25, .load 9 (.tmp 24), 9, none⟩,
  ⟨some 7, .assign (.tmp 25), 9, none⟩]
def r6_9 : List O := [⟨some 26, .move (.tmp 7), 9, none⟩,
  ⟨some 27, .call { callee := .builtin .len, args := #[.tmp 26], argTypes := #[9] }, 3, none⟩,
  ⟨some 28, .binOp .gtr 3 (.tmp 27) (.const (.int .i64 200)) 3, 4, none⟩,
  ⟨some 29, .move (.tmp 28), 4, none⟩,
  ⟨some 30, .move (.tmp 7), 9, some (29, false)⟩,
  ⟨some 31, .binOp .eql 9 (.tmp 30) (.const (.string ⟨#[47, 42]⟩)) 9, 4, some (29, false)⟩,
  ⟨some 32, .pick (.tmp 29) (.const (.bool true)) (.tmp 31), 4, none⟩,
  ⟨some 33, .move (.tmp 32), 4, none⟩,
  ⟨some 34, .move (.tmp 7), 9, some (33, false)⟩,
  ⟨some 35, .call { callee := .value (.func 18), args := #[.tmp 34, .const (.string ⟨#[10]⟩)], argTypes := #[9, 9] }, 4, some (33, false)⟩,
  ⟨some 36, .pick (.tmp 33) (.const (.bool true)) (.tmp 35), 4, none⟩]
def r6_10 : List O := [⟨some 4, .assign (.const (.bool true)), 4, none⟩]
def r6_11 : List O := [⟨some 37, .move (.tmp 5), 9, none⟩,
  ⟨some 38, .move (.tmp 7), 9, none⟩,
  ⟨some 39, .binOp .add 9 (.tmp 38) (.const (.string ⟨#[10]⟩)) 9, 9, none⟩,
  ⟨some 40, .binOp .add 9 (.tmp 37) (.tmp 39) 9, 9, none⟩,
  ⟨some 5, .assign (.tmp 40), 9, none⟩]
def r6_12 : List O := [⟨some 41, .binOp .add 3 (.tmp 22) (.const (.int .i64 1)) 3, 3, none⟩,
  ⟨some 22, .move (.tmp 41), 3, none⟩]
def r6_13 : List O := [⟨some 42, .move (.tmp 1), 5, none⟩,
  ⟨some 43, .binOp .rem 5 (.tmp 42) (.const (.int .u8 70)) 5, 5, none⟩,
  ⟨some 44, .move (.const (.int .u8 0)), 5, none⟩]
def r6_14 : List O := [⟨some 45, .binOp .lss 5 (.tmp 44) (.tmp 43) 5, 4, none⟩]
def r6_15 : List O := [⟨some 46, .move (.tmp 5), 9, none⟩,
  ⟨some 47, .binOp .add 9 (.tmp 46) (.const (.string ⟨#[35, 10]⟩)) 9, 9, none⟩,
  ⟨some 5, .assign (.tmp 47), 9, none⟩]
def r6_16 : List O := [⟨some 48, .binOp .add 5 (.tmp 44) (.const (.int .u8 1)) 5, 5, none⟩,
  ⟨some 44, .move (.tmp 48), 5, none⟩]
def r6_17 : List O := [⟨some 50, .move (.tmp 5), 9, none⟩,
  ⟨some 51, .binOp .add 9 (.tmp 50) (.const (.string ⟨#[47, 42, 10, 115, 116, 101, 112, 32, 83, 10]⟩)) 9, 9, none⟩,
  ⟨some 52, .call { callee := .value (.func 19), args := #[.tmp 51], argTypes := #[9] }, 37, none⟩,
  ⟨some 49, .move (.tmp 52), 37, none⟩,
  ⟨some 53, .extract (.tmp 49) 0, 36, none⟩,
  ⟨some 54, .extract (.tmp 49) 1, 3, none⟩,
  ⟨some 55, .extract (.tmp 49) 2, 25, none⟩,
  ⟨some 8, .assign (.tmp 53), 36, none⟩,
  ⟨some 9, .assign (.tmp 54), 3, none⟩,
  ⟨some 10, .assign (.tmp 55), 25, none⟩]
def r6_18 : List O := [⟨some 57, .move (.tmp 5), 9, none⟩,
  ⟨some 58, .call { callee := .value (.func 19), args := #[.tmp 57], argTypes := #[9] }, 37, none⟩,
  ⟨some 56, .move (.tmp 58), 37, none⟩,
  ⟨some 59, .extract (.tmp 56) 0, 36, none⟩,
  ⟨some 60, .extract (.tmp 56) 1, 3, none⟩,
  ⟨some 61, .extract (.tmp 56) 2, 25, none⟩,
  ⟨some 11, .assign (.tmp 59), 36, none⟩,
  ⟨some 12, .assign (.tmp 60), 3, none⟩,
  ⟨some 13, .assign (.tmp 61), 25, none⟩]
def r6_19 : List O := [⟨some 62, .move (.tmp 0), 24, none⟩,
  ⟨some 63, .call { callee := .builtin .len, args := #[.tmp 62], argTypes := #[24] }, 3, none⟩,
  ⟨some 64, .move (.tmp 1), 5, none⟩,
  ⟨some 65, .binOp .rem 5 (.tmp 64) (.const (.int .u8 70)) 5, 5, none⟩,
  ⟨some 66, .convert 5 3 (.tmp 65), 3, none⟩,
  ⟨some 67, .binOp .add 3 (.tmp 63) (.tmp 66) 3, 3, none⟩,
  ⟨some 14, .assign (.tmp 67), 3, none⟩]
def r6_20 : List O := [⟨some 68, .move (.tmp 5), 9, none⟩,
  ⟨some 69, .call { callee := .builtin .len, args := #[.tmp 68], argTypes := #[9] }, 3, none⟩,
  ⟨some 70, .binOp .gtr 3 (.tmp 69) (.const (.int .i64 16000)) 3, 4, none⟩]
def r6_21 : List O := [⟨some 4, .assign (.const (.bool true)), 4, none⟩]
def r6_22 : List O := [⟨some 71, .move (.tmp 14), 3, none⟩,
  ⟨some 72, .binOp .gtr 3 (.tmp 71) (.const (.int .i64 64)) 3, 4, none⟩]
def r6_23 : List O := [⟨some 73, .move (.tmp 10), 25, none⟩,
  ⟨some 74, .binOp .eql 25 (.tmp 73) (.const (.int .i64 8)) 25, 4, none⟩,
  ⟨some 75, .move (.tmp 74), 4, none⟩,
  ⟨some 76, .move (.tmp 9), 3, some (75, true)⟩,
  ⟨some 77, .binOp .eql 3 (.tmp 76) (.const (.int .i64 66)) 3, 4, some (75, true)⟩,
  ⟨some 78, .pick (.tmp 75) (.tmp 77) (.const (.bool false)), 4, none⟩,
  ⟨some 79, .move (.tmp 78), 4, none⟩,
  ⟨some 80, .move (.tmp 13), 25, some (79, true)⟩,
  ⟨some 81, .binOp .eql 25 (.tmp 80) (.const (.int .i64 8)) 25, 4, some (79, true)⟩,
  ⟨some 82, .pick (.tmp 79) (.tmp 81) (.const (.bool false)), 4, none⟩,
  ⟨some 83, .move (.tmp 82), 4, none⟩,
  ⟨some 84, .move (.tmp 12), 3, some (83, true)⟩,
  ⟨some 85, .binOp .eql 3 (.tmp 84) (.const (.int .i64 66)) 3, 4, some (83, true)⟩,
  ⟨some 86, .pick (.tmp 83) (.tmp 85) (.const (.bool false)), 4, none⟩,
  ⟨some 87, .move (.tmp 86), 4, none⟩,
  ⟨some 88, .move (.tmp 8), 36, some (87, true)⟩,
  ⟨some 89, .call { callee := .builtin .len, args := #[.tmp 88], argTypes := #[36] }, 3, some (87, true)⟩,
  ⟨some 90, .move (.tmp 11), 36, some (87, true)⟩,
  ⟨some 91, .call { callee := .builtin .len, args := #[.tmp 90], argTypes := #[36] }, 3, some (87, true)⟩,
  ⟨some 92, .binOp .add 3 (.tmp 89) (.tmp 91) 3, 3, some (87, true)⟩,
  ⟨some 93, .binOp .eql 3 (.tmp 92) (.const (.int .i64 0)) 3, 4, some (87, true)⟩,
  ⟨some 94, .pick (.tmp 87) (.tmp 93) (.const (.bool false)), 4, none⟩,
  ⟨some 4, .assign (.tmp 94), 4, none⟩]
def r6_24 : List O := [⟨some 95, .move (.tmp 10), 25, none⟩,
  ⟨some 96, .binOp .eql 25 (.tmp 95) (.const (.int .i64 0)) 25, 4, none⟩,
  ⟨some 97, .move (.tmp 96), 4, none⟩,
  ⟨some 98, .move (.tmp 9), 3, some (97, true)⟩,
  ⟨some 99, .binOp .eql 3 (.tmp 98) (.const (.int .i64 0)) 3, 4, some (97, true)⟩,
  ⟨some 100, .pick (.tmp 97) (.tmp 99) (.const (.bool false)), 4, none⟩,
  ⟨some 101, .move (.tmp 100), 4, none⟩,
  ⟨some 102, .move (.tmp 8), 36, some (101, true)⟩,
  ⟨some 103, .call { callee := .builtin .len, args := #[.tmp 102], argTypes := #[36] }, 3, some (101, true)⟩,
  ⟨some 104, .binOp .eql 3 (.tmp 103) (.const (.int .i64 2)) 3, 4, some (101, true)⟩,
  ⟨some 105, .pick (.tmp 101) (.tmp 104) (.const (.bool false)), 4, none⟩,
  ⟨some 106, .move (.tmp 105), 4, none⟩,
  ⟨some 107, .move (.tmp 8), 36, some (106, true)⟩,
  ⟨some 108, .indexAddr 36 (.tmp 107) (.const (.int .i64 0)), 0, some (106, true)⟩,
  ⟨some 109, .fieldAddr 40 (.tmp 108) 3, 0, some (106, true)⟩,
  ⟨some 110, .load 24 (.tmp 109), 24, some (106, true)⟩,
  ⟨some 111, .call { callee := .builtin .len, args := #[.tmp 110], argTypes := #[24] }, 3, some (106, true)⟩,
  ⟨some 112, .move (.tmp 14), 3, some (106, true)⟩,
  ⟨some 113, .binOp .eql 3 (.tmp 111) (.tmp 112) 3, 4, some (106, true)⟩,
  ⟨some 114, .pick (.tmp 106) (.tmp 113) (.const (.bool false)), 4, none⟩,
  ⟨some 115, .move (.tmp 114), 4, none⟩,
  ⟨some 116, .move (.tmp 8), 36, some (115, true)⟩,
  ⟨some 117, .indexAddr 36 (.tmp 116) (.const (.int .i64 0)), 0, some (115, true)⟩,
  ⟨some 118, .fieldAddr 40 (.tmp 117) 3, 0, some (115, true)⟩,
  ⟨some 119, .load 24 (.tmp 118), 24, some (115, true)⟩,
  ⟨some 120, .move (.tmp 0), 24, some (115, true)⟩,
  ⟨some 121, .call { callee := .builtin .len, args := #[.tmp 120], argTypes := #[24] }, 3, some (115, true)⟩,
  ⟨some 122, .slice 24 (.tmp 119) none (some (.tmp 121)) none, 24, some (115, true)⟩,
  ⟨some 123, .move (.tmp 0), 24, some (115, true)⟩,
  ⟨some 124, .call { callee := .value (.func 14), args := #[.tmp 122, .tmp 123], argTypes := #[24, 24] }, 4, some (115, true)⟩,
  ⟨some 125, .pick (.tmp 115) (.tmp 124) (.const (.bool false)), 4, none⟩,
  ⟨some 126, .move (.tmp 125), 4, none⟩,
  ⟨some 127, .move (.tmp 8), 36, some (126, true)⟩,
  ⟨some 128, .indexAddr 36 (.tmp 127) (.const (.int .i64 1)), 0, some (126, true)⟩,
  ⟨some 129, .fieldAddr 40 (.tmp 128) 0, 0, some (126, true)⟩,
  ⟨some 130, .load 3 (.tmp 129), 3, some (126, true)⟩,
  ⟨some 131, .move (.tmp 14), 3, some (126, true)⟩,
  ⟨some 132, .binOp .add 3 (.tmp 131) (.const (.int .i64 3)) 3, 3, some (126, true)⟩,
  ⟨some 133, .binOp .eql 3 (.tmp 130) (.tmp 132) 3, 4, some (126, true)⟩,
  ⟨some 134, .pick (.tmp 126) (.tmp 133) (.const (.bool false)), 4, none⟩,
  ⟨some 135, .move (.tmp 134), 4, none⟩,
  ⟨some 136, .move (.tmp 13), 25, some (135, true)⟩,
  ⟨some 137, .binOp .eql 25 (.tmp 136) (.const (.int .i64 3)) 25, 4, some (135, true)⟩,
  ⟨some 138, .pick (.tmp 135) (.tmp 137) (.const (.bool false)), 4, none⟩,
  ⟨some 139, .move (.tmp 138), 4, none⟩,
  ⟨some 140, .move (.tmp 12), 3, some (139, true)⟩,
  ⟨some 141, .binOp .eql 3 (.tmp 140) (.const (.int .i64 1)) 3, 4, some (139, true)⟩,
  ⟨some 142, .pick (.tmp 139) (.tmp 141) (.const (.bool false)), 4, none⟩,
  ⟨some 4, .assign (.tmp 142), 4, none⟩]
def c6_0 : A := .seq (.reg r6_2 [4]) .ret
def c6_1 : A := .cond (.tmp 16) c6_0 .skip
def c6_2 : A := .seq (.reg r6_4 [4]) .ret
def c6_3 : A := .cond (.tmp 19) c6_2 .skip
def c6_4 : A := .seq (.reg r6_10 [4]) .ret
def c6_5 : A := .cond (.tmp 36) c6_4 .skip
def c6_6 : A := .seq (.seq (.reg r6_9 [0, 1, 5, 7, 20, 21, 22, 36]) c6_5) (.seq (.keep [0, 1, 5, 7, 20, 21, 22]) (.reg r6_11 [0, 1, 5, 20, 21, 22]))
def c6_7 : A := .seq (.reg r6_8 [0, 1, 5, 7, 20, 21, 22]) c6_6
def c6_8 : A := .seq (.block 1 c6_7) (.reg r6_12 [0, 1, 5, 20, 21, 22])
def c6_9 : A := .seq (.cond (.tmp 23) .skip (.exit 0)) (.seq (.keep [0, 1, 5, 20, 21, 22]) c6_8)
def c6_10 : A := .seq (.reg r6_7 [0, 1, 5, 20, 21, 22, 23]) c6_9
def c6_11 : A := .seq c6_10 (.keep [0, 1, 5, 20, 21, 22])
def c6_12 : A := .loop c6_11
def c6_13 : A := .block 0 c6_12
def c6_14 : A := .seq (.block 3 (.reg r6_15 [0, 1, 5, 43, 44])) (.reg r6_16 [0, 1, 5, 43, 44])
def c6_15 : A := .seq (.cond (.tmp 45) .skip (.exit 2)) (.seq (.keep [0, 1, 5, 43, 44]) c6_14)
def c6_16 : A := .seq (.reg r6_14 [0, 1, 5, 43, 44, 45]) c6_15
def c6_17 : A := .seq c6_16 (.keep [0, 1, 5, 43, 44])
def c6_18 : A := .loop c6_17
def c6_19 : A := .block 2 c6_18
def c6_20 : A := .seq (.reg r6_21 [4]) .ret
def c6_21 : A := .cond (.tmp 70) c6_20 .skip
def c6_22 : A := .seq (.reg r6_23 [4]) .ret
def c6_23 : A := .cond (.tmp 72) c6_22 .skip
def c6_24 : A := .seq (.reg r6_24 [4]) .ret
def c6_25 : A := .seq (.seq (.reg r6_22 [0, 8, 9, 10, 11, 12, 13, 14, 72]) c6_23) (.seq (.keep [0, 8, 9, 10, 12, 13, 14]) c6_24)
def c6_26 : A := .seq (.seq (.reg r6_20 [0, 8, 9, 10, 11, 12, 13, 14, 70]) c6_21) (.seq (.keep [0, 8, 9, 10, 11, 12, 13, 14]) c6_25)
def c6_27 : A := .seq (.reg r6_19 [0, 5, 8, 9, 10, 11, 12, 13, 14]) c6_26
def c6_28 : A := .seq (.reg r6_18 [0, 1, 5, 8, 9, 10, 11, 12, 13]) c6_27
def c6_29 : A := .seq (.reg r6_17 [0, 1, 5, 8, 9, 10]) c6_28
def c6_30 : A := .seq (.seq (.reg r6_13 [0, 1, 5, 43, 44]) c6_19) c6_29
def c6_31 : A := .seq (.seq (.reg r6_6 [0, 1, 5, 20, 21, 22]) c6_13) c6_30
def c6_32 : A := .seq (.reg r6_5 [0, 1, 5]) c6_31
def c6_33 : A := .seq (.seq (.reg r6_3 [0, 1, 19]) c6_3) (.seq (.keep [0, 1]) c6_32)
def c6_34 : A := .seq (.seq (.reg r6_1 [0, 1, 16]) c6_1) (.seq (.keep [0, 1]) c6_33)
def c6 : A := .seq (.reg r6_0 [0, 1]) c6_34
theorem B6 : Body Tryd.prog 6 143 [.tmp 4] c6 := ⟨by kernel_rfl, _, _, [(0, [0, 1]), (1, [0, 1, 16]), (2, [4]), (3, [0, 1, 19]), (4, [4]), (5, [0, 1, 5]), (6, [0, 1, 5, 20, 21, 22]), (7, [0, 1, 5, 20, 21, 22, 23]), (8, [0, 1, 5, 7, 20, 21, 22]), (9, [0, 1, 5, 7, 20, 21, 22, 36]), (10, [4]), (11, [0, 1, 5, 20, 21, 22]), (12, [0, 1, 5, 20, 21, 22]), (13, [0, 1, 5, 43, 44]), (14, [0, 1, 5, 43, 44, 45]), (15, [0, 1, 5, 43, 44]), (16, [0, 1, 5, 43, 44]), (17, [0, 1, 5, 8, 9, 10]), (18, [0, 1, 5, 8, 9, 10, 11, 12, 13]), (19, [0, 5, 8, 9, 10, 11, 12, 13, 14]), (20, [0, 8, 9, 10, 11, 12, 13, 14, 70]), (21, [4]), (22, [0, 8, 9, 10, 11, 12, 13, 14, 72]), (23, [4]), (24, [4]), (1007, [0, 1, 5, 20, 21, 22]), (1014, [0, 1, 5, 43, 44]), (2003, [0, 1]), (2005, [0, 1]), (2008, [0, 1, 5, 20, 21, 22]), (2011, [0, 1, 5, 7, 20, 21, 22]), (2015, [0, 1, 5, 43, 44]), (2022, [0, 8, 9, 10, 11, 12, 13, 14]), (2024, [0, 8, 9, 10, 12, 13, 14])], Tryd.func6, rfl, rfl, rfl, by kernel_rfl⟩
end Go.Proofs.YtoabcmhiaknjiaaDoor

/- JobtextData returns true. -/
set_option maxRecDepth 100000
set_option linter.unusedSimpArgs false
set_option linter.unusedVariables false
namespace Go.Proofs.YtoabcmhiaknjiaaDoor
open Go.Hw

theorem LF0_full {s : RS} {k : Nat} {t w : List UInt8} {ws : List (List UInt8)} {rest : List Row} (hs : s.syms = []) (ho : 400 ≤ s.out.length) (hw : lineW (fun x => List.lookup x ([] : List (List UInt8 × List UInt8))) t = .ok (w :: ws)) (hk : knownW w = true) : (LF0 s (k, t) rest).2.code = 8 := by
  unfold LF0 lineR
  rw [hs, hw]
  simp only
  rw [if_pos hk]
  unfold stmF
  rw [if_pos ho]

theorem dat_c1 {ls : List (List UInt8)} (hg : goodD ls) (hl : ls.length ≤ 64) {r : Nat} (hr : r ≤ 69) {H : Hp} {K : Ending → Hp → Prop} (g : G0 H)
    (h : ∀ G v, Ext H G → StmsV G v (expandF LF0 (datT ls r ++ endT)).1 → (v = .slice none 0 0 ∨ (expandF LF0 (datT ls r ++ endT)).2.2 = 0) → K (.returned (.tuple #[v, .int .i64 (expandF LF0 (datT ls r ++ endT)).2.1, .int .i64 (expandF LF0 (datT ls r ++ endT)).2.2])) G) :
    HCall Tryd.prog 19 #[.string (B (datT ls r ++ endT))] H K := by
  have hlen := datT_len hg hl r
  have h10 : endT.length = 10 := rfl
  have hrows : rowsFrom 0 (linesF (datT ls r ++ endT)) = (1, ddHd) :: rowsFrom 1 (datL ls r ++ [[47, 42], stpS]) := by rw [dat_lines1 hg r]; rfl
  have hdl := datL_len ls r
  refine expand_c LF0 (fun s => s.syms = [] ∧ s.out.length ≤ 400) (fun rows => rows = (1, ddHd) :: rowsFrom 1 (datL ls r ++ [[47, 42], stpS]) ∨ rows = [(ls.length + r + 3, stpS)] ∨ rows = []) g (by rw [List.length_append]; omega) ⟨rfl, by decide⟩ (.inl hrows) ?_ ?_ h
  · rintro s x rest ⟨h1, h2⟩ hx hc
    rcases hx with hx | hx | hx
    · simp only [List.cons.injEq] at hx
      obtain ⟨rfl, rfl⟩ := hx
      by_cases ho : s.out.length < 400
      · rw [LF0_dd s h1 ho, dat_inl1 hg r] at hc ⊢
        by_cases hk : ls.length + r ≤ 64
        · rw [if_pos hk] at hc ⊢
          refine ⟨⟨h1, by simp; omega⟩, by simp [rowsFrom_length], .inr (.inl ?_)⟩
          show (rowsFrom 1 (datL ls r ++ [[47, 42], stpS])).drop ((datL ls r).length + 1) = _
          rw [rowsFrom_append, show (datL ls r).length + 1 = (rowsFrom 1 (datL ls r)).length + 1 by rw [rowsFrom_length], List.drop_append, List.drop_of_length_le (by omega)]
          have e3 : 1 + (ls.length + r) + 1 + 1 = ls.length + r + 3 := by omega
          simp [rowsFrom, rowsFrom_length, datL_len, e3]
        · rw [if_neg hk] at hc
          cases hc
      · rw [LF0_full h1 (by omega) ddHd_word (by decide)] at hc
        cases hc
    · simp only [List.cons.injEq] at hx
      obtain ⟨rfl, rfl⟩ := hx
      by_cases ho : s.out.length < 400
      · rw [LF0_stp s h1 ho]
        exact ⟨⟨h1, by simp; omega⟩, Nat.le_refl _, .inr (.inr rfl)⟩
      · rw [LF0_full h1 (by omega) stpS_word (by decide)] at hc
        cases hc
    · cases hx
  · rintro B0 R ms mp s G rv k t rest kn K2 hB0 ⟨h1, h2⟩ hrw hBG hg0 hrd hmk hrv hrl hk
    rcases hrw with hrw | hrw | hrw
    · simp only [List.cons.injEq, Prod.mk.injEq] at hrw
      obtain ⟨⟨rfl, rfl⟩, rfl⟩ := hrw
      refine LF0_line hB0 h1 h2 hBG hg0 hrd hmk hrv hrl (by decide) ?_ ddHd_word rfl hk
      intro x hx
      have : ∀ (l : List (List UInt8)) (j : Nat), x ∈ rowsFrom j l → x.2 ∈ l := by
        intro l
        induction l with
        | nil => intro j h; cases h
        | cons a l ih =>
          intro j h
          rcases List.mem_cons.1 h with rfl | h
          · exact List.mem_cons_self ..
          · exact List.mem_cons_of_mem _ (ih _ h)
      have hm := this _ _ hx
      rcases List.mem_append.1 hm with hm | hm
      · have := (datL_good hg r _ hm).2.1
        omega
      · simp at hm
        rcases hm with hm | hm <;> rw [hm] <;> decide
    · simp only [List.cons.injEq, Prod.mk.injEq] at hrw
      obtain ⟨⟨rfl, rfl⟩, rfl⟩ := hrw
      exact LF0_line hB0 h1 h2 hBG hg0 hrd hmk hrv hrl (by decide) (by simp) stpS_word rfl hk
    · cases hrw

theorem dat_c2 {ls : List (List UInt8)} (hg : goodD ls) (hl : ls.length ≤ 64) {r : Nat} (hr : r ≤ 69) {H : Hp} {K : Ending → Hp → Prop} (g : G0 H)
    (h : ∀ G v, Ext H G → StmsV G v (expandF LF0 (datT ls r)).1 → (v = .slice none 0 0 ∨ (expandF LF0 (datT ls r)).2.2 = 0) → K (.returned (.tuple #[v, .int .i64 (expandF LF0 (datT ls r)).2.1, .int .i64 (expandF LF0 (datT ls r)).2.2])) G) :
    HCall Tryd.prog 19 #[.string (B (datT ls r))] H K := by
  have hlen := datT_len hg hl r
  have hrows : rowsFrom 0 (linesF (datT ls r)) = (1, ddHd) :: rowsFrom 1 (datL ls r) := by rw [dat_lines hg r]; rfl
  have hdl := datL_len ls r
  refine expand_c LF0 (fun s => s.syms = [] ∧ s.out.length ≤ 400) (fun rows => rows = (1, ddHd) :: rowsFrom 1 (datL ls r) ∨ rows = []) g (by omega) ⟨rfl, by decide⟩ (.inl hrows) ?_ ?_ h
  · rintro s x rest ⟨h1, h2⟩ hx hc
    rcases hx with hx | hx
    · simp only [List.cons.injEq] at hx
      obtain ⟨rfl, rfl⟩ := hx
      by_cases ho : s.out.length < 400
      · rw [LF0_dd s h1 ho, dat_inl2 hg r] at hc
        by_cases hk : ls.length + r ≤ 64
        · rw [if_pos hk] at hc; cases hc
        · rw [if_neg hk] at hc; cases hc
      · rw [LF0_full h1 (by omega) ddHd_word (by decide)] at hc
        cases hc
    · cases hx
  · rintro B0 R ms mp s G rv k t rest kn K2 hB0 ⟨h1, h2⟩ hrw hBG hg0 hrd hmk hrv hrl hk
    rcases hrw with hrw | hrw
    · simp only [List.cons.injEq, Prod.mk.injEq] at hrw
      obtain ⟨⟨rfl, rfl⟩, rfl⟩ := hrw
      refine LF0_line hB0 h1 h2 hBG hg0 hrd hmk hrv hrl (by decide) ?_ ddHd_word rfl hk
      intro x hx
      have : ∀ (l : List (List UInt8)) (j : Nat), x ∈ rowsFrom j l → x.2 ∈ l := by
        intro l
        induction l with
        | nil => intro j h; cases h
        | cons a l ih =>
          intro j h
          rcases List.mem_cons.1 h with rfl | h
          · exact List.mem_cons_self ..
          · exact List.mem_cons_of_mem _ (ih _ h)
      have := (datL_good hg r _ (this _ _ hx)).2.1
      omega
    · cases hrw

set_option maxHeartbeats 2000000 in
theorem data_law {pv : Value} {ls : List (List UInt8)} {m : UInt8} {H : Hp} {K : Ending → Hp → Prop} (g : G0 H) (hp : StrsV H pv ls) (hl : ∀ s ∈ ls, s.length ≤ 9223372036854775807) (hn : ls.length ≤ 9223372036854775807) (h : ∀ G, Ext H G → K (.returned (.bool true)) G) :
    HCall Tryd.prog 6 #[pv, .int .u8 m.toNat] H K := by
  refine hcall mixed B6 (args := [pv, .int .u8 m.toNat]) (by simp) ?_
  obtain ⟨pa, pc, rfl⟩ := hp.2
  simp only [go_sem, reduceCtorEq, Nat.reduceEqDiff, Nat.reduceAdd, withc_some, withcs_some, cells_0, cells_s, Option.bind_some, Option.map_some, List.getElem?_toArray, List.getElem?_cons_zero, List.getElem?_cons_succ, Nat.add_zero, Nat.zero_add, Value.cells, splice, List.setIfInBounds_toArray, List.set_cons_zero, List.set_cons_succ, bfill_nil, bfill_cons, bstep_some, withO_some, List.take_zero, List.take_succ_cons, List.drop_zero, List.drop_succ_cons, List.cons_append, List.nil_append, List.append_nil, List.length_cons, List.length_nil, Nat.reduceLeDiff, Nat.le_refl, and_true, true_and, and_self, decide_true, decide_false, Bool.not_true, Bool.not_false, c6, r6_0, c6_34, r6_1, callA_fn0 pl9]
  refine awake_c g fun G1 E1 => ?_
  simp only [go_sem, reduceCtorEq, Nat.reduceEqDiff, Nat.reduceAdd, withc_some, withcs_some, cells_0, cells_s, Option.bind_some, Option.map_some, List.getElem?_toArray, List.getElem?_cons_zero, List.getElem?_cons_succ, Nat.add_zero, Nat.zero_add, Value.cells, splice, List.setIfInBounds_toArray, List.set_cons_zero, List.set_cons_succ, bfill_nil, bfill_cons, bstep_some, withO_some, List.take_zero, List.take_succ_cons, List.drop_zero, List.drop_succ_cons, List.cons_append, List.nil_append, List.append_nil, List.length_cons, List.length_nil, Nat.reduceLeDiff, Nat.le_refl, and_true, true_and, and_self, decide_true, decide_false, Bool.not_true, Bool.not_false, c6_1, c6_33, r6_3, callA_fn0 pl9, len_slice Tryd.underlying24]
  by_cases h64 : 64 < ls.length
  · have e1 : decide ((64 : Int) < (ls.length : Int)) = true := by rw [decide_eq_true_eq]; omega
    simp only [go_sem, reduceCtorEq, Nat.reduceEqDiff, Nat.reduceAdd, withc_some, withcs_some, cells_0, cells_s, Option.bind_some, Option.map_some, List.getElem?_toArray, List.getElem?_cons_zero, List.getElem?_cons_succ, Nat.add_zero, Nat.zero_add, Value.cells, splice, List.setIfInBounds_toArray, List.set_cons_zero, List.set_cons_succ, bfill_nil, bfill_cons, bstep_some, withO_some, List.take_zero, List.take_succ_cons, List.drop_zero, List.drop_succ_cons, List.cons_append, List.nil_append, List.append_nil, List.length_cons, List.length_nil, Nat.reduceLeDiff, Nat.le_refl, and_true, true_and, and_self, decide_true, decide_false, Bool.not_true, Bool.not_false, e1, c6_3, c6_2, r6_4, callA_fn0 pl9, len_slice Tryd.underlying24]
    exact h G1 E1
  have e1 : decide ((64 : Int) < (ls.length : Int)) = false := by rw [decide_eq_false_iff_not]; omega
  simp only [go_sem, reduceCtorEq, Nat.reduceEqDiff, Nat.reduceAdd, withc_some, withcs_some, cells_0, cells_s, Option.bind_some, Option.map_some, List.getElem?_toArray, List.getElem?_cons_zero, List.getElem?_cons_succ, Nat.add_zero, Nat.zero_add, Value.cells, splice, List.setIfInBounds_toArray, List.set_cons_zero, List.set_cons_succ, bfill_nil, bfill_cons, bstep_some, withO_some, List.take_zero, List.take_succ_cons, List.drop_zero, List.drop_succ_cons, List.cons_append, List.nil_append, List.append_nil, List.length_cons, List.length_nil, Nat.reduceLeDiff, Nat.le_refl, and_true, true_and, and_self, decide_true, decide_false, Bool.not_true, Bool.not_false, e1, c6_3, c6_32, r6_5, c6_31, r6_6, c6_13, B_lit, callA_fn0 pl9, len_slice Tryd.underlying24]
  refine aw_while (L := c6_12) rfl (fun m' F G => ∃ i : Nat, m' = ls.length - i ∧ F = [(0, .slice pa ls.length pc), (1, .int .u8 m.toNat), (5, .string (B (datT (ls.take i) 0))), (20, .slice pa ls.length pc), (21, .int .i64 ls.length), (22, .int .i64 i)] ∧ Ext H G ∧ i ≤ ls.length ∧ goodD (ls.take i)) (m := ls.length)
    ⟨0, rfl, rfl, E1, Nat.zero_le _, by intro s hs; simp at hs⟩ ?_
  rintro m' F G ih ⟨i, rfl, rfl, hE, hi, hgood⟩
  have hti : (ls.take i).length = i := by simp; omega
  have hL := datT_len hgood (by omega) 0
  rw [hti] at hL
  by_cases hlt : i < ls.length
  · obtain ⟨s, hsi⟩ : ∃ s, ls[i]? = some s := ⟨ls[i], List.getElem?_eq_getElem hlt⟩
    have e3 : decide ((i : Int) < (ls.length : Int)) = true := by rw [decide_eq_true_eq]; omega
    obtain ⟨ad, pc', ew, hcell⟩ := (hp.ext hE).cell hsi
    cases ew
    simp only [go_sem, reduceCtorEq, Nat.reduceEqDiff, Nat.reduceAdd, withc_some, withcs_some, cells_0, cells_s, Option.bind_some, Option.map_some, List.getElem?_toArray, List.getElem?_cons_zero, List.getElem?_cons_succ, Nat.add_zero, Nat.zero_add, Value.cells, splice, List.setIfInBounds_toArray, List.set_cons_zero, List.set_cons_succ, bfill_nil, bfill_cons, bstep_some, withO_some, List.take_zero, List.take_succ_cons, List.drop_zero, List.drop_succ_cons, List.cons_append, List.nil_append, List.append_nil, List.length_cons, List.length_nil, Nat.reduceLeDiff, Nat.le_refl, and_true, true_and, and_self, decide_true, decide_false, Bool.not_true, Bool.not_false, c6_11, c6_10, r6_7, e3, c6_9, c6_8, c6_7, r6_8, callA_fn0 pl9, ld9, len_slice Tryd.underlying24]
    rw [iadA_slice uStrs ty9 (by omega) (by omega)]
    have hss := hl s (List.mem_of_getElem? hsi)
    simp only [go_sem, reduceCtorEq, Nat.reduceEqDiff, Nat.reduceAdd, withc_some, withcs_some, cells_0, cells_s, Option.bind_some, Option.map_some, List.getElem?_toArray, List.getElem?_cons_zero, List.getElem?_cons_succ, Nat.add_zero, Nat.zero_add, Value.cells, splice, List.setIfInBounds_toArray, List.set_cons_zero, List.set_cons_succ, bfill_nil, bfill_cons, bstep_some, withO_some, List.take_zero, List.take_succ_cons, List.drop_zero, List.drop_succ_cons, List.cons_append, List.nil_append, List.append_nil, List.length_cons, List.length_nil, Nat.reduceLeDiff, Nat.le_refl, and_true, true_and, and_self, decide_true, decide_false, Bool.not_true, Bool.not_false, Int.toNat_natCast, hcell, c6_6, r6_9, callA_fn0 pl18, callA_fn0 pl9, ld9, len_B Tryd.underlying9, len_slice Tryd.underlying24]
    by_cases h200 : 200 < s.length
    · have e4 : decide ((200 : Int) < (s.length : Int)) = true := by rw [decide_eq_true_eq]; omega
      simp only [go_sem, reduceCtorEq, Nat.reduceEqDiff, Nat.reduceAdd, withc_some, withcs_some, cells_0, cells_s, Option.bind_some, Option.map_some, List.getElem?_toArray, List.getElem?_cons_zero, List.getElem?_cons_succ, Nat.add_zero, Nat.zero_add, Value.cells, splice, List.setIfInBounds_toArray, List.set_cons_zero, List.set_cons_succ, bfill_nil, bfill_cons, bstep_some, withO_some, List.take_zero, List.take_succ_cons, List.drop_zero, List.drop_succ_cons, List.cons_append, List.nil_append, List.append_nil, List.length_cons, List.length_nil, Nat.reduceLeDiff, Nat.le_refl, and_true, true_and, and_self, decide_true, decide_false, Bool.not_true, Bool.not_false, e4, c6_5, c6_4, r6_10, callA_fn0 pl18, callA_fn0 pl9, ld9, len_B Tryd.underlying9, len_slice Tryd.underlying24]
      exact h G hE
    have e4 : decide ((200 : Int) < (s.length : Int)) = false := by rw [decide_eq_false_iff_not]; omega
    by_cases hsl : s = [47, 42]
    · have e5 : (s == [47, 42]) = true := by simpa using hsl
      simp only [go_sem, reduceCtorEq, Nat.reduceEqDiff, Nat.reduceAdd, withc_some, withcs_some, cells_0, cells_s, Option.bind_some, Option.map_some, List.getElem?_toArray, List.getElem?_cons_zero, List.getElem?_cons_succ, Nat.add_zero, Nat.zero_add, Value.cells, splice, List.setIfInBounds_toArray, List.set_cons_zero, List.set_cons_succ, bfill_nil, bfill_cons, bstep_some, withO_some, List.take_zero, List.take_succ_cons, List.drop_zero, List.drop_succ_cons, List.cons_append, List.nil_append, List.append_nil, List.length_cons, List.length_nil, Nat.reduceLeDiff, Nat.le_refl, and_true, true_and, and_self, decide_true, decide_false, Bool.not_true, Bool.not_false, e4, e5, B_lit, B_toList, c6_5, c6_4, r6_10, callA_fn0 pl18, callA_fn0 pl9, ld9, len_B Tryd.underlying9, len_slice Tryd.underlying24]
      exact h G hE
    have e5 : (s == [47, 42]) = false := by simpa using hsl
    simp only [go_sem, reduceCtorEq, Nat.reduceEqDiff, Nat.reduceAdd, withc_some, withcs_some, cells_0, cells_s, Option.bind_some, Option.map_some, List.getElem?_toArray, List.getElem?_cons_zero, List.getElem?_cons_succ, Nat.add_zero, Nat.zero_add, Value.cells, splice, List.setIfInBounds_toArray, List.set_cons_zero, List.set_cons_succ, bfill_nil, bfill_cons, bstep_some, withO_some, List.take_zero, List.take_succ_cons, List.drop_zero, List.drop_succ_cons, List.cons_append, List.nil_append, List.append_nil, List.length_cons, List.length_nil, Nat.reduceLeDiff, Nat.le_refl, and_true, true_and, and_self, decide_true, decide_false, Bool.not_true, Bool.not_false, e4, e5, B_lit, B_toList, callA_fn0 pl18, callA_fn0 pl9, ld9, len_B Tryd.underlying9, len_slice Tryd.underlying24]
    refine contains_c s [10] (by omega) (g.ext hE) ?_
    rw [contains_nl]
    by_cases hnl : (10 : UInt8) ∈ s
    · rw [decide_eq_true hnl]
      simp only [go_sem, reduceCtorEq, Nat.reduceEqDiff, Nat.reduceAdd, withc_some, withcs_some, cells_0, cells_s, Option.bind_some, Option.map_some, List.getElem?_toArray, List.getElem?_cons_zero, List.getElem?_cons_succ, Nat.add_zero, Nat.zero_add, Value.cells, splice, List.setIfInBounds_toArray, List.set_cons_zero, List.set_cons_succ, bfill_nil, bfill_cons, bstep_some, withO_some, List.take_zero, List.take_succ_cons, List.drop_zero, List.drop_succ_cons, List.cons_append, List.nil_append, List.append_nil, List.length_cons, List.length_nil, Nat.reduceLeDiff, Nat.le_refl, and_true, true_and, and_self, decide_true, decide_false, Bool.not_true, Bool.not_false, c6_5, c6_4, r6_10, callA_fn0 pl18, callA_fn0 pl9, ld9, len_B Tryd.underlying9, len_slice Tryd.underlying24]
      exact h G hE
    · rw [decide_eq_false hnl]
      have htt : datT (ls.take (i + 1)) 0 = datT (ls.take i) 0 ++ (s ++ [10]) := by
        rw [List.take_add_one, hsi]
        unfold datT datL
        simp [txt]
      have hgood' : goodD (ls.take (i + 1)) := by
        intro x hx
        rw [List.take_add_one, hsi] at hx
        rcases List.mem_append.1 hx with hx | hx
        · exact hgood x hx
        · simp at hx; subst hx; exact ⟨hsl, by omega, hnl⟩
      simp only [go_sem, reduceCtorEq, Nat.reduceEqDiff, Nat.reduceAdd, withc_some, withcs_some, cells_0, cells_s, Option.bind_some, Option.map_some, List.getElem?_toArray, List.getElem?_cons_zero, List.getElem?_cons_succ, Nat.add_zero, Nat.zero_add, Value.cells, splice, List.setIfInBounds_toArray, List.set_cons_zero, List.set_cons_succ, bfill_nil, bfill_cons, bstep_some, withO_some, List.take_zero, List.take_succ_cons, List.drop_zero, List.drop_succ_cons, List.cons_append, List.nil_append, List.append_nil, List.length_cons, List.length_nil, Nat.reduceLeDiff, Nat.le_refl, and_true, true_and, and_self, decide_true, decide_false, Bool.not_true, Bool.not_false, c6_5, r6_11, B_lit, binA_cat (show s.length + ([10] : List UInt8).length ≤ 9223372036854775807 by simp; omega), binA_cat (show (datT (ls.take i) 0).length + (s ++ [10]).length ≤ 9223372036854775807 by simp; omega), r6_12, wrap_one (show i + 1 ≤ 9223372036854775807 by omega), callA_fn0 pl18, callA_fn0 pl9, ld9, len_B Tryd.underlying9, len_slice Tryd.underlying24]
      rw [← htt]
      exact ih _ _ _ (by omega) ⟨i + 1, rfl, rfl, hE, by omega, hgood'⟩
  · have e3 : decide ((i : Int) < (ls.length : Int)) = false := by rw [decide_eq_false_iff_not]; omega
    have hil : i = ls.length := by omega
    subst hil
    rw [List.take_length] at hgood hL
    have hm70 := Nat.mod_lt m.toNat (show 0 < 70 by decide)
    simp only [go_sem, reduceCtorEq, Nat.reduceEqDiff, Nat.reduceAdd, withc_some, withcs_some, cells_0, cells_s, Option.bind_some, Option.map_some, List.getElem?_toArray, List.getElem?_cons_zero, List.getElem?_cons_succ, Nat.add_zero, Nat.zero_add, Value.cells, splice, List.setIfInBounds_toArray, List.set_cons_zero, List.set_cons_succ, bfill_nil, bfill_cons, bstep_some, withO_some, List.take_zero, List.take_succ_cons, List.drop_zero, List.drop_succ_cons, List.cons_append, List.nil_append, List.append_nil, List.length_cons, List.length_nil, Nat.reduceLeDiff, Nat.le_refl, and_true, true_and, and_self, decide_true, decide_false, Bool.not_true, Bool.not_false, List.take_length, c6_11, c6_10, r6_7, e3, c6_9, c6_30, r6_13, callA_fn0 pl18, callA_fn0 pl9, ld9, len_B Tryd.underlying9, len_slice Tryd.underlying24]
    rw [binA_rem (by decide), show ((m.toNat : Int)).tmod 70 = ((m.toNat % 70 : Nat) : Int) from rfl]
    simp only [go_sem, reduceCtorEq, Nat.reduceEqDiff, Nat.reduceAdd, withc_some, withcs_some, cells_0, cells_s, Option.bind_some, Option.map_some, List.getElem?_toArray, List.getElem?_cons_zero, List.getElem?_cons_succ, Nat.add_zero, Nat.zero_add, Value.cells, splice, List.setIfInBounds_toArray, List.set_cons_zero, List.set_cons_succ, bfill_nil, bfill_cons, bstep_some, withO_some, List.take_zero, List.take_succ_cons, List.drop_zero, List.drop_succ_cons, List.cons_append, List.nil_append, List.append_nil, List.length_cons, List.length_nil, Nat.reduceLeDiff, Nat.le_refl, and_true, true_and, and_self, decide_true, decide_false, Bool.not_true, Bool.not_false, c6_19, callA_fn0 pl18, callA_fn0 pl9, ld9, len_B Tryd.underlying9, len_slice Tryd.underlying24]
    generalize hr : m.toNat % 70 = r at *
    refine aw_while (L := c6_18) rfl (fun m' F G' => ∃ j : Nat, m' = r - j ∧ F = [(0, .slice pa ls.length pc), (1, .int .u8 m.toNat), (5, .string (B (datT ls j))), (43, .int .u8 r), (44, .int .u8 j)] ∧ G' = G ∧ j ≤ r) (m := r)
      ⟨0, rfl, rfl, rfl, Nat.zero_le _⟩ ?_
    rintro m' F G' ih2 ⟨j, rfl, rfl, rfl, hj⟩
    have hLj := datT_len hgood (by omega) j
    by_cases hjr : j < r
    · have e4 : decide ((j : Int) < (r : Int)) = true := by rw [decide_eq_true_eq]; omega
      have htt : datT ls (j + 1) = datT ls j ++ [35, 10] := by
        unfold datT datL
        rw [List.replicate_succ']
        simp [txt]
      have hw8 : IntKind.wrap .u8 ((j : Int) + 1) = ((j + 1 : Nat) : Int) := by
        have : ((j : Int) + 1) = ((j + 1 : Nat) : Int) := by omega
        rw [this]
        simp only [IntKind.wrap, IntKind.signed, IntKind.bits]
        simp
        omega
      simp only [go_sem, reduceCtorEq, Nat.reduceEqDiff, Nat.reduceAdd, withc_some, withcs_some, cells_0, cells_s, Option.bind_some, Option.map_some, List.getElem?_toArray, List.getElem?_cons_zero, List.getElem?_cons_succ, Nat.add_zero, Nat.zero_add, Value.cells, splice, List.setIfInBounds_toArray, List.set_cons_zero, List.set_cons_succ, bfill_nil, bfill_cons, bstep_some, withO_some, List.take_zero, List.take_succ_cons, List.drop_zero, List.drop_succ_cons, List.cons_append, List.nil_append, List.append_nil, List.length_cons, List.length_nil, Nat.reduceLeDiff, Nat.le_refl, and_true, true_and, and_self, decide_true, decide_false, Bool.not_true, Bool.not_false, c6_17, c6_16, r6_14, e4, c6_15, c6_14, r6_15, B_lit, binA_cat (show (datT ls j).length + ([35, 10] : List UInt8).length ≤ 9223372036854775807 by simp; omega), r6_16, hw8, callA_fn0 pl18, callA_fn0 pl9, ld9, len_B Tryd.underlying9, len_slice Tryd.underlying24]
      rw [← htt]
      exact ih2 _ _ _ (by omega) ⟨j + 1, rfl, rfl, rfl, by omega⟩
    · have e4 : decide ((j : Int) < (r : Int)) = false := by rw [decide_eq_false_iff_not]; omega
      have hjr : j = r := by omega
      subst hjr
      simp only [go_sem, reduceCtorEq, Nat.reduceEqDiff, Nat.reduceAdd, withc_some, withcs_some, cells_0, cells_s, Option.bind_some, Option.map_some, List.getElem?_toArray, List.getElem?_cons_zero, List.getElem?_cons_succ, Nat.add_zero, Nat.zero_add, Value.cells, splice, List.setIfInBounds_toArray, List.set_cons_zero, List.set_cons_succ, bfill_nil, bfill_cons, bstep_some, withO_some, List.take_zero, List.take_succ_cons, List.drop_zero, List.drop_succ_cons, List.cons_append, List.nil_append, List.append_nil, List.length_cons, List.length_nil, Nat.reduceLeDiff, Nat.le_refl, and_true, true_and, and_self, decide_true, decide_false, Bool.not_true, Bool.not_false, c6_17, c6_16, r6_14, e4, c6_15, c6_29, r6_17, B_lit, binA_cat (show (datT ls j).length + ([47, 42, 10, 115, 116, 101, 112, 32, 83, 10] : List UInt8).length ≤ 9223372036854775807 by simp; omega), callA_fn0 pl18, callA_fn0 pl19, callA_fn0 pl9, ld9, len_B Tryd.underlying9, len_slice Tryd.underlying24]
      refine dat_c1 hgood (by omega) (r := j) (by omega) (g.ext hE) fun G2 v2 E2 hs2 _ => ?_
      have hE2 := hE.trans E2
      have ks : IntKind.wrap .i64 ((ls.length : Int) + (j : Int)) = ((ls.length + j : Nat) : Int) := by
        rw [show ((ls.length : Int) + (j : Int)) = ((ls.length + j : Nat) : Int) by omega, wrap_i64 (by omega) (by omega)]
      have cv : IntKind.wrap .i64 ((j : Nat) : Int) = (j : Int) := wrap_i64 (by omega) (by omega)
      have rm : ((m.toNat : Int)).tmod 70 = (j : Int) := by
        rw [show ((m.toNat : Int)).tmod 70 = ((m.toNat % 70 : Nat) : Int) from rfl, hr]
      have big : ∀ x : Nat, (x : Int) = ((x : Nat) : Int) := fun _ => rfl
      have e16 : decide ((16000 : Int) < ((datT ls j).length : Int)) = false := by rw [decide_eq_false_iff_not]; omega
      rw [dat_exp1 hgood (by omega) (by omega)] at hs2 ⊢
      by_cases hk : ls.length + j ≤ 64
      · rw [if_pos hk] at hs2 ⊢
        obtain ⟨cells, hsl, wv, dv, rest, rfl, hwv, hdv, wv', dv', rest', rfl, hwv', hdv', rfl⟩ := hs2
        obtain ⟨b2, off2, vc2, rfl, hc0⟩ := hsl.cell (i := 0) (by simp)
        obtain ⟨_, _, _, ee, hc1⟩ := hsl.cell (i := 1) (by simp)
        cases ee
        obtain ⟨u0, hu0, hc03⟩ := hc0 3 (by decide)
        cases hu0
        obtain ⟨u1, hu1, hc10⟩ := hc1 0 (by decide)
        cases hu1
        replace hc03 : cellH G2 ⟨b2, off2 + 3, none⟩ = some dv := hc03
        replace hc10 : cellH G2 ⟨b2, off2 + 4, none⟩ = some (.int .i64 ((ls.length + j + 3 : Nat) : Int)) := hc10
        have e65 : decide ((64 : Int) < ((ls.length + j : Nat) : Int)) = false := by rw [decide_eq_false_iff_not]; omega
        simp only [go_sem, reduceCtorEq, Nat.reduceEqDiff, Nat.reduceAdd, withc_some, withcs_some, cells_0, cells_s, Option.bind_some, Option.map_some, List.getElem?_toArray, List.getElem?_cons_zero, List.getElem?_cons_succ, Nat.add_zero, Nat.zero_add, Value.cells, splice, List.setIfInBounds_toArray, List.set_cons_zero, List.set_cons_succ, bfill_nil, bfill_cons, bstep_some, withO_some, List.take_zero, List.take_succ_cons, List.drop_zero, List.drop_succ_cons, List.cons_append, List.nil_append, List.append_nil, List.length_cons, List.length_nil, Nat.reduceLeDiff, Nat.le_refl, and_true, true_and, and_self, decide_true, decide_false, Bool.not_true, Bool.not_false, c6_28, r6_18, callA_fn0 pl18, callA_fn0 pl19, callA_fn0 pl9, ld9, len_B Tryd.underlying9, len_slice Tryd.underlying24]
        refine dat_c2 hgood (by omega) (r := j) (by omega) (g.ext hE2) fun G3 v3 E3 hs3 _ => ?_
        have hE3 := hE2.trans E3
        rw [dat_exp2 hgood (by omega) (by omega)] at hs3 ⊢
        rw [if_pos hk] at hs3 ⊢
        obtain ⟨da, dc, rfl⟩ := hdv.form
        have hdl := datL_len ls j
        simp only [go_sem, reduceCtorEq, Nat.reduceEqDiff, Nat.reduceAdd, withc_some, withcs_some, cells_0, cells_s, Option.bind_some, Option.map_some, List.getElem?_toArray, List.getElem?_cons_zero, List.getElem?_cons_succ, Nat.add_zero, Nat.zero_add, Value.cells, splice, List.setIfInBounds_toArray, List.set_cons_zero, List.set_cons_succ, bfill_nil, bfill_cons, bstep_some, withO_some, List.take_zero, List.take_succ_cons, List.drop_zero, List.drop_succ_cons, List.cons_append, List.nil_append, List.append_nil, List.length_cons, List.length_nil, Nat.reduceLeDiff, Nat.le_refl, and_true, true_and, and_self, decide_true, decide_false, Bool.not_true, Bool.not_false, c6_27, r6_19, callA_fn0 pl18, callA_fn0 pl19, callA_fn0 pl9, ld9, len_B Tryd.underlying9, len_slice Tryd.underlying24]
        rw [binA_rem (by decide), rm]
        simp only [go_sem, reduceCtorEq, Nat.reduceEqDiff, Nat.reduceAdd, withc_some, withcs_some, cells_0, cells_s, Option.bind_some, Option.map_some, List.getElem?_toArray, List.getElem?_cons_zero, List.getElem?_cons_succ, Nat.add_zero, Nat.zero_add, Value.cells, splice, List.setIfInBounds_toArray, List.set_cons_zero, List.set_cons_succ, bfill_nil, bfill_cons, bstep_some, withO_some, List.take_zero, List.take_succ_cons, List.drop_zero, List.drop_succ_cons, List.cons_append, List.nil_append, List.append_nil, List.length_cons, List.length_nil, Nat.reduceLeDiff, Nat.le_refl, and_true, true_and, and_self, decide_true, decide_false, Bool.not_true, Bool.not_false, callA_fn0 pl18, callA_fn0 pl19, callA_fn0 pl9, ld9, len_B Tryd.underlying9, len_slice Tryd.underlying24]
        rw [cnvA_int Tryd.underlying5 Tryd.underlying3, cv]
        simp only [go_sem, reduceCtorEq, Nat.reduceEqDiff, Nat.reduceAdd, withc_some, withcs_some, cells_0, cells_s, Option.bind_some, Option.map_some, List.getElem?_toArray, List.getElem?_cons_zero, List.getElem?_cons_succ, Nat.add_zero, Nat.zero_add, Value.cells, splice, List.setIfInBounds_toArray, List.set_cons_zero, List.set_cons_succ, bfill_nil, bfill_cons, bstep_some, withO_some, List.take_zero, List.take_succ_cons, List.drop_zero, List.drop_succ_cons, List.cons_append, List.nil_append, List.append_nil, List.length_cons, List.length_nil, Nat.reduceLeDiff, Nat.le_refl, and_true, true_and, and_self, decide_true, decide_false, Bool.not_true, Bool.not_false, ks, c6_26, r6_20, e16, c6_21, c6_25, r6_22, e65, c6_23, c6_24, r6_24, show decide ((0 : Int) = 0) = true from rfl, show decide (((0 : Nat) : Int) = 0) = true from rfl, show decide (((0 + 1 + 1 : Nat) : Int) = 2) = true from rfl, List.length_cons, List.length_nil, callA_fn0 pl14, callA_fn0 pl18, callA_fn0 pl19, callA_fn0 pl9, fa40_0, fa40_3, ld24, ld3, ld9, len_B Tryd.underlying9, len_slice Tryd.underlying24, len_slice Tryd.underlying36]
        have hc3 := cell_ext E3 hc03
        have hc4 := cell_ext E3 hc10
        rw [iadA_slice Tryd.underlying36 ty40 (by omega) (by simp)]
        have ek : decide (((datL ls j).length : Int) = ((ls.length + j : Nat) : Int)) = true := by rw [decide_eq_true_eq]; omega
        simp only [go_sem, reduceCtorEq, Nat.reduceEqDiff, Nat.reduceAdd, withc_some, withcs_some, cells_0, cells_s, Option.bind_some, Option.map_some, List.getElem?_toArray, List.getElem?_cons_zero, List.getElem?_cons_succ, Nat.add_zero, Nat.zero_add, Value.cells, splice, List.setIfInBounds_toArray, List.set_cons_zero, List.set_cons_succ, bfill_nil, bfill_cons, bstep_some, withO_some, List.take_zero, List.take_succ_cons, List.drop_zero, List.drop_succ_cons, List.cons_append, List.nil_append, List.append_nil, List.length_cons, List.length_nil, Nat.reduceLeDiff, Nat.le_refl, and_true, true_and, and_self, decide_true, decide_false, Bool.not_true, Bool.not_false, add_none, Int.toNat_zero, Nat.zero_mul, hc3, ek, callA_fn0 pl14, callA_fn0 pl18, callA_fn0 pl19, callA_fn0 pl9, fa40_0, fa40_3, ld24, ld3, ld9, len_B Tryd.underlying9, len_slice Tryd.underlying24, len_slice Tryd.underlying36]
        rw [iadA_slice Tryd.underlying36 ty40 (by omega) (by simp)]
        simp only [go_sem, reduceCtorEq, Nat.reduceEqDiff, Nat.reduceAdd, withc_some, withcs_some, cells_0, cells_s, Option.bind_some, Option.map_some, List.getElem?_toArray, List.getElem?_cons_zero, List.getElem?_cons_succ, Nat.add_zero, Nat.zero_add, Value.cells, splice, List.setIfInBounds_toArray, List.set_cons_zero, List.set_cons_succ, bfill_nil, bfill_cons, bstep_some, withO_some, List.take_zero, List.take_succ_cons, List.drop_zero, List.drop_succ_cons, List.cons_append, List.nil_append, List.append_nil, List.length_cons, List.length_nil, Nat.reduceLeDiff, Nat.le_refl, and_true, true_and, and_self, decide_true, decide_false, Bool.not_true, Bool.not_false, add_none, Int.toNat_zero, Nat.zero_mul, hc3, callA_fn0 pl14, callA_fn0 pl18, callA_fn0 pl19, callA_fn0 pl9, fa40_0, fa40_3, ld24, ld3, ld9, len_B Tryd.underlying9, len_slice Tryd.underlying24, len_slice Tryd.underlying36]
        have hdc : ls.length ≤ dc := by
          rcases SlE.part (lo := 0) (hi := 0) hdv (Nat.le_refl _) (Nat.zero_le _) with h1 | h1
          · have h2 : (datL ls j).length ≤ dc := h1
            omega
          · have h2 : (datL ls j).length = 0 := h1
            omega
        rw [sliA_slice uStrs ty9 (.no _) (.nat _ _ ls.length) (Nat.zero_le _) hdc]
        have hcut : SlE 9 1 G3 (.slice (subAddr da 1 0 dc) (ls.length - 0) (dc - 0)) (ls.length - 0) (strs ls) := by
          have h1 := SlE.drop (lo := 0) (SlE.ext hdv E3) (Nat.zero_le _)
          have h2 := SlE.take (hi := ls.length) h1 (by show ls.length ≤ (datL ls j).length - 0; omega)
          have e : (((strs (datL ls j)).drop (0 * 1)).take (ls.length * 1)) = strs ls := by
            unfold strs datL
            simp
          have h3 : SlE 9 1 G3 (.slice (subAddr da 1 0 dc) ls.length (dc - 0)) ls.length (((strs (datL ls j)).drop (0 * 1)).take (ls.length * 1)) := h2
          rw [e] at h3
          exact h3
        rw [Nat.sub_zero] at hcut ⊢
        simp only [go_sem, reduceCtorEq, Nat.reduceEqDiff, Nat.reduceAdd, withc_some, withcs_some, cells_0, cells_s, Option.bind_some, Option.map_some, List.getElem?_toArray, List.getElem?_cons_zero, List.getElem?_cons_succ, Nat.add_zero, Nat.zero_add, Value.cells, splice, List.setIfInBounds_toArray, List.set_cons_zero, List.set_cons_succ, bfill_nil, bfill_cons, bstep_some, withO_some, List.take_zero, List.take_succ_cons, List.drop_zero, List.drop_succ_cons, List.cons_append, List.nil_append, List.append_nil, List.length_cons, List.length_nil, Nat.reduceLeDiff, Nat.le_refl, and_true, true_and, and_self, decide_true, decide_false, Bool.not_true, Bool.not_false, callA_fn0 pl14, callA_fn0 pl18, callA_fn0 pl19, callA_fn0 pl9, fa40_0, fa40_3, ld24, ld3, ld9, len_B Tryd.underlying9, len_slice Tryd.underlying24, len_slice Tryd.underlying36]
        refine texts_c _ _ ls ls ⟨SlE.src hcut, _, _, rfl⟩ (hp.ext hE3) (by omega) ?_
        rw [decide_eq_true rfl]
        simp only [go_sem, reduceCtorEq, Nat.reduceEqDiff, Nat.reduceAdd, withc_some, withcs_some, cells_0, cells_s, Option.bind_some, Option.map_some, List.getElem?_toArray, List.getElem?_cons_zero, List.getElem?_cons_succ, Nat.add_zero, Nat.zero_add, Value.cells, splice, List.setIfInBounds_toArray, List.set_cons_zero, List.set_cons_succ, bfill_nil, bfill_cons, bstep_some, withO_some, List.take_zero, List.take_succ_cons, List.drop_zero, List.drop_succ_cons, List.cons_append, List.nil_append, List.append_nil, List.length_cons, List.length_nil, Nat.reduceLeDiff, Nat.le_refl, and_true, true_and, and_self, decide_true, decide_false, Bool.not_true, Bool.not_false, callA_fn0 pl14, callA_fn0 pl18, callA_fn0 pl19, callA_fn0 pl9, fa40_0, fa40_3, ld24, ld3, ld9, len_B Tryd.underlying9, len_slice Tryd.underlying24, len_slice Tryd.underlying36]
        rw [iadA_slice Tryd.underlying36 ty40 (by omega) (by simp)]
        have ek3 : IntKind.wrap .i64 (((ls.length + j : Nat) : Int) + 3) = ((ls.length + j + 3 : Nat) : Int) := by
          rw [show (((ls.length + j : Nat) : Int) + 3) = ((ls.length + j + 3 : Nat) : Int) by omega, wrap_i64 (by omega) (by omega)]
        simp only [go_sem, reduceCtorEq, Nat.reduceEqDiff, Nat.reduceAdd, withc_some, withcs_some, cells_0, cells_s, Option.bind_some, Option.map_some, List.getElem?_toArray, List.getElem?_cons_zero, List.getElem?_cons_succ, Nat.add_zero, Nat.zero_add, Value.cells, splice, List.setIfInBounds_toArray, List.set_cons_zero, List.set_cons_succ, bfill_nil, bfill_cons, bstep_some, withO_some, List.take_zero, List.take_succ_cons, List.drop_zero, List.drop_succ_cons, List.cons_append, List.nil_append, List.append_nil, List.length_cons, List.length_nil, Nat.reduceLeDiff, Nat.le_refl, and_true, true_and, and_self, decide_true, decide_false, Bool.not_true, Bool.not_false, add_none, show Int.toNat 1 = 1 from rfl, Nat.one_mul, hc4, ek3, show decide (((ls.length + j + 3 : Nat) : Int) = ((ls.length + j + 3 : Nat) : Int)) = true from decide_eq_true rfl, show decide ((3 : Int) = 3) = true from rfl, show decide (((1 : Nat) : Int) = 1) = true from rfl, callA_fn0 pl14, callA_fn0 pl18, callA_fn0 pl19, callA_fn0 pl9, fa40_0, fa40_3, ld24, ld3, ld9, len_B Tryd.underlying9, len_slice Tryd.underlying24, len_slice Tryd.underlying36]
        exact h G3 hE3
      · rw [if_neg hk] at hs2 ⊢
        obtain ⟨cells, hsl, _⟩ := hs2
        obtain ⟨va, vc, rfl⟩ := hsl.form
        simp only [go_sem, reduceCtorEq, Nat.reduceEqDiff, Nat.reduceAdd, withc_some, withcs_some, cells_0, cells_s, Option.bind_some, Option.map_some, List.getElem?_toArray, List.getElem?_cons_zero, List.getElem?_cons_succ, Nat.add_zero, Nat.zero_add, Value.cells, splice, List.setIfInBounds_toArray, List.set_cons_zero, List.set_cons_succ, bfill_nil, bfill_cons, bstep_some, withO_some, List.take_zero, List.take_succ_cons, List.drop_zero, List.drop_succ_cons, List.cons_append, List.nil_append, List.append_nil, List.length_cons, List.length_nil, Nat.reduceLeDiff, Nat.le_refl, and_true, true_and, and_self, decide_true, decide_false, Bool.not_true, Bool.not_false, c6_28, r6_18, callA_fn0 pl14, callA_fn0 pl18, callA_fn0 pl19, callA_fn0 pl9, fa40_0, fa40_3, ld24, ld3, ld9, len_B Tryd.underlying9, len_slice Tryd.underlying24, len_slice Tryd.underlying36]
        refine dat_c2 hgood (by omega) (r := j) (by omega) (g.ext hE2) fun G3 v3 E3 hs3 _ => ?_
        have hE3 := hE2.trans E3
        rw [dat_exp2 hgood (by omega) (by omega)] at hs3 ⊢
        rw [if_neg hk] at hs3 ⊢
        obtain ⟨cells3, hsl3, _⟩ := hs3
        obtain ⟨va3, vc3, rfl⟩ := hsl3.form
        have e65 : decide ((64 : Int) < ((ls.length + j : Nat) : Int)) = true := by rw [decide_eq_true_eq]; omega
        simp only [go_sem, reduceCtorEq, Nat.reduceEqDiff, Nat.reduceAdd, withc_some, withcs_some, cells_0, cells_s, Option.bind_some, Option.map_some, List.getElem?_toArray, List.getElem?_cons_zero, List.getElem?_cons_succ, Nat.add_zero, Nat.zero_add, Value.cells, splice, List.setIfInBounds_toArray, List.set_cons_zero, List.set_cons_succ, bfill_nil, bfill_cons, bstep_some, withO_some, List.take_zero, List.take_succ_cons, List.drop_zero, List.drop_succ_cons, List.cons_append, List.nil_append, List.append_nil, List.length_cons, List.length_nil, Nat.reduceLeDiff, Nat.le_refl, and_true, true_and, and_self, decide_true, decide_false, Bool.not_true, Bool.not_false, c6_27, r6_19, callA_fn0 pl14, callA_fn0 pl18, callA_fn0 pl19, callA_fn0 pl9, fa40_0, fa40_3, ld24, ld3, ld9, len_B Tryd.underlying9, len_slice Tryd.underlying24, len_slice Tryd.underlying36]
        rw [binA_rem (by decide), rm]
        simp only [go_sem, reduceCtorEq, Nat.reduceEqDiff, Nat.reduceAdd, withc_some, withcs_some, cells_0, cells_s, Option.bind_some, Option.map_some, List.getElem?_toArray, List.getElem?_cons_zero, List.getElem?_cons_succ, Nat.add_zero, Nat.zero_add, Value.cells, splice, List.setIfInBounds_toArray, List.set_cons_zero, List.set_cons_succ, bfill_nil, bfill_cons, bstep_some, withO_some, List.take_zero, List.take_succ_cons, List.drop_zero, List.drop_succ_cons, List.cons_append, List.nil_append, List.append_nil, List.length_cons, List.length_nil, Nat.reduceLeDiff, Nat.le_refl, and_true, true_and, and_self, decide_true, decide_false, Bool.not_true, Bool.not_false, callA_fn0 pl14, callA_fn0 pl18, callA_fn0 pl19, callA_fn0 pl9, fa40_0, fa40_3, ld24, ld3, ld9, len_B Tryd.underlying9, len_slice Tryd.underlying24, len_slice Tryd.underlying36]
        rw [cnvA_int Tryd.underlying5 Tryd.underlying3, cv]
        simp only [go_sem, reduceCtorEq, Nat.reduceEqDiff, Nat.reduceAdd, withc_some, withcs_some, cells_0, cells_s, Option.bind_some, Option.map_some, List.getElem?_toArray, List.getElem?_cons_zero, List.getElem?_cons_succ, Nat.add_zero, Nat.zero_add, Value.cells, splice, List.setIfInBounds_toArray, List.set_cons_zero, List.set_cons_succ, bfill_nil, bfill_cons, bstep_some, withO_some, List.take_zero, List.take_succ_cons, List.drop_zero, List.drop_succ_cons, List.cons_append, List.nil_append, List.append_nil, List.length_cons, List.length_nil, Nat.reduceLeDiff, Nat.le_refl, and_true, true_and, and_self, decide_true, decide_false, Bool.not_true, Bool.not_false, ks, c6_26, r6_20, e16, c6_21, c6_25, r6_22, e65, c6_23, c6_22, r6_23, show decide ((8 : Int) = 8) = true from rfl, show decide (((66 : Nat) : Int) = 66) = true from rfl, List.length_nil, callA_fn0 pl14, callA_fn0 pl18, callA_fn0 pl19, callA_fn0 pl9, fa40_0, fa40_3, ld24, ld3, ld9, len_B Tryd.underlying9, len_slice Tryd.underlying24, len_slice Tryd.underlying36]
        rw [show decide (IntKind.wrap .i64 (((0 : Nat) : Int) + ((0 : Nat) : Int)) = 0) = true by decide]
        exact h G3 hE3
end Go.Proofs.YtoabcmhiaknjiaaDoor

/- A law's row out of a contract over the heap alone: it returns true, and what was in memory is as it was. -/
set_option linter.unusedVariables false
namespace Go.Hw
open Go Go.ChangeShapes Go.WideShapes Go.ChangeAt Go.RowKit

theorem below_of {W W' : World} (e : EnvEq W W') (x : Ext W.heap W'.heap) : Below W.heap.size W W' := ⟨e.os, e.tape, e.output, e.size, x.blk⟩

theorem trodAll_below {H : Type} {enc : TypeId × Value → H} {P : Program} (hl : laidOutB P = true) {W W' : World} (hb : Below W.heap.size W W') :
    ∀ {ts : List TypeId} {vs : List Value} {ds : List (DataW H)} {ps : List MemPlace}, (∀ t ∈ ts, P.readableRec t = true ∧ t < P.types.size) → DataW.TrodAll enc P W 0 (fun _ => true) true ts vs ds ps → (∀ x ∈ ps, x.block < W.heap.size) →
      DataW.TrodAll enc P W' 0 (fun b => decide (b < W.heap.size)) true ts vs ds ps
  | [], vs, ds, ps, _, h, _ => by
    obtain ⟨rfl, rfl, rfl⟩ := trodAll_nil h
    exact rfl
  | t :: ts, vs, ds, ps, hr, h, hlt => by
    obtain ⟨v, vs', d, ds', p, q, rfl, rfl, rfl, h1, h2⟩ := trodAll_cons h
    have ht := hr t (List.mem_cons_self ..)
    exact ⟨p, q, Below.trod hl ht.1 ht.2 h1 hb (fun x hx => hlt x (List.mem_append_left _ hx)),
      trodAll_below hl hb (fun t' ht' => hr t' (List.mem_cons_of_mem _ ht')) h2 (fun x hx => hlt x (List.mem_append_right _ hx)), rfl⟩

theorem law_row {C : Checked} {os : Os} {f : FuncId} {fn : Func} {s : ChangeSpec} {laid : List (String × DataW Unit)} {H : Type} {enc : TypeId × Value → H} {tb : TypeId}
    (hl : laidOutB C.prog = true) (own : ownKnob C.prog.godebug = none) (started : os.Started) (noInit : C.prog.inits.idxOf? f = none) (hfn : C.prog.funcs[f]? = some fn)
    (hvars : s.vars = []) (hread : ∀ t ∈ fn.params.toList, C.prog.readableRec t = true ∧ t < C.prog.types.size)
    (hres : fn.resultTypes = #[tb]) (hb : C.prog.underlying tb = some .bool)
    (hspec : ∀ ds : List (DataW H), ds.length = fn.params.size → s.fn H ds = { results := [.lit (.bool true)], args := ds })
    (witness : ∃ (w : World) (tape : Tape) (i : Input), w.os = os ∧ (w.forCall tape i).Shaped C.prog ∧ i.vars = [] ∧ Input.okWide C.prog (w.forCall tape i) .any w.heap.size f i ∧
      ((s.pre enc C.prog fn [] false (w.forCall tape i).memory i.args ∧ laidMetH C.prog laid (w.forCall tape i).memory) ∧ sizedMet enc C.prog fn (OpenSpec.ofChange s) false (w.forCall tape i).memory i.args) ∧ ({} : Assume).holds C.prog (lone (Frame.enter C.prog f i.args .normal) [] (w.forCall tape i)))
    (walk : ∀ (W : World) (base : Nat) (args : Array Value) (ds : List (DataW H)) (p : List MemPlace),
      (∀ (j : Nat) t v, fn.params[j]? = some t → args[j]? = some v → Value.okWide C.prog W .any base t v) →
      DataW.TrodAll enc C.prog W 0 (fun _ => true) true fn.params.toList args.toList ds p →
      laidMetH C.prog laid W → W.ShapedOpen C.prog → HCall C.prog f args W.heap (fun e G => Ext W.heap G ∧ e = .returned (.bool true))) :
    ReturnsInHanded {} C os f .any (fun w args => (s.pre enc C.prog fn [] false w args ∧ laidMetH C.prog laid w) ∧ sizedMet enc C.prog fn (OpenSpec.ofChange s) false w args) (s.post enc C.prog fn false true false false) := by
  refine returnsInHanded_of_calls own started noInit witness ?_
  intro w tape i _ hsh _ hok hpre hholds
  obtain ⟨_, _, _, fn', hfn', _, _, _, _, hval⟩ := hok
  have e : fn' = fn := Option.some.inj (hfn'.symm.trans hfn)
  subst e
  obtain ⟨⟨⟨ds, gs, before, hw, hc⟩, hx⟩, hz⟩ := hpre
  have hw' := DataW.Whole.of_heap (w' := w.forCall tape i) (by rfl) hw
  have hwk := hw'
  obtain ⟨p, q, hA, hV, rfl, hfz, hnd⟩ := hw'
  rw [hvars] at hV
  obtain ⟨rfl, rfl⟩ := trodVars_none hV
  have hlen : ds.length = fn'.params.size := by
    have : ∀ {ts : List TypeId} {vs : List Value} {ds : List (DataW H)} {ps : List MemPlace}, DataW.TrodAll enc C.prog (w.forCall tape i) 0 (fun _ => true) true ts vs ds ps → ds.length = ts.length := by
      intro ts
      induction ts with
      | nil => intro vs ds ps h; obtain ⟨_, rfl, _⟩ := trodAll_nil h; rfl
      | cons t ts ih => intro vs ds ps h; obtain ⟨_, _, _, _, _, _, _, rfl, _, _, h2⟩ := trodAll_cons h; simp [ih h2]
    simpa using this hA
  have key := walk (w.forCall tape i) w.heap.size i.args ds p hval hA (hx.of_heap (by rfl)) hsh
  refine (key (w.forCall tape i) rfl).mono fun e W' ⟨henv, hext, he⟩ => ?_
  subst he
  have hbel := below_of henv hext
  refine ChangeSpec.post_blind ?_
  refine ⟨ds, [], p ++ [], [], p, [], hwk, ?_, ?_, ?_, hbel.frame _, fun h => by cases h⟩
  · rw [List.append_nil, hspec ds hlen, hres]
    exact trodAll_mk1 (shut_bool hb true)
  · rw [List.append_nil, hspec ds hlen]
    exact trodAll_below hl hbel hread hA (fun x hx => hwk.lt x (by simpa using hx))
  · rw [List.append_nil, hspec ds hlen, hvars]
    exact rfl
end Go.Hw

/- The arguments of a law, opened. -/
set_option maxRecDepth 100000
set_option linter.unusedVariables false
namespace Go.Proofs.YtoabcmhiaknjiaaDoor
open Go.Hw Go.ChangeShapes Go.WideShapes Go.ChangeAt Go.RowKit Go.WideMaps Go.ChangeMaps

theorem maxLen_eq : Go.maxLen = 9223372036854775807 := rfl
theorem cellsH_of_each {H : Hp} {a : Addr} (f : Nat → Value) : ∀ (n i : Nat), (∀ j, i ≤ j → j < i + n → cellH H (a.add j) = some (f j)) → cellsH H a i n = some ((List.range n).map fun j => f (i + j))
  | 0, i, _ => rfl
  | n + 1, i, h => by
    unfold cellsH
    rw [h i (Nat.le_refl _) (by omega)]
    simp only
    rw [cellsH_of_each f n (i + 1) (fun j h1 h2 => h j (by omega) (by omega))]
    simp [List.range_succ_eq_map, Nat.add_assoc, Nat.add_comm 1]
theorem cellsOf_str : Tryd.prog.cellsOf 9 = 1 := by kernel_rfl
theorem B_data (s : ByteArray) : B s.data.toList = s := by cases s; simp [B]

theorem open_strV {H : Type} {enc : TypeId × Value → H} {W : World} {base : Nat} {v : Value} {d : DataW H} {p : List MemPlace} (hok : Value.okWide Tryd.prog W .any base 9 v) (h : DataW.Trod enc Tryd.prog W 0 (fun _ => true) true 9 v d p) :
    ∃ s : List UInt8, v = .string (B s) ∧ s.length ≤ 9223372036854775807 := by
  obtain ⟨s, rfl, rfl, rfl, hs⟩ := open_string uStr hok h
  exact ⟨s.data.toList, by rw [B_data], by rw [← maxLen_eq]; exact hs⟩

theorem open_strsV {H : Type} {enc : TypeId × Value → H} {W : World} {base : Nat} {v : Value} {d : DataW H} {p : List MemPlace} (hok : Value.okWide Tryd.prog W .any base 24 v) (h : DataW.Trod enc Tryd.prog W 0 (fun _ => true) true 24 v d p) :
    ∃ ws : List (List UInt8), StrsV W.heap v ws ∧ (∀ w ∈ ws, w.length ≤ 9223372036854775807) ∧ ws.length ≤ 9223372036854775807 := by
  obtain ⟨a0, len, cap, rfl⟩ := okWide_slice uStrs hok
  obtain ⟨fuel, hf⟩ := h
  rcases open_strings uStrs uStr cellsOf_str hf with ⟨hcs, _⟩ | ⟨a, len', cap', ss, hcs, _, hl, hm, hz, _, hcell, hsz⟩
  · simp [Value.cells] at hcs
    obtain ⟨rfl, rfl, rfl⟩ := hcs
    exact ⟨[], ⟨.inr (.inl ⟨0, rfl, rfl, rfl⟩), _, _, rfl⟩, by simp, by simp⟩
  · simp [Value.cells] at hcs
    obtain ⟨rfl, rfl, rfl⟩ := hcs
    simp only [if_true] at hz
    have hlen : ((ss.take len).map fun s => s.data.toList).length = len := by simp; omega
    refine ⟨(ss.take len).map fun s => s.data.toList, ⟨.inl ⟨a, cap, by rw [hlen], ?_⟩, _, _, by rw [hlen]⟩, ?_, ?_⟩
    · rw [hlen, Nat.mul_one, cellsH_of_each (fun j => .string (ss.getD j ByteArray.empty)) len 0 (fun j _ h2 => by rw [← cellH_eq]; exact hcell j (by omega))]
      congr 1
      apply List.ext_getElem
      · simp [strs]; omega
      · intro i h1 h2
        simp only [List.length_map, List.length_range] at h1
        simp [strs, B_data, List.getD, List.getElem?_eq_getElem (show i < ss.length by omega)]
    · intro w hw
      obtain ⟨s, hs, rfl⟩ := List.mem_map.1 hw
      rw [← maxLen_eq]
      exact hsz s (List.mem_of_mem_take hs)
    · rw [hlen, ← maxLen_eq]; omega
end Go.Proofs.YtoabcmhiaknjiaaDoor

/- What every law's row of this seat leans on. -/
set_option maxRecDepth 100000
set_option linter.unusedVariables false
namespace Go.Proofs.YtoabcmhiaknjiaaDoor
open Go.Hw Go.ChangeShapes Go.WideShapes Go.ChangeAt Go.RowKit Go.WideMaps Go.ChangeMaps

theorem own_knob : ownKnob Tryd.prog.godebug = none := by kernel_rfl
theorem laid_out : laidOutB Tryd.prog = true := by kernel_rfl

theorem g0_of {W : World} (h : W.ShapedOpen Tryd.prog) : G0 W.heap := by
  obtain ⟨m, hm⟩ := cell_of_shapedOpen_int (P := Tryd.prog) (g := 0) (t := 3) (zero := #[.int .i64 0]) (k := .i64) h (of_decide_eq_true (by kernel_rfl)) (by kernel_rfl) rfl (by kernel_rfl) (by kernel_rfl) Tryd.underlying3
  exact ⟨m, by rw [← cellH_eq]; exact hm⟩

theorem open_u8 {H : Type} {enc : TypeId × Value → H} {W : World} {base : Nat} {v : Value} {d : DataW H} {p : List MemPlace} (hok : Value.okWide Tryd.prog W .any base 5 v) (h : DataW.Trod enc Tryd.prog W 0 (fun _ => true) true 5 v d p) :
    ∃ c : UInt8, v = .int .u8 c.toNat := by
  obtain ⟨x, rfl, rfl, rfl, wx⟩ := open_int Tryd.underlying5 hok h
  have hx : 0 ≤ x ∧ x ≤ 255 := by simpa [Lit.wf, IntKind.min, IntKind.max, IntKind.signed, IntKind.bits] using wx
  refine ⟨UInt8.ofNat x.toNat, ?_⟩
  have : (UInt8.ofNat x.toNat).toNat = x.toNat := by simp; omega
  rw [this]
  congr 1
  omega

end Go.Proofs.YtoabcmhiaknjiaaDoor
