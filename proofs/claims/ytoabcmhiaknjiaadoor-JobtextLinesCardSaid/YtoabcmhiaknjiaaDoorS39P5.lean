/- Contracts and laws that the claim leans on, part 5. -/
import Derived.Test.YtoabcmhiaknjiaaDoorS39P2
import Derived.Test.YtoabcmhiaknjiaaDoorS39P4
import Derived.Test.YtoabcmhiaknjiaaDoorS39P3
import Derived.Test.YtoabcmhiaknjiaaDoorProg
import Derived.Test.YtoabcmhiaknjiaaDoorS39P1
import Derived.Handed
import Derived.Carry
import Derived.ChangeShapes
import Derived.LaidLaws
import Derived.ProofKit
import Derived.Stop.Joined
import Derived.Lay
import Derived.SliceStrings
import Derived.ChangeMaps5
import Derived.Test.YtoabcmhiaknjiaaDoorRows
import Derived.Test.YtoabcmhiaknjiaaDoorCards
import Derived.Test.YtoabcmhiaknjiaaDoorTie
import Derived.Shelf.Vars
import Derived.MakeChecks
import Derived.SevenTiedAt
import Derived.JoinedOf
import Derived.WideKeyElems2
import Derived.Maps.StringElems
import Derived.StringKeys
/- Contracts of jobtext: line, read. -/
set_option maxRecDepth 100000
set_option linter.unusedSimpArgs false
set_option linter.unusedVariables false
namespace Go.Proofs.YtoabcmhiaknjiaaDoor
open Go.Hw

def symV (l : Sym) : List (List UInt8 × Value) := l.map fun p => (p.1, .string (B p.2))
/-- A procedure's value. -/
def PrV (B0 ms mp : Nat) (H : Hp) (p : List UInt8 × Sym × List Row) (x : List UInt8 × Value) : Prop :=
  x.1 = p.1 ∧ ∃ mv rv, x.2 = .agg #[.map (some mv), rv] ∧ MapC H mv (symV p.2.1) ∧ mv ≠ ms ∧ mv ≠ mp ∧ B0 ≤ mv ∧ RowsV H rv p.2.2
inductive All2 {α β : Type} (R : α → β → Prop) : List α → List β → Prop
  | nil : All2 R [] []
  | cons {a : α} {b : β} {l : List α} {m : List β} : R a b → All2 R l m → All2 R (a :: l) (b :: m)
theorem All2.imp {α β : Type} {R S : α → β → Prop} (h : ∀ a b, R a b → S a b) : ∀ {l : List α} {m : List β}, All2 R l m → All2 S l m
  | _, _, .nil => .nil
  | _, _, .cons h1 h2 => .cons (h _ _ h1) (h2.imp h)
def ProcsV (B0 ms mp : Nat) (H : Hp) (procs : List (List UInt8 × Sym × List Row)) : Prop := ∃ l, MapC H mp l ∧ All2 (PrV B0 ms mp H) procs l

structure Rdr (B0 R ms mp : Nat) (H : Hp) (s : RS) : Prop where
  out : RdrO B0 R ms mp H s.out
  syms : MapC H ms (symV s.syms)
  procs : ProcsV B0 ms mp H s.procs
  bms : B0 ≤ ms
  bmp : B0 ≤ mp
  ne : ms ≠ mp

/-- All but one kind's blocks are as they were. -/
def KeepK (E : Nat) (H H' : Hp) : Prop := ∀ (b : Nat) (o : Obj), H[b]? = some o → (∀ c f, o ≠ .cells c E f) → H'[b]? = some o
theorem MapC.kk {E : Nat} {H H' : Hp} {r : Nat} {l : List (List UInt8 × Value)} (h : MapC H r l) (k : KeepK E H H') : MapC H' r l := by
  obtain ⟨es, clk, h1, h2, h3⟩ := h
  exact ⟨es, clk, k r _ h1 (by simp), h2, h3⟩
theorem sl_kk {E E' sz : Nat} {H H' : Hp} {v : Value} {n : Nat} {l : List Value} (h : SlE E' sz H v n l) (k : KeepK E H H') (hne : E' ≠ E) : SlE E' sz H' v n l :=
  h.mono fun b c f hb => k b _ hb (fun c' f' e => by cases e; exact hne rfl)
theorem Rdr.kkE {E B0 R ms mp : Nat} {H H' : Hp} {s : RS} (h : Rdr B0 R ms mp H s) (k : KeepK E H H') (n1 : 77 ≠ E) (n2 : 40 ≠ E) (n3 : 9 ≠ E) (n4 : 73 ≠ E) : Rdr B0 R ms mp H' s := by
  obtain ⟨⟨h0, ov, cells, h1, h2, h3⟩, hs, ⟨l, hl, hf⟩, b1, b2, b3⟩ := h
  refine ⟨⟨h0, ov, cells, k _ _ h1 (fun c f e => by cases e; exact n1 rfl), ?_, stmC.mono (fun v ws hv => sl_kk hv k n3) _ _ h3⟩, MapC.kk hs k, ⟨l, MapC.kk hl k, ?_⟩, b1, b2, b3⟩
  · rcases h2 with h | ⟨b, cap, c, f, o1, o2, o3, o4⟩
    · exact .inl h
    · exact .inr ⟨b, cap, c, f, o1, o2, k _ _ o3 (fun c f e => by cases e; exact n2 rfl), o4⟩
  · exact hf.imp fun p x ⟨e, mv, rv, h1, h2, h3, h4, h5, h6⟩ => ⟨e, mv, rv, h1, MapC.kk h2 k, h3, h4, h5, sl_kk h6 k n4⟩
theorem Rdr.kk {B0 R ms mp : Nat} {H H' : Hp} {s : RS} (h : Rdr B0 R ms mp H s) (k : KeepK 79 H H') : Rdr B0 R ms mp H' s := h.kkE k (by decide) (by decide) (by decide) (by decide)
/-- A store into a block of another kind. -/
theorem keepK_of {x E : Nat} {c : Array Value} {f : Nat × Nat} {G G' : Hp} (hx : G[x]? = some (.cells c E f)) (k : Keep (· = x) G G') : KeepK E G G' := fun b o hb ho => k.get hb (by intro e; subst e; rw [hx] at hb; cases hb; exact ho _ _ rfl)
theorem FrJ.new {B0 x : Nat} {M : Nat → Prop} {H G G' : Hp} (h : FrJ B0 M H G) (k : Keep (· = x) G G') (hx : H.size ≤ x) : FrJ B0 M H G' :=
  ⟨Nat.le_trans h.size k.size, fun b o hb hm => k.get (h.blk b o hb hm) (by have := get_lt hb; intro e; omega)⟩
theorem MapC.ko {M : Nat → Obj → Prop} {H H' : Hp} {r : Nat} {l : List (List UInt8 × Value)} (h : MapC H r l) (k : KeepO M H H') (hm : ∀ es kk, ¬ M r (.map es kk)) : MapC H' r l := by
  obtain ⟨es, clk, h1, h2, h3⟩ := h
  exact ⟨es, clk, k.blk r _ h1 (hm _ _), h2, h3⟩
theorem Rdr.ext {B0 R ms mp : Nat} {H H' : Hp} {s : RS} (h : Rdr B0 R ms mp H s) (e : Ext H H') : Rdr B0 R ms mp H' s := h.kk fun b o hb _ => e.get hb
theorem G0.frJ {B0 : Nat} {M : Nat → Prop} {H H' : Hp} (g : G0 H) (k : FrJ B0 M H H') (hB : 0 < B0) : G0 H' := by
  obtain ⟨m, hm⟩ := g
  refine ⟨m, ?_⟩
  unfold cellH at hm ⊢
  cases hb : H[0]? with
  | none => simp only [hb] at hm; cases hm
  | some o =>
    have := k.blk 0 o hb (fun h => by have := h.1; omega)
    simp only [hb] at hm
    simp only [this]
    exact hm

theorem hnd_plain {w : List UInt8} {v : Value} (h : hndL.lookup w = some v) : ∃ f, v = fnV f ∧ Plain Tryd.prog f := by
  obtain ⟨p, hp, rfl⟩ := lookup_mem h
  simp only [hndL, List.mem_cons, List.mem_nil_iff, or_false] at hp
  rcases hp with rfl | rfl | rfl | rfl | rfl | rfl | rfl
  · exact ⟨_, rfl, pl86⟩
  · exact ⟨_, rfl, pl87⟩
  · exact ⟨_, rfl, pl88⟩
  · exact ⟨_, rfl, pl89⟩
  · exact ⟨_, rfl, pl90⟩
  · exact ⟨_, rfl, pl90⟩
  · exact ⟨_, rfl, pl90⟩

abbrev MM (ms mp : Nat) : Nat → Prop := fun b => b = ms ∨ b = mp

set_option maxHeartbeats 2000000 in
theorem line_c {B0 R ms mp kn : Nat} {rv : Value} {call : List UInt8} {inn : Bool} {k : Nat} {t : List UInt8} {rest : List Row} {s : RS} {H : Hp} {K : Ending → Hp → Prop} (hf : List (List UInt8) → RS × HR)
    (hR : Rdr B0 R ms mp H s) (hB0 : 0 < B0) (g : G0 H) (hkn : MapC H kn hndL) (hr : RowsV H rv ((k, t) :: rest)) (ht : t.length ≤ 1000000) (hsv : ∀ p ∈ s.syms, p.2.length ≤ 100000000)
    (hdo : ∀ w ws f, lineW (s.syms.lookup ·) t = .ok (w :: ws) → hndL.lookup w = some (fnV f) → ∀ (G : Hp) (wv : Value) (K2 : Ending → Hp → Prop), Ext H G → SlV G wv (w :: ws) → (w :: ws).length ≤ 1000000 →
      (∀ G', FrJ B0 (MM ms mp) G G' → Rdr B0 R ms mp G' (hf (w :: ws)).1 → K2 (.returned (.tuple #[.int .i64 (hf (w :: ws)).2.n, .agg #[.int .i64 (hf (w :: ws)).2.line, .int .i64 (hf (w :: ws)).2.code]])) G') →
      HCall Tryd.prog f #[.pointer (some ⟨R, 0, none⟩), .agg #[rv, .string (B call), .bool inn], wv] G K2)
    (h : ∀ G, FrJ B0 (MM ms mp) H G → Rdr B0 R ms mp G (lineR s k t (fun w => (hndL.lookup w).isSome) hf).1 → K (.returned (.tuple #[.int .i64 (lineR s k t (fun w => (hndL.lookup w).isSome) hf).2.n, .agg #[.int .i64 (lineR s k t (fun w => (hndL.lookup w).isSome) hf).2.line, .int .i64 (lineR s k t (fun w => (hndL.lookup w).isSome) hf).2.code]])) G) :
    HCall Tryd.prog 63 #[.pointer (some ⟨R, 0, none⟩), .map (some kn), .agg #[rv, .string (B call), .bool inn]] H K := by
  refine hcall mixed B63 (args := [.pointer (some ⟨R, 0, none⟩), .map (some kn), .agg #[rv, .string (B call), .bool inn]]) (by simp) ?_
  obtain ⟨rb, roff, rc, rfl, r0, r1⟩ := hr.at0
  obtain ⟨⟨hR0, ov, cells, hRb, hown, hst⟩, hsym, hprocs, hbms, hbmp, hne⟩ := id hR
  simp only [go_sem, reduceCtorEq, Nat.reduceEqDiff, Nat.reduceAdd, withc_some, withcs_some, cells_0, cells_s, Option.bind_some, Option.map_some, List.getElem?_toArray, List.getElem?_cons_zero, List.getElem?_cons_succ, Nat.add_zero, Nat.zero_add, Value.cells, splice, List.setIfInBounds_toArray, List.set_cons_zero, List.set_cons_succ, bfill_nil, bfill_cons, bstep_some, withO_some, List.take_zero, List.take_succ_cons, List.drop_zero, List.drop_succ_cons, List.cons_append, List.nil_append, List.append_nil, List.length_cons, List.length_nil, Nat.reduceLeDiff, Nat.le_refl, and_true, true_and, and_self, decide_true, decide_false, Bool.not_true, Bool.not_false, c63, r63_0, opA_alloc 79 ty79]
  refine box_kA fun b5 G1 e5 s1 h5 E1 => ?_
  simp only [go_sem, reduceCtorEq, Nat.reduceEqDiff, Nat.reduceAdd, withc_some, withcs_some, cells_0, cells_s, Option.bind_some, Option.map_some, List.getElem?_toArray, List.getElem?_cons_zero, List.getElem?_cons_succ, Nat.add_zero, Nat.zero_add, Value.cells, splice, List.setIfInBounds_toArray, List.set_cons_zero, List.set_cons_succ, bfill_nil, bfill_cons, bstep_some, withO_some, List.take_zero, List.take_succ_cons, List.drop_zero, List.drop_succ_cons, List.cons_append, List.nil_append, List.append_nil, List.length_cons, List.length_nil, Nat.reduceLeDiff, Nat.le_refl, and_true, true_and, and_self, decide_true, decide_false, Bool.not_true, Bool.not_false, opA_alloc 79 ty79]
  refine box_kA fun b7 G2 e7 s2 h7 E2 => ?_
  have E12 := E1.trans E2
  have h52 := E2.get h5
  simp only [go_sem, reduceCtorEq, Nat.reduceEqDiff, Nat.reduceAdd, withc_some, withcs_some, cells_0, cells_s, Option.bind_some, Option.map_some, List.getElem?_toArray, List.getElem?_cons_zero, List.getElem?_cons_succ, Nat.add_zero, Nat.zero_add, Value.cells, splice, List.setIfInBounds_toArray, List.set_cons_zero, List.set_cons_succ, bfill_nil, bfill_cons, bstep_some, withO_some, List.take_zero, List.take_succ_cons, List.drop_zero, List.drop_succ_cons, List.cons_append, List.nil_append, List.append_nil, List.length_cons, List.length_nil, Nat.reduceLeDiff, Nat.le_refl, and_true, true_and, and_self, decide_true, decide_false, Bool.not_true, Bool.not_false, c63_19, r63_1, cell_of_blk h52, callA_fn0 pl23, fa73_1, fa82_0, ld68, ld9, opA_alloc 79 ty79]
  rw [iadA_slice uRows ty73 (by omega) (by omega)]
  simp only [go_sem, reduceCtorEq, Nat.reduceEqDiff, Nat.reduceAdd, withc_some, withcs_some, cells_0, cells_s, Option.bind_some, Option.map_some, List.getElem?_toArray, List.getElem?_cons_zero, List.getElem?_cons_succ, Nat.add_zero, Nat.zero_add, Value.cells, splice, List.setIfInBounds_toArray, List.set_cons_zero, List.set_cons_succ, bfill_nil, bfill_cons, bstep_some, withO_some, List.take_zero, List.take_succ_cons, List.drop_zero, List.drop_succ_cons, List.cons_append, List.nil_append, List.append_nil, List.length_cons, List.length_nil, Nat.reduceLeDiff, Nat.le_refl, and_true, true_and, and_self, decide_true, decide_false, Bool.not_true, Bool.not_false, add_none, cell_ext E12 r1, Int.toNat_zero, Nat.zero_mul, callA_fn0 pl23, fa73_1, fa82_0, ld68, ld9, opA_alloc 79 ty79]
  refine trimLeft_blank G2 t (by omega) ?_
  have hdone : ∀ (G G' : Hp) (s' : RS), FrJ B0 (MM ms mp) H G → Rdr B0 R ms mp G s' → (∃ c, G[b7]? = some (.cells c 79 (0, 0))) → Keep (· = b7) G G' → FrJ B0 (MM ms mp) H G' ∧ Rdr B0 R ms mp G' s' := by
    rintro G G' s' hfr hrd ⟨c, hc⟩ hk
    refine ⟨⟨Nat.le_trans hfr.size hk.size, fun b o hb hm => hk.get (hfr.blk b o hb hm) (by have := get_lt hb; have := E1.size; intro e; omega)⟩, hrd.kk fun b o hb ho => hk.get hb ?_⟩
    intro e; subst e; rw [hc] at hb; cases hb; exact ho _ _ rfl
  have hlw : lineW (s.syms.lookup ·) t = if t.dropWhile blank = [] ∨ (t.dropWhile blank).head? = some 35 then .ok []
      else if (replR (s.syms.lookup ·) t).2 = 0 then
        match scanF (replR (s.syms.lookup ·) t).1 with
        | none => .error 3
        | some ws => .ok ws
      else .error (replR (s.syms.lookup ·) t).2 := rfl
  have hbl : (fun x : UInt8 => x == 32) = blank := rfl
  rw [hbl]
  have hfin0 : ∀ (G : Hp) (Q : E → Fr → Hp → Prop) (F0 : Fr), lineW (s.syms.lookup ·) t = .ok [] → Ext G2 G → (∀ F G, Q .ret F G = retK Tryd.prog [.tmp 6, .cell 7 79] K .ret F G) → aw Tryd.prog 78 c63_0 Q ((0, .pointer (some ⟨R, 0, none⟩)) :: (1, .map (some kn)) :: (5, .pointer (some ⟨b5, 0, none⟩)) :: (7, .pointer (some ⟨b7, 0, none⟩)) :: F0) G := by
    intro G Q F0 hl hE hQ
    have hres : lineR s k t (fun w => (hndL.lookup w).isSome) hf = (s, ⟨0, 0, 0⟩) := by unfold lineR; rw [hl]
    rw [hres] at h
    simp only [go_sem, reduceCtorEq, Nat.reduceEqDiff, Nat.reduceAdd, withc_some, withcs_some, cells_0, cells_s, Option.bind_some, Option.map_some, List.getElem?_toArray, List.getElem?_cons_zero, List.getElem?_cons_succ, Nat.add_zero, Nat.zero_add, Value.cells, splice, List.setIfInBounds_toArray, List.set_cons_zero, List.set_cons_succ, bfill_nil, bfill_cons, bstep_some, withO_some, List.take_zero, List.take_succ_cons, List.drop_zero, List.drop_succ_cons, List.cons_append, List.nil_append, List.append_nil, List.length_cons, List.length_nil, Nat.reduceLeDiff, Nat.le_refl, and_true, true_and, and_self, decide_true, decide_false, Bool.not_true, Bool.not_false, c63_0, r63_3, bl79, callA_fn0 pl23, fa73_1, fa82_0, ld68, ld9, opA_alloc 79 ty79]
    refine store_kA (hE.get h7) ty79 (k := fun G4 h8 k4 s4 => ?_)
    simp only [go_sem, reduceCtorEq, Nat.reduceEqDiff, Nat.reduceAdd, withc_some, withcs_some, cells_0, cells_s, Option.bind_some, Option.map_some, List.getElem?_toArray, List.getElem?_cons_zero, List.getElem?_cons_succ, Nat.add_zero, Nat.zero_add, Value.cells, splice, List.setIfInBounds_toArray, List.set_cons_zero, List.set_cons_succ, bfill_nil, bfill_cons, bstep_some, withO_some, List.take_zero, List.take_succ_cons, List.drop_zero, List.drop_succ_cons, List.cons_append, List.nil_append, List.append_nil, List.length_cons, List.length_nil, Nat.reduceLeDiff, Nat.le_refl, and_true, true_and, and_self, decide_true, decide_false, Bool.not_true, Bool.not_false, hQ, resW_cell, bl79, callA_fn0 pl23, fa73_1, fa82_0, ld68, ld9, opA_alloc 79 ty79]
    rw [rc79 (l := [.int .i64 0, .int .i64 0]) (by simp only [go_sem, reduceCtorEq, Nat.reduceEqDiff, Nat.reduceAdd, withc_some, withcs_some, cells_0, cells_s, Option.bind_some, Option.map_some, List.getElem?_toArray, List.getElem?_cons_zero, List.getElem?_cons_succ, Nat.add_zero, Nat.zero_add, Value.cells, splice, List.setIfInBounds_toArray, List.set_cons_zero, List.set_cons_succ, bfill_nil, bfill_cons, bstep_some, withO_some, List.take_zero, List.take_succ_cons, List.drop_zero, List.drop_succ_cons, List.cons_append, List.nil_append, List.append_nil, List.length_cons, List.length_nil, Nat.reduceLeDiff, Nat.le_refl, and_true, true_and, and_self, decide_true, decide_false, Bool.not_true, Bool.not_false, cell_of_blk h8, bl79, callA_fn0 pl23, fa73_1, fa82_0, ld68, ld9, opA_alloc 79 ty79])]
    obtain ⟨f1, f2⟩ := hdone G G4 s (E12.trans hE).ko (hR.ext (E12.trans hE)) ⟨_, hE.get h7⟩ k4
    exact h G4 f1 f2
  have hdl := length_dropWhile_le blank t
  by_cases hid : t.dropWhile blank = []
  · have e1 : (t.dropWhile blank == []) = true := by simp [hid]
    simp only [go_sem, reduceCtorEq, Nat.reduceEqDiff, Nat.reduceAdd, withc_some, withcs_some, cells_0, cells_s, Option.bind_some, Option.map_some, List.getElem?_toArray, List.getElem?_cons_zero, List.getElem?_cons_succ, Nat.add_zero, Nat.zero_add, Value.cells, splice, List.setIfInBounds_toArray, List.set_cons_zero, List.set_cons_succ, bfill_nil, bfill_cons, bstep_some, withO_some, List.take_zero, List.take_succ_cons, List.drop_zero, List.drop_succ_cons, List.cons_append, List.nil_append, List.append_nil, List.length_cons, List.length_nil, Nat.reduceLeDiff, Nat.le_refl, and_true, true_and, and_self, decide_true, decide_false, Bool.not_true, Bool.not_false, c63_18, r63_2, B_lit, B_toList, e1, c63_1, bl79, callA_fn0 pl23, fa73_1, fa82_0, ld68, ld9, opA_alloc 79 ty79]
    exact hfin0 G2 _ _ (by rw [hlw, if_pos (.inl hid)]) (Ext.refl _) (fun F G => by simp only [seqQ_ret, blkE_ret])
  · have e1 : (t.dropWhile blank == []) = false := by simpa using hid
    obtain ⟨c0, tr, hct⟩ : ∃ c0 tr, t.dropWhile blank = c0 :: tr := List.exists_cons_of_ne_nil hid
    have hc0 : (t.dropWhile blank)[0]? = some c0 := by rw [hct]; rfl
    simp only [go_sem, reduceCtorEq, Nat.reduceEqDiff, Nat.reduceAdd, withc_some, withcs_some, cells_0, cells_s, Option.bind_some, Option.map_some, List.getElem?_toArray, List.getElem?_cons_zero, List.getElem?_cons_succ, Nat.add_zero, Nat.zero_add, Value.cells, splice, List.setIfInBounds_toArray, List.set_cons_zero, List.set_cons_succ, bfill_nil, bfill_cons, bstep_some, withO_some, List.take_zero, List.take_succ_cons, List.drop_zero, List.drop_succ_cons, List.cons_append, List.nil_append, List.append_nil, List.length_cons, List.length_nil, Nat.reduceLeDiff, Nat.le_refl, and_true, true_and, and_self, decide_true, decide_false, Bool.not_true, Bool.not_false, c63_18, r63_2, B_lit, B_toList, e1, c63_1, bl79, callA_fn0 pl23, fa73_1, fa82_0, ld68, ld9, opA_alloc 79 ty79]
    rw [show (Value.int .i64 0) = .int .i64 ((0 : Nat) : Int) from rfl, idxA_at uStr hc0]
    by_cases h35 : c0 = 35
    · subst h35
      have e2 : decide (((35 : UInt8).toNat : Int) = 35) = true := rfl
      simp only [go_sem, reduceCtorEq, Nat.reduceEqDiff, Nat.reduceAdd, withc_some, withcs_some, cells_0, cells_s, Option.bind_some, Option.map_some, List.getElem?_toArray, List.getElem?_cons_zero, List.getElem?_cons_succ, Nat.add_zero, Nat.zero_add, Value.cells, splice, List.setIfInBounds_toArray, List.set_cons_zero, List.set_cons_succ, bfill_nil, bfill_cons, bstep_some, withO_some, List.take_zero, List.take_succ_cons, List.drop_zero, List.drop_succ_cons, List.cons_append, List.nil_append, List.append_nil, List.length_cons, List.length_nil, Nat.reduceLeDiff, Nat.le_refl, and_true, true_and, and_self, decide_true, decide_false, Bool.not_true, Bool.not_false, e2, bl79, callA_fn0 pl23, fa73_1, fa82_0, ld68, ld9, opA_alloc 79 ty79]
      exact hfin0 G2 _ _ (by rw [hlw, if_pos (.inr (by rw [hct]; rfl))]) (Ext.refl _) (fun F G => by simp only [seqQ_ret, blkE_ret])
    · have e2 : decide ((c0.toNat : Int) = 35) = false := u8_ne (b := 35) h35
      have hnid : ¬ (t.dropWhile blank = [] ∨ (t.dropWhile blank).head? = some 35) := by
        rw [hct]; simp; exact h35
      rw [if_neg hnid] at hlw
      simp only [go_sem, reduceCtorEq, Nat.reduceEqDiff, Nat.reduceAdd, withc_some, withcs_some, cells_0, cells_s, Option.bind_some, Option.map_some, List.getElem?_toArray, List.getElem?_cons_zero, List.getElem?_cons_succ, Nat.add_zero, Nat.zero_add, Value.cells, splice, List.setIfInBounds_toArray, List.set_cons_zero, List.set_cons_succ, bfill_nil, bfill_cons, bstep_some, withO_some, List.take_zero, List.take_succ_cons, List.drop_zero, List.drop_succ_cons, List.cons_append, List.nil_append, List.append_nil, List.length_cons, List.length_nil, Nat.reduceLeDiff, Nat.le_refl, and_true, true_and, and_self, decide_true, decide_false, Bool.not_true, Bool.not_false, e2, c63_17, r63_4, cell_of_blk h52, bl79, callA_fn0 pl12, callA_fn0 pl23, callQ_fn0 pl12, fa73_1, fa77_0, fa82_0, fq73_1, fq77_0, fq82_0, ld22, ld68, ld9, lq22, lq68, lq9, opA_alloc 79 ty79]
      rw [iadQ_slice uRows ty73 (by omega) (by omega)]
      simp only [go_sem, reduceCtorEq, Nat.reduceEqDiff, Nat.reduceAdd, withc_some, withcs_some, cells_0, cells_s, Option.bind_some, Option.map_some, List.getElem?_toArray, List.getElem?_cons_zero, List.getElem?_cons_succ, Nat.add_zero, Nat.zero_add, Value.cells, splice, List.setIfInBounds_toArray, List.set_cons_zero, List.set_cons_succ, bfill_nil, bfill_cons, bstep_some, withO_some, List.take_zero, List.take_succ_cons, List.drop_zero, List.drop_succ_cons, List.cons_append, List.nil_append, List.append_nil, List.length_cons, List.length_nil, Nat.reduceLeDiff, Nat.le_refl, and_true, true_and, and_self, decide_true, decide_false, Bool.not_true, Bool.not_false, add_none, cell_ext E12 r1, Int.toNat_zero, Nat.zero_mul, cell_of_blk (E12.get hRb), cell_of_blk h52, bl79, callA_fn0 pl12, callA_fn0 pl23, callQ_fn0 pl12, fa73_1, fa77_0, fa82_0, fq73_1, fq77_0, fq82_0, ld22, ld68, ld9, lq22, lq68, lq9, opA_alloc 79 ty79]
      have hsv2 : SymV G2 (.map (some ms)) s.syms := .inr ⟨ms, rfl, (MapC.ext hsym E12).o⟩
      refine replace_c t (.map (some ms)) s.syms G2 (by omega) hsv (g.ext E12) hsv2 fun G3 E3 => ?_
      have E13 := E12.trans E3
      -- an error in the line
      have hfinE2 : ∀ (G : Hp) (Q : E → Fr → Hp → Prop) (F0 : Fr) (e : Int) (y : Value), lineW (s.syms.lookup ·) t = .error e → Ext G2 G → (∀ F G, Q .ret F G = retK Tryd.prog [.tmp 6, .cell 7 79] K .ret F G) → aw Tryd.prog 78 c63_2 Q ((0, .pointer (some ⟨R, 0, none⟩)) :: (1, .map (some kn)) :: (5, .pointer (some ⟨b5, 0, none⟩)) :: (7, .pointer (some ⟨b7, 0, none⟩)) :: (8, y) :: (9, .int .i64 e) :: F0) G := by
        intro G Q F0 e y hl hE hQ
        have hres : lineR s k t (fun w => (hndL.lookup w).isSome) hf = (s, ⟨0, k, e⟩) := by unfold lineR; rw [hl]
        rw [hres] at h
        simp only [go_sem, reduceCtorEq, Nat.reduceEqDiff, Nat.reduceAdd, withc_some, withcs_some, cells_0, cells_s, Option.bind_some, Option.map_some, List.getElem?_toArray, List.getElem?_cons_zero, List.getElem?_cons_succ, Nat.add_zero, Nat.zero_add, Value.cells, splice, List.setIfInBounds_toArray, List.set_cons_zero, List.set_cons_succ, bfill_nil, bfill_cons, bstep_some, withO_some, List.take_zero, List.take_succ_cons, List.drop_zero, List.drop_succ_cons, List.cons_append, List.nil_append, List.append_nil, List.length_cons, List.length_nil, Nat.reduceLeDiff, Nat.le_refl, and_true, true_and, and_self, decide_true, decide_false, Bool.not_true, Bool.not_false, c63_2, r63_6, cell_of_blk (hE.get h52), bl79, callA_fn0 pl12, callA_fn0 pl23, callA_fn0 pl91, callQ_fn0 pl12, fa73_1, fa77_0, fa82_0, fq73_1, fq77_0, fq82_0, ld22, ld68, ld82, ld9, lq22, lq68, lq9, opA_alloc 79 ty79]
        refine at_c (hr.ext (E12.trans hE)) fun G4 E4 => ?_
        simp only [go_sem, reduceCtorEq, Nat.reduceEqDiff, Nat.reduceAdd, withc_some, withcs_some, cells_0, cells_s, Option.bind_some, Option.map_some, List.getElem?_toArray, List.getElem?_cons_zero, List.getElem?_cons_succ, Nat.add_zero, Nat.zero_add, Value.cells, splice, List.setIfInBounds_toArray, List.set_cons_zero, List.set_cons_succ, bfill_nil, bfill_cons, bstep_some, withO_some, List.take_zero, List.take_succ_cons, List.drop_zero, List.drop_succ_cons, List.cons_append, List.nil_append, List.append_nil, List.length_cons, List.length_nil, Nat.reduceLeDiff, Nat.le_refl, and_true, true_and, and_self, decide_true, decide_false, Bool.not_true, Bool.not_false, bl79, callA_fn0 pl12, callA_fn0 pl23, callA_fn0 pl91, callQ_fn0 pl12, fa73_1, fa77_0, fa82_0, fq73_1, fq77_0, fq82_0, ld22, ld68, ld82, ld9, lq22, lq68, lq9, opA_alloc 79 ty79]
        refine store_kA ((hE.trans E4).get h7) ty79 (k := fun G5 h8 k4 s4 => ?_)
        simp only [go_sem, reduceCtorEq, Nat.reduceEqDiff, Nat.reduceAdd, withc_some, withcs_some, cells_0, cells_s, Option.bind_some, Option.map_some, List.getElem?_toArray, List.getElem?_cons_zero, List.getElem?_cons_succ, Nat.add_zero, Nat.zero_add, Value.cells, splice, List.setIfInBounds_toArray, List.set_cons_zero, List.set_cons_succ, bfill_nil, bfill_cons, bstep_some, withO_some, List.take_zero, List.take_succ_cons, List.drop_zero, List.drop_succ_cons, List.cons_append, List.nil_append, List.append_nil, List.length_cons, List.length_nil, Nat.reduceLeDiff, Nat.le_refl, and_true, true_and, and_self, decide_true, decide_false, Bool.not_true, Bool.not_false, hQ, resW_cell, bl79, callA_fn0 pl12, callA_fn0 pl23, callA_fn0 pl91, callQ_fn0 pl12, fa73_1, fa77_0, fa82_0, fq73_1, fq77_0, fq82_0, ld22, ld68, ld82, ld9, lq22, lq68, lq9, opA_alloc 79 ty79]
        rw [rc79 (l := [.int .i64 k, .int .i64 e]) (by simp only [go_sem, reduceCtorEq, Nat.reduceEqDiff, Nat.reduceAdd, withc_some, withcs_some, cells_0, cells_s, Option.bind_some, Option.map_some, List.getElem?_toArray, List.getElem?_cons_zero, List.getElem?_cons_succ, Nat.add_zero, Nat.zero_add, Value.cells, splice, List.setIfInBounds_toArray, List.set_cons_zero, List.set_cons_succ, bfill_nil, bfill_cons, bstep_some, withO_some, List.take_zero, List.take_succ_cons, List.drop_zero, List.drop_succ_cons, List.cons_append, List.nil_append, List.append_nil, List.length_cons, List.length_nil, Nat.reduceLeDiff, Nat.le_refl, and_true, true_and, and_self, decide_true, decide_false, Bool.not_true, Bool.not_false, cell_of_blk h8, bl79, callA_fn0 pl12, callA_fn0 pl23, callA_fn0 pl91, callQ_fn0 pl12, fa73_1, fa77_0, fa82_0, fq73_1, fq77_0, fq82_0, ld22, ld68, ld82, ld9, lq22, lq68, lq9, opA_alloc 79 ty79])]
        obtain ⟨f1, f2⟩ := hdone G4 G5 s (E12.trans (hE.trans E4)).ko (hR.ext (E12.trans (hE.trans E4))) ⟨_, (hE.trans E4).get h7⟩ k4
        exact h G5 f1 f2
      have hfinE4 : ∀ (G : Hp) (Q : E → Fr → Hp → Prop) (F0 : Fr) (e : Int), lineW (s.syms.lookup ·) t = .error e → Ext G2 G → (∀ F G, Q .ret F G = retK Tryd.prog [.tmp 6, .cell 7 79] K .ret F G) → aw Tryd.prog 78 c63_4 Q ((0, .pointer (some ⟨R, 0, none⟩)) :: (1, .map (some kn)) :: (5, .pointer (some ⟨b5, 0, none⟩)) :: (7, .pointer (some ⟨b7, 0, none⟩)) :: (9, .int .i64 e) :: F0) G := by
        intro G Q F0 e hl hE hQ
        have hres : lineR s k t (fun w => (hndL.lookup w).isSome) hf = (s, ⟨0, k, e⟩) := by unfold lineR; rw [hl]
        rw [hres] at h
        simp only [go_sem, reduceCtorEq, Nat.reduceEqDiff, Nat.reduceAdd, withc_some, withcs_some, cells_0, cells_s, Option.bind_some, Option.map_some, List.getElem?_toArray, List.getElem?_cons_zero, List.getElem?_cons_succ, Nat.add_zero, Nat.zero_add, Value.cells, splice, List.setIfInBounds_toArray, List.set_cons_zero, List.set_cons_succ, bfill_nil, bfill_cons, bstep_some, withO_some, List.take_zero, List.take_succ_cons, List.drop_zero, List.drop_succ_cons, List.cons_append, List.nil_append, List.append_nil, List.length_cons, List.length_nil, Nat.reduceLeDiff, Nat.le_refl, and_true, true_and, and_self, decide_true, decide_false, Bool.not_true, Bool.not_false, c63_4, r63_9, cell_of_blk (hE.get h52), bl79, callA_fn0 pl12, callA_fn0 pl23, callA_fn0 pl91, callQ_fn0 pl12, fa73_1, fa77_0, fa82_0, fq73_1, fq77_0, fq82_0, ld22, ld68, ld82, ld9, lq22, lq68, lq9, opA_alloc 79 ty79]
        refine at_c (hr.ext (E12.trans hE)) fun G4 E4 => ?_
        simp only [go_sem, reduceCtorEq, Nat.reduceEqDiff, Nat.reduceAdd, withc_some, withcs_some, cells_0, cells_s, Option.bind_some, Option.map_some, List.getElem?_toArray, List.getElem?_cons_zero, List.getElem?_cons_succ, Nat.add_zero, Nat.zero_add, Value.cells, splice, List.setIfInBounds_toArray, List.set_cons_zero, List.set_cons_succ, bfill_nil, bfill_cons, bstep_some, withO_some, List.take_zero, List.take_succ_cons, List.drop_zero, List.drop_succ_cons, List.cons_append, List.nil_append, List.append_nil, List.length_cons, List.length_nil, Nat.reduceLeDiff, Nat.le_refl, and_true, true_and, and_self, decide_true, decide_false, Bool.not_true, Bool.not_false, bl79, callA_fn0 pl12, callA_fn0 pl23, callA_fn0 pl91, callQ_fn0 pl12, fa73_1, fa77_0, fa82_0, fq73_1, fq77_0, fq82_0, ld22, ld68, ld82, ld9, lq22, lq68, lq9, opA_alloc 79 ty79]
        refine store_kA ((hE.trans E4).get h7) ty79 (k := fun G5 h8 k4 s4 => ?_)
        simp only [go_sem, reduceCtorEq, Nat.reduceEqDiff, Nat.reduceAdd, withc_some, withcs_some, cells_0, cells_s, Option.bind_some, Option.map_some, List.getElem?_toArray, List.getElem?_cons_zero, List.getElem?_cons_succ, Nat.add_zero, Nat.zero_add, Value.cells, splice, List.setIfInBounds_toArray, List.set_cons_zero, List.set_cons_succ, bfill_nil, bfill_cons, bstep_some, withO_some, List.take_zero, List.take_succ_cons, List.drop_zero, List.drop_succ_cons, List.cons_append, List.nil_append, List.append_nil, List.length_cons, List.length_nil, Nat.reduceLeDiff, Nat.le_refl, and_true, true_and, and_self, decide_true, decide_false, Bool.not_true, Bool.not_false, hQ, resW_cell, bl79, callA_fn0 pl12, callA_fn0 pl23, callA_fn0 pl91, callQ_fn0 pl12, fa73_1, fa77_0, fa82_0, fq73_1, fq77_0, fq82_0, ld22, ld68, ld82, ld9, lq22, lq68, lq9, opA_alloc 79 ty79]
        rw [rc79 (l := [.int .i64 k, .int .i64 e]) (by simp only [go_sem, reduceCtorEq, Nat.reduceEqDiff, Nat.reduceAdd, withc_some, withcs_some, cells_0, cells_s, Option.bind_some, Option.map_some, List.getElem?_toArray, List.getElem?_cons_zero, List.getElem?_cons_succ, Nat.add_zero, Nat.zero_add, Value.cells, splice, List.setIfInBounds_toArray, List.set_cons_zero, List.set_cons_succ, bfill_nil, bfill_cons, bstep_some, withO_some, List.take_zero, List.take_succ_cons, List.drop_zero, List.drop_succ_cons, List.cons_append, List.nil_append, List.append_nil, List.length_cons, List.length_nil, Nat.reduceLeDiff, Nat.le_refl, and_true, true_and, and_self, decide_true, decide_false, Bool.not_true, Bool.not_false, cell_of_blk h8, bl79, callA_fn0 pl12, callA_fn0 pl23, callA_fn0 pl91, callQ_fn0 pl12, fa73_1, fa77_0, fa82_0, fq73_1, fq77_0, fq82_0, ld22, ld68, ld82, ld9, lq22, lq68, lq9, opA_alloc 79 ty79])]
        obtain ⟨f1, f2⟩ := hdone G4 G5 s (E12.trans (hE.trans E4)).ko (hR.ext (E12.trans (hE.trans E4))) ⟨_, (hE.trans E4).get h7⟩ k4
        exact h G5 f1 f2
      have hbnd : (replR (s.syms.lookup ·) t).1.length ≤ 1000 := by
        unfold replR
        split
        · split
          · simp
          · simp; omega
        · simp
      simp only [go_sem, reduceCtorEq, Nat.reduceEqDiff, Nat.reduceAdd, withc_some, withcs_some, cells_0, cells_s, Option.bind_some, Option.map_some, List.getElem?_toArray, List.getElem?_cons_zero, List.getElem?_cons_succ, Nat.add_zero, Nat.zero_add, Value.cells, splice, List.setIfInBounds_toArray, List.set_cons_zero, List.set_cons_succ, bfill_nil, bfill_cons, bstep_some, withO_some, List.take_zero, List.take_succ_cons, List.drop_zero, List.drop_succ_cons, List.cons_append, List.nil_append, List.append_nil, List.length_cons, List.length_nil, Nat.reduceLeDiff, Nat.le_refl, and_true, true_and, and_self, decide_true, decide_false, Bool.not_true, Bool.not_false, c63_16, r63_5, bl79, callA_fn0 pl12, callA_fn0 pl23, callA_fn0 pl91, callQ_fn0 pl12, fa73_1, fa77_0, fa82_0, fq73_1, fq77_0, fq82_0, ld22, ld68, ld82, ld9, lq22, lq68, lq9, opA_alloc 79 ty79]
      by_cases he0 : (replR (s.syms.lookup ·) t).2 = 0
      · rw [if_pos he0] at hlw
        have e3 : decide ((replR (s.syms.lookup ·) t).2 = 0) = true := by simpa using he0
        simp only [go_sem, reduceCtorEq, Nat.reduceEqDiff, Nat.reduceAdd, withc_some, withcs_some, cells_0, cells_s, Option.bind_some, Option.map_some, List.getElem?_toArray, List.getElem?_cons_zero, List.getElem?_cons_succ, Nat.add_zero, Nat.zero_add, Value.cells, splice, List.setIfInBounds_toArray, List.set_cons_zero, List.set_cons_succ, bfill_nil, bfill_cons, bstep_some, withO_some, List.take_zero, List.take_succ_cons, List.drop_zero, List.drop_succ_cons, List.cons_append, List.nil_append, List.append_nil, List.length_cons, List.length_nil, Nat.reduceLeDiff, Nat.le_refl, and_true, true_and, and_self, decide_true, decide_false, Bool.not_true, Bool.not_false, e3, c63_3, c63_15, r63_7, bl79, callA_fn0 pl10, callA_fn0 pl12, callA_fn0 pl23, callA_fn0 pl91, callQ_fn0 pl12, fa73_1, fa77_0, fa82_0, fq73_1, fq77_0, fq82_0, ld22, ld68, ld82, ld9, lq22, lq68, lq9, opA_alloc 79 ty79]
        refine Proofs.YtoabcmhiaknjiaaDoor.scan _ G3 (by omega) fun G4 v e E4 hsc => ?_
        unfold ScanR at hsc
        have E24 := E3.trans E4
        simp only [go_sem, reduceCtorEq, Nat.reduceEqDiff, Nat.reduceAdd, withc_some, withcs_some, cells_0, cells_s, Option.bind_some, Option.map_some, List.getElem?_toArray, List.getElem?_cons_zero, List.getElem?_cons_succ, Nat.add_zero, Nat.zero_add, Value.cells, splice, List.setIfInBounds_toArray, List.set_cons_zero, List.set_cons_succ, bfill_nil, bfill_cons, bstep_some, withO_some, List.take_zero, List.take_succ_cons, List.drop_zero, List.drop_succ_cons, List.cons_append, List.nil_append, List.append_nil, List.length_cons, List.length_nil, Nat.reduceLeDiff, Nat.le_refl, and_true, true_and, and_self, decide_true, decide_false, Bool.not_true, Bool.not_false, c63_14, r63_8, bl79, callA_fn0 pl10, callA_fn0 pl12, callA_fn0 pl23, callA_fn0 pl91, callQ_fn0 pl12, fa73_1, fa77_0, fa82_0, fq73_1, fq77_0, fq82_0, ld22, ld68, ld82, ld9, lq22, lq68, lq9, opA_alloc 79 ty79]
        cases hsf : scanF (replR (s.syms.lookup ·) t).1 with
        | none =>
          rw [hsf] at hsc hlw
          obtain ⟨rfl, rfl⟩ := hsc
          simp only [go_sem, reduceCtorEq, Nat.reduceEqDiff, Nat.reduceAdd, withc_some, withcs_some, cells_0, cells_s, Option.bind_some, Option.map_some, List.getElem?_toArray, List.getElem?_cons_zero, List.getElem?_cons_succ, Nat.add_zero, Nat.zero_add, Value.cells, splice, List.setIfInBounds_toArray, List.set_cons_zero, List.set_cons_succ, bfill_nil, bfill_cons, bstep_some, withO_some, List.take_zero, List.take_succ_cons, List.drop_zero, List.drop_succ_cons, List.cons_append, List.nil_append, List.append_nil, List.length_cons, List.length_nil, Nat.reduceLeDiff, Nat.le_refl, and_true, true_and, and_self, decide_true, decide_false, Bool.not_true, Bool.not_false, show decide ((3 : Int) = 0) = false from rfl, c63_5, bl79, callA_fn0 pl10, callA_fn0 pl12, callA_fn0 pl23, callA_fn0 pl91, callQ_fn0 pl12, fa73_1, fa77_0, fa82_0, fq73_1, fq77_0, fq82_0, ld22, ld68, ld82, ld9, lq22, lq68, lq9, opA_alloc 79 ty79]
          exact hfinE4 G4 _ _ 3 hlw E24 (fun F G => by simp only [seqQ_ret])
        | some ws =>
          rw [hsf] at hsc hlw
          obtain ⟨rfl, own⟩ := hsc
          obtain ⟨va, vc, rfl⟩ := own.form
          have hwl : ws.length ≤ 1000 := by
            have := scanF_len hsf
            omega
          simp only [go_sem, reduceCtorEq, Nat.reduceEqDiff, Nat.reduceAdd, withc_some, withcs_some, cells_0, cells_s, Option.bind_some, Option.map_some, List.getElem?_toArray, List.getElem?_cons_zero, List.getElem?_cons_succ, Nat.add_zero, Nat.zero_add, Value.cells, splice, List.setIfInBounds_toArray, List.set_cons_zero, List.set_cons_succ, bfill_nil, bfill_cons, bstep_some, withO_some, List.take_zero, List.take_succ_cons, List.drop_zero, List.drop_succ_cons, List.cons_append, List.nil_append, List.append_nil, List.length_cons, List.length_nil, Nat.reduceLeDiff, Nat.le_refl, and_true, true_and, and_self, decide_true, decide_false, Bool.not_true, Bool.not_false, show decide ((0 : Int) = 0) = true from rfl, c63_5, c63_13, r63_10, bl79, callA_fn0 pl10, callA_fn0 pl12, callA_fn0 pl23, callA_fn0 pl91, callQ_fn0 pl12, fa73_1, fa77_0, fa82_0, fq73_1, fq77_0, fq82_0, ld22, ld68, ld82, ld9, len_slice Tryd.underlying24, lq22, lq68, lq9, opA_alloc 79 ty79]
          match ws, hlw, own, hwl with
          | [], hlw, own, hwl =>
            simp only [go_sem, reduceCtorEq, Nat.reduceEqDiff, Nat.reduceAdd, withc_some, withcs_some, cells_0, cells_s, Option.bind_some, Option.map_some, List.getElem?_toArray, List.getElem?_cons_zero, List.getElem?_cons_succ, Nat.add_zero, Nat.zero_add, Value.cells, splice, List.setIfInBounds_toArray, List.set_cons_zero, List.set_cons_succ, bfill_nil, bfill_cons, bstep_some, withO_some, List.take_zero, List.take_succ_cons, List.drop_zero, List.drop_succ_cons, List.cons_append, List.nil_append, List.append_nil, List.length_cons, List.length_nil, Nat.reduceLeDiff, Nat.le_refl, and_true, true_and, and_self, decide_true, decide_false, Bool.not_true, Bool.not_false, List.length_nil, Int.natCast_zero, show decide ((0 : Int) = 0) = true from rfl, c63_7, c63_6, r63_11, bl79, callA_fn0 pl10, callA_fn0 pl12, callA_fn0 pl23, callA_fn0 pl91, callQ_fn0 pl12, fa73_1, fa77_0, fa82_0, fq73_1, fq77_0, fq82_0, ld22, ld68, ld82, ld9, len_slice Tryd.underlying24, lq22, lq68, lq9, opA_alloc 79 ty79]
            have hres : lineR s k t (fun w => (hndL.lookup w).isSome) hf = (s, ⟨0, 0, 0⟩) := by unfold lineR; rw [hlw]
            rw [hres] at h
            refine store_kA (E24.get h7) ty79 (k := fun G5 h8 k4 s4 => ?_)
            simp only [go_sem, reduceCtorEq, Nat.reduceEqDiff, Nat.reduceAdd, withc_some, withcs_some, cells_0, cells_s, Option.bind_some, Option.map_some, List.getElem?_toArray, List.getElem?_cons_zero, List.getElem?_cons_succ, Nat.add_zero, Nat.zero_add, Value.cells, splice, List.setIfInBounds_toArray, List.set_cons_zero, List.set_cons_succ, bfill_nil, bfill_cons, bstep_some, withO_some, List.take_zero, List.take_succ_cons, List.drop_zero, List.drop_succ_cons, List.cons_append, List.nil_append, List.append_nil, List.length_cons, List.length_nil, Nat.reduceLeDiff, Nat.le_refl, and_true, true_and, and_self, decide_true, decide_false, Bool.not_true, Bool.not_false, resW_cell, bl79, callA_fn0 pl10, callA_fn0 pl12, callA_fn0 pl23, callA_fn0 pl91, callQ_fn0 pl12, fa73_1, fa77_0, fa82_0, fq73_1, fq77_0, fq82_0, ld22, ld68, ld82, ld9, len_slice Tryd.underlying24, lq22, lq68, lq9, opA_alloc 79 ty79]
            rw [rc79 (l := [.int .i64 0, .int .i64 0]) (by simp only [go_sem, reduceCtorEq, Nat.reduceEqDiff, Nat.reduceAdd, withc_some, withcs_some, cells_0, cells_s, Option.bind_some, Option.map_some, List.getElem?_toArray, List.getElem?_cons_zero, List.getElem?_cons_succ, Nat.add_zero, Nat.zero_add, Value.cells, splice, List.setIfInBounds_toArray, List.set_cons_zero, List.set_cons_succ, bfill_nil, bfill_cons, bstep_some, withO_some, List.take_zero, List.take_succ_cons, List.drop_zero, List.drop_succ_cons, List.cons_append, List.nil_append, List.append_nil, List.length_cons, List.length_nil, Nat.reduceLeDiff, Nat.le_refl, and_true, true_and, and_self, decide_true, decide_false, Bool.not_true, Bool.not_false, cell_of_blk h8, bl79, callA_fn0 pl10, callA_fn0 pl12, callA_fn0 pl23, callA_fn0 pl91, callQ_fn0 pl12, fa73_1, fa77_0, fa82_0, fq73_1, fq77_0, fq82_0, ld22, ld68, ld82, ld9, len_slice Tryd.underlying24, lq22, lq68, lq9, opA_alloc 79 ty79])]
            obtain ⟨f1, f2⟩ := hdone G4 G5 s (E12.trans E24).ko (hR.ext (E12.trans E24)) ⟨_, E24.get h7⟩ k4
            exact h G5 f1 f2
          | w :: ws, hlw, own, hwl =>
            have hsl : SlV G4 (.slice va (w :: ws).length vc) (w :: ws) := SlE.own own
            have e5 : decide (((w :: ws).length : Int) = 0) = false := by rw [decide_eq_false_iff_not, List.length_cons]; omega
            obtain ⟨wb, woff, wc', ew, w1⟩ := hsl.at (i := 0) (w := w) rfl
            cases ew
            rw [Nat.add_zero] at w1
            simp only [List.length_cons] at e5
            simp only [go_sem, reduceCtorEq, Nat.reduceEqDiff, Nat.reduceAdd, withc_some, withcs_some, cells_0, cells_s, Option.bind_some, Option.map_some, List.getElem?_toArray, List.getElem?_cons_zero, List.getElem?_cons_succ, Nat.add_zero, Nat.zero_add, Value.cells, splice, List.setIfInBounds_toArray, List.set_cons_zero, List.set_cons_succ, bfill_nil, bfill_cons, bstep_some, withO_some, List.take_zero, List.take_succ_cons, List.drop_zero, List.drop_succ_cons, List.cons_append, List.nil_append, List.append_nil, List.length_cons, List.length_nil, Nat.reduceLeDiff, Nat.le_refl, and_true, true_and, and_self, decide_true, decide_false, Bool.not_true, Bool.not_false, e5, c63_7, c63_12, r63_12, bl79, callA_fn0 pl10, callA_fn0 pl12, callA_fn0 pl23, callA_fn0 pl91, callQ_fn0 pl12, fa73_1, fa77_0, fa82_0, fq73_1, fq77_0, fq82_0, ld22, ld68, ld82, ld9, len_slice Tryd.underlying24, lq22, lq68, lq9, opA_alloc 79 ty79]
            rw [iadA_slice uStrs ty9 (by omega) (by simp)]
            simp only [go_sem, reduceCtorEq, Nat.reduceEqDiff, Nat.reduceAdd, withc_some, withcs_some, cells_0, cells_s, Option.bind_some, Option.map_some, List.getElem?_toArray, List.getElem?_cons_zero, List.getElem?_cons_succ, Nat.add_zero, Nat.zero_add, Value.cells, splice, List.setIfInBounds_toArray, List.set_cons_zero, List.set_cons_succ, bfill_nil, bfill_cons, bstep_some, withO_some, List.take_zero, List.take_succ_cons, List.drop_zero, List.drop_succ_cons, List.cons_append, List.nil_append, List.append_nil, List.length_cons, List.length_nil, Nat.reduceLeDiff, Nat.le_refl, and_true, true_and, and_self, decide_true, decide_false, Bool.not_true, Bool.not_false, add_none, Int.toNat_zero, Nat.zero_mul, w1, opA_lookup, bl79, callA_fn0 pl10, callA_fn0 pl12, callA_fn0 pl23, callA_fn0 pl91, callQ_fn0 pl12, fa73_1, fa77_0, fa82_0, fq73_1, fq77_0, fq82_0, ld22, ld68, ld82, ld9, len_slice Tryd.underlying24, lq22, lq68, lq9, opA_alloc 79 ty79]
            rw [lkpA_ok uHM uStr ty124 (MapC.ext hkn (E12.trans E24)).o]
            cases hlk : hndL.lookup w with
            | none =>
              simp only [go_sem, reduceCtorEq, Nat.reduceEqDiff, Nat.reduceAdd, withc_some, withcs_some, cells_0, cells_s, Option.bind_some, Option.map_some, List.getElem?_toArray, List.getElem?_cons_zero, List.getElem?_cons_succ, Nat.add_zero, Nat.zero_add, Value.cells, splice, List.setIfInBounds_toArray, List.set_cons_zero, List.set_cons_succ, bfill_nil, bfill_cons, bstep_some, withO_some, List.take_zero, List.take_succ_cons, List.drop_zero, List.drop_succ_cons, List.cons_append, List.nil_append, List.append_nil, List.length_cons, List.length_nil, Nat.reduceLeDiff, Nat.le_refl, and_true, true_and, and_self, decide_true, decide_false, Bool.not_true, Bool.not_false, Option.isSome_none, c63_11, r63_13, c63_9, c63_8, r63_14, cell_of_blk (E24.get h52), bl79, callA_fn0 pl10, callA_fn0 pl12, callA_fn0 pl23, callA_fn0 pl91, callQ_fn0 pl12, fa73_1, fa77_0, fa82_0, fq73_1, fq77_0, fq82_0, ld22, ld68, ld82, ld9, len_slice Tryd.underlying24, lq22, lq68, lq9, opA_alloc 79 ty79]
              have hres : lineR s k t (fun w => (hndL.lookup w).isSome) hf = (s, ⟨0, k, 3⟩) := by unfold lineR; rw [hlw]; simp [hlk]
              rw [hres] at h
              refine at_c (hr.ext (E12.trans E24)) fun G5 E5 => ?_
              simp only [go_sem, reduceCtorEq, Nat.reduceEqDiff, Nat.reduceAdd, withc_some, withcs_some, cells_0, cells_s, Option.bind_some, Option.map_some, List.getElem?_toArray, List.getElem?_cons_zero, List.getElem?_cons_succ, Nat.add_zero, Nat.zero_add, Value.cells, splice, List.setIfInBounds_toArray, List.set_cons_zero, List.set_cons_succ, bfill_nil, bfill_cons, bstep_some, withO_some, List.take_zero, List.take_succ_cons, List.drop_zero, List.drop_succ_cons, List.cons_append, List.nil_append, List.append_nil, List.length_cons, List.length_nil, Nat.reduceLeDiff, Nat.le_refl, and_true, true_and, and_self, decide_true, decide_false, Bool.not_true, Bool.not_false, bl79, callA_fn0 pl10, callA_fn0 pl12, callA_fn0 pl23, callA_fn0 pl91, callQ_fn0 pl12, fa73_1, fa77_0, fa82_0, fq73_1, fq77_0, fq82_0, ld22, ld68, ld82, ld9, len_slice Tryd.underlying24, lq22, lq68, lq9, opA_alloc 79 ty79]
              refine store_kA ((E24.trans E5).get h7) ty79 (k := fun G6 h8 k4 s4 => ?_)
              simp only [go_sem, reduceCtorEq, Nat.reduceEqDiff, Nat.reduceAdd, withc_some, withcs_some, cells_0, cells_s, Option.bind_some, Option.map_some, List.getElem?_toArray, List.getElem?_cons_zero, List.getElem?_cons_succ, Nat.add_zero, Nat.zero_add, Value.cells, splice, List.setIfInBounds_toArray, List.set_cons_zero, List.set_cons_succ, bfill_nil, bfill_cons, bstep_some, withO_some, List.take_zero, List.take_succ_cons, List.drop_zero, List.drop_succ_cons, List.cons_append, List.nil_append, List.append_nil, List.length_cons, List.length_nil, Nat.reduceLeDiff, Nat.le_refl, and_true, true_and, and_self, decide_true, decide_false, Bool.not_true, Bool.not_false, resW_cell, bl79, callA_fn0 pl10, callA_fn0 pl12, callA_fn0 pl23, callA_fn0 pl91, callQ_fn0 pl12, fa73_1, fa77_0, fa82_0, fq73_1, fq77_0, fq82_0, ld22, ld68, ld82, ld9, len_slice Tryd.underlying24, lq22, lq68, lq9, opA_alloc 79 ty79]
              rw [rc79 (l := [.int .i64 k, .int .i64 3]) (by simp only [go_sem, reduceCtorEq, Nat.reduceEqDiff, Nat.reduceAdd, withc_some, withcs_some, cells_0, cells_s, Option.bind_some, Option.map_some, List.getElem?_toArray, List.getElem?_cons_zero, List.getElem?_cons_succ, Nat.add_zero, Nat.zero_add, Value.cells, splice, List.setIfInBounds_toArray, List.set_cons_zero, List.set_cons_succ, bfill_nil, bfill_cons, bstep_some, withO_some, List.take_zero, List.take_succ_cons, List.drop_zero, List.drop_succ_cons, List.cons_append, List.nil_append, List.append_nil, List.length_cons, List.length_nil, Nat.reduceLeDiff, Nat.le_refl, and_true, true_and, and_self, decide_true, decide_false, Bool.not_true, Bool.not_false, cell_of_blk h8, bl79, callA_fn0 pl10, callA_fn0 pl12, callA_fn0 pl23, callA_fn0 pl91, callQ_fn0 pl12, fa73_1, fa77_0, fa82_0, fq73_1, fq77_0, fq82_0, ld22, ld68, ld82, ld9, len_slice Tryd.underlying24, lq22, lq68, lq9, opA_alloc 79 ty79])]
              obtain ⟨f1, f2⟩ := hdone G5 G6 s (E12.trans (E24.trans E5)).ko (hR.ext (E12.trans (E24.trans E5))) ⟨_, (E24.trans E5).get h7⟩ k4
              exact h G6 f1 f2
            | some v =>
              obtain ⟨f, rfl, hpl⟩ := hnd_plain hlk
              have hres : lineR s k t (fun w => (hndL.lookup w).isSome) hf = hf (w :: ws) := by unfold lineR; rw [hlw]; simp [hlk]
              rw [hres] at h
              simp only [go_sem, reduceCtorEq, Nat.reduceEqDiff, Nat.reduceAdd, withc_some, withcs_some, cells_0, cells_s, Option.bind_some, Option.map_some, List.getElem?_toArray, List.getElem?_cons_zero, List.getElem?_cons_succ, Nat.add_zero, Nat.zero_add, Value.cells, splice, List.setIfInBounds_toArray, List.set_cons_zero, List.set_cons_succ, bfill_nil, bfill_cons, bstep_some, withO_some, List.take_zero, List.take_succ_cons, List.drop_zero, List.drop_succ_cons, List.cons_append, List.nil_append, List.append_nil, List.length_cons, List.length_nil, Nat.reduceLeDiff, Nat.le_refl, and_true, true_and, and_self, decide_true, decide_false, Bool.not_true, Bool.not_false, Option.isSome_some, Option.getD_some, c63_11, r63_13, c63_9, c63_10, r63_15, cell_of_blk (E24.get h52), bl79, callA_fn0 pl10, callA_fn0 pl12, callA_fn0 pl23, callA_fn0 pl91, callQ_fn0 pl12, fa73_1, fa77_0, fa82_0, fq73_1, fq77_0, fq82_0, ld22, ld68, ld82, ld9, len_slice Tryd.underlying24, lq22, lq68, lq9, opA_alloc 79 ty79]
              unfold fnV
              rw [callA_fn0 hpl]
              refine hdo w ws f hlw hlk G4 _ _ (E12.trans E24) hsl (by omega) fun G5 hfr hrd => ?_
              simp only [go_sem, reduceCtorEq, Nat.reduceEqDiff, Nat.reduceAdd, withc_some, withcs_some, cells_0, cells_s, Option.bind_some, Option.map_some, List.getElem?_toArray, List.getElem?_cons_zero, List.getElem?_cons_succ, Nat.add_zero, Nat.zero_add, Value.cells, splice, List.setIfInBounds_toArray, List.set_cons_zero, List.set_cons_succ, bfill_nil, bfill_cons, bstep_some, withO_some, List.take_zero, List.take_succ_cons, List.drop_zero, List.drop_succ_cons, List.cons_append, List.nil_append, List.append_nil, List.length_cons, List.length_nil, Nat.reduceLeDiff, Nat.le_refl, and_true, true_and, and_self, decide_true, decide_false, Bool.not_true, Bool.not_false, bl79, callA_fn0 pl10, callA_fn0 pl12, callA_fn0 pl23, callA_fn0 pl91, callQ_fn0 pl12, fa73_1, fa77_0, fa82_0, fq73_1, fq77_0, fq82_0, ld22, ld68, ld82, ld9, len_slice Tryd.underlying24, lq22, lq68, lq9, opA_alloc 79 ty79]
              have h75 := cells_frJ hfr (E24.get h7) (by decide) (by decide)
              refine store_kA h75 ty79 (k := fun G6 h8 k4 s4 => ?_)
              simp only [go_sem, reduceCtorEq, Nat.reduceEqDiff, Nat.reduceAdd, withc_some, withcs_some, cells_0, cells_s, Option.bind_some, Option.map_some, List.getElem?_toArray, List.getElem?_cons_zero, List.getElem?_cons_succ, Nat.add_zero, Nat.zero_add, Value.cells, splice, List.setIfInBounds_toArray, List.set_cons_zero, List.set_cons_succ, bfill_nil, bfill_cons, bstep_some, withO_some, List.take_zero, List.take_succ_cons, List.drop_zero, List.drop_succ_cons, List.cons_append, List.nil_append, List.append_nil, List.length_cons, List.length_nil, Nat.reduceLeDiff, Nat.le_refl, and_true, true_and, and_self, decide_true, decide_false, Bool.not_true, Bool.not_false, resW_cell, bl79, callA_fn0 pl10, callA_fn0 pl12, callA_fn0 pl23, callA_fn0 pl91, callQ_fn0 pl12, fa73_1, fa77_0, fa82_0, fq73_1, fq77_0, fq82_0, ld22, ld68, ld82, ld9, len_slice Tryd.underlying24, lq22, lq68, lq9, opA_alloc 79 ty79]
              rw [rc79 (l := [.int .i64 (hf (w :: ws)).2.line, .int .i64 (hf (w :: ws)).2.code]) (by simp only [go_sem, reduceCtorEq, Nat.reduceEqDiff, Nat.reduceAdd, withc_some, withcs_some, cells_0, cells_s, Option.bind_some, Option.map_some, List.getElem?_toArray, List.getElem?_cons_zero, List.getElem?_cons_succ, Nat.add_zero, Nat.zero_add, Value.cells, splice, List.setIfInBounds_toArray, List.set_cons_zero, List.set_cons_succ, bfill_nil, bfill_cons, bstep_some, withO_some, List.take_zero, List.take_succ_cons, List.drop_zero, List.drop_succ_cons, List.cons_append, List.nil_append, List.append_nil, List.length_cons, List.length_nil, Nat.reduceLeDiff, Nat.le_refl, and_true, true_and, and_self, decide_true, decide_false, Bool.not_true, Bool.not_false, cell_of_blk h8, bl79, callA_fn0 pl10, callA_fn0 pl12, callA_fn0 pl23, callA_fn0 pl91, callQ_fn0 pl12, fa73_1, fa77_0, fa82_0, fq73_1, fq77_0, fq82_0, ld22, ld68, ld82, ld9, len_slice Tryd.underlying24, lq22, lq68, lq9, opA_alloc 79 ty79])]
              obtain ⟨f1, f2⟩ := hdone G5 G6 _ ((E12.trans E24).ko.trans hfr) hrd ⟨_, h75⟩ k4
              exact h G6 f1 f2
      · rw [if_neg he0] at hlw
        have e3 : decide ((replR (s.syms.lookup ·) t).2 = 0) = false := by simpa using he0
        simp only [go_sem, reduceCtorEq, Nat.reduceEqDiff, Nat.reduceAdd, withc_some, withcs_some, cells_0, cells_s, Option.bind_some, Option.map_some, List.getElem?_toArray, List.getElem?_cons_zero, List.getElem?_cons_succ, Nat.add_zero, Nat.zero_add, Value.cells, splice, List.setIfInBounds_toArray, List.set_cons_zero, List.set_cons_succ, bfill_nil, bfill_cons, bstep_some, withO_some, List.take_zero, List.take_succ_cons, List.drop_zero, List.drop_succ_cons, List.cons_append, List.nil_append, List.append_nil, List.length_cons, List.length_nil, Nat.reduceLeDiff, Nat.le_refl, and_true, true_and, and_self, decide_true, decide_false, Bool.not_true, Bool.not_false, e3, c63_3, bl79, callA_fn0 pl10, callA_fn0 pl12, callA_fn0 pl23, callA_fn0 pl91, callQ_fn0 pl12, fa73_1, fa77_0, fa82_0, fq73_1, fq77_0, fq82_0, ld22, ld68, ld82, ld9, len_slice Tryd.underlying24, lq22, lq68, lq9, opA_alloc 79 ty79]
        exact hfinE2 G3 _ _ _ _ hlw E3 (fun F G => by simp only [seqQ_ret])
end Go.Proofs.YtoabcmhiaknjiaaDoor

/- Contracts of jobtext: read. -/
set_option maxRecDepth 100000
set_option linter.unusedSimpArgs false
set_option linter.unusedVariables false
namespace Go.Proofs.YtoabcmhiaknjiaaDoor
open Go.Hw

set_option maxHeartbeats 2000000 in
theorem read_c {B0 R ms mp : Nat} {rv : Value} {call : List UInt8} {inn : Bool} {rows : List Row} {s : RS} {H : Hp} {K : Ending → Hp → Prop} (LF : RS → Row → List Row → RS × HR) (Iv : RS → Prop) (Rw : List Row → Prop)
    (hR : Rdr B0 R ms mp H s) (hB0 : 0 < B0) (hBH : B0 ≤ H.size) (g : G0 H) (hr : RowsV H rv rows) (hIv : Iv s) (hRw : Rw rows) (hrl : rows.length ≤ 1000000)
    (hstep : ∀ s x rest, Iv s → Rw (x :: rest) → Iv (LF s x rest).1 ∧ (LF s x rest).2.n ≤ rest.length ∧ Rw (rest.drop (LF s x rest).2.n))
    (hline : ∀ (s : RS) (G : Hp) (rv : Value) (k : Nat) (t : List UInt8) (rest : List Row) (kn : Nat) (K2 : Ending → Hp → Prop), Iv s → Rw ((k, t) :: rest) → B0 ≤ G.size → G0 G → Rdr B0 R ms mp G s → MapC G kn hndL → RowsV G rv ((k, t) :: rest) → (rest.length ≤ 1000000) →
      (∀ G', FrJ B0 (MM ms mp) G G' → Rdr B0 R ms mp G' (LF s (k, t) rest).1 → K2 (.returned (.tuple #[.int .i64 (LF s (k, t) rest).2.n, .agg #[.int .i64 (LF s (k, t) rest).2.line, .int .i64 (LF s (k, t) rest).2.code]])) G') →
      HCall Tryd.prog 63 #[.pointer (some ⟨R, 0, none⟩), .map (some kn), .agg #[rv, .string (B call), .bool inn]] G K2)
    (h : ∀ G, FrJ B0 (MM ms mp) H G → Rdr B0 R ms mp G (readT LF rows.length s rows).1 → K (.returned (.agg #[.int .i64 (readT LF rows.length s rows).2.1, .int .i64 (readT LF rows.length s rows).2.2])) G) :
    HCall Tryd.prog 39 #[.pointer (some ⟨R, 0, none⟩), .agg #[rv, .string (B call), .bool inn]] H K := by
  refine hcall mixed B39 (args := [.pointer (some ⟨R, 0, none⟩), .agg #[rv, .string (B call), .bool inn]]) (by simp) ?_
  obtain ⟨ra, rc, rfl⟩ := SlE.form hr
  simp only [go_sem, reduceCtorEq, Nat.reduceEqDiff, Nat.reduceAdd, withc_some, withcs_some, cells_0, cells_s, Option.bind_some, Option.map_some, List.getElem?_toArray, List.getElem?_cons_zero, List.getElem?_cons_succ, Nat.add_zero, Nat.zero_add, Value.cells, splice, List.setIfInBounds_toArray, List.set_cons_zero, List.set_cons_succ, bfill_nil, bfill_cons, bstep_some, withO_some, List.take_zero, List.take_succ_cons, List.drop_zero, List.drop_succ_cons, List.cons_append, List.nil_append, List.append_nil, List.length_cons, List.length_nil, Nat.reduceLeDiff, Nat.le_refl, and_true, true_and, and_self, decide_true, decide_false, Bool.not_true, Bool.not_false, c39, r39_0, opA_alloc 79 ty79]
  refine box_kA fun b3 G1 e3 s1 h3 E1 => ?_
  simp only [go_sem, reduceCtorEq, Nat.reduceEqDiff, Nat.reduceAdd, withc_some, withcs_some, cells_0, cells_s, Option.bind_some, Option.map_some, List.getElem?_toArray, List.getElem?_cons_zero, List.getElem?_cons_succ, Nat.add_zero, Nat.zero_add, Value.cells, splice, List.setIfInBounds_toArray, List.set_cons_zero, List.set_cons_succ, bfill_nil, bfill_cons, bstep_some, withO_some, List.take_zero, List.take_succ_cons, List.drop_zero, List.drop_succ_cons, List.cons_append, List.nil_append, List.append_nil, List.length_cons, List.length_nil, Nat.reduceLeDiff, Nat.le_refl, and_true, true_and, and_self, decide_true, decide_false, Bool.not_true, Bool.not_false, opA_alloc 79 ty79]
  refine box_kA fun b4 G2 e4 s2 h4 E2 => ?_
  have E12 := E1.trans E2
  simp only [go_sem, reduceCtorEq, Nat.reduceEqDiff, Nat.reduceAdd, withc_some, withcs_some, cells_0, cells_s, Option.bind_some, Option.map_some, List.getElem?_toArray, List.getElem?_cons_zero, List.getElem?_cons_succ, Nat.add_zero, Nat.zero_add, Value.cells, splice, List.setIfInBounds_toArray, List.set_cons_zero, List.set_cons_succ, bfill_nil, bfill_cons, bstep_some, withO_some, List.take_zero, List.take_succ_cons, List.drop_zero, List.drop_succ_cons, List.cons_append, List.nil_append, List.append_nil, List.length_cons, List.length_nil, Nat.reduceLeDiff, Nat.le_refl, and_true, true_and, and_self, decide_true, decide_false, Bool.not_true, Bool.not_false, c39_11, r39_1, callA_fn0 pl62, opA_alloc 79 ty79]
  refine handlers_c fun kn G3 hkn E3 hm => ?_
  have E13 := E12.trans E3
  simp only [go_sem, reduceCtorEq, Nat.reduceEqDiff, Nat.reduceAdd, withc_some, withcs_some, cells_0, cells_s, Option.bind_some, Option.map_some, List.getElem?_toArray, List.getElem?_cons_zero, List.getElem?_cons_succ, Nat.add_zero, Nat.zero_add, Value.cells, splice, List.setIfInBounds_toArray, List.set_cons_zero, List.set_cons_succ, bfill_nil, bfill_cons, bstep_some, withO_some, List.take_zero, List.take_succ_cons, List.drop_zero, List.drop_succ_cons, List.cons_append, List.nil_append, List.append_nil, List.length_cons, List.length_nil, Nat.reduceLeDiff, Nat.le_refl, and_true, true_and, and_self, decide_true, decide_false, Bool.not_true, Bool.not_false, c39_10, callA_fn0 pl62, opA_alloc 79 ty79]
  have hms : ms < H.size := by obtain ⟨es, kk, q, _⟩ := hR.syms; exact get_lt q
  have hmp : mp < H.size := by obtain ⟨l, ⟨es, kk, q, _⟩, _⟩ := hR.procs; exact get_lt q
  refine aw_while (L := c39_8) rfl (fun m F G => ∃ (n : Nat) (s' : RS) (rows' : List Row) (rv' : Value), m = rows'.length ∧ F = [(0, .pointer (some ⟨R, 0, none⟩)), (3, .pointer (some ⟨b3, 0, none⟩)), (4, .pointer (some ⟨b4, 0, none⟩)), (5, .map (some kn))] ∧
      FrJ B0 (MM ms mp) H G ∧ G[b3]? = some (.cells #[rv', .string (B call), .bool inn] 82 (0, 0)) ∧ G[b4]? = some (.cells #[.int .i64 0, .int .i64 0] 79 (0, 0)) ∧ Rdr B0 R ms mp G s' ∧ MapC G kn hndL ∧ RowsV G rv' rows' ∧ G0 G ∧ Iv s' ∧ Rw rows' ∧ rows'.length ≤ n ∧ rows'.length ≤ 1000000 ∧ readT LF rows.length s rows = readT LF n s' rows') (m := rows.length)
    ⟨rows.length, s, rows, _, rfl, rfl, E13.ko, E3.get (E2.get h3), E3.get h4, hR.ext E13, hm, hr.ext E13, g.ext E13, hIv, hRw, Nat.le_refl _, hrl, rfl⟩ ?_
  rintro m F G ih ⟨n, s', rows', rv', rfl, rfl, hfr, g3, g4, hrd, hmk, hrv, hg, hiv, hrw, hn, hl, hq⟩
  obtain ⟨a', c', rfl⟩ := SlE.form hrv
  match rows', hrv, hrw, hn, hl, hq with
  | [], hrv, hrw, hn, hl, hq =>
    have e1 : decide ((0 : Int) < ((0 : Nat) : Int)) = false := by decide
    simp only [go_sem, reduceCtorEq, Nat.reduceEqDiff, Nat.reduceAdd, withc_some, withcs_some, cells_0, cells_s, Option.bind_some, Option.map_some, List.getElem?_toArray, List.getElem?_cons_zero, List.getElem?_cons_succ, Nat.add_zero, Nat.zero_add, Value.cells, splice, List.setIfInBounds_toArray, List.set_cons_zero, List.set_cons_succ, bfill_nil, bfill_cons, bstep_some, withO_some, List.take_zero, List.take_succ_cons, List.drop_zero, List.drop_succ_cons, List.cons_append, List.nil_append, List.append_nil, List.length_cons, List.length_nil, Nat.reduceLeDiff, Nat.le_refl, and_true, true_and, and_self, decide_true, decide_false, Bool.not_true, Bool.not_false, c39_7, c39_6, r39_2, cell_of_blk g3, List.length_nil, e1, c39_0, c39_9, r39_7, bl79, callA_fn0 pl62, fa82_0, ld68, len_slice Tryd.underlying68, opA_alloc 79 ty79]
    refine store_kA g4 ty79 (k := fun G4 h5 k5 s5 => ?_)
    simp only [go_sem, reduceCtorEq, Nat.reduceEqDiff, Nat.reduceAdd, withc_some, withcs_some, cells_0, cells_s, Option.bind_some, Option.map_some, List.getElem?_toArray, List.getElem?_cons_zero, List.getElem?_cons_succ, Nat.add_zero, Nat.zero_add, Value.cells, splice, List.setIfInBounds_toArray, List.set_cons_zero, List.set_cons_succ, bfill_nil, bfill_cons, bstep_some, withO_some, List.take_zero, List.take_succ_cons, List.drop_zero, List.drop_succ_cons, List.cons_append, List.nil_append, List.append_nil, List.length_cons, List.length_nil, Nat.reduceLeDiff, Nat.le_refl, and_true, true_and, and_self, decide_true, decide_false, Bool.not_true, Bool.not_false, resW_cell, bl79, callA_fn0 pl62, fa82_0, ld68, len_slice Tryd.underlying68, opA_alloc 79 ty79]
    rw [rc79 (l := [.int .i64 0, .int .i64 0]) (by simp only [go_sem, reduceCtorEq, Nat.reduceEqDiff, Nat.reduceAdd, withc_some, withcs_some, cells_0, cells_s, Option.bind_some, Option.map_some, List.getElem?_toArray, List.getElem?_cons_zero, List.getElem?_cons_succ, Nat.add_zero, Nat.zero_add, Value.cells, splice, List.setIfInBounds_toArray, List.set_cons_zero, List.set_cons_succ, bfill_nil, bfill_cons, bstep_some, withO_some, List.take_zero, List.take_succ_cons, List.drop_zero, List.drop_succ_cons, List.cons_append, List.nil_append, List.append_nil, List.length_cons, List.length_nil, Nat.reduceLeDiff, Nat.le_refl, and_true, true_and, and_self, decide_true, decide_false, Bool.not_true, Bool.not_false, cell_of_blk h5, bl79, callA_fn0 pl62, fa82_0, ld68, len_slice Tryd.underlying68, opA_alloc 79 ty79])]
    have hq' : readT LF rows.length s rows = (s', 0, 0) := by rw [hq]; cases n <;> rfl
    rw [hq'] at h
    exact h G4 (hfr.new k5 (by omega)) (hrd.kk (keepK_of g4 k5))
  | (k, t) :: rest, hrv, hrw, hn, hl, hq =>
    have e1 : decide ((0 : Int) < ((rest.length + 1 : Nat) : Int)) = true := by rw [decide_eq_true_eq]; omega
    simp only [List.length_cons] at hn hl
    simp only [go_sem, reduceCtorEq, Nat.reduceEqDiff, Nat.reduceAdd, withc_some, withcs_some, cells_0, cells_s, Option.bind_some, Option.map_some, List.getElem?_toArray, List.getElem?_cons_zero, List.getElem?_cons_succ, Nat.add_zero, Nat.zero_add, Value.cells, splice, List.setIfInBounds_toArray, List.set_cons_zero, List.set_cons_succ, bfill_nil, bfill_cons, bstep_some, withO_some, List.take_zero, List.take_succ_cons, List.drop_zero, List.drop_succ_cons, List.cons_append, List.nil_append, List.append_nil, List.length_cons, List.length_nil, Nat.reduceLeDiff, Nat.le_refl, and_true, true_and, and_self, decide_true, decide_false, Bool.not_true, Bool.not_false, c39_7, c39_6, r39_2, cell_of_blk g3, e1, c39_0, c39_5, c39_4, r39_3, bl79, callA_fn0 pl62, callA_fn0 pl63, fa82_0, ld68, ld82, len_slice Tryd.underlying68, opA_alloc 79 ty79]
    obtain ⟨hv1, hv2, hv3⟩ := hstep s' (k, t) rest hiv hrw
    have hBG : B0 ≤ G.size := Nat.le_trans hBH hfr.size
    refine hline s' G _ k t rest kn _ hiv hrw hBG hg hrd hmk (by simpa using hrv) (by omega) fun G4 f4 hrd4 => ?_
    have g34 := cells_frJ f4 g3 (by decide) (by decide)
    have g44 := cells_frJ f4 g4 (by decide) (by decide)
    have hfr4 := hfr.trans f4
    simp only [go_sem, reduceCtorEq, Nat.reduceEqDiff, Nat.reduceAdd, withc_some, withcs_some, cells_0, cells_s, Option.bind_some, Option.map_some, List.getElem?_toArray, List.getElem?_cons_zero, List.getElem?_cons_succ, Nat.add_zero, Nat.zero_add, Value.cells, splice, List.setIfInBounds_toArray, List.set_cons_zero, List.set_cons_succ, bfill_nil, bfill_cons, bstep_some, withO_some, List.take_zero, List.take_succ_cons, List.drop_zero, List.drop_succ_cons, List.cons_append, List.nil_append, List.append_nil, List.length_cons, List.length_nil, Nat.reduceLeDiff, Nat.le_refl, and_true, true_and, and_self, decide_true, decide_false, Bool.not_true, Bool.not_false, bl79, callA_fn0 pl62, callA_fn0 pl63, fa82_0, ld68, ld82, len_slice Tryd.underlying68, opA_alloc 79 ty79]
    refine box_kA fun b7 G5 e7 s5 h7 E5 => ?_
    simp only [go_sem, reduceCtorEq, Nat.reduceEqDiff, Nat.reduceAdd, withc_some, withcs_some, cells_0, cells_s, Option.bind_some, Option.map_some, List.getElem?_toArray, List.getElem?_cons_zero, List.getElem?_cons_succ, Nat.add_zero, Nat.zero_add, Value.cells, splice, List.setIfInBounds_toArray, List.set_cons_zero, List.set_cons_succ, bfill_nil, bfill_cons, bstep_some, withO_some, List.take_zero, List.take_succ_cons, List.drop_zero, List.drop_succ_cons, List.cons_append, List.nil_append, List.append_nil, List.length_cons, List.length_nil, Nat.reduceLeDiff, Nat.le_refl, and_true, true_and, and_self, decide_true, decide_false, Bool.not_true, Bool.not_false, bl79, callA_fn0 pl62, callA_fn0 pl63, fa82_0, ld68, ld82, len_slice Tryd.underlying68, opA_alloc 79 ty79]
    refine store_kA h7 ty79 (k := fun G6 h8 k6 s6 => ?_)
    have h8' : G6[b7]? = some (.cells #[.int .i64 (LF s' (k, t) rest).2.line, .int .i64 (LF s' (k, t) rest).2.code] 79 (0, 0)) := h8
    have E46 : Ext G4 G6 := k6.two E5 (by omega)
    have hfr6 : FrJ B0 (MM ms mp) H G6 := hfr4.trans E46.ko
    by_cases hc0 : (LF s' (k, t) rest).2.code = 0
    · have e2 : decide ((LF s' (k, t) rest).2.code = 0) = true := by simpa using hc0
      obtain ⟨hrn, hrc, htl⟩ := hrv.tail
      have hdrop : RowsV G6 (.slice (subAddr a' 2 ((LF s' (k, t) rest).2.n + 1) c') (rest.length + 1 - ((LF s' (k, t) rest).2.n + 1)) (c' - ((LF s' (k, t) rest).2.n + 1))) (rest.drop (LF s' (k, t) rest).2.n) := by
        have h1 := SlE.drop (hrv.frJ f4 |>.ext E46) (lo := (LF s' (k, t) rest).2.n + 1) (by simp; omega)
        unfold RowsV
        have e : ∀ (m : Nat) (l : List Row), (rowsC l).drop (m * 2) = rowsC (l.drop m) := by
          intro m
          induction m with
          | zero => intro l; simp
          | succ m ih =>
            intro l
            cases l with
            | nil => simp [rowsC]
            | cons x r => rw [rowsC_cons, Nat.succ_mul, Nat.add_comm, ← List.drop_drop]; simpa [rowC] using ih r
        rw [e] at h1
        simpa using h1
      simp only [go_sem, reduceCtorEq, Nat.reduceEqDiff, Nat.reduceAdd, withc_some, withcs_some, cells_0, cells_s, Option.bind_some, Option.map_some, List.getElem?_toArray, List.getElem?_cons_zero, List.getElem?_cons_succ, Nat.add_zero, Nat.zero_add, Value.cells, splice, List.setIfInBounds_toArray, List.set_cons_zero, List.set_cons_succ, bfill_nil, bfill_cons, bstep_some, withO_some, List.take_zero, List.take_succ_cons, List.drop_zero, List.drop_succ_cons, List.cons_append, List.nil_append, List.append_nil, List.length_cons, List.length_nil, Nat.reduceLeDiff, Nat.le_refl, and_true, true_and, and_self, decide_true, decide_false, Bool.not_true, Bool.not_false, c39_3, r39_4, cell_of_blk h8', e2, c39_2, r39_6, cell_of_blk (E46.get g34), wrap_one (show (LF s' (k, t) rest).2.n + 1 ≤ 9223372036854775807 by omega), bl79, callA_fn0 pl62, callA_fn0 pl63, fa79_1, fa82_0, ld25, ld68, ld82, len_slice Tryd.underlying68, opA_alloc 79 ty79]
      rw [sliA_slice uRows ty73 (.nat _ _ ((LF s' (k, t) rest).2.n + 1)) (.no _) (by omega) (by simp only [List.length_cons] at hrc; omega)]
      simp only [go_sem, reduceCtorEq, Nat.reduceEqDiff, Nat.reduceAdd, withc_some, withcs_some, cells_0, cells_s, Option.bind_some, Option.map_some, List.getElem?_toArray, List.getElem?_cons_zero, List.getElem?_cons_succ, Nat.add_zero, Nat.zero_add, Value.cells, splice, List.setIfInBounds_toArray, List.set_cons_zero, List.set_cons_succ, bfill_nil, bfill_cons, bstep_some, withO_some, List.take_zero, List.take_succ_cons, List.drop_zero, List.drop_succ_cons, List.cons_append, List.nil_append, List.append_nil, List.length_cons, List.length_nil, Nat.reduceLeDiff, Nat.le_refl, and_true, true_and, and_self, decide_true, decide_false, Bool.not_true, Bool.not_false, bl79, callA_fn0 pl62, callA_fn0 pl63, fa79_1, fa82_0, ld25, ld68, ld82, len_slice Tryd.underlying68, opA_alloc 79 ty79]
      refine store_k1 (E46.get g34) ty68 (k := fun G7 h9 k7 s7 => ?_)
      have hg7 : G0 G7 := by
        obtain ⟨m, hm⟩ := (G0.frJ hg f4 hB0).ext E46
        exact ⟨m, cell_keep k7 hm (by show ¬ (0 = b3); omega)⟩
      have hkm : MapC G7 kn hndL := by
        have hkn1 : MapC G4 kn hndL := MapC.ko hmk f4 (fun es kk hmut => by
          rcases hmut.2 with ⟨_, _, hh | hh⟩ | ⟨hh, _⟩
          · cases hh
          · cases hh
          · rcases hh with hh | hh <;> (have := E12.size; omega))
        exact MapC.kk (hkn1.ext E46) (keepK_of (E46.get g34) k7)
      match n, hn, hq with
      | n + 1, hn, hq =>
        have hq2 : readT LF rows.length s rows = readT LF n (LF s' (k, t) rest).1 (rest.drop (LF s' (k, t) rest).2.n) := by
          rw [hq]; show (if _ then _ else _) = _; rw [if_pos hc0]
        exact ih _ _ _ (by simp; omega) ⟨n, (LF s' (k, t) rest).1, rest.drop (LF s' (k, t) rest).2.n, _, rfl, rfl, hfr6.new k7 (by omega), h9, k7.get (E46.get g44) (by intro e; subst e; rw [g44] at g34; cases g34),
          (hrd4.ext E46).kkE (keepK_of (E46.get g34) k7) (by decide) (by decide) (by decide) (by decide), hkm, sl_kk hdrop (keepK_of (E46.get g34) k7) (by decide), hg7, hv1, hv3, by simp; omega, by simp; omega, hq2⟩
    · have e2 : decide ((LF s' (k, t) rest).2.code = 0) = false := by simpa using hc0
      simp only [go_sem, reduceCtorEq, Nat.reduceEqDiff, Nat.reduceAdd, withc_some, withcs_some, cells_0, cells_s, Option.bind_some, Option.map_some, List.getElem?_toArray, List.getElem?_cons_zero, List.getElem?_cons_succ, Nat.add_zero, Nat.zero_add, Value.cells, splice, List.setIfInBounds_toArray, List.set_cons_zero, List.set_cons_succ, bfill_nil, bfill_cons, bstep_some, withO_some, List.take_zero, List.take_succ_cons, List.drop_zero, List.drop_succ_cons, List.cons_append, List.nil_append, List.append_nil, List.length_cons, List.length_nil, Nat.reduceLeDiff, Nat.le_refl, and_true, true_and, and_self, decide_true, decide_false, Bool.not_true, Bool.not_false, c39_3, r39_4, cell_of_blk h8', e2, c39_2, c39_1, r39_5, bl79, callA_fn0 pl62, callA_fn0 pl63, fa79_1, fa82_0, ld25, ld68, ld79, ld82, len_slice Tryd.underlying68, opA_alloc 79 ty79]
      refine store_kA (E46.get g44) ty79 (k := fun G7 h9 k7 s7 => ?_)
      simp only [go_sem, reduceCtorEq, Nat.reduceEqDiff, Nat.reduceAdd, withc_some, withcs_some, cells_0, cells_s, Option.bind_some, Option.map_some, List.getElem?_toArray, List.getElem?_cons_zero, List.getElem?_cons_succ, Nat.add_zero, Nat.zero_add, Value.cells, splice, List.setIfInBounds_toArray, List.set_cons_zero, List.set_cons_succ, bfill_nil, bfill_cons, bstep_some, withO_some, List.take_zero, List.take_succ_cons, List.drop_zero, List.drop_succ_cons, List.cons_append, List.nil_append, List.append_nil, List.length_cons, List.length_nil, Nat.reduceLeDiff, Nat.le_refl, and_true, true_and, and_self, decide_true, decide_false, Bool.not_true, Bool.not_false, resW_cell, bl79, callA_fn0 pl62, callA_fn0 pl63, fa79_1, fa82_0, ld25, ld68, ld79, ld82, len_slice Tryd.underlying68, opA_alloc 79 ty79]
      rw [rc79 (l := [.int .i64 (LF s' (k, t) rest).2.line, .int .i64 (LF s' (k, t) rest).2.code]) (by simp only [go_sem, reduceCtorEq, Nat.reduceEqDiff, Nat.reduceAdd, withc_some, withcs_some, cells_0, cells_s, Option.bind_some, Option.map_some, List.getElem?_toArray, List.getElem?_cons_zero, List.getElem?_cons_succ, Nat.add_zero, Nat.zero_add, Value.cells, splice, List.setIfInBounds_toArray, List.set_cons_zero, List.set_cons_succ, bfill_nil, bfill_cons, bstep_some, withO_some, List.take_zero, List.take_succ_cons, List.drop_zero, List.drop_succ_cons, List.cons_append, List.nil_append, List.append_nil, List.length_cons, List.length_nil, Nat.reduceLeDiff, Nat.le_refl, and_true, true_and, and_self, decide_true, decide_false, Bool.not_true, Bool.not_false, cell_of_blk h9, bl79, callA_fn0 pl62, callA_fn0 pl63, fa79_1, fa82_0, ld25, ld68, ld79, ld82, len_slice Tryd.underlying68, opA_alloc 79 ty79])]
      have hq' : readT LF rows.length s rows = ((LF s' (k, t) rest).1, (LF s' (k, t) rest).2.line, (LF s' (k, t) rest).2.code) := by
        rw [hq]
        match n, hn with
        | n + 1, _ => show (if _ then _ else _) = _; rw [if_neg hc0]
      rw [hq'] at h
      exact h G7 (hfr6.new k7 (by omega)) ((hrd4.ext E46).kk (keepK_of (E46.get g44) k7))
end Go.Proofs.YtoabcmhiaknjiaaDoor

/- Contracts of jobtext: Expand. -/
set_option maxRecDepth 100000
set_option linter.unusedSimpArgs false
set_option linter.unusedVariables false
namespace Go.Proofs.YtoabcmhiaknjiaaDoor
open Go.Hw

theorem opA_makeFuncC {P : Program} {F : Fr} {d : Option Nat} {ty : TypeId} {g : Option (Nat × Bool)} {H : Hp} {K : Value → Hp → Prop} {X : List PanicEntry → Hp → Prop} {fn : Fn} {cap : Array Operand} :
    opA P ⟨d, .makeFunc fn #[] cap, ty, g⟩ F H K X = withvs F cap.toList fun vs => K (.func fn #[] vs.toArray) H := by
  refine opA_n (l := cap.toList) (by simp [Op.operands]) (f := fun vs => Sem.pure (.value (.func fn #[] vs.toArray))) fun ρ => ?_
  simp only [execOp, O.oper, Instr.makeFunc, lmap]
  have e : Array.map ρ (#[] : Array Operand) = #[] := by simp
  rw [e]
  rfl

theorem lines_c {t : List UInt8} {H : Hp} {K : Ending → Hp → Prop} (h : ∀ b G, H.size ≤ b → Ext H G → G[b]? = some (.cells #[.string (B t)] 9 (0, 0)) → K (.returned (.func (.func 60) #[] #[.pointer (some ⟨b, 0, none⟩)])) G) : HCall Tryd.prog 37 #[.string (B t)] H K := by
  refine hcall mixed B37 (args := [.string (B t)]) (by simp) ?_
  simp only [go_sem, reduceCtorEq, Nat.reduceEqDiff, Nat.reduceAdd, withc_some, withcs_some, cells_0, cells_s, Option.bind_some, Option.map_some, List.getElem?_toArray, List.getElem?_cons_zero, List.getElem?_cons_succ, Nat.add_zero, Nat.zero_add, Value.cells, splice, List.setIfInBounds_toArray, List.set_cons_zero, List.set_cons_succ, bfill_nil, bfill_cons, bstep_some, withO_some, List.take_zero, List.take_succ_cons, List.drop_zero, List.drop_succ_cons, List.cons_append, List.nil_append, List.append_nil, List.length_cons, List.length_nil, Nat.reduceLeDiff, Nat.le_refl, and_true, true_and, and_self, decide_true, decide_false, Bool.not_true, Bool.not_false, c37, r37_0]
  refine box_k1 (k := fun b G1 e1 s1 h1 E1 => ?_)
  simp only [go_sem, reduceCtorEq, Nat.reduceEqDiff, Nat.reduceAdd, withc_some, withcs_some, cells_0, cells_s, Option.bind_some, Option.map_some, List.getElem?_toArray, List.getElem?_cons_zero, List.getElem?_cons_succ, Nat.add_zero, Nat.zero_add, Value.cells, splice, List.setIfInBounds_toArray, List.set_cons_zero, List.set_cons_succ, bfill_nil, bfill_cons, bstep_some, withO_some, List.take_zero, List.take_succ_cons, List.drop_zero, List.drop_succ_cons, List.cons_append, List.nil_append, List.append_nil, List.length_cons, List.length_nil, Nat.reduceLeDiff, Nat.le_refl, and_true, true_and, and_self, decide_true, decide_false, Bool.not_true, Bool.not_false, c37_0, r37_1, opA_makeFuncC]
  exact h b G1 (by omega) E1 h1


theorem rowsC_snoc (pre : List (List UInt8)) (t : List UInt8) : rowsC (rowsFrom 0 (pre ++ [t])) = rowsC (rowsFrom 0 pre) ++ [.int .i64 ((pre.length + 1 : Nat) : Int), .string (B t)] := by
  rw [rowsFrom_append, rowsC_append]
  simp [rowsFrom, rowsC, rowC]

theorem dropWhile_hd {p : UInt8 → Bool} : ∀ {l : List UInt8} {x : UInt8} {r : List UInt8}, l.dropWhile p = x :: r → p x = false
  | a :: l, x, r, h => by
    rw [List.dropWhile_cons] at h
    split at h
    · exact dropWhile_hd h
    · rename_i hn
      cases h; simpa using hn
theorem notMem_takeWhile {l : List UInt8} : (10 : UInt8) ∉ l.takeWhile notNl := by
  intro h
  have := List.all_takeWhile (p := notNl) (l := l)
  rw [List.all_eq_true] at this
  have := this _ h
  simp [notNl] at this
theorem trim_nl {t : List UInt8} : Lib.trimSuffix (lineHd t) [10] = t.takeWhile notNl := by
  unfold lineHd Lib.trimSuffix Lib.hasSuffix
  cases hd : t.dropWhile notNl with
  | nil =>
    simp only [List.take_nil, List.append_nil]
    rw [if_neg]
    intro h
    rw [List.isSuffixOf_iff_suffix] at h
    exact notMem_takeWhile (h.subset (by simp))
  | cons x r =>
    have := dropWhile_hd hd
    have hx : x = 10 := by simpa [notNl] using this
    subst hx
    rw [if_pos (by rw [List.isSuffixOf_iff_suffix]; exact ⟨_, rfl⟩)]
    simp
theorem linesT_len : ∀ (n : Nat) (l : List UInt8), (linesT n l).length ≤ n
  | 0, _ => Nat.le_refl _
  | n + 1, l => by
    simp only [linesT]
    split
    · simp
    · have := linesT_len n (lineTl l); simp; omega
theorem linesF_len (l : List UInt8) : (linesF l).length ≤ l.length := linesT_len _ _
theorem lineHd_len (t : List UInt8) : (lineHd t).length ≤ t.length := by
  have h := congrArg List.length (List.takeWhile_append_dropWhile (p := notNl) (l := t))
  rw [List.length_append] at h
  unfold lineHd
  rw [List.length_append, List.length_take]
  omega

/-- What Expand returns. -/
def expandF (LF : RS → Row → List Row → RS × HR) (t : List UInt8) : List Stm × Nat × Int :=
  if 16384 < t.length ∨ 512 < (linesF t).length then ([], 0, 8)
  else if (readT LF (linesF t).length ⟨[], [], []⟩ (rowsFrom 0 (linesF t))).2.2 = 0 then ((readT LF (linesF t).length ⟨[], [], []⟩ (rowsFrom 0 (linesF t))).1.out, 0, 0)
  else ([], (readT LF (linesF t).length ⟨[], [], []⟩ (rowsFrom 0 (linesF t))).2.1, (readT LF (linesF t).length ⟨[], [], []⟩ (rowsFrom 0 (linesF t))).2.2)

/-- A slice of statements. -/
def StmsV (H : Hp) (v : Value) (l : List Stm) : Prop := ∃ cells, SlE 40 4 H v l.length cells ∧ stmC H l cells

theorem retS_ret {P : Program} {B : Nat} {rs : List ResultVar} {K : Ending → Hp → Prop} {F : Fr} {H : Hp} : retS P B rs K .ret F H = ∀ H', Shut B H H' → resW P F H' (fun vs => K (.returned (pack vs)) H') rs := (rfl)

theorem G0.pos {H : Hp} (g : G0 H) : 0 < H.size := by
  obtain ⟨m, hm⟩ := g
  unfold cellH at hm
  cases hb : H[0]? with
  | none => simp only [hb] at hm; cases hm
  | some o => exact get_lt hb
theorem shut_ext {H G G' : Hp} (e : Ext H G) (s : Shut H.size G G') : Ext H G' := ⟨by rw [s.1]; exact e.size, fun b hb => (s.2 b (.inl hb)).trans (e.blk b hb)⟩
theorem shut_get {B : Nat} {G G' : Hp} (s : Shut B G G') {b : Nat} {o : Obj} (h : G[b]? = some o) (ho : ∀ d, o ≠ .deferred d) : G'[b]? = some o := (s.2 b (.inr fun d e => ho d (by rw [h] at e; cases e; rfl))).trans h

set_option maxHeartbeats 4000000 in
theorem expand_c {t : List UInt8} {H : Hp} {K : Ending → Hp → Prop} (LF : RS → Row → List Row → RS × HR) (Iv : RS → Prop) (Rw : List Row → Prop) (g : G0 H) (ht : t.length ≤ 1000000)
    (hIv : Iv ⟨[], [], []⟩) (hRw : Rw (rowsFrom 0 (linesF t)))
    (hstep : ∀ s x rest, Iv s → Rw (x :: rest) → Iv (LF s x rest).1 ∧ (LF s x rest).2.n ≤ rest.length ∧ Rw (rest.drop (LF s x rest).2.n))
    (hline : ∀ (B0 R ms mp : Nat) (s : RS) (G : Hp) (rv : Value) (k : Nat) (t : List UInt8) (rest : List Row) (kn : Nat) (K2 : Ending → Hp → Prop), 0 < B0 → Iv s → Rw ((k, t) :: rest) → B0 ≤ G.size → G0 G → Rdr B0 R ms mp G s → MapC G kn hndL → RowsV G rv ((k, t) :: rest) → (rest.length ≤ 1000000) →
      (∀ G', FrJ B0 (MM ms mp) G G' → Rdr B0 R ms mp G' (LF s (k, t) rest).1 → K2 (.returned (.tuple #[.int .i64 (LF s (k, t) rest).2.n, .agg #[.int .i64 (LF s (k, t) rest).2.line, .int .i64 (LF s (k, t) rest).2.code]])) G') →
      HCall Tryd.prog 63 #[.pointer (some ⟨R, 0, none⟩), .map (some kn), .agg #[rv, .string (B []), .bool false]] G K2)
    (h : ∀ G v, Ext H G → StmsV G v (expandF LF t).1 → (v = .slice none 0 0 ∨ (expandF LF t).2.2 = 0) → K (.returned (.tuple #[v, .int .i64 (expandF LF t).2.1, .int .i64 (expandF LF t).2.2])) G) :
    HCall Tryd.prog 19 #[.string (B t)] H K := by
  refine hcallR mixed B19 (args := [.string (B t)]) (by simp) ?_
  simp only [go_sem, reduceCtorEq, Nat.reduceEqDiff, Nat.reduceAdd, withc_some, withcs_some, cells_0, cells_s, Option.bind_some, Option.map_some, List.getElem?_toArray, List.getElem?_cons_zero, List.getElem?_cons_succ, Nat.add_zero, Nat.zero_add, Value.cells, splice, List.setIfInBounds_toArray, List.set_cons_zero, List.set_cons_succ, bfill_nil, bfill_cons, bstep_some, withO_some, List.take_zero, List.take_succ_cons, List.drop_zero, List.drop_succ_cons, List.cons_append, List.nil_append, List.append_nil, List.length_cons, List.length_nil, Nat.reduceLeDiff, Nat.le_refl, and_true, true_and, and_self, decide_true, decide_false, Bool.not_true, Bool.not_false, c19, r19_0, c19_13, r19_1, opA_alloc 68 ty68]
  refine box_k1 (k := fun b5 G1 e5 s1 h5 E1 => ?_)
  simp only [go_sem, reduceCtorEq, Nat.reduceEqDiff, Nat.reduceAdd, withc_some, withcs_some, cells_0, cells_s, Option.bind_some, Option.map_some, List.getElem?_toArray, List.getElem?_cons_zero, List.getElem?_cons_succ, Nat.add_zero, Nat.zero_add, Value.cells, splice, List.setIfInBounds_toArray, List.set_cons_zero, List.set_cons_succ, bfill_nil, bfill_cons, bstep_some, withO_some, List.take_zero, List.take_succ_cons, List.drop_zero, List.drop_succ_cons, List.cons_append, List.nil_append, List.append_nil, List.length_cons, List.length_nil, Nat.reduceLeDiff, Nat.le_refl, and_true, true_and, and_self, decide_true, decide_false, Bool.not_true, Bool.not_false, c19_12, r19_2, callA_fn0 pl37, opA_alloc 68 ty68]
  refine lines_c fun bs G2 hbs E2 h2 => ?_
  simp only [go_sem, reduceCtorEq, Nat.reduceEqDiff, Nat.reduceAdd, withc_some, withcs_some, cells_0, cells_s, Option.bind_some, Option.map_some, List.getElem?_toArray, List.getElem?_cons_zero, List.getElem?_cons_succ, Nat.add_zero, Nat.zero_add, Value.cells, splice, List.setIfInBounds_toArray, List.set_cons_zero, List.set_cons_succ, bfill_nil, bfill_cons, bstep_some, withO_some, List.take_zero, List.take_succ_cons, List.drop_zero, List.drop_succ_cons, List.cons_append, List.nil_append, List.append_nil, List.length_cons, List.length_nil, Nat.reduceLeDiff, Nat.le_refl, and_true, true_and, and_self, decide_true, decide_false, Bool.not_true, Bool.not_false, c19_2, callA_fn0 pl37, opA_alloc 68 ty68]
  have h52 := E2.get h5
  have E12 := E1.trans E2
  refine aw_rf (it := 60) (first := #[]) (cap := #[.pointer (some ⟨bs, 0, none⟩)]) rfl pl60 (by rfl) fun lp hlp hround => ?_
  have hps : lp.params.size = 1 := by have := congrArg List.length hlp.params; simpa using this
  have e0 : (#[] ++ #[Value.func (Fn.yield (G2.size + 1)) #[] #[]] ++ #[Value.pointer (some ⟨bs, 0, none⟩)] : Array Value) = #[.func (.yield (G2.size + 1)) #[] #[], .pointer (some ⟨bs, 0, none⟩)] := rfl
  rw [e0]
  generalize hl : G2.size + 1 = l at *
  have hH3l : ((G2.push (.deferred (some []))).push (.loop lp))[l]? = some (.loop lp) := by
    have e : l = (G2.push (.deferred (some []))).size := by rw [← hl, Array.size_push]
    rw [e, Array.getElem?_push_size]
  have E23 : Ext G2 ((G2.push (.deferred (some []))).push (.loop lp)) := (Ext.push _ _).trans (Ext.push _ _)
  generalize ((G2.push (.deferred (some []))).push (.loop lp)) = G3 at *
  have hb52 := get_lt h52
  have hbs2 := get_lt h2
  have hl5 : l ≠ b5 := by omega
  have hls : l ≠ bs := by omega
  have hne : bs ≠ b5 := by intro e; subst e; rw [h52] at h2; cases h2
  refine lines1_c (l := l) (b := bs) (lp := lp) hps (fun u G => ∃ (pre : List (List UInt8)) (v : Value), linesF t = pre ++ linesF u ∧ G[b5]? = some (.cells #[v] 68 (0, 0)) ∧ OwnS (H.size ≤ ·) 73 2 G v pre.length (rowsC (rowsFrom 0 pre)) ∧ G[bs]? = some (.cells #[.string (B u)] 9 (0, 0)) ∧ G[l]? = some (.loop lp) ∧ Ext H G ∧ pre.length ≤ t.length ∧ u.length ≤ t.length)
    (fun u G ⟨pre, v, q1, q2, q3, q4, q5, _⟩ => ⟨q4, q5, hls⟩) ?_ t G3 ⟨[], _, by simp, E23.get h52, OwnS.nil _ _ _ _, E23.get h2, hH3l, E12.trans E23, by simp, Nat.le_refl _⟩ (by omega) ?_
  · rintro u G Ga K2 hu ⟨pre, v, q1, q2, q3, q4, q5, q6, q7, q8⟩ k1 k2 hk
    obtain ⟨va, vc, rfl⟩ := q3.form
    have a5 := k2.get q2 (fun e => hne e.symm)
    have al := k2.get q5 hls
    have aown : OwnS (H.size ≤ ·) 73 2 Ga (.slice va pre.length vc) pre.length (rowsC (rowsFrom 0 pre)) := own_set_ne q3 q4 (by simp) k2
    have aE : Ext H Ga := k2.two q6 (by omega)
    have hpl : pre.length + 1 ≤ t.length + 1 := by omega
    refine hround [.string (B (lineHd u))] Ga K2 rfl al ?_
    simp only [go_sem, reduceCtorEq, Nat.reduceEqDiff, Nat.reduceAdd, withc_some, withcs_some, cells_0, cells_s, Option.bind_some, Option.map_some, List.getElem?_toArray, List.getElem?_cons_zero, List.getElem?_cons_succ, Nat.add_zero, Nat.zero_add, Value.cells, splice, List.setIfInBounds_toArray, List.set_cons_zero, List.set_cons_succ, bfill_nil, bfill_cons, bstep_some, withO_some, List.take_zero, List.take_succ_cons, List.drop_zero, List.drop_succ_cons, List.cons_append, List.nil_append, List.append_nil, List.length_cons, List.length_nil, Nat.reduceLeDiff, Nat.le_refl, and_true, true_and, and_self, decide_true, decide_false, Bool.not_true, Bool.not_false, bindF, r19_3, noE_normal, callA_fn0 pl37, opA_alloc 68 ty68]
    refine ⟨al, ?_⟩
    have hkl : Keep (· = l) Ga (Ga.setIfInBounds l (.loop { lp with state := .busy })) := ⟨by simp, fun b hb hn => by rw [Array.getElem?_setIfInBounds_ne (fun e => hn e.symm)]⟩
    have b5' := hkl.get a5 (fun e => hl5 e.symm)
    have bown := own_set_ne aown al (by simp) hkl
    have bs' := hkl.get k1 (fun e => hls e.symm)
    have bE : Ext H (Ga.setIfInBounds l (.loop { lp with state := .busy })) := hkl.two aE (by have := E12.size; omega)
    have bl : (Ga.setIfInBounds l (.loop { lp with state := .busy }))[l]? = some (.loop { lp with state := .busy }) := by
      have := get_lt al
      rw [Array.getElem?_setIfInBounds]; simp [this]
    generalize (Ga.setIfInBounds l (.loop { lp with state := .busy })) = Gb at *
    simp only [go_sem, reduceCtorEq, Nat.reduceEqDiff, Nat.reduceAdd, withc_some, withcs_some, cells_0, cells_s, Option.bind_some, Option.map_some, List.getElem?_toArray, List.getElem?_cons_zero, List.getElem?_cons_succ, Nat.add_zero, Nat.zero_add, Value.cells, splice, List.setIfInBounds_toArray, List.set_cons_zero, List.set_cons_succ, bfill_nil, bfill_cons, bstep_some, withO_some, List.take_zero, List.take_succ_cons, List.drop_zero, List.drop_succ_cons, List.cons_append, List.nil_append, List.append_nil, List.length_cons, List.length_nil, Nat.reduceLeDiff, Nat.le_refl, and_true, true_and, and_self, decide_true, decide_false, Bool.not_true, Bool.not_false, c19_0, r19_4, cell_of_blk b5', wrap_one (show pre.length + 1 ≤ 9223372036854775807 by omega), bl73, bq73, callA_fn0 pl37, callA_fn0 pl38, callQ_fn0 pl38, ld68, lenQ_slice Tryd.underlying68, len_slice Tryd.underlying68, lq68, opA_alloc 68 ty68]
    have hlu := lineHd_len u
    refine ⟨_, fun Gx eG => trimSuffix_c (lineHd u) [10] (by omega) ⟨rfl, rfl⟩, ?_⟩
    rw [trim_nl]
    simp only [go_sem, reduceCtorEq, Nat.reduceEqDiff, Nat.reduceAdd, withc_some, withcs_some, cells_0, cells_s, Option.bind_some, Option.map_some, List.getElem?_toArray, List.getElem?_cons_zero, List.getElem?_cons_succ, Nat.add_zero, Nat.zero_add, Value.cells, splice, List.setIfInBounds_toArray, List.set_cons_zero, List.set_cons_succ, bfill_nil, bfill_cons, bstep_some, withO_some, List.take_zero, List.take_succ_cons, List.drop_zero, List.drop_succ_cons, List.cons_append, List.nil_append, List.append_nil, List.length_cons, List.length_nil, Nat.reduceLeDiff, Nat.le_refl, and_true, true_and, and_self, decide_true, decide_false, Bool.not_true, Bool.not_false, bl73, bq73, callA_fn0 pl37, callA_fn0 pl38, callQ_fn0 pl38, ld68, lenQ_slice Tryd.underlying68, len_slice Tryd.underlying68, lq68, opA_alloc 68 ty68]
    rw [bslA_oneA uRows ty73 rfl rfl]
    simp only [go_sem, reduceCtorEq, Nat.reduceEqDiff, Nat.reduceAdd, withc_some, withcs_some, cells_0, cells_s, Option.bind_some, Option.map_some, List.getElem?_toArray, List.getElem?_cons_zero, List.getElem?_cons_succ, Nat.add_zero, Nat.zero_add, Value.cells, splice, List.setIfInBounds_toArray, List.set_cons_zero, List.set_cons_succ, bfill_nil, bfill_cons, bstep_some, withO_some, List.take_zero, List.take_succ_cons, List.drop_zero, List.drop_succ_cons, List.cons_append, List.nil_append, List.append_nil, List.length_cons, List.length_nil, Nat.reduceLeDiff, Nat.le_refl, and_true, true_and, and_self, decide_true, decide_false, Bool.not_true, Bool.not_false, bl73, bq73, callA_fn0 pl37, callA_fn0 pl38, callQ_fn0 pl38, ld68, lenQ_slice Tryd.underlying68, len_slice Tryd.underlying68, lq68, opA_alloc 68 ty68]
    refine ⟨Ext.push _ _, ?_⟩
    refine append_lit (ok := (H.size ≤ ·)) (m := 1) bown uRows ty73 rfl rfl (by intro u hu; simp at hu; rcases hu with rfl | rfl <;> rfl) (fun b hb => by have := bE.size; omega) (by omega) (by omega) fun v' G5 own5 k5 f5 => ?_
    have n5 := own_ne bown b5' (by simp)
    have ns := own_ne bown bs' (by simp)
    have nl := own_ne bown bl (by simp)
    obtain ⟨va', vc', rfl⟩ := own5.form
    simp only [go_sem, reduceCtorEq, Nat.reduceEqDiff, Nat.reduceAdd, withc_some, withcs_some, cells_0, cells_s, Option.bind_some, Option.map_some, List.getElem?_toArray, List.getElem?_cons_zero, List.getElem?_cons_succ, Nat.add_zero, Nat.zero_add, Value.cells, splice, List.setIfInBounds_toArray, List.set_cons_zero, List.set_cons_succ, bfill_nil, bfill_cons, bstep_some, withO_some, List.take_zero, List.take_succ_cons, List.drop_zero, List.drop_succ_cons, List.cons_append, List.nil_append, List.append_nil, List.length_cons, List.length_nil, Nat.reduceLeDiff, Nat.le_refl, and_true, true_and, and_self, decide_true, decide_false, Bool.not_true, Bool.not_false, bl73, bq73, callA_fn0 pl37, callA_fn0 pl38, callQ_fn0 pl38, ld68, lenQ_slice Tryd.underlying68, len_slice Tryd.underlying68, lq68, opA_alloc 68 ty68]
    refine store_k1 (k5.get b5' n5) ty68 (k := fun G6 h6 k6 s6 => ?_)
    have hl6 := k6.get (k5.get bl nl) hl5
    simp only [go_sem, reduceCtorEq, Nat.reduceEqDiff, Nat.reduceAdd, withc_some, withcs_some, cells_0, cells_s, Option.bind_some, Option.map_some, List.getElem?_toArray, List.getElem?_cons_zero, List.getElem?_cons_succ, Nat.add_zero, Nat.zero_add, Value.cells, splice, List.setIfInBounds_toArray, List.set_cons_zero, List.set_cons_succ, bfill_nil, bfill_cons, bstep_some, withO_some, List.take_zero, List.take_succ_cons, List.drop_zero, List.drop_succ_cons, List.cons_append, List.nil_append, List.append_nil, List.length_cons, List.length_nil, Nat.reduceLeDiff, Nat.le_refl, and_true, true_and, and_self, decide_true, decide_false, Bool.not_true, Bool.not_false, rndK, bl73, bq73, callA_fn0 pl37, callA_fn0 pl38, callQ_fn0 pl38, ld68, lenQ_slice Tryd.underlying68, len_slice Tryd.underlying68, lq68, opA_alloc 68 ty68]
    refine ⟨hl6, hk _ ⟨pre ++ [u.takeWhile notNl], .slice va' (pre.length + 1) vc', by rw [q1, linesF_cons hu, List.append_assoc]; rfl, ?_⟩⟩
    have k7 : Keep (· = l) G6 (G6.setIfInBounds l (.loop lp)) := ⟨by simp, fun b hb hn => by rw [Array.getElem?_setIfInBounds_ne (fun e => hn e.symm)]⟩
    have hb6s := k6.get (k5.get bs' ns) hne
    have own6 := own_set_ne own5 (k5.get b5' n5) (by simp) k6
    have own7 := own_set_ne own6 hl6 (by simp) k7
    have e6 : Ext H G6 := k6.two (Ext.own bE bown (fun _ h => h) k5) (by omega)
    refine ⟨k7.get h6 (fun e => hl5 e.symm), ?_, k7.get hb6s (fun e => hls e.symm), get_set hl6, k7.two e6 (by have := E12.size; omega), ?_, ?_⟩
    · rw [rowsC_snoc, List.length_append]; exact own7
    · have h1 := congrArg List.length q1
      rw [linesF_cons hu, List.length_append, List.length_cons] at h1
      have := linesF_len t
      rw [List.length_append, List.length_singleton]; omega
    · have := lineTl_len hu; omega
  · rintro G ⟨pre, v, q1, q2, q3, q4, q5, q6, q7, q8⟩
    rw [linesF_nil, List.append_nil] at q1
    subst q1
    obtain ⟨va, vc, rfl⟩ := q3.form
    refine ⟨lp, q5, by rw [hlp.state]; decide, ?_⟩
    rw [hlp.pending]
    have k1 : Keep (· = l) G (G.setIfInBounds l (.loop { lp with state := .exhausted, pending := none })) := ⟨by simp, fun b hb hn => by rw [Array.getElem?_setIfInBounds_ne (fun e => hn e.symm)]⟩
    have own1 := own_set_ne q3 q5 (by simp) k1
    have e1 : Ext H (G.setIfInBounds l (.loop { lp with state := .exhausted, pending := none })) := k1.two q6 (by have := E12.size; omega)
    have b51 := k1.get q2 (fun e => hl5 e.symm)
    generalize (G.setIfInBounds l (.loop { lp with state := .exhausted, pending := none })) = G4 at *
    have herr : (16384 < t.length ∨ 512 < (linesF t).length) → aw Tryd.prog 48 (c19_3) (seqQ Tryd.prog 48 ((A.keep [5]).seq c19_10) (retS Tryd.prog H.size [ResultVar.tmp 2, ResultVar.tmp 3, ResultVar.tmp 4] K)) [(5, .pointer (some ⟨b5, 0, none⟩)), (28, .bool true)] G4 := by
      intro hc
      have he : expandF LF t = ([], 0, 8) := by unfold expandF; rw [if_pos hc]
      rw [he] at h
      simp only [go_sem, reduceCtorEq, Nat.reduceEqDiff, Nat.reduceAdd, withc_some, withcs_some, cells_0, cells_s, Option.bind_some, Option.map_some, List.getElem?_toArray, List.getElem?_cons_zero, List.getElem?_cons_succ, Nat.add_zero, Nat.zero_add, Value.cells, splice, List.setIfInBounds_toArray, List.set_cons_zero, List.set_cons_succ, bfill_nil, bfill_cons, bstep_some, withO_some, List.take_zero, List.take_succ_cons, List.drop_zero, List.drop_succ_cons, List.cons_append, List.nil_append, List.append_nil, List.length_cons, List.length_nil, Nat.reduceLeDiff, Nat.le_refl, and_true, true_and, and_self, decide_true, decide_false, Bool.not_true, Bool.not_false, c19_3, r19_6, retS_ret, bl73, bq73, callA_fn0 pl37, callA_fn0 pl38, callQ_fn0 pl38, ld68, lenQ_slice Tryd.underlying68, len_slice Tryd.underlying68, lq68, opA_alloc 68 ty68]
      intro H' hs
      exact h H' _ (shut_ext e1 hs) ⟨[], SlE.nil, rfl⟩ (.inl rfl)
    have hlen := linesF_len t
    by_cases hlt : 16384 < t.length
    · have e2 : decide ((16384 : Int) < (t.length : Int)) = true := by rw [decide_eq_true_eq]; omega
      simp only [go_sem, reduceCtorEq, Nat.reduceEqDiff, Nat.reduceAdd, withc_some, withcs_some, cells_0, cells_s, Option.bind_some, Option.map_some, List.getElem?_toArray, List.getElem?_cons_zero, List.getElem?_cons_succ, Nat.add_zero, Nat.zero_add, Value.cells, splice, List.setIfInBounds_toArray, List.set_cons_zero, List.set_cons_succ, bfill_nil, bfill_cons, bstep_some, withO_some, List.take_zero, List.take_succ_cons, List.drop_zero, List.drop_succ_cons, List.cons_append, List.nil_append, List.append_nil, List.length_cons, List.length_nil, Nat.reduceLeDiff, Nat.le_refl, and_true, true_and, and_self, decide_true, decide_false, Bool.not_true, Bool.not_false, c19_11, r19_5, cell_of_blk b51, e2, c19_4, bl73, bq73, callA_fn0 pl37, callA_fn0 pl38, callQ_fn0 pl38, ld68, lenQ_slice Tryd.underlying68, len_B Tryd.underlying9, len_slice Tryd.underlying68, lq68, opA_alloc 68 ty68]
      exact herr (.inl hlt)
    · have e2 : decide ((16384 : Int) < (t.length : Int)) = false := by rw [decide_eq_false_iff_not]; omega
      by_cases hlr : 512 < (linesF t).length
      · have e3 : decide ((512 : Int) < ((linesF t).length : Int)) = true := by rw [decide_eq_true_eq]; omega
        simp only [go_sem, reduceCtorEq, Nat.reduceEqDiff, Nat.reduceAdd, withc_some, withcs_some, cells_0, cells_s, Option.bind_some, Option.map_some, List.getElem?_toArray, List.getElem?_cons_zero, List.getElem?_cons_succ, Nat.add_zero, Nat.zero_add, Value.cells, splice, List.setIfInBounds_toArray, List.set_cons_zero, List.set_cons_succ, bfill_nil, bfill_cons, bstep_some, withO_some, List.take_zero, List.take_succ_cons, List.drop_zero, List.drop_succ_cons, List.cons_append, List.nil_append, List.append_nil, List.length_cons, List.length_nil, Nat.reduceLeDiff, Nat.le_refl, and_true, true_and, and_self, decide_true, decide_false, Bool.not_true, Bool.not_false, c19_11, r19_5, cell_of_blk b51, e2, e3, c19_4, bl73, bq73, callA_fn0 pl37, callA_fn0 pl38, callQ_fn0 pl38, ld68, lenQ_slice Tryd.underlying68, len_B Tryd.underlying9, len_slice Tryd.underlying68, lq68, opA_alloc 68 ty68]
        exact herr (.inr hlr)
      · have e3 : decide ((512 : Int) < ((linesF t).length : Int)) = false := by rw [decide_eq_false_iff_not]; omega
        simp only [go_sem, reduceCtorEq, Nat.reduceEqDiff, Nat.reduceAdd, withc_some, withcs_some, cells_0, cells_s, Option.bind_some, Option.map_some, List.getElem?_toArray, List.getElem?_cons_zero, List.getElem?_cons_succ, Nat.add_zero, Nat.zero_add, Value.cells, splice, List.setIfInBounds_toArray, List.set_cons_zero, List.set_cons_succ, bfill_nil, bfill_cons, bstep_some, withO_some, List.take_zero, List.take_succ_cons, List.drop_zero, List.drop_succ_cons, List.cons_append, List.nil_append, List.append_nil, List.length_cons, List.length_nil, Nat.reduceLeDiff, Nat.le_refl, and_true, true_and, and_self, decide_true, decide_false, Bool.not_true, Bool.not_false, c19_11, r19_5, cell_of_blk b51, e2, e3, c19_4, c19_10, r19_7, opA_makeMap, bl73, bl77, bq73, callA_fn0 pl37, callA_fn0 pl38, callQ_fn0 pl38, ld68, lenQ_slice Tryd.underlying68, len_B Tryd.underlying9, len_slice Tryd.underlying68, lq68, opA_alloc 68 ty68]
        have m1 : MapC ((G4.push (.map #[] 0)).push (.map #[] 0)) G4.size [] := MapC.new.ext (Ext.push _ _)
        have m2 : MapC ((G4.push (.map #[] 0)).push (.map #[] 0)) (G4.push (.map #[] 0)).size [] := MapC.new
        have hmne : G4.size ≠ (G4.push (.map #[] 0)).size := by simp
        have hmp : G4.size ≤ (G4.push (.map #[] 0)).size := by simp
        have e45 : Ext G4 ((G4.push (.map #[] 0)).push (.map #[] 0)) := (Ext.push _ _).trans (Ext.push _ _)
        generalize ((G4.push (.map #[] 0)).push (.map #[] 0)) = G5 at *
        generalize (G4.push (.map #[] 0)).size = mp at *
        generalize hms : G4.size = ms at *
        refine box_kA fun bR G6 eR sR hR6 E6 => ?_
        have hR6' : G6[bR]? = some (.cells #[.map (some ms), .map (some mp), .slice none 0 0] 77 (0, 0)) := hR6
        have h56 := E6.get (e45.get b51)
        simp only [go_sem, reduceCtorEq, Nat.reduceEqDiff, Nat.reduceAdd, withc_some, withcs_some, cells_0, cells_s, Option.bind_some, Option.map_some, List.getElem?_toArray, List.getElem?_cons_zero, List.getElem?_cons_succ, Nat.add_zero, Nat.zero_add, Value.cells, splice, List.setIfInBounds_toArray, List.set_cons_zero, List.set_cons_succ, bfill_nil, bfill_cons, bstep_some, withO_some, List.take_zero, List.take_succ_cons, List.drop_zero, List.drop_succ_cons, List.cons_append, List.nil_append, List.append_nil, List.length_cons, List.length_nil, Nat.reduceLeDiff, Nat.le_refl, and_true, true_and, and_self, decide_true, decide_false, Bool.not_true, Bool.not_false, c19_9, r19_8, cell_of_blk h56, bl73, bl77, bl82, bq73, callA_fn0 pl37, callA_fn0 pl38, callA_fn0 pl39, callQ_fn0 pl38, ld68, lenQ_slice Tryd.underlying68, len_B Tryd.underlying9, len_slice Tryd.underlying68, lq68, opA_alloc 68 ty68, opA_alloc 79 ty79]
        have hsz := e1.size
        have hsz5 := e45.size
        have hH0 := Proofs.YtoabcmhiaknjiaaDoor.G0.pos g
        refine read_c (B0 := H.size) (R := bR) (ms := ms) (mp := mp) (s := ⟨[], [], []⟩) (rows := rowsFrom 0 (linesF t)) LF Iv Rw ⟨⟨by omega, _, [], hR6', OwnS.nil _ _ _ _, rfl⟩, m1.ext E6, ⟨[], m2.ext E6, .nil⟩, by omega, by omega, hmne⟩ hH0 (by have := E6.size; omega) (g.ext (e1.trans (e45.trans E6))) ?_ hIv hRw (by rw [rowsFrom_length]; omega) hstep (fun s G rv k t rest kn K2 a1 a2 a3 a4 a5 a6 a7 a8 a9 => hline H.size bR ms mp s G rv k t rest kn K2 hH0 a1 a2 a3 a4 a5 a6 a7 a8 a9) ?_
        · unfold RowsV
          rw [rowsFrom_length]
          exact (SlE.own own1).ext (e45.trans E6)
        intro G7 hfr hrd
        simp only [go_sem, reduceCtorEq, Nat.reduceEqDiff, Nat.reduceAdd, withc_some, withcs_some, cells_0, cells_s, Option.bind_some, Option.map_some, List.getElem?_toArray, List.getElem?_cons_zero, List.getElem?_cons_succ, Nat.add_zero, Nat.zero_add, Value.cells, splice, List.setIfInBounds_toArray, List.set_cons_zero, List.set_cons_succ, bfill_nil, bfill_cons, bstep_some, withO_some, List.take_zero, List.take_succ_cons, List.drop_zero, List.drop_succ_cons, List.cons_append, List.nil_append, List.append_nil, List.length_cons, List.length_nil, Nat.reduceLeDiff, Nat.le_refl, and_true, true_and, and_self, decide_true, decide_false, Bool.not_true, Bool.not_false, bl73, bl77, bl82, bq73, callA_fn0 pl37, callA_fn0 pl38, callA_fn0 pl39, callQ_fn0 pl38, ld68, lenQ_slice Tryd.underlying68, len_B Tryd.underlying9, len_slice Tryd.underlying68, lq68, opA_alloc 68 ty68, opA_alloc 79 ty79]
        refine box_kA fun b8 G8 e8 s8 h8 E8 => ?_
        have hE7 : Ext H G7 := FrJ.ext (e1.trans (e45.trans E6)) hfr (Nat.le_refl _)
        rw [rowsFrom_length]
        rw [rowsFrom_length] at hrd
        have hex : expandF LF t = if (readT LF (linesF t).length ⟨[], [], []⟩ (rowsFrom 0 (linesF t))).2.2 = 0 then ((readT LF (linesF t).length ⟨[], [], []⟩ (rowsFrom 0 (linesF t))).1.out, 0, 0)
          else ([], (readT LF (linesF t).length ⟨[], [], []⟩ (rowsFrom 0 (linesF t))).2.1, (readT LF (linesF t).length ⟨[], [], []⟩ (rowsFrom 0 (linesF t))).2.2) := by
          unfold expandF; rw [if_neg (by omega)]
        generalize (readT LF (linesF t).length ⟨[], [], []⟩ (rowsFrom 0 (linesF t))) = res at *
        simp only [go_sem, reduceCtorEq, Nat.reduceEqDiff, Nat.reduceAdd, withc_some, withcs_some, cells_0, cells_s, Option.bind_some, Option.map_some, List.getElem?_toArray, List.getElem?_cons_zero, List.getElem?_cons_succ, Nat.add_zero, Nat.zero_add, Value.cells, splice, List.setIfInBounds_toArray, List.set_cons_zero, List.set_cons_succ, bfill_nil, bfill_cons, bstep_some, withO_some, List.take_zero, List.take_succ_cons, List.drop_zero, List.drop_succ_cons, List.cons_append, List.nil_append, List.append_nil, List.length_cons, List.length_nil, Nat.reduceLeDiff, Nat.le_refl, and_true, true_and, and_self, decide_true, decide_false, Bool.not_true, Bool.not_false, bl73, bl77, bl82, bq73, callA_fn0 pl37, callA_fn0 pl38, callA_fn0 pl39, callQ_fn0 pl38, ld68, lenQ_slice Tryd.underlying68, len_B Tryd.underlying9, len_slice Tryd.underlying68, lq68, opA_alloc 68 ty68, opA_alloc 79 ty79]
        refine store_kA h8 ty79 (k := fun G9 h9 k9 s9 => ?_)
        have h9' : G9[b8]? = some (.cells #[.int .i64 res.2.1, .int .i64 res.2.2] 79 (0, 0)) := h9
        have hrd9 := (hrd.ext E8).kk (keepK_of h8 k9)
        have hE9 : Ext H G9 := k9.two (hE7.trans E8) (by have := hE7.size; omega)
        by_cases hc : res.2.2 = 0
        · have e4 : decide (res.2.2 = 0) = true := by simpa using hc
          rw [if_pos hc] at hex
          rw [hex] at h
          obtain ⟨_, ov, cells, hb, hown, hst⟩ := hrd9.out
          simp only [go_sem, reduceCtorEq, Nat.reduceEqDiff, Nat.reduceAdd, withc_some, withcs_some, cells_0, cells_s, Option.bind_some, Option.map_some, List.getElem?_toArray, List.getElem?_cons_zero, List.getElem?_cons_succ, Nat.add_zero, Nat.zero_add, Value.cells, splice, List.setIfInBounds_toArray, List.set_cons_zero, List.set_cons_succ, bfill_nil, bfill_cons, bstep_some, withO_some, List.take_zero, List.take_succ_cons, List.drop_zero, List.drop_succ_cons, List.cons_append, List.nil_append, List.append_nil, List.length_cons, List.length_nil, Nat.reduceLeDiff, Nat.le_refl, and_true, true_and, and_self, decide_true, decide_false, Bool.not_true, Bool.not_false, c19_7, r19_9, cell_of_blk h9', e4, c19_6, c19_8, r19_11, cell_of_blk hb, retS_ret, bl73, bl77, bl82, bq73, callA_fn0 pl37, callA_fn0 pl38, callA_fn0 pl39, callQ_fn0 pl38, fa77_2, fa79_1, ld25, ld36, ld68, lenQ_slice Tryd.underlying68, len_B Tryd.underlying9, len_slice Tryd.underlying68, lq68, opA_alloc 68 ty68, opA_alloc 79 ty79]
          intro H' hs
          have hst' : StmsV H' ov res.1.out := by
            refine ⟨cells, SlE.mono (SlE.own hown) (fun b c f hb => shut_get hs hb (by simp)), stmC.mono (fun v ws hv => SlE.mono hv (fun b c f hb => shut_get hs hb (by simp))) _ _ hst⟩
          exact h H' _ (shut_ext hE9 hs) hst' (.inr rfl)
        · have e4 : decide (res.2.2 = 0) = false := by simpa using hc
          rw [if_neg hc] at hex
          rw [hex] at h
          simp only [go_sem, reduceCtorEq, Nat.reduceEqDiff, Nat.reduceAdd, withc_some, withcs_some, cells_0, cells_s, Option.bind_some, Option.map_some, List.getElem?_toArray, List.getElem?_cons_zero, List.getElem?_cons_succ, Nat.add_zero, Nat.zero_add, Value.cells, splice, List.setIfInBounds_toArray, List.set_cons_zero, List.set_cons_succ, bfill_nil, bfill_cons, bstep_some, withO_some, List.take_zero, List.take_succ_cons, List.drop_zero, List.drop_succ_cons, List.cons_append, List.nil_append, List.append_nil, List.length_cons, List.length_nil, Nat.reduceLeDiff, Nat.le_refl, and_true, true_and, and_self, decide_true, decide_false, Bool.not_true, Bool.not_false, c19_7, r19_9, cell_of_blk h9', e4, c19_6, c19_5, r19_10, retS_ret, bl73, bl77, bl82, bq73, callA_fn0 pl37, callA_fn0 pl38, callA_fn0 pl39, callQ_fn0 pl38, fa77_2, fa79_0, fa79_1, fq79_0, fq79_1, ld25, ld3, ld36, ld68, lenQ_slice Tryd.underlying68, len_B Tryd.underlying9, len_slice Tryd.underlying68, lq25, lq3, lq68, opA_alloc 68 ty68, opA_alloc 79 ty79]
          intro H' hs
          exact h H' _ (shut_ext hE9 hs) ⟨[], SlE.nil, rfl⟩ (.inl rfl)

end Go.Proofs.YtoabcmhiaknjiaaDoor

set_option maxRecDepth 100000
namespace Go.Proofs.YtoabcmhiaknjiaaDoor
open Go.Hw
/-! ### 9 dasd/dasdlaw39.awake -/
def r9_0 : List O := [⟨some 0, .assign (.const (.bool false)), 4, none⟩]
def r9_1 : List O := [⟨some 9, .call { callee := .value (.func 10), args := #[.const (.string ⟨#[115, 116, 101, 112, 32, 83, 49, 32, 112, 114, 111, 103, 114, 97, 109, 32, 115, 111, 114, 116, 32, 112, 97, 114, 109, 32, 39, 98, 121, 32, 49, 32, 56, 39]⟩)], argTypes := #[9] }, 26, none⟩,
  ⟨some 8, .move (.tmp 9), 26, none⟩,
  ⟨some 10, .extract (.tmp 8) 0, 24, none⟩,
  ⟨some 11, .extract (.tmp 8) 1, 25, none⟩,
  ⟨some 1, .assign (.tmp 10), 24, none⟩,
  ⟨some 2, .assign (.tmp 11), 25, none⟩]
def r9_2 : List O := [⟨some 13, .makeMap 22 none, 22, none⟩,
  ⟨none, .insert 22 (.tmp 13) (.const (.string ⟨#[68, 65, 89]⟩)) (.const (.string ⟨#[55]⟩)), 0, none⟩,
  ⟨some 14, .move (.tmp 13), 22, none⟩,
  ⟨some 15, .call { callee := .value (.func 12), args := #[.const (.string ⟨#[100, 100, 32, 79, 85, 84, 32, 100, 97, 116, 97, 32, 80, 65, 89, 46, 68, 38, 68, 65, 89, 59, 32, 110, 101, 119]⟩), .tmp 14], argTypes := #[9, 22] }, 28, none⟩,
  ⟨some 12, .move (.tmp 15), 28, none⟩,
  ⟨some 16, .extract (.tmp 12) 0, 9, none⟩,
  ⟨some 17, .extract (.tmp 12) 1, 25, none⟩,
  ⟨some 3, .assign (.tmp 16), 9, none⟩,
  ⟨some 4, .assign (.tmp 17), 25, none⟩]
def r9_3 : List O := [⟨some 19, .call { callee := .value (.func 19), args := #[.const (.string ⟨#[115, 116, 101, 112, 32, 83, 49, 32, 112, 114, 111, 103, 114, 97, 109, 32, 99, 111, 112, 121, 10]⟩)], argTypes := #[9] }, 37, none⟩,
  ⟨some 18, .move (.tmp 19), 37, none⟩,
  ⟨some 20, .extract (.tmp 18) 0, 36, none⟩,
  ⟨some 21, .extract (.tmp 18) 1, 3, none⟩,
  ⟨some 22, .extract (.tmp 18) 2, 25, none⟩,
  ⟨some 5, .assign (.tmp 20), 36, none⟩,
  ⟨some 6, .assign (.tmp 21), 3, none⟩,
  ⟨some 7, .assign (.tmp 22), 25, none⟩]
def r9_4 : List O := [⟨some 23, .move (.tmp 2), 25, none⟩,
  ⟨some 24, .binOp .eql 25 (.tmp 23) (.const (.int .i64 0)) 25, 4, none⟩,
  ⟨some 25, .move (.tmp 24), 4, none⟩,
  ⟨some 26, .move (.tmp 1), 24, some (25, true)⟩,
  ⟨some 27, .call { callee := .builtin .len, args := #[.tmp 26], argTypes := #[24] }, 3, some (25, true)⟩,
  ⟨some 28, .binOp .eql 3 (.tmp 27) (.const (.int .i64 6)) 3, 4, some (25, true)⟩,
  ⟨some 29, .pick (.tmp 25) (.tmp 28) (.const (.bool false)), 4, none⟩,
  ⟨some 30, .move (.tmp 29), 4, none⟩,
  ⟨some 31, .move (.tmp 1), 24, some (30, true)⟩,
  ⟨some 32, .indexAddr 24 (.tmp 31) (.const (.int .i64 5)), 0, some (30, true)⟩,
  ⟨some 33, .load 9 (.tmp 32), 9, some (30, true)⟩,
  ⟨some 34, .binOp .eql 9 (.tmp 33) (.const (.string ⟨#[98, 121, 32, 49, 32, 56]⟩)) 9, 4, some (30, true)⟩,
  ⟨some 35, .pick (.tmp 30) (.tmp 34) (.const (.bool false)), 4, none⟩,
  ⟨some 36, .move (.tmp 35), 4, none⟩,
  ⟨some 37, .move (.tmp 4), 25, some (36, true)⟩,
  ⟨some 38, .binOp .eql 25 (.tmp 37) (.const (.int .i64 0)) 25, 4, some (36, true)⟩,
  ⟨some 39, .pick (.tmp 36) (.tmp 38) (.const (.bool false)), 4, none⟩,
  ⟨some 40, .move (.tmp 39), 4, none⟩,
  ⟨some 41, .move (.tmp 3), 9, some (40, true)⟩,
  ⟨some 42, .binOp .eql 9 (.tmp 41) (.const (.string ⟨#[100, 100, 32, 79, 85, 84, 32, 100, 97, 116, 97, 32, 80, 65, 89, 46, 68, 55, 32, 110, 101, 119]⟩)) 9, 4, some (40, true)⟩,
  ⟨some 43, .pick (.tmp 40) (.tmp 42) (.const (.bool false)), 4, none⟩,
  ⟨some 44, .move (.tmp 43), 4, none⟩,
  ⟨some 45, .move (.tmp 7), 25, some (44, true)⟩,
  ⟨some 46, .binOp .eql 25 (.tmp 45) (.const (.int .i64 0)) 25, 4, some (44, true)⟩,
  ⟨some 47, .pick (.tmp 44) (.tmp 46) (.const (.bool false)), 4, none⟩,
  ⟨some 48, .move (.tmp 47), 4, none⟩,
  ⟨some 49, .move (.tmp 6), 3, some (48, true)⟩,
  ⟨some 50, .binOp .eql 3 (.tmp 49) (.const (.int .i64 0)) 3, 4, some (48, true)⟩,
  ⟨some 51, .pick (.tmp 48) (.tmp 50) (.const (.bool false)), 4, none⟩,
  ⟨some 52, .move (.tmp 51), 4, none⟩,
  ⟨some 53, .move (.tmp 5), 36, some (52, true)⟩,
  ⟨some 54, .call { callee := .builtin .len, args := #[.tmp 53], argTypes := #[36] }, 3, some (52, true)⟩,
  ⟨some 55, .binOp .eql 3 (.tmp 54) (.const (.int .i64 1)) 3, 4, some (52, true)⟩,
  ⟨some 56, .pick (.tmp 52) (.tmp 55) (.const (.bool false)), 4, none⟩,
  ⟨some 57, .move (.tmp 56), 4, none⟩,
  ⟨some 58, .move (.tmp 5), 36, some (57, true)⟩,
  ⟨some 59, .indexAddr 36 (.tmp 58) (.const (.int .i64 0)), 0, some (57, true)⟩,
  ⟨some 60, .fieldAddr 40 (.tmp 59) 0, 0, some (57, true)⟩,
  ⟨some 61, .load 3 (.tmp 60), 3, some (57, true)⟩,
  ⟨some 62, .binOp .eql 3 (.tmp 61) (.const (.int .i64 1)) 3, 4, some (57, true)⟩,
  ⟨some 63, .pick (.tmp 57) (.tmp 62) (.const (.bool false)), 4, none⟩,
  ⟨some 64, .move (.tmp 63), 4, none⟩,
  ⟨some 65, .call { callee := .value (.func 15), args := #[.const (.string ⟨#[97, 32, 98]⟩)], argTypes := #[9] }, 9, some (64, true)⟩,
  ⟨some 66, .binOp .eql 9 (.tmp 65) (.const (.string ⟨#[39, 97, 32, 98, 39]⟩)) 9, 4, some (64, true)⟩,
  ⟨some 67, .pick (.tmp 64) (.tmp 66) (.const (.bool false)), 4, none⟩,
  ⟨some 0, .assign (.tmp 67), 4, none⟩]
def c9_0 : A := .seq (.reg r9_4 [0]) .ret
def c9_1 : A := .seq (.reg r9_3 [1, 2, 3, 4, 5, 6, 7]) c9_0
def c9_2 : A := .seq (.reg r9_2 [1, 2, 3, 4]) c9_1
def c9_3 : A := .seq (.reg r9_1 [1, 2]) c9_2
def c9 : A := .seq (.reg r9_0 []) c9_3
theorem B9 : Body Tryd.prog 9 68 [.tmp 0] c9 := ⟨by kernel_rfl, _, _, [(0, []), (1, [1, 2]), (2, [1, 2, 3, 4]), (3, [1, 2, 3, 4, 5, 6, 7]), (4, [0])], Tryd.func9, rfl, rfl, rfl, by kernel_rfl⟩
/-! ### 7 dasd/dasdlaw39.JobtextWords -/
def r7_0 : List O := [⟨some 6, .assign (.const (.bool false)), 4, none⟩]
def r7_1 : List O := [⟨some 13, .call { callee := .value (.func 9), args := #[], argTypes := #[] }, 4, none⟩,
  ⟨some 14, .unOp .not 4 (.tmp 13), 4, none⟩]
def r7_2 : List O := [⟨some 6, .assign (.const (.bool false)), 4, none⟩]
def r7_3 : List O := [⟨some 15, .move (.tmp 0), 24, none⟩,
  ⟨some 16, .call { callee := .builtin .len, args := #[.tmp 15], argTypes := #[24] }, 3, none⟩,
  ⟨some 17, .binOp .gtr 3 (.tmp 16) (.const (.int .i64 10)) 3, 4, none⟩]
def r7_4 : List O := [⟨some 6, .assign (.const (.bool true)), 4, none⟩]
def r7_5 : List O := [⟨some 18, .move (.tmp 1), 5, none⟩,
  ⟨some 19, .binOp .rem 5 (.tmp 18) (.const (.int .u8 4)) 5, 5, none⟩,
  ⟨some 20, .convert 5 3 (.tmp 19), 3, none⟩,
  ⟨some 21, .call { callee := .value (.func 21), args := #[.const (.string ⟨#[32]⟩), .tmp 20], argTypes := #[9, 3] }, 9, none⟩,
  ⟨some 7, .assign (.tmp 21), 9, none⟩]
def r7_6 : List O := [⟨some 22, .move (.tmp 0), 24, none⟩,
  ⟨some 23, .call { callee := .builtin .len, args := #[.tmp 22], argTypes := #[24] }, 3, none⟩,
  ⟨some 24, .move (.const (.int .i64 0)), 3, none⟩]
def r7_7 : List O := [⟨some 25, .binOp .lss 3 (.tmp 24) (.tmp 23) 3, 0, none⟩]
def r7_8 : List O := [⟨some 26, .move (.tmp 24), 3, none⟩,
  ⟨some 27, .indexAddr 24 (.tmp 22) (.tmp 24), 0, none⟩,
  ⟨some 28, .load 9 (.tmp 27), 9, none⟩,
  ⟨some 8, .assign (.tmp 26), 3, none⟩,
  ⟨some 9, .assign (.tmp 28), 9, none⟩]
def r7_9 : List O := [⟨some 29, .move (.tmp 9), 9, none⟩,
  ⟨some 30, .call { callee := .builtin .len, args := #[.tmp 29], argTypes := #[9] }, 3, none⟩,
  ⟨some 31, .binOp .gtr 3 (.tmp 30) (.const (.int .i64 60)) 3, 4, none⟩]
def r7_10 : List O := [⟨some 6, .assign (.const (.bool true)), 4, none⟩]
def r7_11 : List O := [⟨some 32, .move (.tmp 9), 9, none⟩,
  ⟨some 33, .call { callee := .builtin .len, args := #[.tmp 32], argTypes := #[9] }, 3, none⟩,
  ⟨some 34, .move (.const (.int .i64 0)), 3, none⟩]
def r7_12 : List O := [⟨some 35, .binOp .lss 3 (.tmp 34) (.tmp 33) 3, 4, none⟩]
def r7_13 : List O := [⟨some 36, .move (.tmp 34), 3, none⟩,
  ⟨some 10, .assign (.tmp 36), 3, none⟩]
def r7_14 : List O := [⟨some 37, .move (.tmp 9), 9, none⟩,
  ⟨some 38, .move (.tmp 10), 3, none⟩,
  ⟨some 39, .index 9 (.tmp 37) (.tmp 38), 5, none⟩,
  ⟨some 40, .binOp .lss 5 (.tmp 39) (.const (.int .u8 32)) 5, 4, none⟩,
  ⟨some 41, .move (.tmp 40), 4, none⟩,
  ⟨some 42, .move (.tmp 9), 9, some (41, false)⟩,
  ⟨some 43, .move (.tmp 10), 3, some (41, false)⟩,
  ⟨some 44, .index 9 (.tmp 42) (.tmp 43), 5, some (41, false)⟩,
  ⟨some 45, .binOp .gtr 5 (.tmp 44) (.const (.int .u8 126)) 5, 4, some (41, false)⟩,
  ⟨some 46, .pick (.tmp 41) (.const (.bool true)) (.tmp 45), 4, none⟩]
def r7_15 : List O := [⟨some 6, .assign (.const (.bool true)), 4, none⟩]
def r7_16 : List O := [⟨some 47, .binOp .add 3 (.tmp 34) (.const (.int .i64 1)) 3, 3, none⟩,
  ⟨some 34, .move (.tmp 47), 3, none⟩]
def r7_17 : List O := [⟨some 48, .move (.tmp 8), 3, none⟩,
  ⟨some 49, .binOp .gtr 3 (.tmp 48) (.const (.int .i64 0)) 3, 4, none⟩]
def r7_18 : List O := [⟨some 50, .move (.tmp 7), 9, none⟩,
  ⟨some 51, .move (.tmp 2), 5, none⟩,
  ⟨some 52, .binOp .rem 5 (.tmp 51) (.const (.int .u8 3)) 5, 5, none⟩,
  ⟨some 53, .convert 5 3 (.tmp 52), 3, none⟩,
  ⟨some 54, .binOp .add 3 (.const (.int .i64 1)) (.tmp 53) 3, 3, none⟩,
  ⟨some 55, .call { callee := .value (.func 21), args := #[.const (.string ⟨#[32]⟩), .tmp 54], argTypes := #[9, 3] }, 9, none⟩,
  ⟨some 56, .binOp .add 9 (.tmp 50) (.tmp 55) 9, 9, none⟩,
  ⟨some 7, .assign (.tmp 56), 9, none⟩]
def r7_19 : List O := [⟨some 57, .move (.tmp 7), 9, none⟩,
  ⟨some 58, .move (.tmp 9), 9, none⟩,
  ⟨some 59, .call { callee := .value (.func 15), args := #[.tmp 58], argTypes := #[9] }, 9, none⟩,
  ⟨some 60, .binOp .add 9 (.tmp 57) (.tmp 59) 9, 9, none⟩,
  ⟨some 7, .assign (.tmp 60), 9, none⟩]
def r7_20 : List O := [⟨some 61, .binOp .add 3 (.tmp 24) (.const (.int .i64 1)) 3, 3, none⟩,
  ⟨some 24, .move (.tmp 61), 3, none⟩]
def r7_21 : List O := [⟨some 63, .move (.tmp 7), 9, none⟩,
  ⟨some 64, .move (.tmp 2), 5, none⟩,
  ⟨some 65, .binOp .rem 5 (.tmp 64) (.const (.int .u8 4)) 5, 5, none⟩,
  ⟨some 66, .convert 5 3 (.tmp 65), 3, none⟩,
  ⟨some 67, .call { callee := .value (.func 21), args := #[.const (.string ⟨#[32]⟩), .tmp 66], argTypes := #[9, 3] }, 9, none⟩,
  ⟨some 68, .binOp .add 9 (.tmp 63) (.tmp 67) 9, 9, none⟩,
  ⟨some 69, .call { callee := .value (.func 10), args := #[.tmp 68], argTypes := #[9] }, 26, none⟩,
  ⟨some 62, .move (.tmp 69), 26, none⟩,
  ⟨some 70, .extract (.tmp 62) 0, 24, none⟩,
  ⟨some 71, .extract (.tmp 62) 1, 25, none⟩,
  ⟨some 11, .assign (.tmp 70), 24, none⟩,
  ⟨some 12, .assign (.tmp 71), 25, none⟩]
def r7_22 : List O := [⟨some 72, .move (.tmp 12), 25, none⟩,
  ⟨some 73, .binOp .eql 25 (.tmp 72) (.const (.int .i64 0)) 25, 4, none⟩,
  ⟨some 74, .move (.tmp 73), 4, none⟩,
  ⟨some 75, .move (.tmp 11), 24, some (74, true)⟩,
  ⟨some 76, .move (.tmp 0), 24, some (74, true)⟩,
  ⟨some 77, .call { callee := .value (.func 14), args := #[.tmp 75, .tmp 76], argTypes := #[24, 24] }, 4, some (74, true)⟩,
  ⟨some 78, .pick (.tmp 74) (.tmp 77) (.const (.bool false)), 4, none⟩,
  ⟨some 6, .assign (.tmp 78), 4, none⟩]
def c7_0 : A := .seq (.reg r7_2 [6]) .ret
def c7_1 : A := .cond (.tmp 14) c7_0 .skip
def c7_2 : A := .seq (.reg r7_4 [6]) .ret
def c7_3 : A := .cond (.tmp 17) c7_2 .skip
def c7_4 : A := .seq (.reg r7_10 [6]) .ret
def c7_5 : A := .cond (.tmp 31) c7_4 .skip
def c7_6 : A := .seq (.reg r7_15 [6]) .ret
def c7_7 : A := .cond (.tmp 46) c7_6 .skip
def c7_8 : A := .seq (.reg r7_14 [0, 2, 7, 8, 9, 22, 23, 24, 33, 34, 46]) c7_7
def c7_9 : A := .seq (.reg r7_13 [0, 2, 7, 8, 9, 10, 22, 23, 24, 33, 34]) c7_8
def c7_10 : A := .seq (.block 3 c7_9) (.reg r7_16 [0, 2, 7, 8, 9, 22, 23, 24, 33, 34])
def c7_11 : A := .seq (.cond (.tmp 35) .skip (.exit 2)) (.seq (.keep [0, 2, 7, 8, 9, 22, 23, 24, 33, 34]) c7_10)
def c7_12 : A := .seq (.reg r7_12 [0, 2, 7, 8, 9, 22, 23, 24, 33, 34, 35]) c7_11
def c7_13 : A := .seq c7_12 (.keep [0, 2, 7, 8, 9, 22, 23, 24, 33, 34])
def c7_14 : A := .loop c7_13
def c7_15 : A := .block 2 c7_14
def c7_16 : A := .cond (.tmp 49) (.reg r7_18 [0, 2, 7, 9, 22, 23, 24]) .skip
def c7_17 : A := .seq (.seq (.reg r7_17 [0, 2, 7, 9, 22, 23, 24, 49]) c7_16) (.seq (.keep [0, 2, 7, 9, 22, 23, 24]) (.reg r7_19 [0, 2, 7, 22, 23, 24]))
def c7_18 : A := .seq (.seq (.reg r7_11 [0, 2, 7, 8, 9, 22, 23, 24, 33, 34]) c7_15) c7_17
def c7_19 : A := .seq (.seq (.reg r7_9 [0, 2, 7, 8, 9, 22, 23, 24, 31]) c7_5) (.seq (.keep [0, 2, 7, 8, 9, 22, 23, 24]) c7_18)
def c7_20 : A := .seq (.reg r7_8 [0, 2, 7, 8, 9, 22, 23, 24]) c7_19
def c7_21 : A := .seq (.block 1 c7_20) (.reg r7_20 [0, 2, 7, 22, 23, 24])
def c7_22 : A := .seq (.cond (.tmp 25) .skip (.exit 0)) (.seq (.keep [0, 2, 7, 22, 23, 24]) c7_21)
def c7_23 : A := .seq (.reg r7_7 [0, 2, 7, 22, 23, 24, 25]) c7_22
def c7_24 : A := .seq c7_23 (.keep [0, 2, 7, 22, 23, 24])
def c7_25 : A := .loop c7_24
def c7_26 : A := .block 0 c7_25
def c7_27 : A := .seq (.reg r7_22 [6]) .ret
def c7_28 : A := .seq (.reg r7_21 [0, 11, 12]) c7_27
def c7_29 : A := .seq (.seq (.reg r7_6 [0, 2, 7, 22, 23, 24]) c7_26) c7_28
def c7_30 : A := .seq (.reg r7_5 [0, 2, 7]) c7_29
def c7_31 : A := .seq (.seq (.reg r7_3 [0, 1, 2, 17]) c7_3) (.seq (.keep [0, 1, 2]) c7_30)
def c7_32 : A := .seq (.seq (.reg r7_1 [0, 1, 2, 14]) c7_1) (.seq (.keep [0, 1, 2]) c7_31)
def c7 : A := .seq (.reg r7_0 [0, 1, 2]) c7_32
theorem B7 : Body Tryd.prog 7 79 [.tmp 6] c7 := ⟨by kernel_rfl, _, _, [(0, [0, 1, 2]), (1, [0, 1, 2, 14]), (2, [6]), (3, [0, 1, 2, 17]), (4, [6]), (5, [0, 2, 7]), (6, [0, 2, 7, 22, 23, 24]), (7, [0, 2, 7, 22, 23, 24, 25]), (8, [0, 2, 7, 8, 9, 22, 23, 24]), (9, [0, 2, 7, 8, 9, 22, 23, 24, 31]), (10, [6]), (11, [0, 2, 7, 8, 9, 22, 23, 24, 33, 34]), (12, [0, 2, 7, 8, 9, 22, 23, 24, 33, 34, 35]), (13, [0, 2, 7, 8, 9, 10, 22, 23, 24, 33, 34]), (14, [0, 2, 7, 8, 9, 22, 23, 24, 33, 34, 46]), (15, [6]), (16, [0, 2, 7, 8, 9, 22, 23, 24, 33, 34]), (17, [0, 2, 7, 9, 22, 23, 24, 49]), (18, [0, 2, 7, 9, 22, 23, 24]), (19, [0, 2, 7, 22, 23, 24]), (20, [0, 2, 7, 22, 23, 24]), (21, [0, 11, 12]), (22, [6]), (1007, [0, 2, 7, 22, 23, 24]), (1012, [0, 2, 7, 8, 9, 22, 23, 24, 33, 34]), (2003, [0, 1, 2]), (2005, [0, 1, 2]), (2008, [0, 2, 7, 22, 23, 24]), (2011, [0, 2, 7, 8, 9, 22, 23, 24]), (2013, [0, 2, 7, 8, 9, 22, 23, 24, 33, 34]), (2019, [0, 2, 7, 9, 22, 23, 24])], Tryd.func7, rfl, rfl, rfl, by kernel_rfl⟩
/-! ### 3 dasd/dasdlaw39.JobtextLines -/
def r3_0 : List O := [⟨some 4, .assign (.const (.bool false)), 4, none⟩]
def r3_1 : List O := [⟨some 15, .call { callee := .value (.func 9), args := #[], argTypes := #[] }, 4, none⟩,
  ⟨some 16, .unOp .not 4 (.tmp 15), 4, none⟩]
def r3_2 : List O := [⟨some 4, .assign (.const (.bool false)), 4, none⟩]
def r3_3 : List O := [⟨some 17, .move (.tmp 0), 9, none⟩,
  ⟨some 18, .call { callee := .builtin .len, args := #[.tmp 17], argTypes := #[9] }, 3, none⟩,
  ⟨some 19, .binOp .gtr 3 (.tmp 18) (.const (.int .i64 1200)) 3, 4, none⟩,
  ⟨some 20, .move (.tmp 19), 4, none⟩,
  ⟨some 21, .move (.tmp 1), 22, some (20, false)⟩,
  ⟨some 22, .call { callee := .builtin .len, args := #[.tmp 21], argTypes := #[22] }, 3, some (20, false)⟩,
  ⟨some 23, .binOp .gtr 3 (.tmp 22) (.const (.int .i64 8)) 3, 4, some (20, false)⟩,
  ⟨some 24, .pick (.tmp 20) (.const (.bool true)) (.tmp 23), 4, none⟩]
def r3_4 : List O := [⟨some 4, .assign (.const (.bool true)), 4, none⟩]
def r3_5 : List O := [⟨some 25, .move (.tmp 1), 22, none⟩,
  ⟨some 26, .range 22 (.tmp 25), 0, none⟩]
def r3_6 : List O := [⟨some 27, .next (.tmp 26) false, 0, none⟩,
  ⟨some 28, .extract (.tmp 27) 0, 4, none⟩]
def r3_7 : List O := [⟨some 29, .entry (.tmp 26), 0, none⟩,
  ⟨some 30, .extract (.tmp 29) 0, 9, none⟩,
  ⟨some 31, .extract (.tmp 29) 1, 9, none⟩,
  ⟨some 5, .assign (.tmp 30), 9, none⟩,
  ⟨some 6, .assign (.tmp 31), 9, none⟩]
def r3_8 : List O := [⟨some 32, .move (.tmp 5), 9, none⟩,
  ⟨some 33, .call { callee := .builtin .len, args := #[.tmp 32], argTypes := #[9] }, 3, none⟩,
  ⟨some 34, .binOp .gtr 3 (.tmp 33) (.const (.int .i64 20)) 3, 4, none⟩,
  ⟨some 35, .move (.tmp 34), 4, none⟩,
  ⟨some 36, .move (.tmp 6), 9, some (35, false)⟩,
  ⟨some 37, .call { callee := .builtin .len, args := #[.tmp 36], argTypes := #[9] }, 3, some (35, false)⟩,
  ⟨some 38, .binOp .gtr 3 (.tmp 37) (.const (.int .i64 1200)) 3, 4, some (35, false)⟩,
  ⟨some 39, .pick (.tmp 35) (.const (.bool true)) (.tmp 38), 4, none⟩]
def r3_9 : List O := [⟨some 4, .assign (.const (.bool true)), 4, none⟩]
def r3_10 : List O := [⟨some 41, .move (.tmp 0), 9, none⟩,
  ⟨some 42, .call { callee := .value (.func 10), args := #[.tmp 41], argTypes := #[9] }, 26, none⟩,
  ⟨some 40, .move (.tmp 42), 26, none⟩,
  ⟨some 43, .extract (.tmp 40) 0, 24, none⟩,
  ⟨some 44, .extract (.tmp 40) 1, 25, none⟩,
  ⟨some 7, .assign (.tmp 43), 24, none⟩,
  ⟨some 8, .assign (.tmp 44), 25, none⟩]
def r3_11 : List O := [⟨some 46, .move (.tmp 0), 9, none⟩,
  ⟨some 47, .call { callee := .value (.func 11), args := #[.tmp 46], argTypes := #[9] }, 26, none⟩,
  ⟨some 45, .move (.tmp 47), 26, none⟩,
  ⟨some 48, .extract (.tmp 45) 0, 24, none⟩,
  ⟨some 49, .extract (.tmp 45) 1, 25, none⟩,
  ⟨some 9, .assign (.tmp 48), 24, none⟩,
  ⟨some 10, .assign (.tmp 49), 25, none⟩]
def r3_12 : List O := [⟨some 51, .move (.tmp 0), 9, none⟩,
  ⟨some 52, .move (.tmp 1), 22, none⟩,
  ⟨some 53, .call { callee := .value (.func 12), args := #[.tmp 51, .tmp 52], argTypes := #[9, 22] }, 28, none⟩,
  ⟨some 50, .move (.tmp 53), 28, none⟩,
  ⟨some 54, .extract (.tmp 50) 0, 9, none⟩,
  ⟨some 55, .extract (.tmp 50) 1, 25, none⟩,
  ⟨some 11, .assign (.tmp 54), 9, none⟩,
  ⟨some 12, .assign (.tmp 55), 25, none⟩]
def r3_13 : List O := [⟨some 57, .move (.tmp 0), 9, none⟩,
  ⟨some 58, .move (.tmp 1), 22, none⟩,
  ⟨some 59, .call { callee := .value (.func 13), args := #[.tmp 57, .tmp 58], argTypes := #[9, 22] }, 28, none⟩,
  ⟨some 56, .move (.tmp 59), 28, none⟩,
  ⟨some 60, .extract (.tmp 56) 0, 9, none⟩,
  ⟨some 61, .extract (.tmp 56) 1, 25, none⟩,
  ⟨some 13, .assign (.tmp 60), 9, none⟩,
  ⟨some 14, .assign (.tmp 61), 25, none⟩]
def r3_14 : List O := [⟨some 62, .move (.tmp 7), 24, none⟩,
  ⟨some 63, .move (.tmp 9), 24, none⟩,
  ⟨some 64, .call { callee := .value (.func 14), args := #[.tmp 62, .tmp 63], argTypes := #[24, 24] }, 4, none⟩,
  ⟨some 65, .move (.tmp 64), 4, none⟩,
  ⟨some 66, .move (.tmp 8), 25, some (65, true)⟩,
  ⟨some 67, .move (.tmp 10), 25, some (65, true)⟩,
  ⟨some 68, .binOp .eql 25 (.tmp 66) (.tmp 67) 25, 4, some (65, true)⟩,
  ⟨some 69, .pick (.tmp 65) (.tmp 68) (.const (.bool false)), 4, none⟩,
  ⟨some 70, .move (.tmp 69), 4, none⟩,
  ⟨some 71, .move (.tmp 11), 9, some (70, true)⟩,
  ⟨some 72, .move (.tmp 13), 9, some (70, true)⟩,
  ⟨some 73, .binOp .eql 9 (.tmp 71) (.tmp 72) 9, 4, some (70, true)⟩,
  ⟨some 74, .pick (.tmp 70) (.tmp 73) (.const (.bool false)), 4, none⟩,
  ⟨some 75, .move (.tmp 74), 4, none⟩,
  ⟨some 76, .move (.tmp 12), 25, some (75, true)⟩,
  ⟨some 77, .move (.tmp 14), 25, some (75, true)⟩,
  ⟨some 78, .binOp .eql 25 (.tmp 76) (.tmp 77) 25, 4, some (75, true)⟩,
  ⟨some 79, .pick (.tmp 75) (.tmp 78) (.const (.bool false)), 4, none⟩,
  ⟨some 80, .move (.tmp 79), 4, none⟩,
  ⟨some 81, .move (.tmp 0), 9, some (80, true)⟩,
  ⟨some 82, .call { callee := .value (.func 15), args := #[.tmp 81], argTypes := #[9] }, 9, some (80, true)⟩,
  ⟨some 83, .move (.tmp 0), 9, some (80, true)⟩,
  ⟨some 84, .call { callee := .value (.func 16), args := #[.tmp 83], argTypes := #[9] }, 9, some (80, true)⟩,
  ⟨some 85, .binOp .eql 9 (.tmp 82) (.tmp 84) 9, 4, some (80, true)⟩,
  ⟨some 86, .pick (.tmp 80) (.tmp 85) (.const (.bool false)), 4, none⟩,
  ⟨some 4, .assign (.tmp 86), 4, none⟩]
def c3_0 : A := .seq (.reg r3_2 [4]) .ret
def c3_1 : A := .cond (.tmp 16) c3_0 .skip
def c3_2 : A := .seq (.reg r3_4 [4]) .ret
def c3_3 : A := .cond (.tmp 24) c3_2 .skip
def c3_4 : A := .seq (.reg r3_9 [4]) .ret
def c3_5 : A := .cond (.tmp 39) c3_4 .skip
def c3_6 : A := .seq (.reg r3_8 [0, 1, 26, 39]) c3_5
def c3_7 : A := .seq (.reg r3_7 [0, 1, 5, 6, 26]) c3_6
def c3_8 : A := .block 1 c3_7
def c3_9 : A := .seq (.cond (.tmp 28) .skip (.exit 0)) (.seq (.keep [0, 1, 26]) c3_8)
def c3_10 : A := .seq (.reg r3_6 [0, 1, 26, 28]) c3_9
def c3_11 : A := .seq c3_10 (.keep [0, 1, 26])
def c3_12 : A := .loop c3_11
def c3_13 : A := .block 0 c3_12
def c3_14 : A := .seq (.reg r3_14 [4]) .ret
def c3_15 : A := .seq (.reg r3_13 [0, 7, 8, 9, 10, 11, 12, 13, 14]) c3_14
def c3_16 : A := .seq (.reg r3_12 [0, 1, 7, 8, 9, 10, 11, 12]) c3_15
def c3_17 : A := .seq (.reg r3_11 [0, 1, 7, 8, 9, 10]) c3_16
def c3_18 : A := .seq (.reg r3_10 [0, 1, 7, 8]) c3_17
def c3_19 : A := .seq (.seq (.reg r3_5 [0, 1, 26]) c3_13) c3_18
def c3_20 : A := .seq (.seq (.reg r3_3 [0, 1, 24]) c3_3) (.seq (.keep [0, 1]) c3_19)
def c3_21 : A := .seq (.seq (.reg r3_1 [0, 1, 16]) c3_1) (.seq (.keep [0, 1]) c3_20)
def c3 : A := .seq (.reg r3_0 [0, 1]) c3_21
theorem B3 : Body Tryd.prog 3 87 [.tmp 4] c3 := ⟨by kernel_rfl, _, _, [(0, [0, 1]), (1, [0, 1, 16]), (2, [4]), (3, [0, 1, 24]), (4, [4]), (5, [0, 1, 26]), (6, [0, 1, 26, 28]), (7, [0, 1, 5, 6, 26]), (8, [0, 1, 26, 39]), (9, [4]), (10, [0, 1, 7, 8]), (11, [0, 1, 7, 8, 9, 10]), (12, [0, 1, 7, 8, 9, 10, 11, 12]), (13, [0, 7, 8, 9, 10, 11, 12, 13, 14]), (14, [4]), (1006, [0, 1, 26]), (2003, [0, 1]), (2005, [0, 1]), (2007, [0, 1, 26])], Tryd.func3, rfl, rfl, rfl, by kernel_rfl⟩
/-! ### 4 dasd/dasdlaw39.JobtextSymbols -/
def r4_0 : List O := [⟨some 4, .assign (.const (.bool false)), 4, none⟩]
def r4_1 : List O := [⟨some 15, .call { callee := .value (.func 9), args := #[], argTypes := #[] }, 4, none⟩,
  ⟨some 16, .unOp .not 4 (.tmp 15), 4, none⟩]
def r4_2 : List O := [⟨some 4, .assign (.const (.bool false)), 4, none⟩]
def r4_3 : List O := [⟨some 17, .move (.tmp 0), 24, none⟩,
  ⟨some 18, .call { callee := .builtin .len, args := #[.tmp 17], argTypes := #[24] }, 3, none⟩,
  ⟨some 19, .binOp .gtr 3 (.tmp 18) (.const (.int .i64 60)) 3, 4, none⟩,
  ⟨some 20, .move (.tmp 19), 4, none⟩,
  ⟨some 21, .move (.tmp 1), 9, some (20, false)⟩,
  ⟨some 22, .call { callee := .builtin .len, args := #[.tmp 21], argTypes := #[9] }, 3, some (20, false)⟩,
  ⟨some 23, .binOp .gtr 3 (.tmp 22) (.const (.int .i64 40)) 3, 4, some (20, false)⟩,
  ⟨some 24, .pick (.tmp 20) (.const (.bool true)) (.tmp 23), 4, none⟩]
def r4_4 : List O := [⟨some 4, .assign (.const (.bool true)), 4, none⟩]
def r4_5 : List O := [⟨some 5, .assign (.const (.string ⟨#[]⟩)), 9, none⟩,
  ⟨some 6, .assign (.const (.string ⟨#[]⟩)), 9, none⟩]
def r4_6 : List O := [⟨some 25, .move (.tmp 0), 24, none⟩,
  ⟨some 26, .call { callee := .builtin .len, args := #[.tmp 25], argTypes := #[24] }, 3, none⟩,
  ⟨some 27, .move (.const (.int .i64 0)), 3, none⟩]
def r4_7 : List O := [⟨some 28, .binOp .lss 3 (.tmp 27) (.tmp 26) 3, 0, none⟩]
def r4_8 : List O := [⟨some 29, .move (.tmp 27), 3, none⟩,
  ⟨some 30, .indexAddr 24 (.tmp 25) (.tmp 27), 0, none⟩,
  ⟨some 31, .load 9 (.tmp 30), 9, none⟩,
  ⟨some 7, .assign (.tmp 29), 3, none⟩,
  ⟨some 8, .assign (.tmp 31), 9, none⟩]
def r4_9 : List O := [⟨some 32, .move (.tmp 8), 9, none⟩,
  ⟨some 33, .call { callee := .builtin .len, args := #[.tmp 32], argTypes := #[9] }, 3, none⟩,
  ⟨some 34, .binOp .gtr 3 (.tmp 33) (.const (.int .i64 40)) 3, 4, none⟩]
def r4_10 : List O := [⟨some 4, .assign (.const (.bool true)), 4, none⟩]
def r4_11 : List O := [⟨some 35, .move (.tmp 7), 3, none⟩,
  ⟨some 36, .binOp .rem 3 (.tmp 35) (.const (.int .i64 2)) 3, 3, none⟩,
  ⟨some 37, .binOp .eql 3 (.tmp 36) (.const (.int .i64 0)) 3, 4, none⟩]
def r4_12 : List O := [⟨some 38, .move (.tmp 5), 9, none⟩,
  ⟨some 39, .move (.tmp 8), 9, none⟩,
  ⟨some 40, .call { callee := .value (.func 17), args := #[.tmp 39, .const (.string ⟨#[38]⟩), .const (.string ⟨#[38, 38]⟩)], argTypes := #[9, 9, 9] }, 9, none⟩,
  ⟨some 41, .binOp .add 9 (.tmp 38) (.tmp 40) 9, 9, none⟩,
  ⟨some 5, .assign (.tmp 41), 9, none⟩]
def r4_13 : List O := [⟨some 42, .move (.tmp 6), 9, none⟩,
  ⟨some 43, .move (.tmp 8), 9, none⟩,
  ⟨some 44, .binOp .add 9 (.tmp 42) (.tmp 43) 9, 9, none⟩,
  ⟨some 6, .assign (.tmp 44), 9, none⟩]
def r4_14 : List O := [⟨some 45, .move (.tmp 5), 9, none⟩,
  ⟨some 46, .binOp .add 9 (.tmp 45) (.const (.string ⟨#[38, 68, 65, 89, 49, 59]⟩)) 9, 9, none⟩,
  ⟨some 5, .assign (.tmp 46), 9, none⟩]
def r4_15 : List O := [⟨some 47, .move (.tmp 6), 9, none⟩,
  ⟨some 48, .move (.tmp 1), 9, none⟩,
  ⟨some 49, .binOp .add 9 (.tmp 47) (.tmp 48) 9, 9, none⟩,
  ⟨some 6, .assign (.tmp 49), 9, none⟩]
def r4_16 : List O := [⟨some 50, .binOp .add 3 (.tmp 27) (.const (.int .i64 1)) 3, 3, none⟩,
  ⟨some 27, .move (.tmp 50), 3, none⟩]
def r4_17 : List O := [⟨some 52, .move (.tmp 5), 9, none⟩,
  ⟨some 53, .makeMap 22 none, 22, none⟩,
  ⟨some 54, .move (.tmp 1), 9, none⟩,
  ⟨none, .insert 22 (.tmp 53) (.const (.string ⟨#[68, 65, 89, 49]⟩)) (.tmp 54), 0, none⟩,
  ⟨none, .insert 22 (.tmp 53) (.const (.string ⟨#[68, 65, 89]⟩)) (.const (.string ⟨#[63]⟩)), 0, none⟩,
  ⟨some 55, .move (.tmp 53), 22, none⟩,
  ⟨some 56, .call { callee := .value (.func 12), args := #[.tmp 52, .tmp 55], argTypes := #[9, 22] }, 28, none⟩,
  ⟨some 51, .move (.tmp 56), 28, none⟩,
  ⟨some 57, .extract (.tmp 51) 0, 9, none⟩,
  ⟨some 58, .extract (.tmp 51) 1, 25, none⟩,
  ⟨some 9, .assign (.tmp 57), 9, none⟩,
  ⟨some 10, .assign (.tmp 58), 25, none⟩]
def r4_18 : List O := [⟨some 59, .move (.tmp 6), 9, none⟩,
  ⟨some 60, .call { callee := .builtin .len, args := #[.tmp 59], argTypes := #[9] }, 3, none⟩,
  ⟨some 61, .binOp .gtr 3 (.tmp 60) (.const (.int .i64 1000)) 3, 4, none⟩]
def r4_19 : List O := [⟨some 62, .move (.tmp 10), 25, none⟩,
  ⟨some 63, .binOp .eql 25 (.tmp 62) (.const (.int .i64 8)) 25, 4, none⟩,
  ⟨some 64, .move (.tmp 63), 4, none⟩,
  ⟨some 65, .move (.tmp 9), 9, some (64, true)⟩,
  ⟨some 66, .binOp .eql 9 (.tmp 65) (.const (.string ⟨#[]⟩)) 9, 4, some (64, true)⟩,
  ⟨some 67, .pick (.tmp 64) (.tmp 66) (.const (.bool false)), 4, none⟩,
  ⟨some 4, .assign (.tmp 67), 4, none⟩]
def r4_20 : List O := [⟨some 69, .move (.tmp 5), 9, none⟩,
  ⟨some 70, .binOp .add 9 (.tmp 69) (.const (.string ⟨#[38, 78, 79, 78, 69, 59]⟩)) 9, 9, none⟩,
  ⟨some 71, .makeMap 22 none, 22, none⟩,
  ⟨some 72, .move (.tmp 1), 9, none⟩,
  ⟨none, .insert 22 (.tmp 71) (.const (.string ⟨#[68, 65, 89, 49]⟩)) (.tmp 72), 0, none⟩,
  ⟨some 73, .move (.tmp 71), 22, none⟩,
  ⟨some 74, .call { callee := .value (.func 12), args := #[.tmp 70, .tmp 73], argTypes := #[9, 22] }, 28, none⟩,
  ⟨some 68, .move (.tmp 74), 28, none⟩,
  ⟨some 75, .extract (.tmp 68) 0, 9, none⟩,
  ⟨some 76, .extract (.tmp 68) 1, 25, none⟩,
  ⟨some 11, .assign (.tmp 75), 9, none⟩,
  ⟨some 12, .assign (.tmp 76), 25, none⟩]
def r4_21 : List O := [⟨some 78, .move (.tmp 5), 9, none⟩,
  ⟨some 79, .binOp .add 9 (.tmp 78) (.const (.string ⟨#[38, 68, 65, 89, 49]⟩)) 9, 9, none⟩,
  ⟨some 80, .makeMap 22 none, 22, none⟩,
  ⟨some 81, .move (.tmp 1), 9, none⟩,
  ⟨none, .insert 22 (.tmp 80) (.const (.string ⟨#[68, 65, 89, 49]⟩)) (.tmp 81), 0, none⟩,
  ⟨some 82, .move (.tmp 80), 22, none⟩,
  ⟨some 83, .call { callee := .value (.func 12), args := #[.tmp 79, .tmp 82], argTypes := #[9, 22] }, 28, none⟩,
  ⟨some 77, .move (.tmp 83), 28, none⟩,
  ⟨some 84, .extract (.tmp 77) 0, 9, none⟩,
  ⟨some 85, .extract (.tmp 77) 1, 25, none⟩,
  ⟨some 13, .assign (.tmp 84), 9, none⟩,
  ⟨some 14, .assign (.tmp 85), 25, none⟩]
def r4_22 : List O := [⟨some 86, .move (.tmp 10), 25, none⟩,
  ⟨some 87, .binOp .eql 25 (.tmp 86) (.const (.int .i64 0)) 25, 4, none⟩,
  ⟨some 88, .move (.tmp 87), 4, none⟩,
  ⟨some 89, .move (.tmp 9), 9, some (88, true)⟩,
  ⟨some 90, .move (.tmp 6), 9, some (88, true)⟩,
  ⟨some 91, .binOp .eql 9 (.tmp 89) (.tmp 90) 9, 4, some (88, true)⟩,
  ⟨some 92, .pick (.tmp 88) (.tmp 91) (.const (.bool false)), 4, none⟩,
  ⟨some 93, .move (.tmp 92), 4, none⟩,
  ⟨some 94, .move (.tmp 12), 25, some (93, true)⟩,
  ⟨some 95, .binOp .eql 25 (.tmp 94) (.const (.int .i64 4)) 25, 4, some (93, true)⟩,
  ⟨some 96, .pick (.tmp 93) (.tmp 95) (.const (.bool false)), 4, none⟩,
  ⟨some 97, .move (.tmp 96), 4, none⟩,
  ⟨some 98, .move (.tmp 14), 25, some (97, true)⟩,
  ⟨some 99, .binOp .eql 25 (.tmp 98) (.const (.int .i64 3)) 25, 4, some (97, true)⟩,
  ⟨some 100, .pick (.tmp 97) (.tmp 99) (.const (.bool false)), 4, none⟩,
  ⟨some 4, .assign (.tmp 100), 4, none⟩]
def c4_0 : A := .seq (.reg r4_2 [4]) .ret
def c4_1 : A := .cond (.tmp 16) c4_0 .skip
def c4_2 : A := .seq (.reg r4_4 [4]) .ret
def c4_3 : A := .cond (.tmp 24) c4_2 .skip
def c4_4 : A := .seq (.reg r4_10 [4]) .ret
def c4_5 : A := .cond (.tmp 34) c4_4 .skip
def c4_6 : A := .seq (.reg r4_12 [1, 5, 6, 8, 25, 26, 27]) (.reg r4_13 [1, 5, 6, 25, 26, 27])
def c4_7 : A := .seq (.reg r4_14 [1, 5, 6, 25, 26, 27]) (.reg r4_15 [1, 5, 6, 25, 26, 27])
def c4_8 : A := .cond (.tmp 37) c4_6 c4_7
def c4_9 : A := .seq (.reg r4_11 [1, 5, 6, 8, 25, 26, 27, 37]) c4_8
def c4_10 : A := .seq (.seq (.reg r4_9 [1, 5, 6, 7, 8, 25, 26, 27, 34]) c4_5) (.seq (.keep [1, 5, 6, 7, 8, 25, 26, 27]) c4_9)
def c4_11 : A := .seq (.reg r4_8 [1, 5, 6, 7, 8, 25, 26, 27]) c4_10
def c4_12 : A := .seq (.block 1 c4_11) (.reg r4_16 [1, 5, 6, 25, 26, 27])
def c4_13 : A := .seq (.cond (.tmp 28) .skip (.exit 0)) (.seq (.keep [1, 5, 6, 25, 26, 27]) c4_12)
def c4_14 : A := .seq (.reg r4_7 [1, 5, 6, 25, 26, 27, 28]) c4_13
def c4_15 : A := .seq c4_14 (.keep [1, 5, 6, 25, 26, 27])
def c4_16 : A := .loop c4_15
def c4_17 : A := .block 0 c4_16
def c4_18 : A := .seq (.reg r4_19 [4]) .ret
def c4_19 : A := .cond (.tmp 61) c4_18 .skip
def c4_20 : A := .seq (.reg r4_22 [4]) .ret
def c4_21 : A := .seq (.reg r4_21 [6, 9, 10, 12, 14]) c4_20
def c4_22 : A := .seq (.reg r4_20 [1, 5, 6, 9, 10, 12]) c4_21
def c4_23 : A := .seq (.seq (.reg r4_18 [1, 5, 6, 9, 10, 61]) c4_19) (.seq (.keep [1, 5, 6, 9, 10]) c4_22)
def c4_24 : A := .seq (.reg r4_17 [1, 5, 6, 9, 10]) c4_23
def c4_25 : A := .seq (.seq (.reg r4_6 [1, 5, 6, 25, 26, 27]) c4_17) c4_24
def c4_26 : A := .seq (.reg r4_5 [0, 1, 5, 6]) c4_25
def c4_27 : A := .seq (.seq (.reg r4_3 [0, 1, 24]) c4_3) (.seq (.keep [0, 1]) c4_26)
def c4_28 : A := .seq (.seq (.reg r4_1 [0, 1, 16]) c4_1) (.seq (.keep [0, 1]) c4_27)
def c4 : A := .seq (.reg r4_0 [0, 1]) c4_28
theorem B4 : Body Tryd.prog 4 101 [.tmp 4] c4 := ⟨by kernel_rfl, _, _, [(0, [0, 1]), (1, [0, 1, 16]), (2, [4]), (3, [0, 1, 24]), (4, [4]), (5, [0, 1, 5, 6]), (6, [1, 5, 6, 25, 26, 27]), (7, [1, 5, 6, 25, 26, 27, 28]), (8, [1, 5, 6, 7, 8, 25, 26, 27]), (9, [1, 5, 6, 7, 8, 25, 26, 27, 34]), (10, [4]), (11, [1, 5, 6, 8, 25, 26, 27, 37]), (12, [1, 5, 6, 8, 25, 26, 27]), (13, [1, 5, 6, 25, 26, 27]), (14, [1, 5, 6, 25, 26, 27]), (15, [1, 5, 6, 25, 26, 27]), (16, [1, 5, 6, 25, 26, 27]), (17, [1, 5, 6, 9, 10]), (18, [1, 5, 6, 9, 10, 61]), (19, [4]), (20, [1, 5, 6, 9, 10, 12]), (21, [6, 9, 10, 12, 14]), (22, [4]), (1007, [1, 5, 6, 25, 26, 27]), (2003, [0, 1]), (2005, [0, 1]), (2008, [1, 5, 6, 25, 26, 27]), (2011, [1, 5, 6, 7, 8, 25, 26, 27]), (2020, [1, 5, 6, 9, 10])], Tryd.func4, rfl, rfl, rfl, by kernel_rfl⟩
end Go.Proofs.YtoabcmhiaknjiaaDoor

/- The example that every law of chapter 39 checks first. -/
set_option maxRecDepth 100000
set_option linter.unusedSimpArgs false
set_option linter.unusedVariables false
namespace Go.Proofs.YtoabcmhiaknjiaaDoor
open Go.Hw

/-- Lines that are statements. -/
def LF0 (s : RS) (x : Row) (rest : List Row) : RS × HR :=
  lineR s x.1 x.2 (fun w => (hndL.lookup w).isSome) fun ws => ({ s with out := (stmF s.out [] x.1 rest ws).1 }, (stmF s.out [] x.1 rest ws).2)

theorem exStep_row : rowsFrom 0 (linesF exText) = [(1, exStep)] := by rw [exText_lines]; rfl
theorem LF0_step (s : RS) (hs : s.syms = []) (ho : s.out.length < 400) : LF0 s (1, exStep) [] = ({ s with out := s.out ++ [⟨1, [], [[115, 116, 101, 112], [83, 49], [112, 114, 111, 103, 114, 97, 109], [99, 111, 112, 121]], []⟩] }, ⟨0, 0, 0⟩) := by
  unfold LF0 lineR
  rw [hs, exStep_word]
  have e : stmF s.out [] 1 [] [[115, 116, 101, 112], [83, 49], [112, 114, 111, 103, 114, 97, 109], [99, 111, 112, 121]] = (s.out ++ [⟨1, [], [[115, 116, 101, 112], [83, 49], [112, 114, 111, 103, 114, 97, 109], [99, 111, 112, 121]], []⟩], ⟨0, 0, 0⟩) := by
    unfold stmF
    rw [if_neg (by omega), if_neg (by decide)]
  simp only [e]
  rw [if_pos (by decide)]
theorem exText_exp : expandF LF0 exText = ([⟨1, [], [[115, 116, 101, 112], [83, 49], [112, 114, 111, 103, 114, 97, 109], [99, 111, 112, 121]], []⟩], 0, 0) := by
  unfold expandF
  rw [exStep_row, exText_lines]
  rw [if_neg (by decide)]
  simp only [List.length_singleton, readT, LF0_step ⟨[], [], []⟩ rfl (by decide), if_true]
  rfl

theorem Rdr.stm {B0 R ms mp : Nat} {H H' : Hp} {s : RS} {out : List Stm} (h : Rdr B0 R ms mp H s) (k : FrJ B0 (fun _ => False) H H') (ho : RdrO B0 R ms mp H' out) : Rdr B0 R ms mp H' { s with out := out } := by
  have hm : ∀ (r : Nat) (l : List (List UInt8 × Value)), MapC H r l → MapC H' r l := fun r l hr => MapC.ko hr k fun es kk hh => by
    rcases hh.2 with ⟨c, f, h3 | h3⟩ | ⟨h3, _⟩
    · cases h3
    · cases h3
    · exact h3
  obtain ⟨ho', hs, ⟨l, hl, hf⟩, b1, b2, b3⟩ := h
  exact ⟨ho, hm _ _ hs, ⟨l, hm _ _ hl, hf.imp fun p x ⟨e, mv, rv, h1, h2, h3, h4, h5, h6⟩ => ⟨e, mv, rv, h1, hm _ _ h2, h3, h4, h5, h6.frJ k⟩⟩, b1, b2, b3⟩

theorem stmF_len {out : List Stm} {call : List UInt8} {k : Nat} {rest : List Row} {words : List (List UInt8)} (h : out.length ≤ 400) : (stmF out call k rest words).1.length ≤ 400 := by
  unfold stmF
  split
  · exact h
  · split
    · split
      · exact h
      · simp; omega
    · simp; omega

theorem exText_c {H : Hp} {K : Ending → Hp → Prop} (g : G0 H) (h : ∀ G v, Ext H G → StmsV G v [⟨1, [], [[115, 116, 101, 112], [83, 49], [112, 114, 111, 103, 114, 97, 109], [99, 111, 112, 121]], []⟩] → K (.returned (.tuple #[v, .int .i64 0, .int .i64 0])) G) :
    HCall Tryd.prog 19 #[.string (B exText)] H K := by
  refine expand_c LF0 (fun s => s.syms = [] ∧ s.out.length ≤ 400) (fun r => r = [(1, exStep)] ∨ r = []) g (by decide) ⟨rfl, by decide⟩ (.inl exStep_row) ?_ ?_ ?_
  · rintro s x rest ⟨h1, h2⟩ hr
    rcases hr with hr | hr
    · simp only [List.cons.injEq] at hr
      obtain ⟨rfl, rfl⟩ := hr
      have e : LF0 s (1, exStep) [] = ({ s with out := (stmF s.out [] 1 [] [[115, 116, 101, 112], [83, 49], [112, 114, 111, 103, 114, 97, 109], [99, 111, 112, 121]]).1 }, (stmF s.out [] 1 [] [[115, 116, 101, 112], [83, 49], [112, 114, 111, 103, 114, 97, 109], [99, 111, 112, 121]]).2) := by
        unfold LF0 lineR
        rw [h1, exStep_word]
        simp only
        rw [if_pos (by decide)]
      rw [e]
      refine ⟨⟨h1, stmF_len h2⟩, ?_, .inr (by simp)⟩
      unfold stmF
      split
      · exact Nat.le_refl _
      · rw [if_neg (by decide)]; exact Nat.le_refl _
    · cases hr
  · rintro B0 R ms mp s G rv k t rest kn K2 hB0 ⟨h1, h2⟩ hrw hBG hg hrd hmk hrv hrl hk
    rcases hrw with hrw | hrw
    · simp only [List.cons.injEq, Prod.mk.injEq] at hrw
      obtain ⟨⟨rfl, rfl⟩, rfl⟩ := hrw
      refine line_c (fun ws => ({ s with out := (stmF s.out [] 1 [] ws).1 }, (stmF s.out [] 1 [] ws).2)) hrd hB0 hg hmk hrv (by decide) (by rw [h1]; simp) ?_ ?_
      · intro w ws f hl hlk G1 wv K3 E hw hlen hk3
        rw [h1, exStep_word] at hl
        simp only [Except.ok.injEq, List.cons.injEq] at hl
        obtain ⟨rfl, rfl⟩ := hl
        have hf : f = 90 := by
          have : hndL.lookup [115, 116, 101, 112] = some (fnV 90) := rfl
          rw [this] at hlk
          simp only [fnV, Option.some.injEq, Value.func.injEq, Fn.func.injEq, and_true] at hlk
          exact hlk.symm
        subst hf
        exact statement_c (hrd.ext E).out (by have := E.size; omega) (hrv.ext E) (by simp) (by simp) hw (by simp) hlen (by omega) fun G' f1 f2 => hk3 G' (f1.mono fun x o ⟨a, b⟩ => ⟨a, b.imp_right fun c => c.1.elim⟩) ((hrd.ext E).stm f1 f2)
      · exact hk
    · cases hrw
  · rw [exText_exp]
    intro G v e hs _
    exact h G v e hs

theorem awake_c {H : Hp} {K : Ending → Hp → Prop} (g : G0 H) (h : ∀ G, Ext H G → K (.returned (.bool true)) G) : HCall Tryd.prog 9 #[] H K := by
  refine hcall mixed B9 (args := []) (by simp) ?_
  simp only [go_sem, reduceCtorEq, Nat.reduceEqDiff, Nat.reduceAdd, withc_some, withcs_some, cells_0, cells_s, Option.bind_some, Option.map_some, List.getElem?_toArray, List.getElem?_cons_zero, List.getElem?_cons_succ, Nat.add_zero, Nat.zero_add, Value.cells, splice, List.setIfInBounds_toArray, List.set_cons_zero, List.set_cons_succ, bfill_nil, bfill_cons, bstep_some, withO_some, List.take_zero, List.take_succ_cons, List.drop_zero, List.drop_succ_cons, List.cons_append, List.nil_append, List.append_nil, List.length_cons, List.length_nil, Nat.reduceLeDiff, Nat.le_refl, and_true, true_and, and_self, decide_true, decide_false, Bool.not_true, Bool.not_false, c9, r9_0, c9_3, r9_1, callA_fn0 pl10]
  refine scan exScan H (by decide) fun G1 v e E1 hs => ?_
  unfold ScanR at hs
  rw [exScan_eq] at hs
  obtain ⟨rfl, own⟩ := hs
  obtain ⟨va, vc, rfl⟩ := own.form
  have own' : SlV G1 _ _ := SlE.own own
  simp only [go_sem, reduceCtorEq, Nat.reduceEqDiff, Nat.reduceAdd, withc_some, withcs_some, cells_0, cells_s, Option.bind_some, Option.map_some, List.getElem?_toArray, List.getElem?_cons_zero, List.getElem?_cons_succ, Nat.add_zero, Nat.zero_add, Value.cells, splice, List.setIfInBounds_toArray, List.set_cons_zero, List.set_cons_succ, bfill_nil, bfill_cons, bstep_some, withO_some, List.take_zero, List.take_succ_cons, List.drop_zero, List.drop_succ_cons, List.cons_append, List.nil_append, List.append_nil, List.length_cons, List.length_nil, Nat.reduceLeDiff, Nat.le_refl, and_true, true_and, and_self, decide_true, decide_false, Bool.not_true, Bool.not_false, c9_2, r9_2, opA_makeMap, opA_insert, B_lit, callA_fn0 pl10, callA_fn0 pl12]
  have m0 : MapC (G1.push (.map #[] 0)) G1.size [] := MapC.new
  have e0 : Ext G1 (G1.push (.map #[] 0)) := Ext.push _ _
  generalize G1.push (.map #[] 0) = G2 at *
  generalize hm : G1.size = m at *
  refine mupA_ok Tryd.underlying22 uStr m0 fun G3 m1 k1 => ?_
  have e1 : Ext G1 G3 := k1.two e0 (by omega)
  simp only [go_sem, reduceCtorEq, Nat.reduceEqDiff, Nat.reduceAdd, withc_some, withcs_some, cells_0, cells_s, Option.bind_some, Option.map_some, List.getElem?_toArray, List.getElem?_cons_zero, List.getElem?_cons_succ, Nat.add_zero, Nat.zero_add, Value.cells, splice, List.setIfInBounds_toArray, List.set_cons_zero, List.set_cons_succ, bfill_nil, bfill_cons, bstep_some, withO_some, List.take_zero, List.take_succ_cons, List.drop_zero, List.drop_succ_cons, List.cons_append, List.nil_append, List.append_nil, List.length_cons, List.length_nil, Nat.reduceLeDiff, Nat.le_refl, and_true, true_and, and_self, decide_true, decide_false, Bool.not_true, Bool.not_false, callA_fn0 pl10, callA_fn0 pl12]
  refine replace_c exRepl (.map (some m)) [([68, 65, 89], [55])] G3 (by decide) (by decide) (g.ext (E1.trans e1)) (.inr ⟨m, rfl, m1.o⟩) fun G4 E4 => ?_
  rw [show replR (fun x => List.lookup x [([68, 65, 89], [55])]) exRepl = ([100, 100, 32, 79, 85, 84, 32, 100, 97, 116, 97, 32, 80, 65, 89, 46, 68, 55, 32, 110, 101, 119], 0) from exRepl_eq]
  simp only [go_sem, reduceCtorEq, Nat.reduceEqDiff, Nat.reduceAdd, withc_some, withcs_some, cells_0, cells_s, Option.bind_some, Option.map_some, List.getElem?_toArray, List.getElem?_cons_zero, List.getElem?_cons_succ, Nat.add_zero, Nat.zero_add, Value.cells, splice, List.setIfInBounds_toArray, List.set_cons_zero, List.set_cons_succ, bfill_nil, bfill_cons, bstep_some, withO_some, List.take_zero, List.take_succ_cons, List.drop_zero, List.drop_succ_cons, List.cons_append, List.nil_append, List.append_nil, List.length_cons, List.length_nil, Nat.reduceLeDiff, Nat.le_refl, and_true, true_and, and_self, decide_true, decide_false, Bool.not_true, Bool.not_false, c9_1, r9_3, callA_fn0 pl10, callA_fn0 pl12, callA_fn0 pl19]
  refine exText_c (g.ext (E1.trans (e1.trans E4))) fun G5 v5 E5 hst => ?_
  obtain ⟨cells, hsl, hst⟩ := hst
  obtain ⟨b5, off5, vc5, rfl, hcell⟩ := hsl.cell (i := 0) (by decide)
  obtain ⟨u, hu, hcell⟩ := hcell 0 (by decide)
  obtain ⟨wv, dv, rest, rfl, _⟩ := hst
  cases hu
  replace hcell : cellH G5 ⟨b5, off5, none⟩ = some (.int .i64 ((1 : Nat) : Int)) := hcell
  have E15 := e1.trans (E4.trans E5)
  obtain ⟨wb, woff, wc', ew, w1⟩ := (own'.ext E15).at (i := 5) (w := [98, 121, 32, 49, 32, 56]) rfl
  cases ew
  simp only [go_sem, reduceCtorEq, Nat.reduceEqDiff, Nat.reduceAdd, withc_some, withcs_some, cells_0, cells_s, Option.bind_some, Option.map_some, List.getElem?_toArray, List.getElem?_cons_zero, List.getElem?_cons_succ, Nat.add_zero, Nat.zero_add, Value.cells, splice, List.setIfInBounds_toArray, List.set_cons_zero, List.set_cons_succ, bfill_nil, bfill_cons, bstep_some, withO_some, List.take_zero, List.take_succ_cons, List.drop_zero, List.drop_succ_cons, List.cons_append, List.nil_append, List.append_nil, List.length_cons, List.length_nil, Nat.reduceLeDiff, Nat.le_refl, and_true, true_and, and_self, decide_true, decide_false, Bool.not_true, Bool.not_false, c9_0, r9_4, List.length_cons, List.length_nil, show decide (((0 + 1 + 1 + 1 + 1 + 1 + 1 : Nat) : Int) = 6) = true from rfl, show decide ((0 : Int) = 0) = true from rfl, show decide (((0 + 1 : Nat) : Int) = 1) = true from rfl, callA_fn0 pl10, callA_fn0 pl12, callA_fn0 pl15, callA_fn0 pl19, fa40_0, ld3, ld9, len_slice Tryd.underlying24, len_slice Tryd.underlying36]
  rw [iadA_slice uStrs ty9 (by omega) (by simp)]
  have hb1 : (([98, 121, 32, 49, 32, 56] : List UInt8) == [98, 121, 32, 49, 32, 56]) = true := rfl
  have hb2 : (([100, 100, 32, 79, 85, 84, 32, 100, 97, 116, 97, 32, 80, 65, 89, 46, 68, 55, 32, 110, 101, 119] : List UInt8) == [100, 100, 32, 79, 85, 84, 32, 100, 97, 116, 97, 32, 80, 65, 89, 46, 68, 55, 32, 110, 101, 119]) = true := rfl
  simp only [go_sem, reduceCtorEq, Nat.reduceEqDiff, Nat.reduceAdd, withc_some, withcs_some, cells_0, cells_s, Option.bind_some, Option.map_some, List.getElem?_toArray, List.getElem?_cons_zero, List.getElem?_cons_succ, Nat.add_zero, Nat.zero_add, Value.cells, splice, List.setIfInBounds_toArray, List.set_cons_zero, List.set_cons_succ, bfill_nil, bfill_cons, bstep_some, withO_some, List.take_zero, List.take_succ_cons, List.drop_zero, List.drop_succ_cons, List.cons_append, List.nil_append, List.append_nil, List.length_cons, List.length_nil, Nat.reduceLeDiff, Nat.le_refl, and_true, true_and, and_self, decide_true, decide_false, Bool.not_true, Bool.not_false, add_none, show Int.toNat 5 = 5 from rfl, Nat.mul_one, w1, B_lit, B_toList, hb1, hb2, show decide (((1 : Nat) : Int) = 1) = true from rfl, callA_fn0 pl10, callA_fn0 pl12, callA_fn0 pl15, callA_fn0 pl19, fa40_0, ld3, ld9, len_slice Tryd.underlying24, len_slice Tryd.underlying36]
  rw [iadA_slice Tryd.underlying36 ty40 (by omega) (by simp)]
  simp only [go_sem, reduceCtorEq, Nat.reduceEqDiff, Nat.reduceAdd, withc_some, withcs_some, cells_0, cells_s, Option.bind_some, Option.map_some, List.getElem?_toArray, List.getElem?_cons_zero, List.getElem?_cons_succ, Nat.add_zero, Nat.zero_add, Value.cells, splice, List.setIfInBounds_toArray, List.set_cons_zero, List.set_cons_succ, bfill_nil, bfill_cons, bstep_some, withO_some, List.take_zero, List.take_succ_cons, List.drop_zero, List.drop_succ_cons, List.cons_append, List.nil_append, List.append_nil, List.length_cons, List.length_nil, Nat.reduceLeDiff, Nat.le_refl, and_true, true_and, and_self, decide_true, decide_false, Bool.not_true, Bool.not_false, add_none, Int.toNat_zero, Nat.zero_mul, hcell, show decide (((1 : Nat) : Int) = 1) = true from rfl, B_lit, callA_fn0 pl10, callA_fn0 pl12, callA_fn0 pl15, callA_fn0 pl19, fa40_0, ld3, ld9, len_slice Tryd.underlying24, len_slice Tryd.underlying36]
  refine quote_c [97, 32, 98] (by decide) (g.ext (E1.trans E15)) fun G6 E6 => ?_
  rw [exQuote_eq]
  have hb3 : (([39, 97, 32, 98, 39] : List UInt8) == [39, 97, 32, 98, 39]) = true := rfl
  simp only [go_sem, reduceCtorEq, Nat.reduceEqDiff, Nat.reduceAdd, withc_some, withcs_some, cells_0, cells_s, Option.bind_some, Option.map_some, List.getElem?_toArray, List.getElem?_cons_zero, List.getElem?_cons_succ, Nat.add_zero, Nat.zero_add, Value.cells, splice, List.setIfInBounds_toArray, List.set_cons_zero, List.set_cons_succ, bfill_nil, bfill_cons, bstep_some, withO_some, List.take_zero, List.take_succ_cons, List.drop_zero, List.drop_succ_cons, List.cons_append, List.nil_append, List.append_nil, List.length_cons, List.length_nil, Nat.reduceLeDiff, Nat.le_refl, and_true, true_and, and_self, decide_true, decide_false, Bool.not_true, Bool.not_false, B_lit, B_toList, hb3, callA_fn0 pl10, callA_fn0 pl12, callA_fn0 pl15, callA_fn0 pl19, fa40_0, ld3, ld9, len_slice Tryd.underlying24, len_slice Tryd.underlying36]
  exact h G6 ((E1.trans E15).trans E6)
end Go.Proofs.YtoabcmhiaknjiaaDoor

set_option maxRecDepth 100000
namespace Go.Proofs.YtoabcmhiaknjiaaDoor
open Go.Hw
/-! ### 11 dasd/dasdref39.Scan -/
def r11_0 : List O := [⟨some 2, .assign (.const (.slice none 0 0)), 24, none⟩,
  ⟨some 3, .assign (.const (.int .i64 0)), 25, none⟩]
def r11_1 : List O := [⟨some 8, .buildSlice 24 0 #[], 24, none⟩,
  ⟨some 4, .assign (.tmp 8), 24, none⟩]
def r11_2 : List O := [⟨some 5, .assign (.const (.int .i64 0)), 3, none⟩]
def r11_3 : List O := [⟨some 9, .move (.tmp 5), 3, none⟩,
  ⟨some 10, .move (.tmp 0), 9, none⟩,
  ⟨some 11, .call { callee := .builtin .len, args := #[.tmp 10], argTypes := #[9] }, 3, none⟩,
  ⟨some 12, .binOp .lss 3 (.tmp 9) (.tmp 11) 3, 4, none⟩]
def r11_4 : List O := [⟨some 13, .move (.tmp 0), 9, none⟩,
  ⟨some 14, .move (.tmp 5), 3, none⟩,
  ⟨some 15, .index 9 (.tmp 13) (.tmp 14), 5, none⟩,
  ⟨some 16, .binOp .eql 5 (.tmp 15) (.const (.int .u8 32)) 5, 4, none⟩]
def r11_5 : List O := [⟨some 17, .move (.tmp 5), 3, none⟩,
  ⟨some 18, .binOp .add 3 (.tmp 17) (.const (.int .i64 1)) 3, 3, none⟩,
  ⟨some 5, .assign (.tmp 18), 3, none⟩]
def r11_6 : List O := [⟨some 6, .assign (.const (.string ⟨#[]⟩)), 9, none⟩]
def r11_7 : List O := [⟨some 19, .move (.tmp 0), 9, none⟩,
  ⟨some 20, .move (.tmp 5), 3, none⟩,
  ⟨some 21, .index 9 (.tmp 19) (.tmp 20), 5, none⟩,
  ⟨some 22, .binOp .eql 5 (.tmp 21) (.const (.int .u8 39)) 5, 4, none⟩]
def r11_8 : List O := [⟨some 23, .move (.tmp 5), 3, none⟩,
  ⟨some 24, .binOp .add 3 (.tmp 23) (.const (.int .i64 1)) 3, 3, none⟩,
  ⟨some 5, .assign (.tmp 24), 3, none⟩]
def r11_9 : List O := [⟨some 7, .assign (.const (.bool false)), 4, none⟩]
def r11_10 : List O := [⟨some 25, .move (.tmp 5), 3, none⟩,
  ⟨some 26, .move (.tmp 0), 9, none⟩,
  ⟨some 27, .call { callee := .builtin .len, args := #[.tmp 26], argTypes := #[9] }, 3, none⟩,
  ⟨some 28, .binOp .lss 3 (.tmp 25) (.tmp 27) 3, 4, none⟩,
  ⟨some 29, .move (.tmp 28), 4, none⟩,
  ⟨some 30, .move (.tmp 7), 4, some (29, true)⟩,
  ⟨some 31, .unOp .not 4 (.tmp 30), 4, some (29, true)⟩,
  ⟨some 32, .pick (.tmp 29) (.tmp 31) (.const (.bool false)), 4, none⟩]
def r11_13 : List O := [⟨some 36, .move (.tmp 0), 9, none⟩,
  ⟨some 37, .move (.tmp 5), 3, none⟩,
  ⟨some 38, .index 9 (.tmp 36) (.tmp 37), 5, none⟩,
  ⟨some 39, .binOp .lss 5 (.tmp 38) (.const (.int .u8 32)) 5, 4, none⟩,
  ⟨some 40, .move (.tmp 39), 4, none⟩,
  ⟨some 41, .move (.tmp 0), 9, some (40, false)⟩,
  ⟨some 42, .move (.tmp 5), 3, some (40, false)⟩,
  ⟨some 43, .index 9 (.tmp 41) (.tmp 42), 5, some (40, false)⟩,
  ⟨some 44, .binOp .gtr 5 (.tmp 43) (.const (.int .u8 126)) 5, 4, some (40, false)⟩,
  ⟨some 45, .pick (.tmp 40) (.const (.bool true)) (.tmp 44), 4, none⟩,
  ⟨some 35, .assign (.tmp 45), 4, none⟩]
def r11_14 : List O := [⟨some 2, .assign (.const (.slice none 0 0)), 24, none⟩,
  ⟨some 3, .assign (.const (.int .i64 3)), 25, none⟩]
def r11_15 : List O := [⟨some 47, .move (.tmp 0), 9, none⟩,
  ⟨some 48, .move (.tmp 5), 3, none⟩,
  ⟨some 49, .index 9 (.tmp 47) (.tmp 48), 5, none⟩,
  ⟨some 50, .binOp .neq 5 (.tmp 49) (.const (.int .u8 39)) 5, 4, none⟩,
  ⟨some 46, .assign (.tmp 50), 4, none⟩]
def r11_16 : List O := [⟨some 51, .move (.tmp 6), 9, none⟩,
  ⟨some 52, .move (.tmp 0), 9, none⟩,
  ⟨some 53, .move (.tmp 5), 3, none⟩,
  ⟨some 54, .move (.tmp 5), 3, none⟩,
  ⟨some 55, .binOp .add 3 (.tmp 54) (.const (.int .i64 1)) 3, 3, none⟩,
  ⟨some 56, .slice 9 (.tmp 52) (some (.tmp 53)) (some (.tmp 55)) none, 9, none⟩,
  ⟨some 57, .binOp .add 9 (.tmp 51) (.tmp 56) 9, 9, none⟩,
  ⟨some 6, .assign (.tmp 57), 9, none⟩]
def r11_17 : List O := [⟨some 58, .move (.tmp 5), 3, none⟩,
  ⟨some 59, .binOp .add 3 (.tmp 58) (.const (.int .i64 1)) 3, 3, none⟩,
  ⟨some 5, .assign (.tmp 59), 3, none⟩]
def r11_18 : List O := [⟨some 61, .move (.tmp 5), 3, none⟩,
  ⟨some 62, .binOp .add 3 (.tmp 61) (.const (.int .i64 1)) 3, 3, none⟩,
  ⟨some 63, .move (.tmp 0), 9, none⟩,
  ⟨some 64, .call { callee := .builtin .len, args := #[.tmp 63], argTypes := #[9] }, 3, none⟩,
  ⟨some 65, .binOp .lss 3 (.tmp 62) (.tmp 64) 3, 4, none⟩,
  ⟨some 66, .move (.tmp 65), 4, none⟩,
  ⟨some 67, .move (.tmp 0), 9, some (66, true)⟩,
  ⟨some 68, .move (.tmp 5), 3, some (66, true)⟩,
  ⟨some 69, .binOp .add 3 (.tmp 68) (.const (.int .i64 1)) 3, 3, some (66, true)⟩,
  ⟨some 70, .index 9 (.tmp 67) (.tmp 69), 5, some (66, true)⟩,
  ⟨some 71, .binOp .eql 5 (.tmp 70) (.const (.int .u8 39)) 5, 4, some (66, true)⟩,
  ⟨some 72, .pick (.tmp 66) (.tmp 71) (.const (.bool false)), 4, none⟩,
  ⟨some 60, .assign (.tmp 72), 4, none⟩]
def r11_19 : List O := [⟨some 73, .move (.tmp 6), 9, none⟩,
  ⟨some 74, .binOp .add 9 (.tmp 73) (.const (.string ⟨#[39]⟩)) 9, 9, none⟩,
  ⟨some 6, .assign (.tmp 74), 9, none⟩]
def r11_20 : List O := [⟨some 75, .move (.tmp 5), 3, none⟩,
  ⟨some 76, .binOp .add 3 (.tmp 75) (.const (.int .i64 2)) 3, 3, none⟩,
  ⟨some 5, .assign (.tmp 76), 3, none⟩]
def r11_11 : List O := [⟨some 7, .assign (.const (.bool true)), 4, none⟩]
def r11_12 : List O := [⟨some 33, .move (.tmp 5), 3, none⟩,
  ⟨some 34, .binOp .add 3 (.tmp 33) (.const (.int .i64 1)) 3, 3, none⟩,
  ⟨some 5, .assign (.tmp 34), 3, none⟩]
def r11_21 : List O := [⟨some 77, .move (.tmp 7), 4, none⟩,
  ⟨some 78, .unOp .not 4 (.tmp 77), 4, none⟩]
def r11_22 : List O := [⟨some 2, .assign (.const (.slice none 0 0)), 24, none⟩,
  ⟨some 3, .assign (.const (.int .i64 3)), 25, none⟩]
def r11_23 : List O := [⟨some 79, .move (.tmp 5), 3, none⟩,
  ⟨some 80, .move (.tmp 0), 9, none⟩,
  ⟨some 81, .call { callee := .builtin .len, args := #[.tmp 80], argTypes := #[9] }, 3, none⟩,
  ⟨some 82, .binOp .lss 3 (.tmp 79) (.tmp 81) 3, 4, none⟩,
  ⟨some 83, .move (.tmp 82), 4, none⟩,
  ⟨some 84, .move (.tmp 0), 9, some (83, true)⟩,
  ⟨some 85, .move (.tmp 5), 3, some (83, true)⟩,
  ⟨some 86, .index 9 (.tmp 84) (.tmp 85), 5, some (83, true)⟩,
  ⟨some 87, .binOp .gtr 5 (.tmp 86) (.const (.int .u8 32)) 5, 4, some (83, true)⟩,
  ⟨some 88, .pick (.tmp 83) (.tmp 87) (.const (.bool false)), 4, none⟩,
  ⟨some 89, .move (.tmp 88), 4, none⟩,
  ⟨some 90, .move (.tmp 0), 9, some (89, true)⟩,
  ⟨some 91, .move (.tmp 5), 3, some (89, true)⟩,
  ⟨some 92, .index 9 (.tmp 90) (.tmp 91), 5, some (89, true)⟩,
  ⟨some 93, .binOp .leq 5 (.tmp 92) (.const (.int .u8 126)) 5, 4, some (89, true)⟩,
  ⟨some 94, .pick (.tmp 89) (.tmp 93) (.const (.bool false)), 4, none⟩,
  ⟨some 95, .move (.tmp 94), 4, none⟩,
  ⟨some 96, .move (.tmp 0), 9, some (95, true)⟩,
  ⟨some 97, .move (.tmp 5), 3, some (95, true)⟩,
  ⟨some 98, .index 9 (.tmp 96) (.tmp 97), 5, some (95, true)⟩,
  ⟨some 99, .binOp .neq 5 (.tmp 98) (.const (.int .u8 39)) 5, 4, some (95, true)⟩,
  ⟨some 100, .pick (.tmp 95) (.tmp 99) (.const (.bool false)), 4, none⟩]
def r11_24 : List O := [⟨some 101, .move (.tmp 6), 9, none⟩,
  ⟨some 102, .move (.tmp 0), 9, none⟩,
  ⟨some 103, .move (.tmp 5), 3, none⟩,
  ⟨some 104, .move (.tmp 5), 3, none⟩,
  ⟨some 105, .binOp .add 3 (.tmp 104) (.const (.int .i64 1)) 3, 3, none⟩,
  ⟨some 106, .slice 9 (.tmp 102) (some (.tmp 103)) (some (.tmp 105)) none, 9, none⟩,
  ⟨some 107, .binOp .add 9 (.tmp 101) (.tmp 106) 9, 9, none⟩,
  ⟨some 6, .assign (.tmp 107), 9, none⟩]
def r11_25 : List O := [⟨some 108, .move (.tmp 5), 3, none⟩,
  ⟨some 109, .binOp .add 3 (.tmp 108) (.const (.int .i64 1)) 3, 3, none⟩,
  ⟨some 5, .assign (.tmp 109), 3, none⟩]
def r11_26 : List O := [⟨some 110, .move (.tmp 5), 3, none⟩,
  ⟨some 111, .move (.tmp 0), 9, none⟩,
  ⟨some 112, .call { callee := .builtin .len, args := #[.tmp 111], argTypes := #[9] }, 3, none⟩,
  ⟨some 113, .binOp .lss 3 (.tmp 110) (.tmp 112) 3, 4, none⟩,
  ⟨some 114, .move (.tmp 113), 4, none⟩,
  ⟨some 115, .move (.tmp 0), 9, some (114, true)⟩,
  ⟨some 116, .move (.tmp 5), 3, some (114, true)⟩,
  ⟨some 117, .index 9 (.tmp 115) (.tmp 116), 5, some (114, true)⟩,
  ⟨some 118, .binOp .neq 5 (.tmp 117) (.const (.int .u8 32)) 5, 4, some (114, true)⟩,
  ⟨some 119, .pick (.tmp 114) (.tmp 118) (.const (.bool false)), 4, none⟩]
def r11_27 : List O := [⟨some 2, .assign (.const (.slice none 0 0)), 24, none⟩,
  ⟨some 3, .assign (.const (.int .i64 3)), 25, none⟩]
def r11_28 : List O := [⟨some 120, .move (.tmp 4), 24, none⟩,
  ⟨some 121, .move (.tmp 6), 9, none⟩,
  ⟨some 122, .buildSlice 24 1 #[(0, .tmp 121)], 24, none⟩,
  ⟨some 123, .call { callee := .builtin .append, args := #[.tmp 120, .tmp 122], argTypes := #[24, 24] }, 24, none⟩,
  ⟨some 4, .assign (.tmp 123), 24, none⟩]
def r11_29 : List O := [⟨some 124, .move (.tmp 4), 24, none⟩,
  ⟨some 2, .assign (.tmp 124), 24, none⟩,
  ⟨some 3, .assign (.const (.int .i64 0)), 25, none⟩]
def c11_0 : A := .cond (.tmp 12) .skip (.exit 0)
def c11_1 : A := .seq (.reg r11_5 [0, 4, 5]) (.exit 1)
def c11_2 : A := .cond (.tmp 16) c11_1 .skip
def c11_3 : A := .cond (.tmp 32) .skip (.exit 2)
def c11_4 : A := .seq (.reg r11_14 [2, 3]) .ret
def c11_5 : A := .seq (.reg r11_16 [0, 4, 5, 6, 7]) (.reg r11_17 [0, 4, 5, 6, 7])
def c11_6 : A := .seq (.reg r11_19 [0, 4, 5, 6, 7]) (.reg r11_20 [0, 4, 5, 6, 7])
def c11_7 : A := .seq (.reg r11_11 [0, 4, 5, 6, 7]) (.reg r11_12 [0, 4, 5, 6, 7])
def c11_8 : A := .cond (.tmp 60) c11_6 c11_7
def c11_9 : A := .seq (.reg r11_18 [0, 4, 5, 6, 7, 60]) c11_8
def c11_10 : A := .cond (.tmp 46) c11_5 c11_9
def c11_11 : A := .seq (.reg r11_15 [0, 4, 5, 6, 7, 46]) c11_10
def c11_12 : A := .cond (.tmp 35) c11_4 c11_11
def c11_13 : A := .seq (.reg r11_13 [0, 4, 5, 6, 7, 35]) c11_12
def c11_14 : A := .block 4 c11_13
def c11_15 : A := .block 3 c11_14
def c11_16 : A := .seq (.seq (.reg r11_10 [0, 4, 5, 6, 7, 32]) c11_3) (.seq (.keep [0, 4, 5, 6, 7]) c11_15)
def c11_17 : A := .seq c11_16 (.keep [0, 4, 5, 6, 7])
def c11_18 : A := .loop c11_17
def c11_19 : A := .seq (.reg r11_22 [2, 3]) .ret
def c11_20 : A := .cond (.tmp 78) c11_19 .skip
def c11_21 : A := .seq (.reg r11_21 [0, 4, 5, 6, 78]) c11_20
def c11_22 : A := .seq (.block 2 c11_18) c11_21
def c11_23 : A := .seq (.reg r11_9 [0, 4, 5, 6, 7]) c11_22
def c11_24 : A := .seq (.reg r11_8 [0, 4, 5, 6]) c11_23
def c11_25 : A := .cond (.tmp 100) .skip (.exit 5)
def c11_26 : A := .seq (.reg r11_24 [0, 4, 5, 6]) (.reg r11_25 [0, 4, 5, 6])
def c11_27 : A := .block 6 c11_26
def c11_28 : A := .seq (.seq (.reg r11_23 [0, 4, 5, 6, 100]) c11_25) (.seq (.keep [0, 4, 5, 6]) c11_27)
def c11_29 : A := .seq c11_28 (.keep [0, 4, 5, 6])
def c11_30 : A := .loop c11_29
def c11_31 : A := .block 5 c11_30
def c11_32 : A := .cond (.tmp 22) c11_24 c11_31
def c11_33 : A := .seq (.reg r11_27 [2, 3]) .ret
def c11_34 : A := .cond (.tmp 119) c11_33 .skip
def c11_35 : A := .seq (.seq (.reg r11_26 [0, 4, 5, 6, 119]) c11_34) (.seq (.keep [0, 4, 5, 6]) (.reg r11_28 [0, 4, 5]))
def c11_36 : A := .seq (.seq (.reg r11_7 [0, 4, 5, 6, 22]) c11_32) (.seq (.keep [0, 4, 5, 6]) c11_35)
def c11_37 : A := .seq (.reg r11_6 [0, 4, 5, 6]) c11_36
def c11_38 : A := .seq (.seq (.reg r11_4 [0, 4, 5, 16]) c11_2) (.seq (.keep [0, 4, 5]) c11_37)
def c11_39 : A := .block 1 c11_38
def c11_40 : A := .seq (.seq (.reg r11_3 [0, 4, 5, 12]) c11_0) (.seq (.keep [0, 4, 5]) c11_39)
def c11_41 : A := .seq c11_40 (.keep [0, 4, 5])
def c11_42 : A := .loop c11_41
def c11_43 : A := .seq (.reg r11_29 [2, 3]) .ret
def c11_44 : A := .seq (.block 0 c11_42) c11_43
def c11_45 : A := .seq (.reg r11_2 [0, 4, 5]) c11_44
def c11_46 : A := .seq (.reg r11_1 [0, 4]) c11_45
def c11 : A := .seq (.reg r11_0 [0]) c11_46
theorem B11 : Body Tryd.prog 11 125 [.tmp 2, .tmp 3] c11 := ⟨by kernel_rfl, _, _, [(0, [0]), (1, [0, 4]), (2, [0, 4, 5]), (3, [0, 4, 5, 12]), (4, [0, 4, 5, 16]), (5, [0, 4, 5]), (6, [0, 4, 5, 6]), (7, [0, 4, 5, 6, 22]), (8, [0, 4, 5, 6]), (9, [0, 4, 5, 6, 7]), (10, [0, 4, 5, 6, 7, 32]), (11, [0, 4, 5, 6, 7]), (12, [0, 4, 5, 6, 7]), (13, [0, 4, 5, 6, 7, 35]), (14, [2, 3]), (15, [0, 4, 5, 6, 7, 46]), (16, [0, 4, 5, 6, 7]), (17, [0, 4, 5, 6, 7]), (18, [0, 4, 5, 6, 7, 60]), (19, [0, 4, 5, 6, 7]), (20, [0, 4, 5, 6, 7]), (21, [0, 4, 5, 6, 78]), (22, [2, 3]), (23, [0, 4, 5, 6, 100]), (24, [0, 4, 5, 6]), (25, [0, 4, 5, 6]), (26, [0, 4, 5, 6, 119]), (27, [2, 3]), (28, [0, 4, 5]), (29, [2, 3]), (1003, [0, 4, 5]), (1010, [0, 4, 5, 6, 7]), (1023, [0, 4, 5, 6]), (2004, [0, 4, 5]), (2006, [0, 4, 5]), (2013, [0, 4, 5, 6, 7]), (2024, [0, 4, 5, 6]), (2026, [0, 4, 5, 6]), (2028, [0, 4, 5, 6])], Tryd.func11, rfl, rfl, rfl, by kernel_rfl⟩
end Go.Proofs.YtoabcmhiaknjiaaDoor

/- The contract of the reference's Scan: it returns what Scan returns. -/
set_option maxRecDepth 100000
set_option linter.unusedSimpArgs false
set_option linter.unusedVariables false
namespace Go.Proofs.YtoabcmhiaknjiaaDoor
open Go.Hw

theorem scanT_none {t acc} (h : scanT t acc = none) : scanT t acc = none := h

theorem refScan (line : List UInt8) (H : Hp) (hl : line.length < 100000000) {K : Ending → Hp → Prop}
    (h : ∀ H' v e, Ext H H' → ScanR line (H.size ≤ ·) H' v e → K (.returned (.tuple #[v, .int .i64 e])) H') : HCall Tryd.prog 11 #[.string (B line)] H K := by
  refine hcall mixed B11 (args := [.string (B line)]) (by simp) ?_
  simp only [go_sem, reduceCtorEq, Nat.reduceEqDiff, Nat.reduceAdd, c11, r11_0, c11_46, r11_1]
  rw [bslA_zero uStrs ty9]
  have hE0 : Ext H (H.push (.cells #[] 9)) := Ext.push _ _
  have hown0 : OwnS (H.size ≤ ·) 9 1 (H.push (.cells #[] 9)) (.slice (some ⟨H.size, 0, none⟩) 0 0) 0 (strs []) :=
    .inr ⟨H.size, 0, #[], (0, 0), rfl, Nat.le_refl _, by simp, by simp, Nat.le_refl _, by simp [strs], by simp [strs], by intro k hk; simp at hk⟩
  generalize H.push (.cells #[] 9) = G0' at hE0 hown0
  generalize Value.slice (some ⟨H.size, 0, none⟩) 0 0 = v0 at hown0
  simp only [go_sem, reduceCtorEq, Nat.reduceEqDiff, Nat.reduceAdd, c11_45, r11_2, c11_44]
  have bad : ∀ G, Ext H G → scanF line = none → K (.returned (.tuple #[.slice none 0 0, .int .i64 3])) G := by
    intro G hE hq
    refine h G _ _ hE ?_
    unfold ScanR
    rw [hq]
    exact ⟨rfl, rfl⟩
  refine aw_while (L := c11_42) rfl (fun m F G => ∃ (i : Nat) (acc : List (List UInt8)) (v : Value), m = line.length - i ∧ F = [(0, .string (B line)), (4, v), (5, .int .i64 i)] ∧ OwnS (H.size ≤ ·) 9 1 G v acc.length (strs acc) ∧ Ext H G ∧ acc.length ≤ i ∧ i ≤ line.length ∧ scanF line = scanT ((line.drop i).dropWhile blank) acc) (m := line.length)
    ⟨0, [], v0, rfl, rfl, hown0, hE0, Nat.le_refl _, Nat.zero_le _, rfl⟩ ?_
  rintro m F G ih ⟨i, acc, v, rfl, rfl, own, hE, h1, h2, hq⟩
  by_cases hi : i < line.length
  · obtain ⟨c, hc⟩ : ∃ c, line[i]? = some c := ⟨line[i], List.getElem?_eq_getElem hi⟩
    have hd := drop_some hc
    simp only [go_sem, reduceCtorEq, Nat.reduceEqDiff, Nat.reduceAdd, c11_41, c11_40, r11_3, len_B uStr, dlt hi, c11_0, c11_39]
    by_cases h32 : c = 32
    · subst h32
      simp only [go_sem, reduceCtorEq, Nat.reduceEqDiff, Nat.reduceAdd, c11_38, r11_4, idxA_at uStr hc, show decide (((32 : UInt8).toNat : Int) = 32) = true from rfl, c11_2, c11_1, r11_5, wrap_one (show i + 1 ≤ 9223372036854775807 by omega)]
      exact ih _ _ _ (by omega) ⟨i + 1, acc, v, rfl, rfl, own, hE, by omega, by omega, by rw [hq, hd]; rfl⟩
    have e32 : decide ((c.toNat : Int) = 32) = false := u8_ne h32
    have hdw : (line.drop i).dropWhile blank = line.drop i := by
      rw [hd, List.dropWhile_cons_of_neg]
      unfold blank; simpa using h32
    rw [hdw] at hq
    have hne : line.drop i ≠ [] := by rw [hd]; simp
    generalize hQQ : blkE 1 (seqQ Tryd.prog 125 (.keep [0, 4, 5]) (seqQ Tryd.prog 125 c11_42 (blkE 0 (seqQ Tryd.prog 125 c11_43 (retK Tryd.prog [.tmp 2, .tmp 3] K))))) = QQ
    have hN : ∀ (j : Nat) (w : List UInt8) (v' : Value) (G' : Hp), i < j → j ≤ line.length → firstV (line.drop i) = (w, line.drop j, true) → ¬ (line.drop j ≠ [] ∧ (line.drop j).headD 0 ≠ 32) →
        OwnS (H.size ≤ ·) 9 1 G' v' (acc.length + 1) (strs (acc ++ [w])) → Ext H G' → QQ .normal [(0, .string (B line)), (4, v'), (5, .int .i64 j)] G' := by
      intro j w v' G' k1 k2 k3 k4 k5 k6
      rw [← hQQ]
      simp only [go_sem, reduceCtorEq, Nat.reduceEqDiff, Nat.reduceAdd, ]
      refine ih _ _ _ (by omega) ⟨j, acc ++ [w], v', rfl, rfl, by simpa using k5, k6, by simp; omega, k2, ?_⟩
      rw [hq, scanT_step acc hne (by rw [k3]) (by rw [k3]; exact k4), k3]
    have hX : ∀ G', Ext H G' → ((firstV (line.drop i)).2.2 = false ∨ ((firstV (line.drop i)).2.1 ≠ [] ∧ (firstV (line.drop i)).2.1.headD 0 ≠ 32)) → QQ .ret [(2, .slice none 0 0), (3, .int .i64 3)] G' := by
      intro G' k1 k2
      rw [← hQQ]
      simp only [go_sem, reduceCtorEq, Nat.reduceEqDiff, Nat.reduceAdd, ]
      exact bad G' k1 (by rw [hq]; exact scanT_bad acc hne k2)
    clear ih bad h
    -- what follows a word
    have tail : ∀ (j : Nat) (w : List UInt8) (ok : Bool), i ≤ j → j ≤ line.length → firstV (line.drop i) = (w, line.drop j, ok) → (ok = true → i < j) → (ok = false → ∃ d, line[j]? = some d ∧ d ≠ 32) →
        aw Tryd.prog 125 c11_35 QQ [(0, .string (B line)), (4, v), (5, .int .i64 j), (6, .string (B w))] G := by
      intro j w ok k1 k2 k3 k4 k5
      by_cases hj : j < line.length
      · obtain ⟨d, hdj⟩ : ∃ d, line[j]? = some d := ⟨line[j], List.getElem?_eq_getElem hj⟩
        by_cases hd32 : d = 32
        · subst hd32
          have hok : ok = true := by
            cases ok with
            | true => rfl
            | false => obtain ⟨d', e1, e2⟩ := k5 rfl; rw [hdj] at e1; exact absurd (Option.some.inj e1).symm e2
          simp only [go_sem, reduceCtorEq, Nat.reduceEqDiff, Nat.reduceAdd, c11_35, r11_26, len_B uStr, dlt hj, idxA_at uStr hdj, show decide (((32 : UInt8).toNat : Int) = 32) = true from rfl, c11_34, r11_28]
          rw [bslA_one uStrs ty9 rfl]
          simp only [go_sem, reduceCtorEq, Nat.reduceEqDiff, Nat.reduceAdd, ]
          refine append_str w own hE (by omega) fun v' G' own' hE' => ?_
          simp only [go_sem, reduceCtorEq, Nat.reduceEqDiff, Nat.reduceAdd, ]
          subst hok
          refine hN j w v' G' (k4 rfl) k2 k3 ?_ own' hE'
          rw [drop_some hdj]; simp
        · have e : decide ((d.toNat : Int) = 32) = false := u8_ne hd32
          simp only [go_sem, reduceCtorEq, Nat.reduceEqDiff, Nat.reduceAdd, c11_35, r11_26, len_B uStr, dlt hj, idxA_at uStr hdj, e, c11_34, c11_33, r11_27]
          refine hX G hE (.inr ?_)
          rw [k3, drop_some hdj]
          exact ⟨by simp, by simpa using hd32⟩
      · have hok : ok = true := by
          cases ok with
          | true => rfl
          | false => obtain ⟨d', e1, e2⟩ := k5 rfl; exact absurd (some_lt e1) hj
        simp only [go_sem, reduceCtorEq, Nat.reduceEqDiff, Nat.reduceAdd, c11_35, r11_26, len_B uStr, dge (show line.length ≤ j by omega), c11_34, r11_28]
        rw [bslA_one uStrs ty9 rfl]
        simp only [go_sem, reduceCtorEq, Nat.reduceEqDiff, Nat.reduceAdd, ]
        refine append_str w own hE (by omega) fun v' G' own' hE' => ?_
        simp only [go_sem, reduceCtorEq, Nat.reduceEqDiff, Nat.reduceAdd, ]
        subst hok
        refine hN j w v' G' (k4 rfl) k2 k3 ?_ own' hE'
        rw [List.drop_eq_nil_of_le (by omega)]; simp
    by_cases h39 : c = 39
    · subst h39
      have hfv : firstV (line.drop i) = match quoteF (line.drop (i + 1)) [] with | some (w, t) => (w, t, true) | none => ([], [], false) := by rw [hd]; exact firstV_quote _
      simp only [go_sem, reduceCtorEq, Nat.reduceEqDiff, Nat.reduceAdd, c11_38, r11_4, idxA_at uStr hc, e32, c11_2, c11_37, r11_6, c11_36, r11_7, show decide (((39 : UInt8).toNat : Int) = 39) = true from rfl, c11_32, c11_24, r11_8, wrap_one (show i + 1 ≤ 9223372036854775807 by omega), c11_23, r11_9, c11_22, B_lit]
      refine aw_while (L := c11_18) rfl (fun m F G' => ∃ (j : Nat) (w : List UInt8), m = line.length - j ∧ F = [(0, .string (B line)), (4, v), (5, .int .i64 j), (6, .string (B w)), (7, .bool false)] ∧ G' = G ∧ i < j ∧ j ≤ line.length ∧ w.length ≤ j ∧ quoteF (line.drop (i + 1)) [] = quoteF (line.drop j) w) (m := line.length - (i + 1))
        ⟨i + 1, [], rfl, rfl, rfl, by omega, by omega, by simp, rfl⟩ ?_
      rintro m F G' ih ⟨j, w, rfl, rfl, rfl, k1, k2, k3, k4⟩
      have hXq : quoteF (line.drop (i + 1)) [] = none → QQ .ret [(2, .slice none 0 0), (3, .int .i64 3)] G' := fun hn => hX G' hE (.inl (by rw [hfv, hn]))
      by_cases hj : j < line.length
      · obtain ⟨d, hdj⟩ : ∃ d, line[j]? = some d := ⟨line[j], List.getElem?_eq_getElem hj⟩
        have hdd := drop_some hdj
        rw [hdd] at k4
        simp only [go_sem, reduceCtorEq, Nat.reduceEqDiff, Nat.reduceAdd, c11_17, c11_16, r11_10, len_B uStr, dlt hj, c11_3, c11_15, c11_14, c11_13, r11_13, idxA_at uStr hdj]
        cases ha : decide ((d.toNat : Int) < 32) with
        | true =>
          simp only [go_sem, reduceCtorEq, Nat.reduceEqDiff, Nat.reduceAdd, c11_12, c11_4, r11_14]
          exact hXq (by rw [k4]; exact quoteF_bad _ _ (.inl (by have := of_decide_eq_true ha; omega)))
        | false =>
          have ha' := of_decide_eq_false ha
          simp only [go_sem, reduceCtorEq, Nat.reduceEqDiff, Nat.reduceAdd, idxA_at uStr hdj]
          cases hb : decide ((126 : Int) < (d.toNat : Int)) with
          | true =>
            simp only [go_sem, reduceCtorEq, Nat.reduceEqDiff, Nat.reduceAdd, c11_12, c11_4, r11_14]
            exact hXq (by rw [k4]; exact quoteF_bad _ _ (.inr (by have := of_decide_eq_true hb; omega)))
          | false =>
            have hb' := of_decide_eq_false hb
            simp only [go_sem, reduceCtorEq, Nat.reduceEqDiff, Nat.reduceAdd, c11_12, c11_11, r11_15, idxA_at uStr hdj]
            by_cases hd39 : d = 39
            · subst hd39
              simp only [go_sem, reduceCtorEq, Nat.reduceEqDiff, Nat.reduceAdd, show decide (((39 : UInt8).toNat : Int) = 39) = true from rfl, c11_10, c11_9, r11_18, wrap_one (show j + 1 ≤ 9223372036854775807 by omega), len_B uStr]
              have closed : (line.drop (j + 1)).headD 0 ≠ 39 → aw Tryd.prog 125 c11_8 (blkE 4 (blkE 3 (seqQ Tryd.prog 125 (.keep [0, 4, 5, 6, 7]) (seqQ Tryd.prog 125 c11_18 (blkE 2 (seqQ Tryd.prog 125 c11_21 (seqQ Tryd.prog 125 (.seq (.keep [0, 4, 5, 6]) c11_35) QQ)))))))
                  [(0, .string (B line)), (4, v), (5, .int .i64 j), (6, .string (B w)), (7, .bool false), (60, .bool false)] G' := by
                intro hh
                rw [quoteF_end hh] at k4
                rw [k4] at hfv
                simp only [go_sem, reduceCtorEq, Nat.reduceEqDiff, Nat.reduceAdd, c11_8, c11_7, r11_11, r11_12, wrap_one (show j + 1 ≤ 9223372036854775807 by omega)]
                refine aw_loopq (L := c11_18) rfl ?_
                rcases Nat.lt_or_ge (j + 1) line.length with h5 | h5
                · simp only [go_sem, reduceCtorEq, Nat.reduceEqDiff, Nat.reduceAdd, c11_17, c11_16, r11_10, len_B uStr, dlt h5, c11_3, c11_21, r11_21, c11_20]
                  exact tail (j + 1) w true (by omega) (by omega) hfv (fun _ => by omega) (fun h => by cases h)
                · simp only [go_sem, reduceCtorEq, Nat.reduceEqDiff, Nat.reduceAdd, c11_17, c11_16, r11_10, len_B uStr, dge h5, c11_3, c11_21, r11_21, c11_20]
                  exact tail (j + 1) w true (by omega) (by omega) hfv (fun _ => by omega) (fun h => by cases h)
              by_cases h5 : j + 1 < line.length
              · obtain ⟨d2, hd2⟩ : ∃ d2, line[j + 1]? = some d2 := ⟨line[j + 1], List.getElem?_eq_getElem h5⟩
                simp only [go_sem, reduceCtorEq, Nat.reduceEqDiff, Nat.reduceAdd, dlt h5, wrap_one (show j + 1 ≤ 9223372036854775807 by omega), idxA_at uStr hd2]
                by_cases hd239 : d2 = 39
                · subst hd239
                  rw [drop_some hd2, quoteF_two] at k4
                  simp only [go_sem, reduceCtorEq, Nat.reduceEqDiff, Nat.reduceAdd, show decide (((39 : UInt8).toNat : Int) = 39) = true from rfl, c11_8, c11_6, r11_19, B_lit, binA_cat (show w.length + ([39] : List UInt8).length ≤ 9223372036854775807 by simp; omega), r11_20, wrap_two (show j + 2 ≤ 9223372036854775807 by omega)]
                  exact ih _ _ _ (by omega) ⟨j + 2, w ++ [39], rfl, rfl, rfl, by omega, by omega, by simp; omega, k4⟩
                · have e5 : decide ((d2.toNat : Int) = 39) = false := u8_ne hd239
                  simp only [go_sem, reduceCtorEq, Nat.reduceEqDiff, Nat.reduceAdd, e5]
                  exact closed (by rw [drop_some hd2]; simpa using hd239)
              · simp only [go_sem, reduceCtorEq, Nat.reduceEqDiff, Nat.reduceAdd, dge (show line.length ≤ j + 1 by omega)]
                exact closed (by rw [List.drop_eq_nil_of_le (by omega)]; simp)
            · have e5 : decide ((d.toNat : Int) = 39) = false := u8_ne hd39
              rw [quoteF_plain _ _ (by omega) hd39] at k4
              simp only [go_sem, reduceCtorEq, Nat.reduceEqDiff, Nat.reduceAdd, e5, c11_10, c11_5, r11_16, wrap_one (show j + 1 ≤ 9223372036854775807 by omega), sliA_one uStr hdj, binA_cat (show w.length + [d].length ≤ 9223372036854775807 by simp; omega), r11_17]
              exact ih _ _ _ (by omega) ⟨j + 1, w ++ [d], rfl, rfl, rfl, by omega, by omega, by simp; omega, k4⟩
      · simp only [go_sem, reduceCtorEq, Nat.reduceEqDiff, Nat.reduceAdd, c11_17, c11_16, r11_10, len_B uStr, dge (show line.length ≤ j by omega), c11_3, c11_21, r11_21, c11_20, c11_19, r11_22]
        exact hXq (by rw [k4, List.drop_eq_nil_of_le (by omega)]; exact quoteF_nil _)
    · have e39 : decide ((c.toNat : Int) = 39) = false := u8_ne h39
      have hfv := firstV_plain (l := line.drop i) (by rw [hd]; simpa using h39)
      simp only [go_sem, reduceCtorEq, Nat.reduceEqDiff, Nat.reduceAdd, c11_38, r11_4, idxA_at uStr hc, e32, c11_2, c11_37, r11_6, c11_36, r11_7, e39, c11_32, c11_31, B_lit]
      refine aw_while (L := c11_30) rfl (fun m F G' => ∃ (j : Nat) (w : List UInt8) (x : Fr), m = line.length - j ∧ F = (0, .string (B line)) :: (4, v) :: (5, .int .i64 j) :: (6, .string (B w)) :: x ∧ G' = G ∧ i + w.length = j ∧ j ≤ line.length ∧
          (line.drop i).takeWhile (fun b => !stopP b.toNat) = w ++ (line.drop j).takeWhile (fun b => !stopP b.toNat) ∧ (line.drop i).dropWhile (fun b => !stopP b.toNat) = (line.drop j).dropWhile (fun b => !stopP b.toNat)) (m := line.length - i)
        ⟨i, [], _, rfl, rfl, rfl, by simp, by omega, by simp, rfl⟩ ?_
      rintro m F G' ih ⟨j, w, x, rfl, rfl, rfl, k1, k2, k3, k4⟩
      have fin : (line.drop j).takeWhile (fun b => !stopP b.toNat) = [] → (line.drop j).dropWhile (fun b => !stopP b.toNat) = line.drop j →
          aw Tryd.prog 125 c11_35 QQ [(0, .string (B line)), (4, v), (5, .int .i64 j), (6, .string (B w))] G' := by
        intro f1 f2
        rw [k3, k4, f1, f2, List.append_nil] at hfv
        refine tail j w (!w.isEmpty) (by omega) k2 hfv ?_ ?_
        · intro hw
          have : w ≠ [] := by intro hn; subst hn; cases hw
          have := List.length_pos_iff.2 this
          omega
        · intro hw
          have : w = [] := by cases w with | nil => rfl | cons a b => cases hw
          subst this
          have : j = i := by simpa using k1.symm
          subst this
          exact ⟨c, hc, h32⟩
      by_cases hj : j < line.length
      · obtain ⟨d, hdj⟩ : ∃ d, line[j]? = some d := ⟨line[j], List.getElem?_eq_getElem hj⟩
        have hdd := drop_some hdj
        have stopped : stopP d.toNat = true → aw Tryd.prog 125 c11_35 QQ [(0, .string (B line)), (4, v), (5, .int .i64 j), (6, .string (B w))] G' := by
          intro hs
          refine fin ?_ ?_
          · rw [hdd, List.takeWhile_cons_of_neg (by simp [hs])]
          · rw [hdd, List.dropWhile_cons_of_neg (by simp [hs])]
        cases ha : decide ((32 : Int) < (d.toNat : Int)) with
        | false =>
          simp only [go_sem, reduceCtorEq, Nat.reduceEqDiff, Nat.reduceAdd, c11_29, c11_28, r11_23, len_B uStr, dlt hj, idxA_at uStr hdj, ha, c11_25]
          refine stopped ?_
          have := of_decide_eq_false ha
          have : decide ((d.toNat : Int) ≤ 32) = true := decide_eq_true (by omega)
          unfold stopP; rw [this]; rfl
        | true =>
          have ha' := of_decide_eq_true ha
          cases hb : decide ((d.toNat : Int) ≤ 126) with
          | false =>
            simp only [go_sem, reduceCtorEq, Nat.reduceEqDiff, Nat.reduceAdd, c11_29, c11_28, r11_23, len_B uStr, dlt hj, idxA_at uStr hdj, ha, hb, c11_25]
            refine stopped ?_
            have := of_decide_eq_false hb
            have : decide ((126 : Int) < (d.toNat : Int)) = true := decide_eq_true (by omega)
            unfold stopP; rw [this]; simp
          | true =>
            have hb' := of_decide_eq_true hb
            by_cases hd39 : d = 39
            · subst hd39
              simp only [go_sem, reduceCtorEq, Nat.reduceEqDiff, Nat.reduceAdd, c11_29, c11_28, r11_23, len_B uStr, dlt hj, idxA_at uStr hdj, ha, hb, show decide (((39 : UInt8).toNat : Int) = 39) = true from rfl, c11_25]
              exact stopped rfl
            · have e5 : decide ((d.toNat : Int) = 39) = false := u8_ne hd39
              have hns : stopP d.toNat = false := by
                unfold stopP
                rw [e5, decide_eq_false (show ¬ (d.toNat : Int) ≤ 32 by omega), decide_eq_false (show ¬ (126 : Int) < (d.toNat : Int) by omega)]
                rfl
              simp only [go_sem, reduceCtorEq, Nat.reduceEqDiff, Nat.reduceAdd, c11_29, c11_28, r11_23, len_B uStr, dlt hj, idxA_at uStr hdj, ha, hb, e5, c11_25, c11_27, c11_26, r11_24, wrap_one (show j + 1 ≤ 9223372036854775807 by omega), sliA_one uStr hdj, binA_cat (show w.length + [d].length ≤ 9223372036854775807 by simp; omega), r11_25]
              refine ih _ _ _ (by omega) ⟨j + 1, w ++ [d], [], rfl, rfl, rfl, by simp; omega, by omega, ?_, ?_⟩
              · rw [k3, hdd, List.takeWhile_cons_of_pos (by simp [hns])]; simp
              · rw [k4, hdd, List.dropWhile_cons_of_pos (by simp [hns])]
      · simp only [go_sem, reduceCtorEq, Nat.reduceEqDiff, Nat.reduceAdd, c11_29, c11_28, r11_23, len_B uStr, dge (show line.length ≤ j by omega), c11_25]
        exact fin (by rw [List.drop_eq_nil_of_le (by omega)]; rfl) (by rw [List.drop_eq_nil_of_le (by omega)]; rfl)
  · simp only [go_sem, reduceCtorEq, Nat.reduceEqDiff, Nat.reduceAdd, c11_41, c11_40, r11_3, len_B uStr, dge (show line.length ≤ i by omega), c11_0, c11_43, r11_29]
    refine h G v 0 hE ?_
    rw [List.drop_eq_nil_of_le (by omega)] at hq
    unfold ScanR
    rw [hq, List.dropWhile_nil, scanT_nil]
    exact ⟨rfl, own⟩
end Go.Proofs.YtoabcmhiaknjiaaDoor

set_option maxRecDepth 100000
namespace Go.Proofs.YtoabcmhiaknjiaaDoor
open Go.Hw
/-! ### 33 dasd/dasdref39.end -/
def r33_0 : List O := [⟨some 2, .assign (.const (.int .i64 0)), 3, none⟩]
def r33_1 : List O := [⟨some 3, .assign (.const (.int .i64 1)), 3, none⟩]
def r33_2 : List O := [⟨some 4, .move (.tmp 3), 3, none⟩,
  ⟨some 5, .binOp .leq 3 (.tmp 4) (.const (.int .i64 8)) 3, 4, none⟩,
  ⟨some 6, .move (.tmp 5), 4, none⟩,
  ⟨some 7, .move (.tmp 3), 3, some (6, true)⟩,
  ⟨some 8, .move (.tmp 0), 9, some (6, true)⟩,
  ⟨some 9, .call { callee := .builtin .len, args := #[.tmp 8], argTypes := #[9] }, 3, some (6, true)⟩,
  ⟨some 10, .binOp .lss 3 (.tmp 7) (.tmp 9) 3, 4, some (6, true)⟩,
  ⟨some 11, .pick (.tmp 6) (.tmp 10) (.const (.bool false)), 4, none⟩]
def r33_4 : List O := [⟨some 14, .move (.tmp 0), 9, none⟩,
  ⟨some 15, .move (.tmp 3), 3, none⟩,
  ⟨some 16, .index 9 (.tmp 14) (.tmp 15), 5, none⟩,
  ⟨some 17, .binOp .eql 5 (.tmp 16) (.const (.int .u8 59)) 5, 4, none⟩,
  ⟨some 18, .move (.tmp 17), 4, none⟩,
  ⟨some 19, .move (.tmp 0), 9, some (18, true)⟩,
  ⟨some 20, .move (.tmp 3), 3, some (18, true)⟩,
  ⟨some 21, .slice 9 (.tmp 19) none (some (.tmp 20)) none, 9, some (18, true)⟩,
  ⟨some 22, .call { callee := .value (.func 56), args := #[.tmp 21], argTypes := #[9] }, 4, some (18, true)⟩,
  ⟨some 23, .pick (.tmp 18) (.tmp 22) (.const (.bool false)), 4, none⟩]
def r33_5 : List O := [⟨some 24, .move (.tmp 3), 3, none⟩,
  ⟨some 25, .binOp .add 3 (.tmp 24) (.const (.int .i64 1)) 3, 3, none⟩,
  ⟨some 2, .assign (.tmp 25), 3, none⟩]
def r33_3 : List O := [⟨some 12, .move (.tmp 3), 3, none⟩,
  ⟨some 13, .binOp .add 3 (.tmp 12) (.const (.int .i64 1)) 3, 3, none⟩,
  ⟨some 3, .assign (.tmp 13), 3, none⟩]
def r33_6 : List O := [⟨some 2, .assign (.const (.int .i64 0)), 3, none⟩]
def c33_0 : A := .cond (.tmp 11) .skip (.exit 0)
def c33_1 : A := .seq (.reg r33_5 [2]) .ret
def c33_2 : A := .cond (.tmp 23) c33_1 .skip
def c33_3 : A := .seq (.reg r33_4 [0, 3, 23]) c33_2
def c33_4 : A := .seq (.block 1 c33_3) (.reg r33_3 [0, 3])
def c33_5 : A := .seq (.seq (.reg r33_2 [0, 3, 11]) c33_0) (.seq (.keep [0, 3]) c33_4)
def c33_6 : A := .seq c33_5 (.keep [0, 3])
def c33_7 : A := .loop c33_6
def c33_8 : A := .block 0 c33_7
def c33_9 : A := .seq (.reg r33_6 [2]) .ret
def c33_10 : A := .seq (.seq (.reg r33_1 [0, 3]) c33_8) c33_9
def c33 : A := .seq (.reg r33_0 [0]) c33_10
theorem B33 : Body Tryd.prog 33 26 [.tmp 2] c33 := ⟨by kernel_rfl, _, _, [(0, [0]), (1, [0, 3]), (2, [0, 3, 11]), (3, [0, 3]), (4, [0, 3, 23]), (5, [2]), (6, [2]), (1002, [0, 3]), (2004, [0, 3])], Tryd.func33, rfl, rfl, rfl, by kernel_rfl⟩
/-! ### 13 dasd/dasdref39.Replace -/
def r13_0 : List O := [⟨some 4, .assign (.const (.string ⟨#[]⟩)), 9, none⟩,
  ⟨some 5, .assign (.const (.int .i64 0)), 25, none⟩]
def r13_1 : List O := [⟨some 6, .assign (.const (.string ⟨#[]⟩)), 9, none⟩]
def r13_2 : List O := [⟨some 7, .assign (.const (.int .i64 0)), 3, none⟩]
def r13_3 : List O := [⟨some 11, .move (.tmp 7), 3, none⟩,
  ⟨some 12, .move (.tmp 0), 9, none⟩,
  ⟨some 13, .call { callee := .builtin .len, args := #[.tmp 12], argTypes := #[9] }, 3, none⟩,
  ⟨some 14, .binOp .lss 3 (.tmp 11) (.tmp 13) 3, 4, none⟩]
def r13_5 : List O := [⟨some 17, .move (.tmp 0), 9, none⟩,
  ⟨some 18, .move (.tmp 7), 3, none⟩,
  ⟨some 19, .index 9 (.tmp 17) (.tmp 18), 5, none⟩,
  ⟨some 20, .binOp .neq 5 (.tmp 19) (.const (.int .u8 38)) 5, 4, none⟩]
def r13_6 : List O := [⟨some 21, .move (.tmp 6), 9, none⟩,
  ⟨some 22, .move (.tmp 0), 9, none⟩,
  ⟨some 23, .move (.tmp 7), 3, none⟩,
  ⟨some 24, .move (.tmp 7), 3, none⟩,
  ⟨some 25, .binOp .add 3 (.tmp 24) (.const (.int .i64 1)) 3, 3, none⟩,
  ⟨some 26, .slice 9 (.tmp 22) (some (.tmp 23)) (some (.tmp 25)) none, 9, none⟩,
  ⟨some 27, .binOp .add 9 (.tmp 21) (.tmp 26) 9, 9, none⟩,
  ⟨some 6, .assign (.tmp 27), 9, none⟩]
def r13_7 : List O := [⟨some 28, .move (.tmp 7), 3, none⟩,
  ⟨some 29, .binOp .add 3 (.tmp 28) (.const (.int .i64 1)) 3, 3, none⟩,
  ⟨some 30, .move (.tmp 0), 9, none⟩,
  ⟨some 31, .call { callee := .builtin .len, args := #[.tmp 30], argTypes := #[9] }, 3, none⟩,
  ⟨some 32, .binOp .lss 3 (.tmp 29) (.tmp 31) 3, 4, none⟩,
  ⟨some 33, .move (.tmp 32), 4, none⟩,
  ⟨some 34, .move (.tmp 0), 9, some (33, true)⟩,
  ⟨some 35, .move (.tmp 7), 3, some (33, true)⟩,
  ⟨some 36, .binOp .add 3 (.tmp 35) (.const (.int .i64 1)) 3, 3, some (33, true)⟩,
  ⟨some 37, .index 9 (.tmp 34) (.tmp 36), 5, some (33, true)⟩,
  ⟨some 38, .binOp .eql 5 (.tmp 37) (.const (.int .u8 38)) 5, 4, some (33, true)⟩,
  ⟨some 39, .pick (.tmp 33) (.tmp 38) (.const (.bool false)), 4, none⟩]
def r13_8 : List O := [⟨some 40, .move (.tmp 6), 9, none⟩,
  ⟨some 41, .binOp .add 9 (.tmp 40) (.const (.string ⟨#[38]⟩)) 9, 9, none⟩,
  ⟨some 6, .assign (.tmp 41), 9, none⟩]
def r13_9 : List O := [⟨some 42, .move (.tmp 7), 3, none⟩,
  ⟨some 43, .binOp .add 3 (.tmp 42) (.const (.int .i64 1)) 3, 3, none⟩,
  ⟨some 7, .assign (.tmp 43), 3, none⟩]
def r13_10 : List O := [⟨some 44, .move (.tmp 0), 9, none⟩,
  ⟨some 45, .move (.tmp 7), 3, none⟩,
  ⟨some 46, .binOp .add 3 (.tmp 45) (.const (.int .i64 1)) 3, 3, none⟩,
  ⟨some 47, .slice 9 (.tmp 44) (some (.tmp 46)) none none, 9, none⟩,
  ⟨some 48, .call { callee := .value (.func 33), args := #[.tmp 47], argTypes := #[9] }, 3, none⟩,
  ⟨some 8, .assign (.tmp 48), 3, none⟩]
def r13_11 : List O := [⟨some 49, .move (.tmp 8), 3, none⟩,
  ⟨some 50, .binOp .eql 3 (.tmp 49) (.const (.int .i64 0)) 3, 4, none⟩]
def r13_12 : List O := [⟨some 4, .assign (.const (.string ⟨#[]⟩)), 9, none⟩,
  ⟨some 5, .assign (.const (.int .i64 3)), 25, none⟩]
def r13_13 : List O := [⟨some 52, .move (.tmp 1), 22, none⟩,
  ⟨some 53, .move (.tmp 0), 9, none⟩,
  ⟨some 54, .move (.tmp 7), 3, none⟩,
  ⟨some 55, .binOp .add 3 (.tmp 54) (.const (.int .i64 1)) 3, 3, none⟩,
  ⟨some 56, .move (.tmp 7), 3, none⟩,
  ⟨some 57, .move (.tmp 8), 3, none⟩,
  ⟨some 58, .binOp .add 3 (.tmp 56) (.tmp 57) 3, 3, none⟩,
  ⟨some 59, .slice 9 (.tmp 53) (some (.tmp 55)) (some (.tmp 58)) none, 9, none⟩,
  ⟨some 60, .lookup 22 (.tmp 52) (.tmp 59) true, 63, none⟩,
  ⟨some 51, .move (.tmp 60), 63, none⟩,
  ⟨some 61, .extract (.tmp 51) 0, 9, none⟩,
  ⟨some 62, .extract (.tmp 51) 1, 4, none⟩,
  ⟨some 9, .assign (.tmp 61), 9, none⟩,
  ⟨some 10, .assign (.tmp 62), 4, none⟩]
def r13_14 : List O := [⟨some 63, .move (.tmp 10), 4, none⟩,
  ⟨some 64, .unOp .not 4 (.tmp 63), 4, none⟩]
def r13_15 : List O := [⟨some 4, .assign (.const (.string ⟨#[]⟩)), 9, none⟩,
  ⟨some 5, .assign (.const (.int .i64 4)), 25, none⟩]
def r13_16 : List O := [⟨some 65, .move (.tmp 6), 9, none⟩,
  ⟨some 66, .move (.tmp 9), 9, none⟩,
  ⟨some 67, .binOp .add 9 (.tmp 65) (.tmp 66) 9, 9, none⟩,
  ⟨some 6, .assign (.tmp 67), 9, none⟩]
def r13_17 : List O := [⟨some 68, .move (.tmp 7), 3, none⟩,
  ⟨some 69, .move (.tmp 8), 3, none⟩,
  ⟨some 70, .binOp .add 3 (.tmp 68) (.tmp 69) 3, 3, none⟩,
  ⟨some 7, .assign (.tmp 70), 3, none⟩]
def r13_4 : List O := [⟨some 15, .move (.tmp 7), 3, none⟩,
  ⟨some 16, .binOp .add 3 (.tmp 15) (.const (.int .i64 1)) 3, 3, none⟩,
  ⟨some 7, .assign (.tmp 16), 3, none⟩]
def r13_18 : List O := [⟨some 71, .move (.tmp 6), 9, none⟩,
  ⟨some 72, .call { callee := .builtin .len, args := #[.tmp 71], argTypes := #[9] }, 3, none⟩,
  ⟨some 73, .binOp .gtr 3 (.tmp 72) (.const (.int .i64 1000)) 3, 4, none⟩]
def r13_19 : List O := [⟨some 4, .assign (.const (.string ⟨#[]⟩)), 9, none⟩,
  ⟨some 5, .assign (.const (.int .i64 8)), 25, none⟩]
def r13_20 : List O := [⟨some 74, .move (.tmp 6), 9, none⟩,
  ⟨some 4, .assign (.tmp 74), 9, none⟩,
  ⟨some 5, .assign (.const (.int .i64 0)), 25, none⟩]
def c13_0 : A := .cond (.tmp 14) .skip (.exit 0)
def c13_1 : A := .seq (.reg r13_6 [0, 1, 6, 7]) (.exit 1)
def c13_2 : A := .cond (.tmp 20) c13_1 .skip
def c13_3 : A := .seq (.reg r13_9 [0, 1, 6, 7]) (.exit 1)
def c13_4 : A := .seq (.reg r13_8 [0, 1, 6, 7]) c13_3
def c13_5 : A := .cond (.tmp 39) c13_4 .skip
def c13_6 : A := .seq (.reg r13_12 [4, 5]) .ret
def c13_7 : A := .cond (.tmp 50) c13_6 .skip
def c13_8 : A := .seq (.reg r13_15 [4, 5]) .ret
def c13_9 : A := .cond (.tmp 64) c13_8 .skip
def c13_10 : A := .seq (.reg r13_16 [0, 1, 6, 7, 8]) (.reg r13_17 [0, 1, 6, 7])
def c13_11 : A := .seq (.seq (.reg r13_14 [0, 1, 6, 7, 8, 9, 64]) c13_9) (.seq (.keep [0, 1, 6, 7, 8, 9]) c13_10)
def c13_12 : A := .seq (.reg r13_13 [0, 1, 6, 7, 8, 9, 10]) c13_11
def c13_13 : A := .seq (.seq (.reg r13_11 [0, 1, 6, 7, 8, 50]) c13_7) (.seq (.keep [0, 1, 6, 7, 8]) c13_12)
def c13_14 : A := .seq (.reg r13_10 [0, 1, 6, 7, 8]) c13_13
def c13_15 : A := .seq (.seq (.reg r13_7 [0, 1, 6, 7, 39]) c13_5) (.seq (.keep [0, 1, 6, 7]) c13_14)
def c13_16 : A := .seq (.seq (.reg r13_5 [0, 1, 6, 7, 20]) c13_2) (.seq (.keep [0, 1, 6, 7]) c13_15)
def c13_17 : A := .seq (.block 1 c13_16) (.reg r13_4 [0, 1, 6, 7])
def c13_18 : A := .seq (.seq (.reg r13_3 [0, 1, 6, 7, 14]) c13_0) (.seq (.keep [0, 1, 6, 7]) c13_17)
def c13_19 : A := .seq c13_18 (.keep [0, 1, 6, 7])
def c13_20 : A := .loop c13_19
def c13_21 : A := .block 0 c13_20
def c13_22 : A := .seq (.reg r13_19 [4, 5]) .ret
def c13_23 : A := .cond (.tmp 73) c13_22 .skip
def c13_24 : A := .seq (.reg r13_20 [4, 5]) .ret
def c13_25 : A := .seq (.seq (.reg r13_18 [6, 73]) c13_23) (.seq (.keep [6]) c13_24)
def c13_26 : A := .seq (.seq (.reg r13_2 [0, 1, 6, 7]) c13_21) c13_25
def c13_27 : A := .seq (.reg r13_1 [0, 1, 6]) c13_26
def c13 : A := .seq (.reg r13_0 [0, 1]) c13_27
theorem B13 : Body Tryd.prog 13 75 [.tmp 4, .tmp 5] c13 := ⟨by kernel_rfl, _, _, [(0, [0, 1]), (1, [0, 1, 6]), (2, [0, 1, 6, 7]), (3, [0, 1, 6, 7, 14]), (4, [0, 1, 6, 7]), (5, [0, 1, 6, 7, 20]), (6, [0, 1, 6, 7]), (7, [0, 1, 6, 7, 39]), (8, [0, 1, 6, 7]), (9, [0, 1, 6, 7]), (10, [0, 1, 6, 7, 8]), (11, [0, 1, 6, 7, 8, 50]), (12, [4, 5]), (13, [0, 1, 6, 7, 8, 9, 10]), (14, [0, 1, 6, 7, 8, 9, 64]), (15, [4, 5]), (16, [0, 1, 6, 7, 8]), (17, [0, 1, 6, 7]), (18, [6, 73]), (19, [4, 5]), (20, [4, 5]), (1003, [0, 1, 6, 7]), (2005, [0, 1, 6, 7]), (2007, [0, 1, 6, 7]), (2010, [0, 1, 6, 7]), (2013, [0, 1, 6, 7, 8]), (2016, [0, 1, 6, 7, 8, 9]), (2020, [6])], Tryd.func13, rfl, rfl, rfl, by kernel_rfl⟩
end Go.Proofs.YtoabcmhiaknjiaaDoor

/- The reference's end and Replace. -/
set_option maxRecDepth 100000
set_option linter.unusedSimpArgs false
set_option linter.unusedVariables false
namespace Go.Proofs.YtoabcmhiaknjiaaDoor
open Go.Hw
variable {H : Hp} {K : Ending → Hp → Prop}

theorem index_one (c : UInt8) : ∀ s : List UInt8, (Lib.index s [c] = -1 ∧ ∀ b ∈ s, b ≠ c) ∨ ∃ k : Nat, Lib.index s [c] = k ∧ s[k]? = some c ∧ ∀ b ∈ s.take k, b ≠ c
  | [] => .inl ⟨rfl, by simp⟩
  | b :: r => by
    by_cases hb : b = c
    · subst hb
      exact .inr ⟨0, by unfold Lib.index; simp, rfl, by simp⟩
    · have hidx : Lib.index (b :: r) [c] = if (Lib.index r [c] == -1) = true then -1 else Lib.index r [c] + 1 := by
        conv => lhs; unfold Lib.index
        have : ([c] : List UInt8).isPrefixOf (b :: r) = false := by
          simp [List.isPrefixOf]; exact fun h2 => absurd h2.symm hb
        rw [this]
        simp
      rcases index_one c r with ⟨h1, h2⟩ | ⟨k, h1, h2, h3⟩
      · left
        rw [hidx, h1]
        refine ⟨rfl, ?_⟩
        intro x hx
        rcases List.mem_cons.1 hx with rfl | hx
        · exact hb
        · exact h2 x hx
      · right
        refine ⟨k + 1, ?_, by simpa using h2, ?_⟩
        · rw [hidx, h1, if_neg (by simp)]; omega
        · intro x hx
          rw [List.take_succ_cons] at hx
          rcases List.mem_cons.1 hx with rfl | hx
          · exact hb
          · exact h3 x hx

theorem first_one {s : List UInt8} {c : UInt8} {n : Nat} (h1 : s[n]? = some c) (h2 : ∀ b ∈ s.take n, b ≠ c) : Lib.index s [c] = n := by
  rcases index_one c s with ⟨_, h4⟩ | ⟨k, h3, h4, h5⟩
  · exact absurd rfl (h4 c (List.mem_of_getElem? h1))
  · rw [h3]
    have : k = n := by
      rcases Nat.lt_trichotomy k n with h | h | h
      · exfalso
        refine h2 c ?_ rfl
        exact List.mem_of_getElem? (i := k) (by rw [List.getElem?_take, if_pos h]; exact h4)
      · exact h
      · exfalso
        refine h5 c ?_ rfl
        exact List.mem_of_getElem? (i := n) (by rw [List.getElem?_take, if_pos h]; exact h1)
    rw [this]

theorem split_nodot : ∀ (l : List UInt8), (Lib.split l [46]).length = 1 → Lib.split l [46] = [l]
  | [], _ => rfl
  | c :: r, h => by
    by_cases hc : c = 46
    · subst hc
      rw [split_dot] at h
      have : (Lib.split r [46]).length ≠ 0 := by rw [count_one_split]; omega
      rw [List.length_cons] at h
      omega
    · obtain ⟨p, q, h1, h2⟩ := split_other r hc
      rw [h2] at h
      have hq : q = [] := by simpa using h
      subst hq
      have := split_nodot r (by rw [h1]; rfl)
      rw [h1] at this
      rw [h2]
      simp only [List.cons.injEq, and_true] at this
      rw [this]

theorem sym_q {q : List UInt8} (h : symF q = true) : 1 ≤ q.length ∧ q.length ≤ 8 ∧ ∀ b ∈ q, b ≠ 59 := by
  unfold symF at h
  rw [contains_split, Bool.and_eq_true, decide_eq_true_eq] at h
  obtain ⟨h1, h2⟩ := h
  unfold validF at h1
  rw [split_nodot q h2] at h1
  simp only [Bool.and_eq_true, List.all_cons, List.all_nil, Bool.and_true] at h1
  have h3 := h1.2
  match q, h3 with
  | c :: r, h3 =>
    unfold qualF at h3
    simp only [Bool.and_eq_true, decide_eq_true_eq] at h3
    obtain ⟨⟨h4, h5⟩, h6⟩ := h3
    refine ⟨by simp, by simp only [List.length_cons]; omega, ?_⟩
    have h59 : plainF 59 = false := by decide
    intro b hb he
    subst he
    rcases List.mem_cons.1 hb with h7 | h7
    · subst h7
      have : upperF 59 = false := by decide
      rw [this] at h5; cases h5
    · have := List.all_eq_true.1 h6 _ h7
      rw [h59] at this; cases this

/-- The length of a symbol and a semicolon at the beginning, or 0. -/
def endF (s : List UInt8) : Nat := if (!(Lib.cut s [59]).2.2 || !symF (Lib.cut s [59]).1) = true then 0 else (Lib.cut s [59]).1.length + 1

theorem endF_hit {s : List UInt8} {n : Nat} (h1 : s[n]? = some 59) (h2 : symF (s.take n) = true) : endF s = n + 1 := by
  have hi := first_one h1 (sym_q h2).2.2
  have hn := some_lt h1
  unfold endF Lib.cut
  rw [hi]
  have h0 : (0 : Int) ≤ (n : Int) := by omega
  simp only [h0, if_true, Int.toNat_natCast, h2, Bool.not_true, Bool.or_self, Bool.false_eq_true, if_false, List.length_take]
  omega
theorem endF_miss {s : List UInt8} (h : ∀ n, 1 ≤ n → n ≤ 8 → s[n]? = some 59 → symF (s.take n) = false) : endF s = 0 := by
  unfold endF Lib.cut
  rcases index_one 59 s with ⟨h1, _⟩ | ⟨k, h1, h2, h3⟩
  · rw [h1]; rfl
  · rw [h1]
    have h0 : (0 : Int) ≤ (k : Int) := by omega
    simp only [h0, if_true, Int.toNat_natCast]
    cases hs : symF (s.take k) with
    | false => rfl
    | true =>
      obtain ⟨a1, a2, _⟩ := sym_q hs
      have hk := some_lt h2
      rw [List.length_take] at a1 a2
      rw [h k (by omega) (by omega) h2] at hs
      cases hs

theorem end_c (s : List UInt8) (hl : s.length < 100000000) (h : ∀ G, Ext H G → K (.returned (.int .i64 (endF s : Nat))) G) : HCall Tryd.prog 33 #[.string (B s)] H K := by
  refine hcall mixed B33 (args := [.string (B s)]) (by simp) ?_
  simp only [go_sem, reduceCtorEq, Nat.reduceEqDiff, Nat.reduceAdd, c33, r33_0, c33_10, r33_1, c33_8]
  refine aw_while (L := c33_7) rfl (fun m F G => ∃ n : Nat, m = 9 - n ∧ F = [(0, .string (B s)), (3, .int .i64 n)] ∧ Ext H G ∧ 1 ≤ n ∧ n ≤ 9 ∧ ∀ k, 1 ≤ k → k < n → s[k]? = some 59 → symF (s.take k) = false) (m := 8)
    ⟨1, rfl, rfl, Ext.refl _, Nat.le_refl _, by omega, by intro k h1 h2; omega⟩ ?_
  rintro m F G ih ⟨n, rfl, rfl, hE, k1, k2, k3⟩
  have over : (8 < n ∨ s.length ≤ n) → K (.returned (.int .i64 0)) G := by
    intro ho
    have := h G hE
    rw [endF_miss] at this
    · exact this
    · intro k h1 h2 h3
      have := some_lt h3
      exact k3 k h1 (by omega) h3
  by_cases h8 : n ≤ 8
  · have e8 : decide ((n : Int) ≤ 8) = true := by rw [decide_eq_true_eq]; omega
    by_cases hn : n < s.length
    · obtain ⟨c, hc⟩ : ∃ c, s[n]? = some c := ⟨s[n], List.getElem?_eq_getElem hn⟩
      have next : ∀ G', Ext H G' → (s[n]? = some 59 → symF (s.take n) = false) → aw Tryd.prog 26 c33_2 (blkE 1 (seqQ Tryd.prog 26 (.reg r33_3 [0, 3]) (seqQ Tryd.prog 26 (.keep [0, 3]) (seqQ Tryd.prog 26 c33_7 (blkE 0 (seqQ Tryd.prog 26 c33_9 (retK Tryd.prog [.tmp 2] K)))))))
          [(0, .string (B s)), (3, .int .i64 n), (23, .bool false)] G' := by
        intro G' hE' hno
        simp only [go_sem, reduceCtorEq, Nat.reduceEqDiff, Nat.reduceAdd, c33_2, r33_3, wrap_one (show n + 1 ≤ 9223372036854775807 by omega)]
        refine ih _ _ _ (by omega) ⟨n + 1, rfl, rfl, hE', by omega, by omega, ?_⟩
        intro k h1 h2 h3
        rcases Nat.lt_or_ge k n with h4 | h4
        · exact k3 k h1 h4 h3
        · have : k = n := by omega
          subst this
          exact hno h3
      by_cases h59 : c = 59
      · subst h59
        simp only [go_sem, reduceCtorEq, Nat.reduceEqDiff, Nat.reduceAdd, c33_6, c33_5, r33_2, e8, len_B uStr, dlt hn, c33_0, c33_4, c33_3, r33_4, idxA_at uStr hc, show decide (((59 : UInt8).toNat : Int) = 59) = true from rfl]
        rw [sliA_hi uStr (by omega) (by omega), Int.toNat_natCast]
        simp only [go_sem, reduceCtorEq, Nat.reduceEqDiff, Nat.reduceAdd, callA_fn0 pl56]
        refine rSymbol_c _ (by simp; omega) fun G' he => ?_
        cases hs : symF (s.take n) with
        | false =>
          simp only [go_sem, reduceCtorEq, Nat.reduceEqDiff, Nat.reduceAdd, ]
          exact next G' (hE.trans he) (fun _ => hs)
        | true =>
          simp only [go_sem, reduceCtorEq, Nat.reduceEqDiff, Nat.reduceAdd, c33_2, c33_1, r33_5, wrap_one (show n + 1 ≤ 9223372036854775807 by omega)]
          have := h G' (hE.trans he)
          rw [endF_hit hc hs] at this
          exact this
      · simp only [go_sem, reduceCtorEq, Nat.reduceEqDiff, Nat.reduceAdd, c33_6, c33_5, r33_2, e8, len_B uStr, dlt hn, c33_0, c33_4, c33_3, r33_4, idxA_at uStr hc, show decide ((c.toNat : Int) = 59) = false from u8_ne h59]
        exact next G hE (fun h2 => by rw [hc] at h2; exact absurd (Option.some.inj h2) h59)
    · simp only [go_sem, reduceCtorEq, Nat.reduceEqDiff, Nat.reduceAdd, c33_6, c33_5, r33_2, e8, len_B uStr, dge (show s.length ≤ n by omega), c33_0, c33_9, r33_6]
      exact over (.inr (by omega))
  · have e8 : decide ((n : Int) ≤ 8) = false := by rw [decide_eq_false_iff_not]; omega
    simp only [go_sem, reduceCtorEq, Nat.reduceEqDiff, Nat.reduceAdd, c33_6, c33_5, r33_2, e8, c33_0, c33_9, r33_6]
    exact over (.inl (by omega))

theorem replT_other {sym : List UInt8 → Option (List UInt8)} {c : UInt8} (n : Nat) (r acc : List UInt8) (h : c ≠ 38) : replT sym (n + 1) (c :: r) acc = replT sym (n + 1) r (acc ++ [c]) := by
  have e : notAmp c = true := by unfold notAmp; simpa using h
  unfold replT
  rw [List.takeWhile_cons_of_pos e, List.dropWhile_cons_of_pos e]
  simp only [List.append_assoc, List.singleton_append]
theorem replT_amp {sym : List UInt8 → Option (List UInt8)} (n : Nat) (r acc : List UInt8) : replT sym (n + 1) (38 :: r) acc =
    if Lib.hasPrefix (38 :: r) [38, 38] = true then replT sym n (r.drop 1) (acc ++ [38])
    else if (!(Lib.cut r [59]).2.2 || !symF (Lib.cut r [59]).1) = true then .error 3
    else match sym (Lib.cut r [59]).1 with
      | none => .error 4
      | some v => replT sym n (Lib.cut r [59]).2.1 (acc ++ v) := by
  have e : ¬ notAmp 38 = true := by decide
  conv => lhs; unfold replT
  rw [List.takeWhile_cons_of_neg e, List.dropWhile_cons_of_neg e]
  rw [if_neg (by simp)]
  simp only [List.append_nil]
  rfl
theorem endF_spec {r : List UInt8} (h : endF r ≠ 0) : ∃ k, endF r = k + 1 ∧ k < r.length ∧ Lib.cut r [59] = (r.take k, r.drop (k + 1), true) ∧ symF (r.take k) = true := by
  rcases index_one 59 r with ⟨h1, _⟩ | ⟨k, h1, h2, h3⟩
  · exfalso
    apply h
    unfold endF Lib.cut
    rw [h1]; rfl
  · have hk := some_lt h2
    have hc : Lib.cut r [59] = (r.take k, r.drop (k + 1), true) := by
      unfold Lib.cut
      rw [h1]
      have h0 : (0 : Int) ≤ (k : Int) := by omega
      simp only [h0, if_true, Int.toNat_natCast, List.length_cons, List.length_nil]
    cases hs : symF (r.take k) with
    | false =>
      exfalso
      apply h
      unfold endF
      rw [hc, hs]; rfl
    | true =>
      refine ⟨k, ?_, hk, hc, hs⟩
      unfold endF
      rw [hc, hs]
      simp only [Bool.not_true, Bool.or_self, Bool.false_eq_true, if_false, List.length_take]
      omega
theorem endF_zero {r : List UInt8} (h : endF r = 0) : (!(Lib.cut r [59]).2.2 || !symF (Lib.cut r [59]).1) = true := by
  unfold endF at h
  split at h
  · assumption
  · omega

theorem refReplace_c (l : List UInt8) (v : Value) (syms : List (List UInt8 × List UInt8)) (H : Hp) (hl : l.length ≤ 1048576) (hv : ∀ p ∈ syms, p.2.length ≤ 100000000) (hs : SymV H v syms) {K : Ending → Hp → Prop}
    (h : ∀ H', Ext H H' → K (.returned (.tuple #[.string (B (replR (syms.lookup ·) l).1), .int .i64 (replR (syms.lookup ·) l).2])) H') : HCall Tryd.prog 13 #[.string (B l), v] H K := by
  refine hcall mixed B13 (args := [.string (B l), v]) (by simp) ?_
  obtain ⟨R, hR⟩ : ∃ R, replT (syms.lookup ·) l.length l [] = R := ⟨_, rfl⟩
  unfold replR at h
  rw [hR] at h
  simp only [go_sem, reduceCtorEq, Nat.reduceEqDiff, Nat.reduceAdd, c13, r13_0, c13_27, r13_1, B_lit, c13_26, r13_2, c13_21]
  refine aw_while (L := c13_20) rfl (fun m F G => ∃ (i n : Nat) (acc : List UInt8), m = l.length - i ∧ F = [(0, .string (B l)), (1, v), (6, .string (B acc)), (7, .int .i64 i)] ∧ Ext H G ∧ i ≤ l.length ∧ l.length - i ≤ n ∧ acc.length + (l.length - i) * 100000001 ≤ l.length * 100000001 ∧ R = replT (syms.lookup ·) n (l.drop i) acc) (m := l.length)
    ⟨0, l.length, [], rfl, rfl, Ext.refl _, Nat.zero_le _, Nat.le_refl _, by simp, hR.symm⟩ ?_
  rintro m F G ih ⟨i, n, acc, rfl, rfl, hE, k1, k2, k3, k4⟩
  have bad : ∀ (e : Int) (G2 : Hp), Ext H G2 → R = .error e → K (.returned (.tuple #[.string (B []), .int .i64 e])) G2 := by
    intro e G2 hE2 hq
    have := h G2 hE2
    rw [hq] at this
    exact this
  by_cases hi : i < l.length
  · match n, k2, k4 with
    | 0, k2, _ => omega
    | n + 1, k2, k4 =>
    obtain ⟨c, hc⟩ : ∃ c, l[i]? = some c := ⟨l[i], List.getElem?_eq_getElem hi⟩
    have hd := drop_some hc
    rw [hd] at k4
    have wi := wrap_one (show i + 1 ≤ 9223372036854775807 by omega)
    simp only [go_sem, reduceCtorEq, Nat.reduceEqDiff, Nat.reduceAdd, c13_19, c13_18, r13_3, len_B uStr, dlt hi, c13_0, c13_17, c13_16, r13_5, idxA_at uStr hc]
    by_cases h38 : c = 38
    · subst h38
      rw [replT_amp] at k4
      have noamp : Lib.hasPrefix (38 :: l.drop (i + 1)) [38, 38] = false → aw Tryd.prog 75 (.seq (.keep [0, 1, 6, 7]) c13_14) (blkE 1 (seqQ Tryd.prog 75 (.reg r13_4 [0, 1, 6, 7]) (seqQ Tryd.prog 75 (.keep [0, 1, 6, 7]) (seqQ Tryd.prog 75 c13_20 (blkE 0 (seqQ Tryd.prog 75 c13_25 (retK Tryd.prog [.tmp 4, .tmp 5] K)))))))
          [(0, .string (B l)), (1, v), (6, .string (B acc)), (7, .int .i64 i), (39, .bool false)] G := by
        intro hp
        rw [if_neg (by rw [hp]; simp)] at k4
        simp only [go_sem, reduceCtorEq, Nat.reduceEqDiff, Nat.reduceAdd, c13_14, r13_10, wi]
        rw [sliA_lo uStr (by omega) (by omega), Int.toNat_natCast]
        simp only [go_sem, reduceCtorEq, Nat.reduceEqDiff, Nat.reduceAdd, callA_fn0 pl33]
        refine end_c _ (by simp; omega) fun G1 he1 => ?_
        have hE1 := hE.trans he1
        by_cases h0 : endF (l.drop (i + 1)) = 0
        · rw [if_pos (endF_zero h0)] at k4
          rw [h0]
          simp only [go_sem, reduceCtorEq, Nat.reduceEqDiff, Nat.reduceAdd, c13_13, r13_11, show decide (((0 : Nat) : Int) = 0) = true from rfl, c13_7, c13_6, r13_12, B_lit]
          exact bad 3 G1 hE1 k4
        · obtain ⟨k, q1, q2, q3, q4⟩ := endF_spec h0
          rw [q3, q4] at k4
          rw [if_neg (by simp)] at k4
          simp only at k4
          rw [q1]
          rw [List.length_drop] at q2
          have e0 : decide (((k + 1 : Nat) : Int) = 0) = false := by rw [decide_eq_false_iff_not]; omega
          simp only [go_sem, reduceCtorEq, Nat.reduceEqDiff, Nat.reduceAdd, c13_13, r13_11, e0, c13_7, c13_12, r13_13, wi, wrap_add (i := i) (j := k + 1) (by omega)]
          rw [sliA_lohi uStr (by omega) (by omega) (by omega), Int.toNat_natCast, Int.toNat_natCast, show i + (k + 1) - (i + 1) = k by omega]
          simp only [go_sem, reduceCtorEq, Nat.reduceEqDiff, Nat.reduceAdd, opA_lookup]
          rw [lkp_sym (hs.ext hE1)]
          cases hlk : syms.lookup ((l.drop (i + 1)).take k) with
          | none =>
            rw [hlk] at k4
            simp only [go_sem, reduceCtorEq, Nat.reduceEqDiff, Nat.reduceAdd, Option.isSome_none, c13_11, r13_14, c13_9, c13_8, r13_15, B_lit]
            exact bad 4 G1 hE1 k4
          | some val =>
            rw [hlk] at k4
            obtain ⟨p, hp1, hp2⟩ := lookup_mem hlk
            have hvl : val.length ≤ 100000000 := by rw [← hp2]; exact hv p hp1
            have w2 := wrap_one (i := i + (k + 1)) (by omega)
            simp only [go_sem, reduceCtorEq, Nat.reduceEqDiff, Nat.reduceAdd, Option.isSome_some, Option.getD_some, c13_11, r13_14, c13_9, c13_10, r13_16, binA_cat (show acc.length + val.length ≤ 9223372036854775807 by omega), r13_17, wrap_add (i := i) (j := k + 1) (by omega), r13_4, w2]
            refine ih _ _ _ (by omega) ⟨i + (k + 1) + 1, n, acc ++ val, rfl, rfl, hE1, by omega, by omega, ?_, ?_⟩
            · simp only [List.length_append]; omega
            · rw [k4, List.drop_drop, show i + 1 + (k + 1) = i + (k + 1) + 1 by omega]
      by_cases h5 : i + 1 < l.length
      · obtain ⟨d, hdj⟩ : ∃ d, l[i + 1]? = some d := ⟨l[i + 1], List.getElem?_eq_getElem h5⟩
        have hd2 := drop_some hdj
        by_cases hd38 : d = 38
        · subst hd38
          have hp : Lib.hasPrefix (38 :: l.drop (i + 1)) [38, 38] = true := by rw [hd2]; unfold Lib.hasPrefix; simp [List.isPrefixOf]
          rw [if_pos hp, List.drop_drop] at k4
          simp only [go_sem, reduceCtorEq, Nat.reduceEqDiff, Nat.reduceAdd, show decide (((38 : UInt8).toNat : Int) = 38) = true from rfl, c13_2, c13_15, r13_7, wi, len_B uStr, dlt h5, idxA_at uStr hdj, c13_5, c13_4, r13_8, B_lit, binA_cat (show acc.length + ([38] : List UInt8).length ≤ 9223372036854775807 by simp; omega), c13_3, r13_9, r13_4, wrap_one (show i + 1 + 1 ≤ 9223372036854775807 by omega)]
          exact ih _ _ _ (by omega) ⟨i + 1 + 1, n, acc ++ [38], rfl, rfl, hE, by omega, by omega, by simp; omega, k4⟩
        · have hp : Lib.hasPrefix (38 :: l.drop (i + 1)) [38, 38] = false := by
            rw [hd2]; unfold Lib.hasPrefix; simp [List.isPrefixOf]; exact fun h => absurd h.symm hd38
          simp only [go_sem, reduceCtorEq, Nat.reduceEqDiff, Nat.reduceAdd, show decide (((38 : UInt8).toNat : Int) = 38) = true from rfl, c13_2, c13_15, r13_7, wi, len_B uStr, dlt h5, idxA_at uStr hdj, show decide ((d.toNat : Int) = 38) = false from u8_ne hd38, c13_5]
          exact noamp hp
      · have hp : Lib.hasPrefix (38 :: l.drop (i + 1)) [38, 38] = false := by
          rw [List.drop_eq_nil_of_le (by omega)]; rfl
        simp only [go_sem, reduceCtorEq, Nat.reduceEqDiff, Nat.reduceAdd, show decide (((38 : UInt8).toNat : Int) = 38) = true from rfl, c13_2, c13_15, r13_7, wi, len_B uStr, dge (show l.length ≤ i + 1 by omega), c13_5]
        exact noamp hp
    · rw [replT_other _ _ _ h38] at k4
      simp only [go_sem, reduceCtorEq, Nat.reduceEqDiff, Nat.reduceAdd, show decide ((c.toNat : Int) = 38) = false from u8_ne h38, c13_2, c13_1, r13_6, wi, sliA_one uStr hc, binA_cat (show acc.length + [c].length ≤ 9223372036854775807 by simp; omega), r13_4]
      exact ih _ _ _ (by omega) ⟨i + 1, n + 1, acc ++ [c], rfl, rfl, hE, by omega, by omega, by simp; omega, k4⟩
  · rw [List.drop_eq_nil_of_le (by omega), replT_nil] at k4
    simp only [go_sem, reduceCtorEq, Nat.reduceEqDiff, Nat.reduceAdd, c13_19, c13_18, r13_3, len_B uStr, dge (show l.length ≤ i by omega), c13_0, c13_25, r13_18]
    rw [k4] at h
    simp only at h
    by_cases hbig : 1000 < acc.length
    · have e1 : decide ((1000 : Int) < (acc.length : Int)) = true := by rw [decide_eq_true_eq]; omega
      rw [if_pos hbig] at h
      simp only [go_sem, reduceCtorEq, Nat.reduceEqDiff, Nat.reduceAdd, e1, c13_23, c13_22, r13_19, B_lit]
      exact h G hE
    · have e1 : decide ((1000 : Int) < (acc.length : Int)) = false := by rw [decide_eq_false_iff_not]; omega
      rw [if_neg hbig] at h
      simp only [go_sem, reduceCtorEq, Nat.reduceEqDiff, Nat.reduceAdd, e1, c13_23, c13_24, r13_20]
      exact h G hE
end Go.Proofs.YtoabcmhiaknjiaaDoor

set_option maxRecDepth 100000
namespace Go.Proofs.YtoabcmhiaknjiaaDoor
open Go.Hw
/-! ### 16 dasd/dasdref39.Quote -/
def r16_0 : List O := [⟨some 2, .assign (.const (.string ⟨#[]⟩)), 9, none⟩]
def r16_1 : List O := [⟨some 6, .move (.tmp 0), 9, none⟩,
  ⟨some 7, .binOp .neq 9 (.tmp 6) (.const (.string ⟨#[]⟩)) 9, 4, none⟩,
  ⟨some 3, .assign (.const (.string ⟨#[]⟩)), 9, none⟩,
  ⟨some 4, .assign (.tmp 7), 4, none⟩]
def r16_2 : List O := [⟨some 5, .assign (.const (.int .i64 0)), 3, none⟩]
def r16_3 : List O := [⟨some 8, .move (.tmp 5), 3, none⟩,
  ⟨some 9, .move (.tmp 0), 9, none⟩,
  ⟨some 10, .call { callee := .builtin .len, args := #[.tmp 9], argTypes := #[9] }, 3, none⟩,
  ⟨some 11, .binOp .lss 3 (.tmp 8) (.tmp 10) 3, 4, none⟩]
def r16_5 : List O := [⟨some 14, .move (.tmp 0), 9, none⟩,
  ⟨some 15, .move (.tmp 5), 3, none⟩,
  ⟨some 16, .index 9 (.tmp 14) (.tmp 15), 5, none⟩,
  ⟨some 17, .binOp .eql 5 (.tmp 16) (.const (.int .u8 39)) 5, 4, none⟩]
def r16_6 : List O := [⟨some 18, .move (.tmp 3), 9, none⟩,
  ⟨some 19, .binOp .add 9 (.tmp 18) (.const (.string ⟨#[39]⟩)) 9, 9, none⟩,
  ⟨some 3, .assign (.tmp 19), 9, none⟩]
def r16_7 : List O := [⟨some 20, .move (.tmp 4), 4, none⟩,
  ⟨some 21, .move (.tmp 20), 4, none⟩,
  ⟨some 22, .move (.tmp 0), 9, some (21, true)⟩,
  ⟨some 23, .move (.tmp 5), 3, some (21, true)⟩,
  ⟨some 24, .index 9 (.tmp 22) (.tmp 23), 5, some (21, true)⟩,
  ⟨some 25, .binOp .neq 5 (.tmp 24) (.const (.int .u8 32)) 5, 4, some (21, true)⟩,
  ⟨some 26, .pick (.tmp 21) (.tmp 25) (.const (.bool false)), 4, none⟩,
  ⟨some 27, .move (.tmp 26), 4, none⟩,
  ⟨some 28, .move (.tmp 0), 9, some (27, true)⟩,
  ⟨some 29, .move (.tmp 5), 3, some (27, true)⟩,
  ⟨some 30, .index 9 (.tmp 28) (.tmp 29), 5, some (27, true)⟩,
  ⟨some 31, .binOp .neq 5 (.tmp 30) (.const (.int .u8 39)) 5, 4, some (27, true)⟩,
  ⟨some 32, .pick (.tmp 27) (.tmp 31) (.const (.bool false)), 4, none⟩,
  ⟨some 4, .assign (.tmp 32), 4, none⟩]
def r16_8 : List O := [⟨some 33, .move (.tmp 3), 9, none⟩,
  ⟨some 34, .move (.tmp 0), 9, none⟩,
  ⟨some 35, .move (.tmp 5), 3, none⟩,
  ⟨some 36, .move (.tmp 5), 3, none⟩,
  ⟨some 37, .binOp .add 3 (.tmp 36) (.const (.int .i64 1)) 3, 3, none⟩,
  ⟨some 38, .slice 9 (.tmp 34) (some (.tmp 35)) (some (.tmp 37)) none, 9, none⟩,
  ⟨some 39, .binOp .add 9 (.tmp 33) (.tmp 38) 9, 9, none⟩,
  ⟨some 3, .assign (.tmp 39), 9, none⟩]
def r16_4 : List O := [⟨some 12, .move (.tmp 5), 3, none⟩,
  ⟨some 13, .binOp .add 3 (.tmp 12) (.const (.int .i64 1)) 3, 3, none⟩,
  ⟨some 5, .assign (.tmp 13), 3, none⟩]
def r16_9 : List O := [⟨some 40, .move (.tmp 4), 4, none⟩]
def r16_10 : List O := [⟨some 41, .move (.tmp 0), 9, none⟩,
  ⟨some 2, .assign (.tmp 41), 9, none⟩]
def r16_11 : List O := [⟨some 42, .move (.tmp 3), 9, none⟩,
  ⟨some 43, .binOp .add 9 (.const (.string ⟨#[39]⟩)) (.tmp 42) 9, 9, none⟩,
  ⟨some 44, .binOp .add 9 (.tmp 43) (.const (.string ⟨#[39]⟩)) 9, 9, none⟩,
  ⟨some 2, .assign (.tmp 44), 9, none⟩]
def c16_0 : A := .cond (.tmp 11) .skip (.exit 0)
def c16_1 : A := .cond (.tmp 17) (.reg r16_6 [0, 3, 4, 5]) .skip
def c16_2 : A := .seq (.reg r16_7 [0, 3, 4, 5]) (.reg r16_8 [0, 3, 4, 5])
def c16_3 : A := .seq (.seq (.reg r16_5 [0, 3, 4, 5, 17]) c16_1) (.seq (.keep [0, 3, 4, 5]) c16_2)
def c16_4 : A := .seq (.block 1 c16_3) (.reg r16_4 [0, 3, 4, 5])
def c16_5 : A := .seq (.seq (.reg r16_3 [0, 3, 4, 5, 11]) c16_0) (.seq (.keep [0, 3, 4, 5]) c16_4)
def c16_6 : A := .seq c16_5 (.keep [0, 3, 4, 5])
def c16_7 : A := .loop c16_6
def c16_8 : A := .block 0 c16_7
def c16_9 : A := .seq (.reg r16_10 [2]) .ret
def c16_10 : A := .cond (.tmp 40) c16_9 .skip
def c16_11 : A := .seq (.reg r16_11 [2]) .ret
def c16_12 : A := .seq (.seq (.reg r16_9 [0, 3, 40]) c16_10) (.seq (.keep [3]) c16_11)
def c16_13 : A := .seq (.seq (.reg r16_2 [0, 3, 4, 5]) c16_8) c16_12
def c16_14 : A := .seq (.reg r16_1 [0, 3, 4]) c16_13
def c16 : A := .seq (.reg r16_0 [0]) c16_14
theorem B16 : Body Tryd.prog 16 45 [.tmp 2] c16 := ⟨by kernel_rfl, _, _, [(0, [0]), (1, [0, 3, 4]), (2, [0, 3, 4, 5]), (3, [0, 3, 4, 5, 11]), (4, [0, 3, 4, 5]), (5, [0, 3, 4, 5, 17]), (6, [0, 3, 4, 5]), (7, [0, 3, 4, 5]), (8, [0, 3, 4, 5]), (9, [0, 3, 40]), (10, [2]), (11, [2]), (1003, [0, 3, 4, 5]), (2005, [0, 3, 4, 5]), (2007, [0, 3, 4, 5]), (2011, [3])], Tryd.func16, rfl, rfl, rfl, by kernel_rfl⟩
end Go.Proofs.YtoabcmhiaknjiaaDoor

/- The reference's Quote. -/
set_option maxRecDepth 100000
set_option linter.unusedSimpArgs false
set_option linter.unusedVariables false
namespace Go.Proofs.YtoabcmhiaknjiaaDoor
open Go.Hw
variable {H : Hp} {K : Ending → Hp → Prop}

/-- Apostrophes doubled. -/
def dbl (l : List UInt8) : List UInt8 := l.flatMap fun b => if b = 39 then [39, 39] else [b]

theorem replaceK_dbl : ∀ (l : List UInt8) (k : Nat), k = Lib.count l [39] → Lib.replaceK [39] [39, 39] k l = dbl l
  | [], k, h => by subst h; rfl
  | c :: r, k, h => by
    by_cases hc : c = 39
    · subst hc
      rw [Lib.count_cons_eq, Nat.add_comm] at h
      subst h
      have e : Lib.index (39 :: r) [39] = ((0 : Nat) : Int) := by unfold Lib.index; simp
      rw [Lib.replaceK_hit _ _ _ _ 0 e]
      have := replaceK_dbl r _ rfl
      simp only [List.take_zero, List.nil_append, Nat.zero_add, List.length_cons, List.length_nil, List.drop_succ_cons, List.drop_zero]
      rw [this]
      rfl
    · rw [Lib.count_cons_ne _ _ _ hc] at h
      have ih := replaceK_dbl r k h
      have hd : dbl (c :: r) = c :: dbl r := by unfold dbl; simp [hc]
      rw [hd, ← ih]
      have hidx : Lib.index (c :: r) [39] = if (Lib.index r [39] == -1) = true then -1 else Lib.index r [39] + 1 := by
        conv => lhs; unfold Lib.index
        have : ([39] : List UInt8).isPrefixOf (c :: r) = false := by
          simp [List.isPrefixOf]; exact fun h2 => absurd h2.symm hc
        rw [this]
        simp
      have hge := Lib.index_ge r [39]
      cases k with
      | zero => simp [Lib.replaceK]
      | succ k =>
        rw [Lib.replaceK, Lib.replaceK, hidx]
        by_cases hi : Lib.index r [39] = -1
        · rw [hi]; simp
        · have e1 : (Lib.index r [39] == -1) = false := by simpa using hi
          have e2 : (Lib.index r [39] + 1 == -1) = false := by rw [beq_eq_false_iff_ne]; omega
          obtain ⟨n, hn⟩ : ∃ n : Nat, Lib.index r [39] = n := ⟨(Lib.index r [39]).toNat, by omega⟩
          rw [hn] at e1 e2 ⊢
          have e3 : ((n : Int) + 1).toNat = n + 1 := by omega
          rw [e1]
          simp only [Bool.false_eq_true, if_false]
          rw [e2]
          simp only [Bool.false_eq_true, if_false, Int.toNat_natCast, e3]
          simp [Nat.add_right_comm]
theorem replaceAll_dbl (l : List UInt8) : Lib.replaceAll l [39] [39, 39] = dbl l := by
  unfold Lib.replaceAll Lib.replace
  have e : (([39] : List UInt8) == [39, 39]) = false := rfl
  rw [e]
  simp only [Bool.false_eq_true, if_false]
  unfold Lib.replaceNum
  exact replaceK_dbl l _ (by simp)

theorem refQuote_c (l : List UInt8) (hl : l.length < 100000000) (h : K (.returned (.string (B (quoteW l)))) H) : HCall Tryd.prog 16 #[.string (B l)] H K := by
  refine hcall mixed B16 (args := [.string (B l)]) (by simp) ?_
  unfold quoteW at h
  rw [replaceAll_dbl] at h
  have hne : (!(l == [])) = decide (l ≠ []) := by
    cases l with
    | nil => rfl
    | cons a t => rfl
  simp only [go_sem, reduceCtorEq, Nat.reduceEqDiff, Nat.reduceAdd, c16, r16_0, c16_14, r16_1, B_lit, B_toList, hne, c16_13, r16_2]
  refine aw_while (L := c16_7) rfl (fun m F G => ∃ (i : Nat) (s : List UInt8) (p : Bool), m = l.length - i ∧ F = [(0, .string (B l)), (3, .string (B s)), (4, .bool p), (5, .int .i64 i)] ∧ G = H ∧ i ≤ l.length ∧ s = dbl (l.take i) ∧ s.length ≤ 2 * i ∧ p = (decide (l ≠ []) && !hasSq (l.take i))) (m := l.length)
    ⟨0, [], decide (l ≠ []), rfl, rfl, rfl, Nat.zero_le _, rfl, Nat.le_refl _, by simp [hasSq]⟩ ?_
  rintro m F G ih ⟨i, s, p, rfl, rfl, rfl, k1, k2, k3, k4⟩
  by_cases hi : i < l.length
  · obtain ⟨c, hc⟩ : ∃ c, l[i]? = some c := ⟨l[i], List.getElem?_eq_getElem hi⟩
    have htk : l.take (i + 1) = l.take i ++ [c] := by
      rw [List.take_succ_eq_append_getElem hi]
      rw [List.getElem?_eq_getElem hi] at hc
      rw [Option.some.inj hc]
    have hsq : hasSq (l.take (i + 1)) = (hasSq (l.take i) || (c == 32 || c == 39)) := by rw [htk]; simp [hasSq]
    have wi := wrap_one (show i + 1 ≤ 9223372036854775807 by omega)
    have e32 : decide ((c.toNat : Int) = 32) = (c == 32) := by
      rw [Bool.eq_iff_iff]; simp only [decide_eq_true_eq, beq_iff_eq]
      exact ⟨fun h => UInt8.toNat_inj.1 (by simpa using Int.ofNat_inj.1 h), fun h => by rw [h]; rfl⟩
    have fin : ∀ (p' : Bool) (s' : List UInt8), s' ++ [c] = dbl (l.take (i + 1)) → s'.length ≤ 2 * i + 1 → p' = (decide (l ≠ []) && !hasSq (l.take (i + 1))) →
        aw Tryd.prog 45 (.reg r16_8 [0, 3, 4, 5]) (blkE 1 (seqQ Tryd.prog 45 (.reg r16_4 [0, 3, 4, 5]) (seqQ Tryd.prog 45 (.keep [0, 3, 4, 5]) (seqQ Tryd.prog 45 c16_7 (blkE 0 (seqQ Tryd.prog 45 c16_12 (retK Tryd.prog [.tmp 2] K)))))))
        [(0, .string (B l)), (3, .string (B s')), (4, .bool p'), (5, .int .i64 i)] G := by
      intro p' s' q1 q2 q3
      simp only [go_sem, reduceCtorEq, Nat.reduceEqDiff, Nat.reduceAdd, r16_8, wi, sliA_one uStr hc, binA_cat (show s'.length + [c].length ≤ 9223372036854775807 by simp; omega), r16_4]
      exact ih _ _ _ (by omega) ⟨i + 1, s' ++ [c], p', rfl, rfl, rfl, by omega, q1, by simp; omega, q3⟩
    have plainW : ∀ (s' : List UInt8), s' ++ [c] = dbl (l.take (i + 1)) → s'.length ≤ 2 * i + 1 → 
        aw Tryd.prog 45 c16_2 (blkE 1 (seqQ Tryd.prog 45 (.reg r16_4 [0, 3, 4, 5]) (seqQ Tryd.prog 45 (.keep [0, 3, 4, 5]) (seqQ Tryd.prog 45 c16_7 (blkE 0 (seqQ Tryd.prog 45 c16_12 (retK Tryd.prog [.tmp 2] K)))))))
        [(0, .string (B l)), (3, .string (B s')), (4, .bool p), (5, .int .i64 i)] G := by
      intro s' q1 q2
      cases p with
      | false =>
        simp only [go_sem, reduceCtorEq, Nat.reduceEqDiff, Nat.reduceAdd, c16_2, r16_7]
        refine fin _ s' q1 q2 ?_
        rw [hsq, Bool.not_or, ← Bool.and_assoc, ← k4, Bool.false_and]
      | true =>
        by_cases h32 : c = 32
        · subst h32
          simp only [go_sem, reduceCtorEq, Nat.reduceEqDiff, Nat.reduceAdd, c16_2, r16_7, idxA_at uStr hc, show decide (((32 : UInt8).toNat : Int) = 32) = true from rfl]
          refine fin _ s' q1 q2 ?_
          rw [hsq]; simp
        · by_cases h39 : c = 39
          · subst h39
            simp only [go_sem, reduceCtorEq, Nat.reduceEqDiff, Nat.reduceAdd, c16_2, r16_7, idxA_at uStr hc, show decide (((39 : UInt8).toNat : Int) = 32) = false from rfl, show decide (((39 : UInt8).toNat : Int) = 39) = true from rfl]
            refine fin _ s' q1 q2 ?_
            rw [hsq]; simp
          · simp only [go_sem, reduceCtorEq, Nat.reduceEqDiff, Nat.reduceAdd, c16_2, r16_7, idxA_at uStr hc, show decide ((c.toNat : Int) = 32) = false from u8_ne h32, show decide ((c.toNat : Int) = 39) = false from u8_ne h39]
            refine fin _ s' q1 q2 ?_
            have e1 : (c == 32) = false := by simpa using h32
            have e2 : (c == 39) = false := by simpa using h39
            rw [hsq, e1, e2, Bool.or_false, Bool.or_false, ← k4]
    simp only [go_sem, reduceCtorEq, Nat.reduceEqDiff, Nat.reduceAdd, c16_6, c16_5, r16_3, len_B uStr, dlt hi, c16_0, c16_4, c16_3, r16_5, idxA_at uStr hc]
    have hdb : dbl (l.take (i + 1)) = dbl (l.take i) ++ (if c = 39 then [39, 39] else [c]) := by rw [htk]; simp [dbl]
    by_cases h39 : c = 39
    · subst h39
      simp only [go_sem, reduceCtorEq, Nat.reduceEqDiff, Nat.reduceAdd, show decide (((39 : UInt8).toNat : Int) = 39) = true from rfl, c16_1, r16_6, B_lit, binA_cat (show s.length + ([39] : List UInt8).length ≤ 9223372036854775807 by simp; omega)]
      exact plainW (s ++ [39]) (by rw [hdb, k2]; simp) (by simp; omega)
    · simp only [go_sem, reduceCtorEq, Nat.reduceEqDiff, Nat.reduceAdd, show decide ((c.toNat : Int) = 39) = false from u8_ne h39, c16_1]
      exact plainW s (by rw [hdb, k2, if_neg h39]) (by omega)
  · have hil : l.take i = l := List.take_of_length_le (by omega)
    rw [hil] at k2 k4
    simp only [go_sem, reduceCtorEq, Nat.reduceEqDiff, Nat.reduceAdd, c16_6, c16_5, r16_3, len_B uStr, dge (show l.length ≤ i by omega), c16_0, c16_12, r16_9]
    cases hp : p with
    | true =>
      rw [hp] at k4
      simp only [go_sem, reduceCtorEq, Nat.reduceEqDiff, Nat.reduceAdd, c16_10, c16_9, r16_10]
      have k4' : l ≠ [] ∧ hasSq l = false := by simpa using k4.symm
      rw [if_pos k4'] at h
      exact h
    | false =>
      rw [hp] at k4
      have k4' : ¬ (l ≠ [] ∧ hasSq l = false) := by
        rintro ⟨a1, a2⟩
        rw [decide_eq_true a1, a2] at k4
        cases k4
      rw [if_neg k4', ← k2] at h
      simp only [go_sem, reduceCtorEq, Nat.reduceEqDiff, Nat.reduceAdd, c16_10, c16_11, r16_11, B_lit]
      rw [binA_cat (by simp; omega)]
      simp only [go_sem, reduceCtorEq, Nat.reduceEqDiff, Nat.reduceAdd, ]
      rw [binA_cat (by simp; omega)]
      simp only [go_sem, reduceCtorEq, Nat.reduceEqDiff, Nat.reduceAdd, ]
      exact h
end Go.Proofs.YtoabcmhiaknjiaaDoor

/- JobtextLines returns true. -/
set_option maxRecDepth 100000
set_option linter.unusedSimpArgs false
set_option linter.unusedVariables false
namespace Go.Proofs.YtoabcmhiaknjiaaDoor
open Go.Hw

/-- A map of strings that came in. -/
def MapA (H : Hp) (v : Value) (l : Sym) : Prop := (v = .map none ∧ l = []) ∨ ∃ r es clk, v = .map (some r) ∧ H[r]? = some (.map es clk) ∧ es.toList.map (fun e => (e.key, e.val)) = ((symV l).map fun p => (.string (B p.1), p.2)) ∧ (∀ e ∈ es, e.born < clk) ∧ (es.toList.map (·.born)).Nodup
theorem MapA.sym {H : Hp} {v : Value} {l : Sym} (h : MapA H v l) : SymV H v l := h.imp id fun ⟨r, es, clk, h1, h2, h3, h4, h5⟩ => ⟨r, h1, es, clk, h2, h3⟩
theorem MapA.ext {H H' : Hp} {v : Value} {l : Sym} (h : MapA H v l) (e : Ext H H') : MapA H' v l := h.imp id fun ⟨r, es, clk, h1, h2, h3⟩ => ⟨r, es, clk, h1, e.get h2, h3⟩
theorem born_inj {es : Array MapEntry} (h : (es.toList.map (·.born)).Nodup) {a b : MapEntry} (ha : a ∈ es) (hb : b ∈ es) (e : a.born = b.born) : a = b := by
  have key : ∀ (l : List MapEntry), (l.map (·.born)).Nodup → ∀ a ∈ l, ∀ b ∈ l, a.born = b.born → a = b := by
    intro l
    induction l with
    | nil => intro _ a ha; cases ha
    | cons x l ih =>
      intro hn a ha b hb e
      rw [List.map_cons, List.nodup_cons] at hn
      rcases List.mem_cons.1 ha with h1 | h1
      · rcases List.mem_cons.1 hb with h2 | h2
        · rw [h1, h2]
        · exact (hn.1 (List.mem_map.2 ⟨b, h2, by rw [← h1, e]⟩)).elim
      · rcases List.mem_cons.1 hb with h2 | h2
        · exact (hn.1 (List.mem_map.2 ⟨a, h1, by rw [← h2, e]⟩)).elim
        · exact ih hn.2 a h1 b h2 e
  exact key _ h a (Array.mem_toList_iff.2 ha) b (Array.mem_toList_iff.2 hb) e

theorem filter_lt {α : Type} {p q : α → Bool} (hq : ∀ x, q x = true → p x = true) : ∀ {l : List α} {a : α}, a ∈ l → p a = true → q a = false → (l.filter q).length < (l.filter p).length
  | b :: l, a, ha, h1, h2 => by
    have hle : (l.filter q).length ≤ (l.filter p).length := by
      clear ha
      induction l with
      | nil => simp
      | cons c l ih =>
        simp only [List.filter_cons]
        cases hc : q c with
        | true => rw [hq c hc]; simpa using ih
        | false => cases p c <;> simp <;> omega
    simp only [List.filter_cons]
    rcases List.mem_cons.1 ha with rfl | ha
    · rw [h1, h2]; simp; omega
    · have := filter_lt hq ha h1 h2
      cases hb : q b with
      | true => rw [hq b hb]; simpa using this
      | false => cases p b <;> simp <;> omega

set_option maxHeartbeats 2000000 in
theorem lines_law {line : List UInt8} {mv : Value} {syms : Sym} {H : Hp} {K : Ending → Hp → Prop} (g : G0 H) (hm : MapA H mv syms) (hl : line.length ≤ 9223372036854775807) (hn : syms.length ≤ 9223372036854775807) (hb : ∀ p ∈ syms, p.1.length ≤ 9223372036854775807 ∧ p.2.length ≤ 9223372036854775807) (h : ∀ G, Ext H G → K (.returned (.bool true)) G) :
    HCall Tryd.prog 3 #[.string (B line), mv] H K := by
  refine hcall mixed B3 (args := [.string (B line), mv]) (by simp) ?_
  simp only [go_sem, reduceCtorEq, Nat.reduceEqDiff, Nat.reduceAdd, withc_some, withcs_some, cells_0, cells_s, Option.bind_some, Option.map_some, List.getElem?_toArray, List.getElem?_cons_zero, List.getElem?_cons_succ, Nat.add_zero, Nat.zero_add, Value.cells, splice, List.setIfInBounds_toArray, List.set_cons_zero, List.set_cons_succ, bfill_nil, bfill_cons, bstep_some, withO_some, List.take_zero, List.take_succ_cons, List.drop_zero, List.drop_succ_cons, List.cons_append, List.nil_append, List.append_nil, List.length_cons, List.length_nil, Nat.reduceLeDiff, Nat.le_refl, and_true, true_and, and_self, decide_true, decide_false, Bool.not_true, Bool.not_false, c3, r3_0, c3_21, r3_1, callA_fn0 pl9]
  refine awake_c g fun G1 E1 => ?_
  -- behind the range
  have tail : ∀ (G : Hp) (Z : Fr), Ext H G → line.length ≤ 1200 → (∀ p ∈ syms, p.2.length ≤ 1200) → aw Tryd.prog 87 c3_18 (retK Tryd.prog [.tmp 4] K) ((0, .string (B line)) :: (1, mv) :: Z) G := by
    intro G Z hE hle hv
    have hm1 := hm.ext hE
    simp only [go_sem, reduceCtorEq, Nat.reduceEqDiff, Nat.reduceAdd, withc_some, withcs_some, cells_0, cells_s, Option.bind_some, Option.map_some, List.getElem?_toArray, List.getElem?_cons_zero, List.getElem?_cons_succ, Nat.add_zero, Nat.zero_add, Value.cells, splice, List.setIfInBounds_toArray, List.set_cons_zero, List.set_cons_succ, bfill_nil, bfill_cons, bstep_some, withO_some, List.take_zero, List.take_succ_cons, List.drop_zero, List.drop_succ_cons, List.cons_append, List.nil_append, List.append_nil, List.length_cons, List.length_nil, Nat.reduceLeDiff, Nat.le_refl, and_true, true_and, and_self, decide_true, decide_false, Bool.not_true, Bool.not_false, c3_18, r3_10, callA_fn0 pl10, callA_fn0 pl9]
    refine Proofs.YtoabcmhiaknjiaaDoor.scan line G (by omega) fun G2 v e E2 hs => ?_
    have hma := hm1.ext E2
    simp only [go_sem, reduceCtorEq, Nat.reduceEqDiff, Nat.reduceAdd, withc_some, withcs_some, cells_0, cells_s, Option.bind_some, Option.map_some, List.getElem?_toArray, List.getElem?_cons_zero, List.getElem?_cons_succ, Nat.add_zero, Nat.zero_add, Value.cells, splice, List.setIfInBounds_toArray, List.set_cons_zero, List.set_cons_succ, bfill_nil, bfill_cons, bstep_some, withO_some, List.take_zero, List.take_succ_cons, List.drop_zero, List.drop_succ_cons, List.cons_append, List.nil_append, List.append_nil, List.length_cons, List.length_nil, Nat.reduceLeDiff, Nat.le_refl, and_true, true_and, and_self, decide_true, decide_false, Bool.not_true, Bool.not_false, c3_17, r3_11, callA_fn0 pl10, callA_fn0 pl11, callA_fn0 pl9]
    refine refScan line G2 (by omega) fun G3 v' e' E3 hs' => ?_
    have hm2 := hma.ext E3
    simp only [go_sem, reduceCtorEq, Nat.reduceEqDiff, Nat.reduceAdd, withc_some, withcs_some, cells_0, cells_s, Option.bind_some, Option.map_some, List.getElem?_toArray, List.getElem?_cons_zero, List.getElem?_cons_succ, Nat.add_zero, Nat.zero_add, Value.cells, splice, List.setIfInBounds_toArray, List.set_cons_zero, List.set_cons_succ, bfill_nil, bfill_cons, bstep_some, withO_some, List.take_zero, List.take_succ_cons, List.drop_zero, List.drop_succ_cons, List.cons_append, List.nil_append, List.append_nil, List.length_cons, List.length_nil, Nat.reduceLeDiff, Nat.le_refl, and_true, true_and, and_self, decide_true, decide_false, Bool.not_true, Bool.not_false, c3_16, r3_12, callA_fn0 pl10, callA_fn0 pl11, callA_fn0 pl12, callA_fn0 pl9]
    refine replace_c line mv syms G3 (by omega) (fun p hp => by have := hv p hp; omega) (g.ext (hE.trans (E2.trans E3))) hm2.sym fun G4 E4 => ?_
    simp only [go_sem, reduceCtorEq, Nat.reduceEqDiff, Nat.reduceAdd, withc_some, withcs_some, cells_0, cells_s, Option.bind_some, Option.map_some, List.getElem?_toArray, List.getElem?_cons_zero, List.getElem?_cons_succ, Nat.add_zero, Nat.zero_add, Value.cells, splice, List.setIfInBounds_toArray, List.set_cons_zero, List.set_cons_succ, bfill_nil, bfill_cons, bstep_some, withO_some, List.take_zero, List.take_succ_cons, List.drop_zero, List.drop_succ_cons, List.cons_append, List.nil_append, List.append_nil, List.length_cons, List.length_nil, Nat.reduceLeDiff, Nat.le_refl, and_true, true_and, and_self, decide_true, decide_false, Bool.not_true, Bool.not_false, c3_15, r3_13, callA_fn0 pl10, callA_fn0 pl11, callA_fn0 pl12, callA_fn0 pl13, callA_fn0 pl9]
    refine refReplace_c line mv syms G4 (by omega) (fun p hp => by have := hv p hp; omega) (hm2.ext E4).sym fun G5 E5 => ?_
    have he : e = e' ∧ ∃ ws, StrsV G5 v ws ∧ StrsV G5 v' ws ∧ ws.length < 1000000000 := by
      unfold ScanR at hs hs'
      cases hf : scanF line with
      | none =>
        rw [hf] at hs hs'
        obtain ⟨rfl, rfl⟩ := hs
        obtain ⟨rfl, rfl⟩ := hs'
        exact ⟨rfl, [], ⟨.inr (.inl ⟨0, rfl, rfl, rfl⟩), _, _, rfl⟩, ⟨.inr (.inl ⟨0, rfl, rfl, rfl⟩), _, _, rfl⟩, by simp⟩
      | some ws =>
        rw [hf] at hs hs'
        obtain ⟨rfl, o1⟩ := hs
        obtain ⟨rfl, o2⟩ := hs'
        have := scanF_len hf
        exact ⟨rfl, ws, (StrsV.own o1).ext (E3.trans (E4.trans E5)), (StrsV.own o2).ext (E4.trans E5), by omega⟩
    obtain ⟨rfl, ws, w1, w2, hwl⟩ := he
    obtain ⟨a1, c1, rfl⟩ := w1.2
    obtain ⟨a2, c2, rfl⟩ := w2.2
    simp only [go_sem, reduceCtorEq, Nat.reduceEqDiff, Nat.reduceAdd, withc_some, withcs_some, cells_0, cells_s, Option.bind_some, Option.map_some, List.getElem?_toArray, List.getElem?_cons_zero, List.getElem?_cons_succ, Nat.add_zero, Nat.zero_add, Value.cells, splice, List.setIfInBounds_toArray, List.set_cons_zero, List.set_cons_succ, bfill_nil, bfill_cons, bstep_some, withO_some, List.take_zero, List.take_succ_cons, List.drop_zero, List.drop_succ_cons, List.cons_append, List.nil_append, List.append_nil, List.length_cons, List.length_nil, Nat.reduceLeDiff, Nat.le_refl, and_true, true_and, and_self, decide_true, decide_false, Bool.not_true, Bool.not_false, c3_14, r3_14, callA_fn0 pl10, callA_fn0 pl11, callA_fn0 pl12, callA_fn0 pl13, callA_fn0 pl14, callA_fn0 pl15, callA_fn0 pl16, callA_fn0 pl9]
    refine texts_c _ _ ws ws w1 w2 hwl ?_
    rw [decide_eq_true rfl]
    simp only [go_sem, reduceCtorEq, Nat.reduceEqDiff, Nat.reduceAdd, withc_some, withcs_some, cells_0, cells_s, Option.bind_some, Option.map_some, List.getElem?_toArray, List.getElem?_cons_zero, List.getElem?_cons_succ, Nat.add_zero, Nat.zero_add, Value.cells, splice, List.setIfInBounds_toArray, List.set_cons_zero, List.set_cons_succ, bfill_nil, bfill_cons, bstep_some, withO_some, List.take_zero, List.take_succ_cons, List.drop_zero, List.drop_succ_cons, List.cons_append, List.nil_append, List.append_nil, List.length_cons, List.length_nil, Nat.reduceLeDiff, Nat.le_refl, and_true, true_and, and_self, decide_true, decide_false, Bool.not_true, Bool.not_false, B_toList, beq_self_eq_true, callA_fn0 pl10, callA_fn0 pl11, callA_fn0 pl12, callA_fn0 pl13, callA_fn0 pl14, callA_fn0 pl15, callA_fn0 pl16, callA_fn0 pl9]
    have hE5 := hE.trans (E2.trans (E3.trans (E4.trans E5)))
    refine quote_c line (by omega) (g.ext hE5) fun G6 E6 => ?_
    simp only [go_sem, reduceCtorEq, Nat.reduceEqDiff, Nat.reduceAdd, withc_some, withcs_some, cells_0, cells_s, Option.bind_some, Option.map_some, List.getElem?_toArray, List.getElem?_cons_zero, List.getElem?_cons_succ, Nat.add_zero, Nat.zero_add, Value.cells, splice, List.setIfInBounds_toArray, List.set_cons_zero, List.set_cons_succ, bfill_nil, bfill_cons, bstep_some, withO_some, List.take_zero, List.take_succ_cons, List.drop_zero, List.drop_succ_cons, List.cons_append, List.nil_append, List.append_nil, List.length_cons, List.length_nil, Nat.reduceLeDiff, Nat.le_refl, and_true, true_and, and_self, decide_true, decide_false, Bool.not_true, Bool.not_false, callA_fn0 pl10, callA_fn0 pl11, callA_fn0 pl12, callA_fn0 pl13, callA_fn0 pl14, callA_fn0 pl15, callA_fn0 pl16, callA_fn0 pl9]
    refine refQuote_c line (by omega) ?_
    simp only [go_sem, reduceCtorEq, Nat.reduceEqDiff, Nat.reduceAdd, withc_some, withcs_some, cells_0, cells_s, Option.bind_some, Option.map_some, List.getElem?_toArray, List.getElem?_cons_zero, List.getElem?_cons_succ, Nat.add_zero, Nat.zero_add, Value.cells, splice, List.setIfInBounds_toArray, List.set_cons_zero, List.set_cons_succ, bfill_nil, bfill_cons, bstep_some, withO_some, List.take_zero, List.take_succ_cons, List.drop_zero, List.drop_succ_cons, List.cons_append, List.nil_append, List.append_nil, List.length_cons, List.length_nil, Nat.reduceLeDiff, Nat.le_refl, and_true, true_and, and_self, decide_true, decide_false, Bool.not_true, Bool.not_false, B_toList, beq_self_eq_true, callA_fn0 pl10, callA_fn0 pl11, callA_fn0 pl12, callA_fn0 pl13, callA_fn0 pl14, callA_fn0 pl15, callA_fn0 pl16, callA_fn0 pl9]
    exact h G6 (hE5.trans E6)
  have early : ∀ (G : Hp) (Q : E → Fr → Hp → Prop) (F : Fr), Ext H G → (∀ F G, Q .ret F G = retK Tryd.prog [.tmp 4] K .ret F G) → aw Tryd.prog 87 c3_2 Q F G := by
    intro G Q F hE hQ
    simp only [go_sem, reduceCtorEq, Nat.reduceEqDiff, Nat.reduceAdd, withc_some, withcs_some, cells_0, cells_s, Option.bind_some, Option.map_some, List.getElem?_toArray, List.getElem?_cons_zero, List.getElem?_cons_succ, Nat.add_zero, Nat.zero_add, Value.cells, splice, List.setIfInBounds_toArray, List.set_cons_zero, List.set_cons_succ, bfill_nil, bfill_cons, bstep_some, withO_some, List.take_zero, List.take_succ_cons, List.drop_zero, List.drop_succ_cons, List.cons_append, List.nil_append, List.append_nil, List.length_cons, List.length_nil, Nat.reduceLeDiff, Nat.le_refl, and_true, true_and, and_self, decide_true, decide_false, Bool.not_true, Bool.not_false, c3_2, r3_4, hQ, callA_fn0 pl10, callA_fn0 pl11, callA_fn0 pl12, callA_fn0 pl13, callA_fn0 pl14, callA_fn0 pl15, callA_fn0 pl16, callA_fn0 pl9]
    exact h G hE
  simp only [go_sem, reduceCtorEq, Nat.reduceEqDiff, Nat.reduceAdd, withc_some, withcs_some, cells_0, cells_s, Option.bind_some, Option.map_some, List.getElem?_toArray, List.getElem?_cons_zero, List.getElem?_cons_succ, Nat.add_zero, Nat.zero_add, Value.cells, splice, List.setIfInBounds_toArray, List.set_cons_zero, List.set_cons_succ, bfill_nil, bfill_cons, bstep_some, withO_some, List.take_zero, List.take_succ_cons, List.drop_zero, List.drop_succ_cons, List.cons_append, List.nil_append, List.append_nil, List.length_cons, List.length_nil, Nat.reduceLeDiff, Nat.le_refl, and_true, true_and, and_self, decide_true, decide_false, Bool.not_true, Bool.not_false, c3_1, c3_20, r3_3, callA_fn0 pl10, callA_fn0 pl11, callA_fn0 pl12, callA_fn0 pl13, callA_fn0 pl14, callA_fn0 pl15, callA_fn0 pl16, callA_fn0 pl9, len_B Tryd.underlying9]
  by_cases h1200 : 1200 < line.length
  · have e1 : decide ((1200 : Int) < (line.length : Int)) = true := by rw [decide_eq_true_eq]; omega
    simp only [go_sem, reduceCtorEq, Nat.reduceEqDiff, Nat.reduceAdd, withc_some, withcs_some, cells_0, cells_s, Option.bind_some, Option.map_some, List.getElem?_toArray, List.getElem?_cons_zero, List.getElem?_cons_succ, Nat.add_zero, Nat.zero_add, Value.cells, splice, List.setIfInBounds_toArray, List.set_cons_zero, List.set_cons_succ, bfill_nil, bfill_cons, bstep_some, withO_some, List.take_zero, List.take_succ_cons, List.drop_zero, List.drop_succ_cons, List.cons_append, List.nil_append, List.append_nil, List.length_cons, List.length_nil, Nat.reduceLeDiff, Nat.le_refl, and_true, true_and, and_self, decide_true, decide_false, Bool.not_true, Bool.not_false, e1, c3_3, callA_fn0 pl10, callA_fn0 pl11, callA_fn0 pl12, callA_fn0 pl13, callA_fn0 pl14, callA_fn0 pl15, callA_fn0 pl16, callA_fn0 pl9, len_B Tryd.underlying9]
    exact early G1 _ _ E1 (fun F G => by simp only [seqQ_ret])
  · have e1 : decide ((1200 : Int) < (line.length : Int)) = false := by rw [decide_eq_false_iff_not]; omega
    rcases hm with ⟨rfl, rfl⟩ | ⟨r, es, clk, rfl, hr, hes, hborn, hnd⟩
    · simp only [go_sem, reduceCtorEq, Nat.reduceEqDiff, Nat.reduceAdd, withc_some, withcs_some, cells_0, cells_s, Option.bind_some, Option.map_some, List.getElem?_toArray, List.getElem?_cons_zero, List.getElem?_cons_succ, Nat.add_zero, Nat.zero_add, Value.cells, splice, List.setIfInBounds_toArray, List.set_cons_zero, List.set_cons_succ, bfill_nil, bfill_cons, bstep_some, withO_some, List.take_zero, List.take_succ_cons, List.drop_zero, List.drop_succ_cons, List.cons_append, List.nil_append, List.append_nil, List.length_cons, List.length_nil, Nat.reduceLeDiff, Nat.le_refl, and_true, true_and, and_self, decide_true, decide_false, Bool.not_true, Bool.not_false, e1, callA_fn0 pl10, callA_fn0 pl11, callA_fn0 pl12, callA_fn0 pl13, callA_fn0 pl14, callA_fn0 pl15, callA_fn0 pl16, callA_fn0 pl9, len_B Tryd.underlying9]
      rw [len_mapnil uMS]
      simp only [go_sem, reduceCtorEq, Nat.reduceEqDiff, Nat.reduceAdd, withc_some, withcs_some, cells_0, cells_s, Option.bind_some, Option.map_some, List.getElem?_toArray, List.getElem?_cons_zero, List.getElem?_cons_succ, Nat.add_zero, Nat.zero_add, Value.cells, splice, List.setIfInBounds_toArray, List.set_cons_zero, List.set_cons_succ, bfill_nil, bfill_cons, bstep_some, withO_some, List.take_zero, List.take_succ_cons, List.drop_zero, List.drop_succ_cons, List.cons_append, List.nil_append, List.append_nil, List.length_cons, List.length_nil, Nat.reduceLeDiff, Nat.le_refl, and_true, true_and, and_self, decide_true, decide_false, Bool.not_true, Bool.not_false, show decide ((8 : Int) < 0) = false from rfl, c3_3, c3_19, r3_5, callA_fn0 pl10, callA_fn0 pl11, callA_fn0 pl12, callA_fn0 pl13, callA_fn0 pl14, callA_fn0 pl15, callA_fn0 pl16, callA_fn0 pl9, len_B Tryd.underlying9]
      rw [rngA_mapnil uMS]
      simp only [go_sem, reduceCtorEq, Nat.reduceEqDiff, Nat.reduceAdd, withc_some, withcs_some, cells_0, cells_s, Option.bind_some, Option.map_some, List.getElem?_toArray, List.getElem?_cons_zero, List.getElem?_cons_succ, Nat.add_zero, Nat.zero_add, Value.cells, splice, List.setIfInBounds_toArray, List.set_cons_zero, List.set_cons_succ, bfill_nil, bfill_cons, bstep_some, withO_some, List.take_zero, List.take_succ_cons, List.drop_zero, List.drop_succ_cons, List.cons_append, List.nil_append, List.append_nil, List.length_cons, List.length_nil, Nat.reduceLeDiff, Nat.le_refl, and_true, true_and, and_self, decide_true, decide_false, Bool.not_true, Bool.not_false, callA_fn0 pl10, callA_fn0 pl11, callA_fn0 pl12, callA_fn0 pl13, callA_fn0 pl14, callA_fn0 pl15, callA_fn0 pl16, callA_fn0 pl9, len_B Tryd.underlying9]
      have hit : (G1.push (.mapIter none 0 #[] 0))[G1.size]? = some (.mapIter none 0 #[] 0) := by simp
      have e2 : Ext G1 (G1.push (.mapIter none 0 #[] 0)) := Ext.push _ _
      simp only [go_sem, reduceCtorEq, Nat.reduceEqDiff, Nat.reduceAdd, withc_some, withcs_some, cells_0, cells_s, Option.bind_some, Option.map_some, List.getElem?_toArray, List.getElem?_cons_zero, List.getElem?_cons_succ, Nat.add_zero, Nat.zero_add, Value.cells, splice, List.setIfInBounds_toArray, List.set_cons_zero, List.set_cons_succ, bfill_nil, bfill_cons, bstep_some, withO_some, List.take_zero, List.take_succ_cons, List.drop_zero, List.drop_succ_cons, List.cons_append, List.nil_append, List.append_nil, List.length_cons, List.length_nil, Nat.reduceLeDiff, Nat.le_refl, and_true, true_and, and_self, decide_true, decide_false, Bool.not_true, Bool.not_false, c3_13, callA_fn0 pl10, callA_fn0 pl11, callA_fn0 pl12, callA_fn0 pl13, callA_fn0 pl14, callA_fn0 pl15, callA_fn0 pl16, callA_fn0 pl9, len_B Tryd.underlying9]
      refine aw_loopc (a := c3_11) rfl ?_
      simp only [go_sem, reduceCtorEq, Nat.reduceEqDiff, Nat.reduceAdd, withc_some, withcs_some, cells_0, cells_s, Option.bind_some, Option.map_some, List.getElem?_toArray, List.getElem?_cons_zero, List.getElem?_cons_succ, Nat.add_zero, Nat.zero_add, Value.cells, splice, List.setIfInBounds_toArray, List.set_cons_zero, List.set_cons_succ, bfill_nil, bfill_cons, bstep_some, withO_some, List.take_zero, List.take_succ_cons, List.drop_zero, List.drop_succ_cons, List.cons_append, List.nil_append, List.append_nil, List.length_cons, List.length_nil, Nat.reduceLeDiff, Nat.le_refl, and_true, true_and, and_self, decide_true, decide_false, Bool.not_true, Bool.not_false, c3_11, c3_10, r3_6, callA_fn0 pl10, callA_fn0 pl11, callA_fn0 pl12, callA_fn0 pl13, callA_fn0 pl14, callA_fn0 pl15, callA_fn0 pl16, callA_fn0 pl9, len_B Tryd.underlying9]
      rw [nxtA_mapnil hit]
      simp only [go_sem, reduceCtorEq, Nat.reduceEqDiff, Nat.reduceAdd, withc_some, withcs_some, cells_0, cells_s, Option.bind_some, Option.map_some, List.getElem?_toArray, List.getElem?_cons_zero, List.getElem?_cons_succ, Nat.add_zero, Nat.zero_add, Value.cells, splice, List.setIfInBounds_toArray, List.set_cons_zero, List.set_cons_succ, bfill_nil, bfill_cons, bstep_some, withO_some, List.take_zero, List.take_succ_cons, List.drop_zero, List.drop_succ_cons, List.cons_append, List.nil_append, List.append_nil, List.length_cons, List.length_nil, Nat.reduceLeDiff, Nat.le_refl, and_true, true_and, and_self, decide_true, decide_false, Bool.not_true, Bool.not_false, c3_9, callA_fn0 pl10, callA_fn0 pl11, callA_fn0 pl12, callA_fn0 pl13, callA_fn0 pl14, callA_fn0 pl15, callA_fn0 pl16, callA_fn0 pl9, len_B Tryd.underlying9]
      simp only [go_sem, reduceCtorEq, Nat.reduceEqDiff, Nat.reduceAdd, withc_some, withcs_some, cells_0, cells_s, Option.bind_some, Option.map_some, List.getElem?_toArray, List.getElem?_cons_zero, List.getElem?_cons_succ, Nat.add_zero, Nat.zero_add, Value.cells, splice, List.setIfInBounds_toArray, List.set_cons_zero, List.set_cons_succ, bfill_nil, bfill_cons, bstep_some, withO_some, List.take_zero, List.take_succ_cons, List.drop_zero, List.drop_succ_cons, List.cons_append, List.nil_append, List.append_nil, List.length_cons, List.length_nil, Nat.reduceLeDiff, Nat.le_refl, and_true, true_and, and_self, decide_true, decide_false, Bool.not_true, Bool.not_false, onE, callA_fn0 pl10, callA_fn0 pl11, callA_fn0 pl12, callA_fn0 pl13, callA_fn0 pl14, callA_fn0 pl15, callA_fn0 pl16, callA_fn0 pl9, len_B Tryd.underlying9]
      exact tail _ _ (E1.trans e2) (by omega) (by simp)
    · have hr1 := E1.get hr
      simp only [go_sem, reduceCtorEq, Nat.reduceEqDiff, Nat.reduceAdd, withc_some, withcs_some, cells_0, cells_s, Option.bind_some, Option.map_some, List.getElem?_toArray, List.getElem?_cons_zero, List.getElem?_cons_succ, Nat.add_zero, Nat.zero_add, Value.cells, splice, List.setIfInBounds_toArray, List.set_cons_zero, List.set_cons_succ, bfill_nil, bfill_cons, bstep_some, withO_some, List.take_zero, List.take_succ_cons, List.drop_zero, List.drop_succ_cons, List.cons_append, List.nil_append, List.append_nil, List.length_cons, List.length_nil, Nat.reduceLeDiff, Nat.le_refl, and_true, true_and, and_self, decide_true, decide_false, Bool.not_true, Bool.not_false, e1, callA_fn0 pl10, callA_fn0 pl11, callA_fn0 pl12, callA_fn0 pl13, callA_fn0 pl14, callA_fn0 pl15, callA_fn0 pl16, callA_fn0 pl9, len_B Tryd.underlying9]
      rw [len_map uMS hr1]
      by_cases h8 : 8 < es.size
      · have e2 : decide ((8 : Int) < (es.size : Int)) = true := by rw [decide_eq_true_eq]; omega
        simp only [go_sem, reduceCtorEq, Nat.reduceEqDiff, Nat.reduceAdd, withc_some, withcs_some, cells_0, cells_s, Option.bind_some, Option.map_some, List.getElem?_toArray, List.getElem?_cons_zero, List.getElem?_cons_succ, Nat.add_zero, Nat.zero_add, Value.cells, splice, List.setIfInBounds_toArray, List.set_cons_zero, List.set_cons_succ, bfill_nil, bfill_cons, bstep_some, withO_some, List.take_zero, List.take_succ_cons, List.drop_zero, List.drop_succ_cons, List.cons_append, List.nil_append, List.append_nil, List.length_cons, List.length_nil, Nat.reduceLeDiff, Nat.le_refl, and_true, true_and, and_self, decide_true, decide_false, Bool.not_true, Bool.not_false, e2, c3_3, callA_fn0 pl10, callA_fn0 pl11, callA_fn0 pl12, callA_fn0 pl13, callA_fn0 pl14, callA_fn0 pl15, callA_fn0 pl16, callA_fn0 pl9, len_B Tryd.underlying9]
        exact early G1 _ _ E1 (fun F G => by simp only [seqQ_ret])
      · have e2 : decide ((8 : Int) < (es.size : Int)) = false := by rw [decide_eq_false_iff_not]; omega
        simp only [go_sem, reduceCtorEq, Nat.reduceEqDiff, Nat.reduceAdd, withc_some, withcs_some, cells_0, cells_s, Option.bind_some, Option.map_some, List.getElem?_toArray, List.getElem?_cons_zero, List.getElem?_cons_succ, Nat.add_zero, Nat.zero_add, Value.cells, splice, List.setIfInBounds_toArray, List.set_cons_zero, List.set_cons_succ, bfill_nil, bfill_cons, bstep_some, withO_some, List.take_zero, List.take_succ_cons, List.drop_zero, List.drop_succ_cons, List.cons_append, List.nil_append, List.append_nil, List.length_cons, List.length_nil, Nat.reduceLeDiff, Nat.le_refl, and_true, true_and, and_self, decide_true, decide_false, Bool.not_true, Bool.not_false, e2, c3_3, c3_19, r3_5, callA_fn0 pl10, callA_fn0 pl11, callA_fn0 pl12, callA_fn0 pl13, callA_fn0 pl14, callA_fn0 pl15, callA_fn0 pl16, callA_fn0 pl9, len_B Tryd.underlying9]
        rw [rngA_map uMS hr1]
        simp only [go_sem, reduceCtorEq, Nat.reduceEqDiff, Nat.reduceAdd, withc_some, withcs_some, cells_0, cells_s, Option.bind_some, Option.map_some, List.getElem?_toArray, List.getElem?_cons_zero, List.getElem?_cons_succ, Nat.add_zero, Nat.zero_add, Value.cells, splice, List.setIfInBounds_toArray, List.set_cons_zero, List.set_cons_succ, bfill_nil, bfill_cons, bstep_some, withO_some, List.take_zero, List.take_succ_cons, List.drop_zero, List.drop_succ_cons, List.cons_append, List.nil_append, List.append_nil, List.length_cons, List.length_nil, Nat.reduceLeDiff, Nat.le_refl, and_true, true_and, and_self, decide_true, decide_false, Bool.not_true, Bool.not_false, c3_13, callA_fn0 pl10, callA_fn0 pl11, callA_fn0 pl12, callA_fn0 pl13, callA_fn0 pl14, callA_fn0 pl15, callA_fn0 pl16, callA_fn0 pl9, len_B Tryd.underlying9]
        have hit0 : (G1.push (.mapIter (some r) clk #[] clk))[G1.size]? = some (.mapIter (some r) clk #[] clk) := by simp
        have e3 : Ext H (G1.push (.mapIter (some r) clk #[] clk)) := E1.trans (Ext.push _ _)
        have hsz := E1.size
        have hrlt := get_lt hr
        generalize (G1.push (.mapIter (some r) clk #[] clk)) = G2 at *
        generalize G1.size = it at *
        refine aw_while (L := c3_12) rfl (fun m F G => ∃ seen : Array Nat, m = (es.toList.filter fun e => !seen.contains e.born).length ∧ F = [(0, .string (B line)), (1, .map (some r)), (26, .pointer (some ⟨it, 0, none⟩))] ∧ G[it]? = some (.mapIter (some r) clk seen clk) ∧ Ext H G ∧ ∀ e ∈ es, e.born ∈ seen → ∀ s : List UInt8, e.val = .string (B s) → s.length ≤ 1200) (m := (es.toList.filter fun e => !(#[] : Array Nat).contains e.born).length)
          ⟨#[], rfl, rfl, hit0, e3, by simp⟩ ?_
        rintro m F G ih ⟨seen, rfl, rfl, hit, hE, hgood⟩
        simp only [go_sem, reduceCtorEq, Nat.reduceEqDiff, Nat.reduceAdd, withc_some, withcs_some, cells_0, cells_s, Option.bind_some, Option.map_some, List.getElem?_toArray, List.getElem?_cons_zero, List.getElem?_cons_succ, Nat.add_zero, Nat.zero_add, Value.cells, splice, List.setIfInBounds_toArray, List.set_cons_zero, List.set_cons_succ, bfill_nil, bfill_cons, bstep_some, withO_some, List.take_zero, List.take_succ_cons, List.drop_zero, List.drop_succ_cons, List.cons_append, List.nil_append, List.append_nil, List.length_cons, List.length_nil, Nat.reduceLeDiff, Nat.le_refl, and_true, true_and, and_self, decide_true, decide_false, Bool.not_true, Bool.not_false, c3_11, c3_10, r3_6, callA_fn0 pl10, callA_fn0 pl11, callA_fn0 pl12, callA_fn0 pl13, callA_fn0 pl14, callA_fn0 pl15, callA_fn0 pl16, callA_fn0 pl9, len_B Tryd.underlying9]
        refine nxtA_map hit (hE.get hr) hborn ?_ ?_
        · intro e he hns
          have hit2 := get_set (o := .mapIter (some r) clk (seen.push e.born) clk) hit
          have hE2 : Ext H (G.setIfInBounds it (.mapIter (some r) clk (seen.push e.born) clk)) := hE.set (by omega)
          generalize (G.setIfInBounds it (.mapIter (some r) clk (seen.push e.born) clk)) = G3 at *
          simp only [go_sem, reduceCtorEq, Nat.reduceEqDiff, Nat.reduceAdd, withc_some, withcs_some, cells_0, cells_s, Option.bind_some, Option.map_some, List.getElem?_toArray, List.getElem?_cons_zero, List.getElem?_cons_succ, Nat.add_zero, Nat.zero_add, Value.cells, splice, List.setIfInBounds_toArray, List.set_cons_zero, List.set_cons_succ, bfill_nil, bfill_cons, bstep_some, withO_some, List.take_zero, List.take_succ_cons, List.drop_zero, List.drop_succ_cons, List.cons_append, List.nil_append, List.append_nil, List.length_cons, List.length_nil, Nat.reduceLeDiff, Nat.le_refl, and_true, true_and, and_self, decide_true, decide_false, Bool.not_true, Bool.not_false, c3_9, c3_8, c3_7, r3_7, callA_fn0 pl10, callA_fn0 pl11, callA_fn0 pl12, callA_fn0 pl13, callA_fn0 pl14, callA_fn0 pl15, callA_fn0 pl16, callA_fn0 pl9, len_B Tryd.underlying9]
          refine entA_map hit2 (by simp) (hE2.get hr) ⟨e, he, rfl⟩ fun e' he' hb' => ?_
          have hmem : ∃ p ∈ syms, e'.key = .string (B p.1) ∧ e'.val = .string (B p.2) := by
            have : (e'.key, e'.val) ∈ es.toList.map (fun e => (e.key, e.val)) := List.mem_map.2 ⟨e', Array.mem_toList_iff.2 he', rfl⟩
            rw [hes] at this
            obtain ⟨q, hq, heq⟩ := List.mem_map.1 this
            obtain ⟨p, hp, rfl⟩ := List.mem_map.1 hq
            simp only [Prod.mk.injEq] at heq
            exact ⟨p, hp, heq.1.symm, heq.2.symm⟩
          obtain ⟨p, hp, hk, hv⟩ := hmem
          have hbp := hb p hp
          simp only [go_sem, reduceCtorEq, Nat.reduceEqDiff, Nat.reduceAdd, withc_some, withcs_some, cells_0, cells_s, Option.bind_some, Option.map_some, List.getElem?_toArray, List.getElem?_cons_zero, List.getElem?_cons_succ, Nat.add_zero, Nat.zero_add, Value.cells, splice, List.setIfInBounds_toArray, List.set_cons_zero, List.set_cons_succ, bfill_nil, bfill_cons, bstep_some, withO_some, List.take_zero, List.take_succ_cons, List.drop_zero, List.drop_succ_cons, List.cons_append, List.nil_append, List.append_nil, List.length_cons, List.length_nil, Nat.reduceLeDiff, Nat.le_refl, and_true, true_and, and_self, decide_true, decide_false, Bool.not_true, Bool.not_false, hk, hv, c3_6, r3_8, callA_fn0 pl10, callA_fn0 pl11, callA_fn0 pl12, callA_fn0 pl13, callA_fn0 pl14, callA_fn0 pl15, callA_fn0 pl16, callA_fn0 pl9, len_B Tryd.underlying9]
          by_cases h20 : 20 < p.1.length
          · have e4 : decide ((20 : Int) < (p.1.length : Int)) = true := by rw [decide_eq_true_eq]; omega
            simp only [go_sem, reduceCtorEq, Nat.reduceEqDiff, Nat.reduceAdd, withc_some, withcs_some, cells_0, cells_s, Option.bind_some, Option.map_some, List.getElem?_toArray, List.getElem?_cons_zero, List.getElem?_cons_succ, Nat.add_zero, Nat.zero_add, Value.cells, splice, List.setIfInBounds_toArray, List.set_cons_zero, List.set_cons_succ, bfill_nil, bfill_cons, bstep_some, withO_some, List.take_zero, List.take_succ_cons, List.drop_zero, List.drop_succ_cons, List.cons_append, List.nil_append, List.append_nil, List.length_cons, List.length_nil, Nat.reduceLeDiff, Nat.le_refl, and_true, true_and, and_self, decide_true, decide_false, Bool.not_true, Bool.not_false, e4, c3_5, c3_4, r3_9, callA_fn0 pl10, callA_fn0 pl11, callA_fn0 pl12, callA_fn0 pl13, callA_fn0 pl14, callA_fn0 pl15, callA_fn0 pl16, callA_fn0 pl9, len_B Tryd.underlying9]
            exact h G3 hE2
          · have e4 : decide ((20 : Int) < (p.1.length : Int)) = false := by rw [decide_eq_false_iff_not]; omega
            by_cases hv12 : 1200 < p.2.length
            · have e5 : decide ((1200 : Int) < (p.2.length : Int)) = true := by rw [decide_eq_true_eq]; omega
              simp only [go_sem, reduceCtorEq, Nat.reduceEqDiff, Nat.reduceAdd, withc_some, withcs_some, cells_0, cells_s, Option.bind_some, Option.map_some, List.getElem?_toArray, List.getElem?_cons_zero, List.getElem?_cons_succ, Nat.add_zero, Nat.zero_add, Value.cells, splice, List.setIfInBounds_toArray, List.set_cons_zero, List.set_cons_succ, bfill_nil, bfill_cons, bstep_some, withO_some, List.take_zero, List.take_succ_cons, List.drop_zero, List.drop_succ_cons, List.cons_append, List.nil_append, List.append_nil, List.length_cons, List.length_nil, Nat.reduceLeDiff, Nat.le_refl, and_true, true_and, and_self, decide_true, decide_false, Bool.not_true, Bool.not_false, e4, e5, c3_5, c3_4, r3_9, callA_fn0 pl10, callA_fn0 pl11, callA_fn0 pl12, callA_fn0 pl13, callA_fn0 pl14, callA_fn0 pl15, callA_fn0 pl16, callA_fn0 pl9, len_B Tryd.underlying9]
              exact h G3 hE2
            · have e5 : decide ((1200 : Int) < (p.2.length : Int)) = false := by rw [decide_eq_false_iff_not]; omega
              simp only [go_sem, reduceCtorEq, Nat.reduceEqDiff, Nat.reduceAdd, withc_some, withcs_some, cells_0, cells_s, Option.bind_some, Option.map_some, List.getElem?_toArray, List.getElem?_cons_zero, List.getElem?_cons_succ, Nat.add_zero, Nat.zero_add, Value.cells, splice, List.setIfInBounds_toArray, List.set_cons_zero, List.set_cons_succ, bfill_nil, bfill_cons, bstep_some, withO_some, List.take_zero, List.take_succ_cons, List.drop_zero, List.drop_succ_cons, List.cons_append, List.nil_append, List.append_nil, List.length_cons, List.length_nil, Nat.reduceLeDiff, Nat.le_refl, and_true, true_and, and_self, decide_true, decide_false, Bool.not_true, Bool.not_false, e4, e5, c3_5, callA_fn0 pl10, callA_fn0 pl11, callA_fn0 pl12, callA_fn0 pl13, callA_fn0 pl14, callA_fn0 pl15, callA_fn0 pl16, callA_fn0 pl9, len_B Tryd.underlying9]
              refine ih _ _ _ ?_ ⟨seen.push e.born, rfl, rfl, hit2, hE2, ?_⟩
              · refine filter_lt (a := e) ?_ (Array.mem_toList_iff.2 he) (by simpa using hns) (by simp)
                intro x hx
                simp at hx ⊢
                exact hx.1
              · intro x hx hxs s hs
                rcases Array.mem_push.1 hxs with h3 | h3
                · exact hgood x hx h3 s hs
                · have : x = e' := born_inj hnd hx he' (h3.trans hb'.symm)
                  subst this
                  rw [hv] at hs
                  simp only [Value.string.injEq, B_inj] at hs
                  rw [← hs]; omega
        · intro hall
          simp only [go_sem, reduceCtorEq, Nat.reduceEqDiff, Nat.reduceAdd, withc_some, withcs_some, cells_0, cells_s, Option.bind_some, Option.map_some, List.getElem?_toArray, List.getElem?_cons_zero, List.getElem?_cons_succ, Nat.add_zero, Nat.zero_add, Value.cells, splice, List.setIfInBounds_toArray, List.set_cons_zero, List.set_cons_succ, bfill_nil, bfill_cons, bstep_some, withO_some, List.take_zero, List.take_succ_cons, List.drop_zero, List.drop_succ_cons, List.cons_append, List.nil_append, List.append_nil, List.length_cons, List.length_nil, Nat.reduceLeDiff, Nat.le_refl, and_true, true_and, and_self, decide_true, decide_false, Bool.not_true, Bool.not_false, c3_9, callA_fn0 pl10, callA_fn0 pl11, callA_fn0 pl12, callA_fn0 pl13, callA_fn0 pl14, callA_fn0 pl15, callA_fn0 pl16, callA_fn0 pl9, len_B Tryd.underlying9]
          refine tail G _ hE (by omega) fun p hp => ?_
          have : ((.string (B p.1), .string (B p.2)) : Value × Value) ∈ es.toList.map (fun e => (e.key, e.val)) := by
            rw [hes]
            exact List.mem_map.2 ⟨(p.1, .string (B p.2)), List.mem_map.2 ⟨p, hp, rfl⟩, rfl⟩
          obtain ⟨e, he, heq⟩ := List.mem_map.1 this
          simp only [Prod.mk.injEq] at heq
          have he' : e ∈ es := Array.mem_toList_iff.1 he
          exact hgood e he' (hall e he') p.2 heq.2
end Go.Proofs.YtoabcmhiaknjiaaDoor

/- A law's row out of a contract over the heap alone: it returns true, and what was in memory is as it was. -/
set_option linter.unusedVariables false
namespace Go.Hw
open Go Go.ChangeShapes Go.WideShapes Go.ChangeAt Go.RowKit

theorem below_of {W W' : World} (e : EnvEq W W') (x : Ext W.heap W'.heap) : Below W.heap.size W W' := ⟨e.os, e.tape, e.output, e.size, x.blk⟩

theorem trodAll_below {H : Type} {enc : TypeId × Value → H} {P : Program} (hl : laidOutB P = true) {W W' : World} (hb : Below W.heap.size W W') :
    ∀ {ts : List TypeId} {vs : List Value} {ds : List (DataW H)} {ps : List MemPlace}, (∀ t ∈ ts, P.readableRec t = true ∧ t < P.types.size) → DataW.TrodAll enc P W 0 (fun _ => true) true ts vs ds ps → (∀ x ∈ ps, x.block < W.heap.size) →
      DataW.TrodAll enc P W' 0 (fun b => decide (b < W.heap.size)) true ts vs ds ps
  | [], vs, ds, ps, _, h, _ => by
    obtain ⟨rfl, rfl, rfl⟩ := trodAll_nil h
    exact rfl
  | t :: ts, vs, ds, ps, hr, h, hlt => by
    obtain ⟨v, vs', d, ds', p, q, rfl, rfl, rfl, h1, h2⟩ := trodAll_cons h
    have ht := hr t (List.mem_cons_self ..)
    exact ⟨p, q, Below.trod hl ht.1 ht.2 h1 hb (fun x hx => hlt x (List.mem_append_left _ hx)),
      trodAll_below hl hb (fun t' ht' => hr t' (List.mem_cons_of_mem _ ht')) h2 (fun x hx => hlt x (List.mem_append_right _ hx)), rfl⟩

theorem law_row {C : Checked} {os : Os} {f : FuncId} {fn : Func} {s : ChangeSpec} {laid : List (String × DataW Unit)} {H : Type} {enc : TypeId × Value → H} {tb : TypeId}
    (hl : laidOutB C.prog = true) (own : ownKnob C.prog.godebug = none) (started : os.Started) (noInit : C.prog.inits.idxOf? f = none) (hfn : C.prog.funcs[f]? = some fn)
    (hvars : s.vars = []) (hread : ∀ t ∈ fn.params.toList, C.prog.readableRec t = true ∧ t < C.prog.types.size)
    (hres : fn.resultTypes = #[tb]) (hb : C.prog.underlying tb = some .bool)
    (hspec : ∀ ds : List (DataW H), ds.length = fn.params.size → s.fn H ds = { results := [.lit (.bool true)], args := ds })
    (witness : ∃ (w : World) (tape : Tape) (i : Input), w.os = os ∧ (w.forCall tape i).Shaped C.prog ∧ i.vars = [] ∧ Input.okWide C.prog (w.forCall tape i) .any w.heap.size f i ∧
      ((s.pre enc C.prog fn [] false (w.forCall tape i).memory i.args ∧ laidMetH C.prog laid (w.forCall tape i).memory) ∧ sizedMet enc C.prog fn (OpenSpec.ofChange s) false (w.forCall tape i).memory i.args) ∧ ({} : Assume).holds C.prog (lone (Frame.enter C.prog f i.args .normal) [] (w.forCall tape i)))
    (walk : ∀ (W : World) (base : Nat) (args : Array Value) (ds : List (DataW H)) (p : List MemPlace),
      (∀ (j : Nat) t v, fn.params[j]? = some t → args[j]? = some v → Value.okWide C.prog W .any base t v) →
      DataW.TrodAll enc C.prog W 0 (fun _ => true) true fn.params.toList args.toList ds p →
      laidMetH C.prog laid W → W.ShapedOpen C.prog → HCall C.prog f args W.heap (fun e G => Ext W.heap G ∧ e = .returned (.bool true))) :
    ReturnsInHanded {} C os f .any (fun w args => (s.pre enc C.prog fn [] false w args ∧ laidMetH C.prog laid w) ∧ sizedMet enc C.prog fn (OpenSpec.ofChange s) false w args) (s.post enc C.prog fn false true false false) := by
  refine returnsInHanded_of_calls own started noInit witness ?_
  intro w tape i _ hsh _ hok hpre hholds
  obtain ⟨_, _, _, fn', hfn', _, _, _, _, hval⟩ := hok
  have e : fn' = fn := Option.some.inj (hfn'.symm.trans hfn)
  subst e
  obtain ⟨⟨⟨ds, gs, before, hw, hc⟩, hx⟩, hz⟩ := hpre
  have hw' := DataW.Whole.of_heap (w' := w.forCall tape i) (by rfl) hw
  have hwk := hw'
  obtain ⟨p, q, hA, hV, rfl, hfz, hnd⟩ := hw'
  rw [hvars] at hV
  obtain ⟨rfl, rfl⟩ := trodVars_none hV
  have hlen : ds.length = fn'.params.size := by
    have : ∀ {ts : List TypeId} {vs : List Value} {ds : List (DataW H)} {ps : List MemPlace}, DataW.TrodAll enc C.prog (w.forCall tape i) 0 (fun _ => true) true ts vs ds ps → ds.length = ts.length := by
      intro ts
      induction ts with
      | nil => intro vs ds ps h; obtain ⟨_, rfl, _⟩ := trodAll_nil h; rfl
      | cons t ts ih => intro vs ds ps h; obtain ⟨_, _, _, _, _, _, _, rfl, _, _, h2⟩ := trodAll_cons h; simp [ih h2]
    simpa using this hA
  have key := walk (w.forCall tape i) w.heap.size i.args ds p hval hA (hx.of_heap (by rfl)) hsh
  refine (key (w.forCall tape i) rfl).mono fun e W' ⟨henv, hext, he⟩ => ?_
  subst he
  have hbel := below_of henv hext
  refine ChangeSpec.post_blind ?_
  refine ⟨ds, [], p ++ [], [], p, [], hwk, ?_, ?_, ?_, hbel.frame _, fun h => by cases h⟩
  · rw [List.append_nil, hspec ds hlen, hres]
    exact trodAll_mk1 (shut_bool hb true)
  · rw [List.append_nil, hspec ds hlen]
    exact trodAll_below hl hbel hread hA (fun x hx => hwk.lt x (by simpa using hx))
  · rw [List.append_nil, hspec ds hlen, hvars]
    exact rfl
end Go.Hw

/- The arguments of a law, opened. -/
set_option maxRecDepth 100000
set_option linter.unusedVariables false
namespace Go.Proofs.YtoabcmhiaknjiaaDoor
open Go.Hw Go.ChangeShapes Go.WideShapes Go.ChangeAt Go.RowKit Go.WideMaps Go.ChangeMaps

theorem maxLen_eq : Go.maxLen = 9223372036854775807 := rfl
theorem cellsH_of_each {H : Hp} {a : Addr} (f : Nat → Value) : ∀ (n i : Nat), (∀ j, i ≤ j → j < i + n → cellH H (a.add j) = some (f j)) → cellsH H a i n = some ((List.range n).map fun j => f (i + j))
  | 0, i, _ => rfl
  | n + 1, i, h => by
    unfold cellsH
    rw [h i (Nat.le_refl _) (by omega)]
    simp only
    rw [cellsH_of_each f n (i + 1) (fun j h1 h2 => h j (by omega) (by omega))]
    simp [List.range_succ_eq_map, Nat.add_assoc, Nat.add_comm 1]
theorem cellsOf_str : Tryd.prog.cellsOf 9 = 1 := by kernel_rfl
theorem B_data (s : ByteArray) : B s.data.toList = s := by cases s; simp [B]

theorem open_strV {H : Type} {enc : TypeId × Value → H} {W : World} {base : Nat} {v : Value} {d : DataW H} {p : List MemPlace} (hok : Value.okWide Tryd.prog W .any base 9 v) (h : DataW.Trod enc Tryd.prog W 0 (fun _ => true) true 9 v d p) :
    ∃ s : List UInt8, v = .string (B s) ∧ s.length ≤ 9223372036854775807 := by
  obtain ⟨s, rfl, rfl, rfl, hs⟩ := open_string uStr hok h
  exact ⟨s.data.toList, by rw [B_data], by rw [← maxLen_eq]; exact hs⟩

theorem open_strsV {H : Type} {enc : TypeId × Value → H} {W : World} {base : Nat} {v : Value} {d : DataW H} {p : List MemPlace} (hok : Value.okWide Tryd.prog W .any base 24 v) (h : DataW.Trod enc Tryd.prog W 0 (fun _ => true) true 24 v d p) :
    ∃ ws : List (List UInt8), StrsV W.heap v ws ∧ (∀ w ∈ ws, w.length ≤ 9223372036854775807) ∧ ws.length ≤ 9223372036854775807 := by
  obtain ⟨a0, len, cap, rfl⟩ := okWide_slice uStrs hok
  obtain ⟨fuel, hf⟩ := h
  rcases open_strings uStrs uStr cellsOf_str hf with ⟨hcs, _⟩ | ⟨a, len', cap', ss, hcs, _, hl, hm, hz, _, hcell, hsz⟩
  · simp [Value.cells] at hcs
    obtain ⟨rfl, rfl, rfl⟩ := hcs
    exact ⟨[], ⟨.inr (.inl ⟨0, rfl, rfl, rfl⟩), _, _, rfl⟩, by simp, by simp⟩
  · simp [Value.cells] at hcs
    obtain ⟨rfl, rfl, rfl⟩ := hcs
    simp only [if_true] at hz
    have hlen : ((ss.take len).map fun s => s.data.toList).length = len := by simp; omega
    refine ⟨(ss.take len).map fun s => s.data.toList, ⟨.inl ⟨a, cap, by rw [hlen], ?_⟩, _, _, by rw [hlen]⟩, ?_, ?_⟩
    · rw [hlen, Nat.mul_one, cellsH_of_each (fun j => .string (ss.getD j ByteArray.empty)) len 0 (fun j _ h2 => by rw [← cellH_eq]; exact hcell j (by omega))]
      congr 1
      apply List.ext_getElem
      · simp [strs]; omega
      · intro i h1 h2
        simp only [List.length_map, List.length_range] at h1
        simp [strs, B_data, List.getD, List.getElem?_eq_getElem (show i < ss.length by omega)]
    · intro w hw
      obtain ⟨s, hs, rfl⟩ := List.mem_map.1 hw
      rw [← maxLen_eq]
      exact hsz s (List.mem_of_mem_take hs)
    · rw [hlen, ← maxLen_eq]; omega
end Go.Proofs.YtoabcmhiaknjiaaDoor

/- What every law's row of this seat leans on. -/
set_option maxRecDepth 100000
set_option linter.unusedVariables false
namespace Go.Proofs.YtoabcmhiaknjiaaDoor
open Go.Hw Go.ChangeShapes Go.WideShapes Go.ChangeAt Go.RowKit Go.WideMaps Go.ChangeMaps

theorem own_knob : ownKnob Tryd.prog.godebug = none := by kernel_rfl
theorem laid_out : laidOutB Tryd.prog = true := by kernel_rfl

theorem g0_of {W : World} (h : W.ShapedOpen Tryd.prog) : G0 W.heap := by
  obtain ⟨m, hm⟩ := cell_of_shapedOpen_int (P := Tryd.prog) (g := 0) (t := 3) (zero := #[.int .i64 0]) (k := .i64) h (of_decide_eq_true (by kernel_rfl)) (by kernel_rfl) rfl (by kernel_rfl) (by kernel_rfl) Tryd.underlying3
  exact ⟨m, by rw [← cellH_eq]; exact hm⟩

theorem open_u8 {H : Type} {enc : TypeId × Value → H} {W : World} {base : Nat} {v : Value} {d : DataW H} {p : List MemPlace} (hok : Value.okWide Tryd.prog W .any base 5 v) (h : DataW.Trod enc Tryd.prog W 0 (fun _ => true) true 5 v d p) :
    ∃ c : UInt8, v = .int .u8 c.toNat := by
  obtain ⟨x, rfl, rfl, rfl, wx⟩ := open_int Tryd.underlying5 hok h
  have hx : 0 ≤ x ∧ x ≤ 255 := by simpa [Lit.wf, IntKind.min, IntKind.max, IntKind.signed, IntKind.bits] using wx
  refine ⟨UInt8.ofNat x.toNat, ?_⟩
  have : (UInt8.ofNat x.toNat).toNat = x.toNat := by simp; omega
  rw [this]
  congr 1
  omega

end Go.Proofs.YtoabcmhiaknjiaaDoor

/- A map of strings that came in, opened. -/
set_option maxRecDepth 100000
set_option linter.unusedVariables false
namespace Go.Proofs.YtoabcmhiaknjiaaDoor
open Go.Hw Go.ChangeShapes Go.WideShapes Go.ChangeAt Go.RowKit Go.WideMaps

theorem open_mapV {H : Type} {enc : TypeId × Value → H} {W : World} {base : Nat} {v : Value} {d : DataW H} {p : List MemPlace} (hok : Value.okWide Tryd.prog W .any base 22 v) (h : DataW.Trod enc Tryd.prog W 0 (fun _ => true) true 22 v d p) :
    ∃ l : Sym, MapA W.heap v l ∧ (∀ q ∈ l, q.1.length ≤ 9223372036854775807 ∧ q.2.length ≤ 9223372036854775807) ∧ l.length ≤ 9223372036854775807 := by
  obtain ⟨a, rfl⟩ := okWide_map uMS hok
  obtain ⟨fuel, hf⟩ := h
  rcases WideElems.open_map uMS hf with ⟨hcs, _⟩ | ⟨b, es, clock, n, rfl, hcs, hb, _, F, _⟩
  · simp [Value.cells] at hcs
    subst hcs
    exact ⟨[], .inl ⟨rfl, rfl⟩, by simp, by simp⟩
  · simp [Value.cells] at hcs
    subst hcs
    obtain ⟨s1, s2, s3⟩ := F.stamped
    have key : ∀ (l : List MapEntry), (∀ x ∈ l, ∃ y, WideElems.rd Tryd.prog 9 (WideElems.elemAt enc Tryd.prog W 0 (fun _ => true) true n 9) x = some y) →
        ∃ sy : Sym, (l.map fun e => (e.key, e.val)) = ((symV sy).map fun p => ((.string (B p.1) : Value), p.2)) ∧ (∀ q ∈ sy, q.1.length ≤ 9223372036854775807 ∧ q.2.length ≤ 9223372036854775807) ∧ sy.length = l.length := by
      intro l
      induction l with
      | nil => intro _; exact ⟨[], rfl, by simp, rfl⟩
      | cons x l ih =>
        intro hx
        obtain ⟨sy, h1, h2, h3⟩ := ih fun z hz => hx z (List.mem_cons_of_mem _ hz)
        obtain ⟨y, hy⟩ := hx x (List.mem_cons_self ..)
        obtain ⟨sk, hk, _, hkl⟩ := string_of_keyOf uStr (WideElems.rd_key hy)
        obtain ⟨z, hz, _⟩ := WideElems.rd_val hy
        obtain ⟨sv, hv, _, hvl⟩ := plainElem_string_inv uStr (elemAt_plainElem_string uStr hz)
        refine ⟨(sk.data.toList, sv.data.toList) :: sy, ?_, ?_, by simp [h3]⟩
        · rw [List.map_cons, h1, hk, hv]
          simp [symV, B_data]
        · intro q hq
          rcases List.mem_cons.1 hq with rfl | hq
          · rw [← maxLen_eq]; exact ⟨hkl, hvl⟩
          · exact h2 q hq
    obtain ⟨sy, h1, h2, h3⟩ := key es.toList F.reads
    refine ⟨sy, .inr ⟨b, es, clock, rfl, hb, h1, fun e he => s1 e (Array.mem_toList_iff.2 he), s2⟩, h2, ?_⟩
    have := F.size
    rw [maxLen_eq] at this
    simp at h3
    omega
end Go.Proofs.YtoabcmhiaknjiaaDoor
