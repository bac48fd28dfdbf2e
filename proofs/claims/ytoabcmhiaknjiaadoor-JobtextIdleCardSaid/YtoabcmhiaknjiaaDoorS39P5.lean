/- Contracts and laws that the claim leans on, part 5. -/
import Derived.Test.YtoabcmhiaknjiaaDoorS39P2
import Derived.Test.YtoabcmhiaknjiaaDoorS39P4
import Derived.Test.YtoabcmhiaknjiaaDoorProg
import Derived.Test.YtoabcmhiaknjiaaDoorS39P1
import Derived.Test.YtoabcmhiaknjiaaDoorS39P3
import Derived.Handed
import Derived.Carry
import Derived.ChangeShapes
import Derived.LaidLaws
import Derived.ProofKit
import Derived.Stop.Joined
import Derived.Lay
import Derived.SliceStrings
import Derived.ChangeMaps5
import Derived.Test.YtoabcmhiaknjiaaDoorRows
import Derived.Test.YtoabcmhiaknjiaaDoorCards
import Derived.Test.YtoabcmhiaknjiaaDoorTie
import Derived.Shelf.Vars
import Derived.MakeChecks
import Derived.SevenTiedAt
import Derived.JoinedOf
/- Contracts of jobtext: a line inside of a call. -/
set_option maxRecDepth 100000
set_option linter.unusedSimpArgs false
set_option linter.unusedVariables false
namespace Go.Proofs.YtoabcmhiaknjiaaDoor
open Go.Hw

theorem knownW_eq (w : List UInt8) : knownW w = (hndL.lookup w).isSome := by
  unfold knownW hndL
  simp only [List.lookup_cons, List.lookup_nil]
  cases w == [115, 101, 116] <;> simp only [Bool.true_or, Bool.false_or, Option.isSome_some]
  cases w == [112, 114, 111, 99] <;> simp only [Bool.true_or, Bool.false_or, Option.isSome_some]
  cases w == [101, 110, 100] <;> simp only [Bool.true_or, Bool.false_or, Option.isSome_some]
  cases w == [99, 97, 108, 108] <;> simp only [Bool.true_or, Bool.false_or, Option.isSome_some]
  cases w == [106, 111, 98] <;> simp only [Bool.true_or, Bool.false_or, Option.isSome_some]
  cases w == [115, 116, 101, 112] <;> simp only [Bool.true_or, Bool.false_or, Option.isSome_some]
  cases w == [100, 100] <;> rfl
theorem known_fun : (fun w => (hndL.lookup w).isSome) = knownW := funext fun w => (knownW_eq w).symm

theorem Rdr.stm {B0 R ms mp : Nat} {H H' : Hp} {s : RS} {out : List Stm} (h : Rdr B0 R ms mp H s) (k : FrJ B0 (fun _ => False) H H') (ho : RdrO B0 R ms mp H' out) : Rdr B0 R ms mp H' { s with out := out } := by
  have hm : ∀ (r : Nat) (l : List (List UInt8 × Value)), MapC H r l → MapC H' r l := fun r l hr => MapC.ko hr k fun es kk hh => by
    rcases hh.2 with ⟨c, f, h3 | h3⟩ | ⟨h3, _⟩
    · cases h3
    · cases h3
    · exact h3
  obtain ⟨ho', hs, ⟨l, hl, hf⟩, b1, b2, b3⟩ := h
  exact ⟨ho, hs.turn (fun l h => hm _ l h), ⟨l, hm _ _ hl, hf.imp fun p x ⟨e, mv, rv, h1, h2, hg, h3, h4, h5, h6⟩ => ⟨e, mv, rv, h1, hm _ _ h2, hg, h3, h4, h5, h6.frJ k⟩⟩, b1, b2, b3⟩

theorem quoteF_word : ∀ (n : Nat) (l acc : List UInt8), l.length = n → ∀ w r, quoteF l acc = some (w, r) → w.length + r.length ≤ acc.length + l.length := by
  intro n
  induction n using Nat.strongRecOn with
  | _ n ih =>
    intro l acc hn w r h
    unfold quoteF at h
    match l with
    | [] => cases h
    | c :: t =>
      simp only at h
      split at h
      · cases h
      · split at h
        · have := ih t.length (by subst hn; simp) t (acc ++ [c]) rfl w r h
          simp only [List.length_append, List.length_cons, List.length_nil] at this ⊢; omega
        · match t with
          | [] => simp only [Option.some.injEq, Prod.mk.injEq] at h; obtain ⟨rfl, rfl⟩ := h; simp
          | d :: r' =>
            simp only at h
            split at h
            · have := ih r'.length (by subst hn; simp only [List.length_cons]; omega) r' (acc ++ [39]) rfl w r h
              simp only [List.length_append, List.length_cons, List.length_nil] at this ⊢; omega
            · simp only [Option.some.injEq, Prod.mk.injEq] at h; obtain ⟨rfl, rfl⟩ := h; simp
theorem firstV_word (l : List UInt8) : (firstV l).1.length ≤ l.length ∧ (firstV l).2.1.length ≤ l.length := by
  by_cases hh : l.headD 0 = 39
  · match l, hh with
    | [], hh => exact ⟨by simp [firstV], by simp [firstV]⟩
    | c :: t, hh =>
      have hc : c = 39 := hh
      subst hc
      rw [firstV_quote]
      cases hq : quoteF t [] with
      | none => simp
      | some p =>
        obtain ⟨w, r⟩ := p
        have := quoteF_word _ _ _ rfl _ _ hq
        simp only [List.length_nil, Nat.zero_add] at this
        simp only [List.length_cons]
        omega
  · rw [firstV_plain hh]
    have e := congrArg List.length (List.takeWhile_append_dropWhile (p := fun b : UInt8 => !stopP b.toNat) (l := l))
    rw [List.length_append] at e
    simp only
    omega
theorem scanT_words : ∀ (n : Nat) (l : List UInt8) (acc ws : List (List UInt8)) (m : Nat), l.length ≤ n → l.length ≤ m → (∀ w ∈ acc, w.length ≤ m) → scanT l acc = some ws → ∀ w ∈ ws, w.length ≤ m
  | n, l, acc, ws, m, hn, hm, ha, h => by
    by_cases hl : l = []
    · subst hl
      rw [scanT_nil] at h; cases h; exact ha
    · by_cases h1 : (firstV l).2.2 = true
      · by_cases h2 : (firstV l).2.1 ≠ [] ∧ (firstV l).2.1.headD 0 ≠ 32
        · rw [scanT_bad acc hl (.inr h2)] at h; cases h
        · rw [scanT_step acc hl h1 h2] at h
          have hlt : (firstV l).2.1.length < l.length := firstV_len (w := (firstV l).1) (by rw [← h1])
          have hd := length_dropWhile_le blank (firstV l).2.1
          have hw := (firstV_word l).1
          match n, hn with
          | 0, hn => omega
          | n + 1, hn =>
            refine scanT_words n _ _ _ m (by omega) (by omega) ?_ h
            intro w hw'
            rcases List.mem_append.1 hw' with h3 | h3
            · exact ha w h3
            · simp at h3; subst h3; omega
      · rw [scanT_bad acc hl (.inl (by simpa using h1))] at h; cases h
theorem lineW_words {sym : List UInt8 → Option (List UInt8)} {t : List UInt8} {ws : List (List UInt8)} (h : lineW sym t = .ok ws) : ∀ w ∈ ws, w.length ≤ 1000 := by
  unfold lineW at h
  split at h
  · cases h; simp
  · split at h
    · have hb : (replR sym t).1.length ≤ 1000 := by
        unfold replR
        split
        · split
          · simp
          · simp; omega
        · simp
      cases hs : scanF (replR sym t).1 with
      | none => rw [hs] at h; cases h
      | some w =>
        rw [hs] at h
        cases h
        unfold scanF at hs
        have hd := length_dropWhile_le blank (replR sym t).1
        exact scanT_words _ _ _ _ 1000 (Nat.le_refl _) (by omega) (by simp) hs
    · cases h

theorem hnd_cases {w : List UInt8} {f : Nat} (h : hndL.lookup w = some (fnV f)) :
    (w = [115, 101, 116] ∧ f = 86) ∨ (w = [112, 114, 111, 99] ∧ f = 87) ∨ (w = [101, 110, 100] ∧ f = 88) ∨ (w = [99, 97, 108, 108] ∧ f = 89) ∨ (w ≠ [115, 101, 116] ∧ w ≠ [112, 114, 111, 99] ∧ w ≠ [101, 110, 100] ∧ w ≠ [99, 97, 108, 108] ∧ f = 90) := by
  have hf : ∀ {g : Nat}, some (fnV g) = some (fnV f) → f = g := fun e => by
    simp only [fnV, Option.some.injEq, Value.func.injEq, Fn.func.injEq, and_true] at e
    exact e.symm
  unfold hndL at h
  rw [List.lookup_cons] at h
  by_cases h1 : w = [115, 101, 116]
  · subst h1; exact .inl ⟨rfl, hf h⟩
  rw [show (w == [115, 101, 116]) = false by simpa using h1] at h
  simp only at h
  rw [List.lookup_cons] at h
  by_cases h2 : w = [112, 114, 111, 99]
  · subst h2; exact .inr (.inl ⟨rfl, hf h⟩)
  rw [show (w == [112, 114, 111, 99]) = false by simpa using h2] at h
  simp only at h
  rw [List.lookup_cons] at h
  by_cases h3 : w = [101, 110, 100]
  · subst h3; exact .inr (.inr (.inl ⟨rfl, hf h⟩))
  rw [show (w == [101, 110, 100]) = false by simpa using h3] at h
  simp only at h
  rw [List.lookup_cons] at h
  by_cases h4 : w = [99, 97, 108, 108]
  · subst h4; exact .inr (.inr (.inr (.inl ⟨rfl, hf h⟩)))
  rw [show (w == [99, 97, 108, 108]) = false by simpa using h4] at h
  refine .inr (.inr (.inr (.inr ⟨h1, h2, h3, h4, ?_⟩)))
  simp only at h
  rw [List.lookup_cons] at h
  cases h5 : w == [106, 111, 98] with
  | true => rw [h5] at h; exact hf h
  | false =>
    rw [h5] at h
    simp only at h
    rw [List.lookup_cons] at h
    cases h6 : w == [115, 116, 101, 112] with
    | true => rw [h6] at h; exact hf h
    | false =>
      rw [h6] at h
      simp only at h
      rw [List.lookup_cons] at h
      cases h7 : w == [100, 100] with
      | true => rw [h7] at h; exact hf h
      | false => rw [h7] at h; cases h

theorem callin_c {B0 R ms mp : Nat} {rv wv : Value} {call : List UInt8} {k : Nat} {t : List UInt8} {rest : List Row} {s : RS} {H : Hp} {K : Ending → Hp → Prop}
    (hR : Rdr B0 R ms mp H s) (hr : RowsV H rv ((k, t) :: rest)) (hw : ∃ a n c, wv = .slice a n c)
    (h : ∀ G, FrJ B0 (MM ms mp) H G → Rdr B0 R ms mp G s → K (.returned (.tuple #[.int .i64 0, .agg #[.int .i64 k, .int .i64 9]])) G) :
    HCall Tryd.prog 89 #[.pointer (some ⟨R, 0, none⟩), .agg #[rv, .string (B call), .bool true], wv] H K := by
  refine hcall mixed B89 (args := [.pointer (some ⟨R, 0, none⟩), .agg #[rv, .string (B call), .bool true], wv]) (by simp) ?_
  simp only [go_sem, reduceCtorEq, Nat.reduceEqDiff, Nat.reduceAdd, withc_some, withcs_some, cells_0, cells_s, Option.bind_some, Option.map_some, List.getElem?_toArray, List.getElem?_cons_zero, List.getElem?_cons_succ, Nat.add_zero, Nat.zero_add, Value.cells, splice, List.setIfInBounds_toArray, List.set_cons_zero, List.set_cons_succ, bfill_nil, bfill_cons, bstep_some, withO_some, List.take_zero, List.take_succ_cons, List.drop_zero, List.drop_succ_cons, List.cons_append, List.nil_append, List.append_nil, List.length_cons, List.length_nil, Nat.reduceLeDiff, Nat.le_refl, and_true, true_and, and_self, decide_true, decide_false, Bool.not_true, Bool.not_false, c89, r89_0, opA_alloc 79 ty79]
  refine box_kA fun b4 G1 e4 s1 h4 E1 => ?_
  simp only [go_sem, reduceCtorEq, Nat.reduceEqDiff, Nat.reduceAdd, withc_some, withcs_some, cells_0, cells_s, Option.bind_some, Option.map_some, List.getElem?_toArray, List.getElem?_cons_zero, List.getElem?_cons_succ, Nat.add_zero, Nat.zero_add, Value.cells, splice, List.setIfInBounds_toArray, List.set_cons_zero, List.set_cons_succ, bfill_nil, bfill_cons, bstep_some, withO_some, List.take_zero, List.take_succ_cons, List.drop_zero, List.drop_succ_cons, List.cons_append, List.nil_append, List.append_nil, List.length_cons, List.length_nil, Nat.reduceLeDiff, Nat.le_refl, and_true, true_and, and_self, decide_true, decide_false, Bool.not_true, Bool.not_false, opA_alloc 79 ty79]
  refine box_kA fun b7 G2 e7 s2 h7 E2 => ?_
  have E12 := E1.trans E2
  simp only [go_sem, reduceCtorEq, Nat.reduceEqDiff, Nat.reduceAdd, withc_some, withcs_some, cells_0, cells_s, Option.bind_some, Option.map_some, List.getElem?_toArray, List.getElem?_cons_zero, List.getElem?_cons_succ, Nat.add_zero, Nat.zero_add, Value.cells, splice, List.setIfInBounds_toArray, List.set_cons_zero, List.set_cons_succ, bfill_nil, bfill_cons, bstep_some, withO_some, List.take_zero, List.take_succ_cons, List.drop_zero, List.drop_succ_cons, List.cons_append, List.nil_append, List.append_nil, List.length_cons, List.length_nil, Nat.reduceLeDiff, Nat.le_refl, and_true, true_and, and_self, decide_true, decide_false, Bool.not_true, Bool.not_false, c89_32, r89_1, cell_of_blk (E2.get h4), c89_1, c89_0, r89_2, callA_fn0 pl91, fa82_2, ld4, ld82, opA_alloc 79 ty79]
  refine at_c (hr.ext E12) fun G3 E3 => ?_
  simp only [go_sem, reduceCtorEq, Nat.reduceEqDiff, Nat.reduceAdd, withc_some, withcs_some, cells_0, cells_s, Option.bind_some, Option.map_some, List.getElem?_toArray, List.getElem?_cons_zero, List.getElem?_cons_succ, Nat.add_zero, Nat.zero_add, Value.cells, splice, List.setIfInBounds_toArray, List.set_cons_zero, List.set_cons_succ, bfill_nil, bfill_cons, bstep_some, withO_some, List.take_zero, List.take_succ_cons, List.drop_zero, List.drop_succ_cons, List.cons_append, List.nil_append, List.append_nil, List.length_cons, List.length_nil, Nat.reduceLeDiff, Nat.le_refl, and_true, true_and, and_self, decide_true, decide_false, Bool.not_true, Bool.not_false, callA_fn0 pl91, fa82_2, ld4, ld82, opA_alloc 79 ty79]
  refine store_kA (E3.get h7) ty79 (k := fun G4 h8 k4 s4 => ?_)
  simp only [go_sem, reduceCtorEq, Nat.reduceEqDiff, Nat.reduceAdd, withc_some, withcs_some, cells_0, cells_s, Option.bind_some, Option.map_some, List.getElem?_toArray, List.getElem?_cons_zero, List.getElem?_cons_succ, Nat.add_zero, Nat.zero_add, Value.cells, splice, List.setIfInBounds_toArray, List.set_cons_zero, List.set_cons_succ, bfill_nil, bfill_cons, bstep_some, withO_some, List.take_zero, List.take_succ_cons, List.drop_zero, List.drop_succ_cons, List.cons_append, List.nil_append, List.append_nil, List.length_cons, List.length_nil, Nat.reduceLeDiff, Nat.le_refl, and_true, true_and, and_self, decide_true, decide_false, Bool.not_true, Bool.not_false, resW_cell, callA_fn0 pl91, fa82_2, ld4, ld82, opA_alloc 79 ty79]
  rw [rc79 (l := [.int .i64 k, .int .i64 9]) (by simp only [go_sem, reduceCtorEq, Nat.reduceEqDiff, Nat.reduceAdd, withc_some, withcs_some, cells_0, cells_s, Option.bind_some, Option.map_some, List.getElem?_toArray, List.getElem?_cons_zero, List.getElem?_cons_succ, Nat.add_zero, Nat.zero_add, Value.cells, splice, List.setIfInBounds_toArray, List.set_cons_zero, List.set_cons_succ, bfill_nil, bfill_cons, bstep_some, withO_some, List.take_zero, List.take_succ_cons, List.drop_zero, List.drop_succ_cons, List.cons_append, List.nil_append, List.append_nil, List.length_cons, List.length_nil, Nat.reduceLeDiff, Nat.le_refl, and_true, true_and, and_self, decide_true, decide_false, Bool.not_true, Bool.not_false, cell_of_blk h8, callA_fn0 pl91, fa82_2, ld4, ld82, opA_alloc 79 ty79])]
  have E4 : Ext H G4 := k4.two (E12.trans E3) (by omega)
  exact h G4 E4.ko (hR.ext E4)

theorem hfF_words {LI : List UInt8 → RS → Row → List Row → RS × HR} {inn : Bool} {call : List UInt8} {s : RS} {k : Nat} {rest : List Row} {w : List UInt8} {ws : List (List UInt8)} :
    hfF LI inn call s k rest (w :: ws) = if w = [115, 101, 116] then setF inn s k (w :: ws) else if w = [112, 114, 111, 99] then procF inn s k rest (w :: ws) else if w = [101, 110, 100] then (s, ⟨0, k, 9⟩) else if w = [99, 97, 108, 108] then callF LI inn s k (w :: ws)
      else ({ s with out := (stmF s.out call k rest (w :: ws)).1 }, (stmF s.out call k rest (w :: ws)).2) := by
  unfold hfF
  simp only [List.head?_cons, Option.some.injEq]

/-- A line: LI: what a line inside of a call comes to; the call's contract is handed in. -/
theorem line_any {B0 R ms mp kn : Nat} {rv : Value} {call : List UInt8} {inn : Bool} {k : Nat} {t : List UInt8} {rest : List Row} {s : RS} {H : Hp} {K : Ending → Hp → Prop} (LI : List UInt8 → RS → Row → List Row → RS × HR)
    (hR : Rdr B0 R ms mp H s) (hB0 : 0 < B0) (hBH : B0 ≤ H.size) (g : G0 H) (hkn : MapC H kn hndL) (hr : RowsV H rv ((k, t) :: rest)) (ht : t.length ≤ 1000000) (hlr : ∀ x ∈ rest, x.2.length ≤ 1000000) (hrl : rest.length ≤ 1000000) (hout : s.out.length ≤ 400)
    (hcall : ∀ (G : Hp) (wv : Value) (words : List (List UInt8)) (K2 : Ending → Hp → Prop), Ext H G → SlV G wv words → words.length ≤ 1000000 → (∀ w ∈ words, w.length ≤ 1000) → words.head? = some [99, 97, 108, 108] →
      (∀ G', FrJ B0 (MM ms mp) G G' → Rdr B0 R ms mp G' (callF LI inn s k words).1 → K2 (.returned (.tuple #[.int .i64 (callF LI inn s k words).2.n, .agg #[.int .i64 (callF LI inn s k words).2.line, .int .i64 (callF LI inn s k words).2.code]])) G') →
      HCall Tryd.prog 89 #[.pointer (some ⟨R, 0, none⟩), .agg #[rv, .string (B call), .bool inn], wv] G K2)
    (h : ∀ G, FrJ B0 (MM ms mp) H G → Rdr B0 R ms mp G (lineR s k t knownW (hfF LI inn call s k rest)).1 → K (.returned (.tuple #[.int .i64 (lineR s k t knownW (hfF LI inn call s k rest)).2.n, .agg #[.int .i64 (lineR s k t knownW (hfF LI inn call s k rest)).2.line, .int .i64 (lineR s k t knownW (hfF LI inn call s k rest)).2.code]])) G) :
    HCall Tryd.prog 63 #[.pointer (some ⟨R, 0, none⟩), .map (some kn), .agg #[rv, .string (B call), .bool inn]] H K := by
  refine line_c (hfF LI inn call s k rest) hR hB0 g hkn hr ht ?_ (by rw [known_fun]; exact h)
  intro w ws f hlw hlk G1 wv K3 E hwv hlen hk3
  have hwb := lineW_words hlw
  have hB1 : B0 ≤ G1.size := by have := E.size; omega
  rcases hnd_cases hlk with ⟨rfl, rfl⟩ | ⟨rfl, rfl⟩ | ⟨rfl, rfl⟩ | ⟨rfl, rfl⟩ | ⟨n1, n2, n3, n4, rfl⟩
  · rw [hfF_words, if_pos rfl] at hk3
    exact set_c (hR.ext E) hB1 (g.ext E) (hr.ext E) hwv hlen hwb hk3
  · rw [hfF_words, if_neg (by decide), if_pos rfl] at hk3
    exact proc_c (hR.ext E) hB1 (g.ext E) (hr.ext E) hrl hlr hwv hlen hwb hk3
  · rw [hfF_words, if_neg (by decide), if_neg (by decide), if_pos rfl] at hk3
    exact endh_c (hR.ext E) (hr.ext E) hk3
  · rw [hfF_words, if_neg (by decide), if_neg (by decide), if_neg (by decide), if_pos rfl] at hk3
    exact hcall G1 wv _ K3 E hwv hlen hwb rfl hk3
  · rw [hfF_words, if_neg n1, if_neg n2, if_neg n3, if_neg n4] at hk3
    exact statement_c (hR.ext E).out hB1 (hr.ext E) hrl (fun x hx => by have := hlr x hx; omega) hwv (by simp) hlen (by omega) fun G' f1 f2 => hk3 G' (f1.mono fun x o ⟨a, b⟩ => ⟨a, b.imp_right fun c => c.1.elim⟩) ((hR.ext E).stm f1 f2)
end Go.Proofs.YtoabcmhiaknjiaaDoor

set_option maxRecDepth 100000
namespace Go.Proofs.YtoabcmhiaknjiaaDoor
open Go.Hw
/-! ### 9 dasd/dasdlaw39.awake -/
def r9_0 : List O := [⟨some 0, .assign (.const (.bool false)), 4, none⟩]
def r9_1 : List O := [⟨some 9, .call { callee := .value (.func 10), args := #[.const (.string ⟨#[115, 116, 101, 112, 32, 83, 49, 32, 112, 114, 111, 103, 114, 97, 109, 32, 115, 111, 114, 116, 32, 112, 97, 114, 109, 32, 39, 98, 121, 32, 49, 32, 56, 39]⟩)], argTypes := #[9] }, 26, none⟩,
  ⟨some 8, .move (.tmp 9), 26, none⟩,
  ⟨some 10, .extract (.tmp 8) 0, 24, none⟩,
  ⟨some 11, .extract (.tmp 8) 1, 25, none⟩,
  ⟨some 1, .assign (.tmp 10), 24, none⟩,
  ⟨some 2, .assign (.tmp 11), 25, none⟩]
def r9_2 : List O := [⟨some 13, .makeMap 22 none, 22, none⟩,
  ⟨none, .insert 22 (.tmp 13) (.const (.string ⟨#[68, 65, 89]⟩)) (.const (.string ⟨#[55]⟩)), 0, none⟩,
  ⟨some 14, .move (.tmp 13), 22, none⟩,
  ⟨some 15, .call { callee := .value (.func 12), args := #[.const (.string ⟨#[100, 100, 32, 79, 85, 84, 32, 100, 97, 116, 97, 32, 80, 65, 89, 46, 68, 38, 68, 65, 89, 59, 32, 110, 101, 119]⟩), .tmp 14], argTypes := #[9, 22] }, 28, none⟩,
  ⟨some 12, .move (.tmp 15), 28, none⟩,
  ⟨some 16, .extract (.tmp 12) 0, 9, none⟩,
  ⟨some 17, .extract (.tmp 12) 1, 25, none⟩,
  ⟨some 3, .assign (.tmp 16), 9, none⟩,
  ⟨some 4, .assign (.tmp 17), 25, none⟩]
def r9_3 : List O := [⟨some 19, .call { callee := .value (.func 19), args := #[.const (.string ⟨#[115, 116, 101, 112, 32, 83, 49, 32, 112, 114, 111, 103, 114, 97, 109, 32, 99, 111, 112, 121, 10]⟩)], argTypes := #[9] }, 37, none⟩,
  ⟨some 18, .move (.tmp 19), 37, none⟩,
  ⟨some 20, .extract (.tmp 18) 0, 36, none⟩,
  ⟨some 21, .extract (.tmp 18) 1, 3, none⟩,
  ⟨some 22, .extract (.tmp 18) 2, 25, none⟩,
  ⟨some 5, .assign (.tmp 20), 36, none⟩,
  ⟨some 6, .assign (.tmp 21), 3, none⟩,
  ⟨some 7, .assign (.tmp 22), 25, none⟩]
def r9_4 : List O := [⟨some 23, .move (.tmp 2), 25, none⟩,
  ⟨some 24, .binOp .eql 25 (.tmp 23) (.const (.int .i64 0)) 25, 4, none⟩,
  ⟨some 25, .move (.tmp 24), 4, none⟩,
  ⟨some 26, .move (.tmp 1), 24, some (25, true)⟩,
  ⟨some 27, .call { callee := .builtin .len, args := #[.tmp 26], argTypes := #[24] }, 3, some (25, true)⟩,
  ⟨some 28, .binOp .eql 3 (.tmp 27) (.const (.int .i64 6)) 3, 4, some (25, true)⟩,
  ⟨some 29, .pick (.tmp 25) (.tmp 28) (.const (.bool false)), 4, none⟩,
  ⟨some 30, .move (.tmp 29), 4, none⟩,
  ⟨some 31, .move (.tmp 1), 24, some (30, true)⟩,
  ⟨some 32, .indexAddr 24 (.tmp 31) (.const (.int .i64 5)), 0, some (30, true)⟩,
  ⟨some 33, .load 9 (.tmp 32), 9, some (30, true)⟩,
  ⟨some 34, .binOp .eql 9 (.tmp 33) (.const (.string ⟨#[98, 121, 32, 49, 32, 56]⟩)) 9, 4, some (30, true)⟩,
  ⟨some 35, .pick (.tmp 30) (.tmp 34) (.const (.bool false)), 4, none⟩,
  ⟨some 36, .move (.tmp 35), 4, none⟩,
  ⟨some 37, .move (.tmp 4), 25, some (36, true)⟩,
  ⟨some 38, .binOp .eql 25 (.tmp 37) (.const (.int .i64 0)) 25, 4, some (36, true)⟩,
  ⟨some 39, .pick (.tmp 36) (.tmp 38) (.const (.bool false)), 4, none⟩,
  ⟨some 40, .move (.tmp 39), 4, none⟩,
  ⟨some 41, .move (.tmp 3), 9, some (40, true)⟩,
  ⟨some 42, .binOp .eql 9 (.tmp 41) (.const (.string ⟨#[100, 100, 32, 79, 85, 84, 32, 100, 97, 116, 97, 32, 80, 65, 89, 46, 68, 55, 32, 110, 101, 119]⟩)) 9, 4, some (40, true)⟩,
  ⟨some 43, .pick (.tmp 40) (.tmp 42) (.const (.bool false)), 4, none⟩,
  ⟨some 44, .move (.tmp 43), 4, none⟩,
  ⟨some 45, .move (.tmp 7), 25, some (44, true)⟩,
  ⟨some 46, .binOp .eql 25 (.tmp 45) (.const (.int .i64 0)) 25, 4, some (44, true)⟩,
  ⟨some 47, .pick (.tmp 44) (.tmp 46) (.const (.bool false)), 4, none⟩,
  ⟨some 48, .move (.tmp 47), 4, none⟩,
  ⟨some 49, .move (.tmp 6), 3, some (48, true)⟩,
  ⟨some 50, .binOp .eql 3 (.tmp 49) (.const (.int .i64 0)) 3, 4, some (48, true)⟩,
  ⟨some 51, .pick (.tmp 48) (.tmp 50) (.const (.bool false)), 4, none⟩,
  ⟨some 52, .move (.tmp 51), 4, none⟩,
  ⟨some 53, .move (.tmp 5), 36, some (52, true)⟩,
  ⟨some 54, .call { callee := .builtin .len, args := #[.tmp 53], argTypes := #[36] }, 3, some (52, true)⟩,
  ⟨some 55, .binOp .eql 3 (.tmp 54) (.const (.int .i64 1)) 3, 4, some (52, true)⟩,
  ⟨some 56, .pick (.tmp 52) (.tmp 55) (.const (.bool false)), 4, none⟩,
  ⟨some 57, .move (.tmp 56), 4, none⟩,
  ⟨some 58, .move (.tmp 5), 36, some (57, true)⟩,
  ⟨some 59, .indexAddr 36 (.tmp 58) (.const (.int .i64 0)), 0, some (57, true)⟩,
  ⟨some 60, .fieldAddr 40 (.tmp 59) 0, 0, some (57, true)⟩,
  ⟨some 61, .load 3 (.tmp 60), 3, some (57, true)⟩,
  ⟨some 62, .binOp .eql 3 (.tmp 61) (.const (.int .i64 1)) 3, 4, some (57, true)⟩,
  ⟨some 63, .pick (.tmp 57) (.tmp 62) (.const (.bool false)), 4, none⟩,
  ⟨some 64, .move (.tmp 63), 4, none⟩,
  ⟨some 65, .call { callee := .value (.func 15), args := #[.const (.string ⟨#[97, 32, 98]⟩)], argTypes := #[9] }, 9, some (64, true)⟩,
  ⟨some 66, .binOp .eql 9 (.tmp 65) (.const (.string ⟨#[39, 97, 32, 98, 39]⟩)) 9, 4, some (64, true)⟩,
  ⟨some 67, .pick (.tmp 64) (.tmp 66) (.const (.bool false)), 4, none⟩,
  ⟨some 0, .assign (.tmp 67), 4, none⟩]
def c9_0 : A := .seq (.reg r9_4 [0]) .ret
def c9_1 : A := .seq (.reg r9_3 [1, 2, 3, 4, 5, 6, 7]) c9_0
def c9_2 : A := .seq (.reg r9_2 [1, 2, 3, 4]) c9_1
def c9_3 : A := .seq (.reg r9_1 [1, 2]) c9_2
def c9 : A := .seq (.reg r9_0 []) c9_3
theorem B9 : Body Tryd.prog 9 68 [.tmp 0] c9 := ⟨by kernel_rfl, _, _, [(0, []), (1, [1, 2]), (2, [1, 2, 3, 4]), (3, [1, 2, 3, 4, 5, 6, 7]), (4, [0])], Tryd.func9, rfl, rfl, rfl, by kernel_rfl⟩
/-! ### 7 dasd/dasdlaw39.JobtextWords -/
/-! ### 3 dasd/dasdlaw39.JobtextLines -/
def r3_0 : List O := [⟨some 4, .assign (.const (.bool false)), 4, none⟩]
def r3_1 : List O := [⟨some 15, .call { callee := .value (.func 9), args := #[], argTypes := #[] }, 4, none⟩,
  ⟨some 16, .unOp .not 4 (.tmp 15), 4, none⟩]
def r3_2 : List O := [⟨some 4, .assign (.const (.bool false)), 4, none⟩]
def r3_3 : List O := [⟨some 17, .move (.tmp 0), 9, none⟩,
  ⟨some 18, .call { callee := .builtin .len, args := #[.tmp 17], argTypes := #[9] }, 3, none⟩,
  ⟨some 19, .binOp .gtr 3 (.tmp 18) (.const (.int .i64 1200)) 3, 4, none⟩,
  ⟨some 20, .move (.tmp 19), 4, none⟩,
  ⟨some 21, .move (.tmp 1), 22, some (20, false)⟩,
  ⟨some 22, .call { callee := .builtin .len, args := #[.tmp 21], argTypes := #[22] }, 3, some (20, false)⟩,
  ⟨some 23, .binOp .gtr 3 (.tmp 22) (.const (.int .i64 8)) 3, 4, some (20, false)⟩,
  ⟨some 24, .pick (.tmp 20) (.const (.bool true)) (.tmp 23), 4, none⟩]
def r3_4 : List O := [⟨some 4, .assign (.const (.bool true)), 4, none⟩]
def r3_5 : List O := [⟨some 25, .move (.tmp 1), 22, none⟩,
  ⟨some 26, .range 22 (.tmp 25), 0, none⟩]
def r3_6 : List O := [⟨some 27, .next (.tmp 26) false, 0, none⟩,
  ⟨some 28, .extract (.tmp 27) 0, 4, none⟩]
def r3_7 : List O := [⟨some 29, .entry (.tmp 26), 0, none⟩,
  ⟨some 30, .extract (.tmp 29) 0, 9, none⟩,
  ⟨some 31, .extract (.tmp 29) 1, 9, none⟩,
  ⟨some 5, .assign (.tmp 30), 9, none⟩,
  ⟨some 6, .assign (.tmp 31), 9, none⟩]
def r3_8 : List O := [⟨some 32, .move (.tmp 5), 9, none⟩,
  ⟨some 33, .call { callee := .builtin .len, args := #[.tmp 32], argTypes := #[9] }, 3, none⟩,
  ⟨some 34, .binOp .gtr 3 (.tmp 33) (.const (.int .i64 20)) 3, 4, none⟩,
  ⟨some 35, .move (.tmp 34), 4, none⟩,
  ⟨some 36, .move (.tmp 6), 9, some (35, false)⟩,
  ⟨some 37, .call { callee := .builtin .len, args := #[.tmp 36], argTypes := #[9] }, 3, some (35, false)⟩,
  ⟨some 38, .binOp .gtr 3 (.tmp 37) (.const (.int .i64 1200)) 3, 4, some (35, false)⟩,
  ⟨some 39, .pick (.tmp 35) (.const (.bool true)) (.tmp 38), 4, none⟩]
def r3_9 : List O := [⟨some 4, .assign (.const (.bool true)), 4, none⟩]
def r3_10 : List O := [⟨some 41, .move (.tmp 0), 9, none⟩,
  ⟨some 42, .call { callee := .value (.func 10), args := #[.tmp 41], argTypes := #[9] }, 26, none⟩,
  ⟨some 40, .move (.tmp 42), 26, none⟩,
  ⟨some 43, .extract (.tmp 40) 0, 24, none⟩,
  ⟨some 44, .extract (.tmp 40) 1, 25, none⟩,
  ⟨some 7, .assign (.tmp 43), 24, none⟩,
  ⟨some 8, .assign (.tmp 44), 25, none⟩]
def r3_11 : List O := [⟨some 46, .move (.tmp 0), 9, none⟩,
  ⟨some 47, .call { callee := .value (.func 11), args := #[.tmp 46], argTypes := #[9] }, 26, none⟩,
  ⟨some 45, .move (.tmp 47), 26, none⟩,
  ⟨some 48, .extract (.tmp 45) 0, 24, none⟩,
  ⟨some 49, .extract (.tmp 45) 1, 25, none⟩,
  ⟨some 9, .assign (.tmp 48), 24, none⟩,
  ⟨some 10, .assign (.tmp 49), 25, none⟩]
def r3_12 : List O := [⟨some 51, .move (.tmp 0), 9, none⟩,
  ⟨some 52, .move (.tmp 1), 22, none⟩,
  ⟨some 53, .call { callee := .value (.func 12), args := #[.tmp 51, .tmp 52], argTypes := #[9, 22] }, 28, none⟩,
  ⟨some 50, .move (.tmp 53), 28, none⟩,
  ⟨some 54, .extract (.tmp 50) 0, 9, none⟩,
  ⟨some 55, .extract (.tmp 50) 1, 25, none⟩,
  ⟨some 11, .assign (.tmp 54), 9, none⟩,
  ⟨some 12, .assign (.tmp 55), 25, none⟩]
def r3_13 : List O := [⟨some 57, .move (.tmp 0), 9, none⟩,
  ⟨some 58, .move (.tmp 1), 22, none⟩,
  ⟨some 59, .call { callee := .value (.func 13), args := #[.tmp 57, .tmp 58], argTypes := #[9, 22] }, 28, none⟩,
  ⟨some 56, .move (.tmp 59), 28, none⟩,
  ⟨some 60, .extract (.tmp 56) 0, 9, none⟩,
  ⟨some 61, .extract (.tmp 56) 1, 25, none⟩,
  ⟨some 13, .assign (.tmp 60), 9, none⟩,
  ⟨some 14, .assign (.tmp 61), 25, none⟩]
def r3_14 : List O := [⟨some 62, .move (.tmp 7), 24, none⟩,
  ⟨some 63, .move (.tmp 9), 24, none⟩,
  ⟨some 64, .call { callee := .value (.func 14), args := #[.tmp 62, .tmp 63], argTypes := #[24, 24] }, 4, none⟩,
  ⟨some 65, .move (.tmp 64), 4, none⟩,
  ⟨some 66, .move (.tmp 8), 25, some (65, true)⟩,
  ⟨some 67, .move (.tmp 10), 25, some (65, true)⟩,
  ⟨some 68, .binOp .eql 25 (.tmp 66) (.tmp 67) 25, 4, some (65, true)⟩,
  ⟨some 69, .pick (.tmp 65) (.tmp 68) (.const (.bool false)), 4, none⟩,
  ⟨some 70, .move (.tmp 69), 4, none⟩,
  ⟨some 71, .move (.tmp 11), 9, some (70, true)⟩,
  ⟨some 72, .move (.tmp 13), 9, some (70, true)⟩,
  ⟨some 73, .binOp .eql 9 (.tmp 71) (.tmp 72) 9, 4, some (70, true)⟩,
  ⟨some 74, .pick (.tmp 70) (.tmp 73) (.const (.bool false)), 4, none⟩,
  ⟨some 75, .move (.tmp 74), 4, none⟩,
  ⟨some 76, .move (.tmp 12), 25, some (75, true)⟩,
  ⟨some 77, .move (.tmp 14), 25, some (75, true)⟩,
  ⟨some 78, .binOp .eql 25 (.tmp 76) (.tmp 77) 25, 4, some (75, true)⟩,
  ⟨some 79, .pick (.tmp 75) (.tmp 78) (.const (.bool false)), 4, none⟩,
  ⟨some 80, .move (.tmp 79), 4, none⟩,
  ⟨some 81, .move (.tmp 0), 9, some (80, true)⟩,
  ⟨some 82, .call { callee := .value (.func 15), args := #[.tmp 81], argTypes := #[9] }, 9, some (80, true)⟩,
  ⟨some 83, .move (.tmp 0), 9, some (80, true)⟩,
  ⟨some 84, .call { callee := .value (.func 16), args := #[.tmp 83], argTypes := #[9] }, 9, some (80, true)⟩,
  ⟨some 85, .binOp .eql 9 (.tmp 82) (.tmp 84) 9, 4, some (80, true)⟩,
  ⟨some 86, .pick (.tmp 80) (.tmp 85) (.const (.bool false)), 4, none⟩,
  ⟨some 4, .assign (.tmp 86), 4, none⟩]
def c3_0 : A := .seq (.reg r3_2 [4]) .ret
def c3_1 : A := .cond (.tmp 16) c3_0 .skip
def c3_2 : A := .seq (.reg r3_4 [4]) .ret
def c3_3 : A := .cond (.tmp 24) c3_2 .skip
def c3_4 : A := .seq (.reg r3_9 [4]) .ret
def c3_5 : A := .cond (.tmp 39) c3_4 .skip
def c3_6 : A := .seq (.reg r3_8 [0, 1, 26, 39]) c3_5
def c3_7 : A := .seq (.reg r3_7 [0, 1, 5, 6, 26]) c3_6
def c3_8 : A := .block 1 c3_7
def c3_9 : A := .seq (.cond (.tmp 28) .skip (.exit 0)) (.seq (.keep [0, 1, 26]) c3_8)
def c3_10 : A := .seq (.reg r3_6 [0, 1, 26, 28]) c3_9
def c3_11 : A := .seq c3_10 (.keep [0, 1, 26])
def c3_12 : A := .loop c3_11
def c3_13 : A := .block 0 c3_12
def c3_14 : A := .seq (.reg r3_14 [4]) .ret
def c3_15 : A := .seq (.reg r3_13 [0, 7, 8, 9, 10, 11, 12, 13, 14]) c3_14
def c3_16 : A := .seq (.reg r3_12 [0, 1, 7, 8, 9, 10, 11, 12]) c3_15
def c3_17 : A := .seq (.reg r3_11 [0, 1, 7, 8, 9, 10]) c3_16
def c3_18 : A := .seq (.reg r3_10 [0, 1, 7, 8]) c3_17
def c3_19 : A := .seq (.seq (.reg r3_5 [0, 1, 26]) c3_13) c3_18
def c3_20 : A := .seq (.seq (.reg r3_3 [0, 1, 24]) c3_3) (.seq (.keep [0, 1]) c3_19)
def c3_21 : A := .seq (.seq (.reg r3_1 [0, 1, 16]) c3_1) (.seq (.keep [0, 1]) c3_20)
def c3 : A := .seq (.reg r3_0 [0, 1]) c3_21
/-! ### 4 dasd/dasdlaw39.JobtextSymbols -/
end Go.Proofs.YtoabcmhiaknjiaaDoor

/- The example that every law of chapter 39 checks first. -/
set_option maxRecDepth 100000
set_option linter.unusedSimpArgs false
set_option linter.unusedVariables false
namespace Go.Proofs.YtoabcmhiaknjiaaDoor
open Go.Hw

theorem exStep_row : rowsFrom 0 (linesF exText) = [(1, exStep)] := by rw [exText_lines]; rfl
theorem LF0_step (s : RS) (hs : s.syms = []) (ho : s.out.length < 400) : LF0 s (1, exStep) [] = ({ s with out := s.out ++ [⟨1, [], [[115, 116, 101, 112], [83, 49], [112, 114, 111, 103, 114, 97, 109], [99, 111, 112, 121]], []⟩] }, ⟨0, 0, 0⟩) := by
  unfold LF0 lineR
  rw [hs, exStep_word]
  have e : stmF s.out [] 1 [] [[115, 116, 101, 112], [83, 49], [112, 114, 111, 103, 114, 97, 109], [99, 111, 112, 121]] = (s.out ++ [⟨1, [], [[115, 116, 101, 112], [83, 49], [112, 114, 111, 103, 114, 97, 109], [99, 111, 112, 121]], []⟩], ⟨0, 0, 0⟩) := by
    unfold stmF
    rw [if_neg (by omega), if_neg (by decide)]
  simp only [e]
  rw [if_pos (by decide)]
theorem exText_exp : expandF LF0 exText = ([⟨1, [], [[115, 116, 101, 112], [83, 49], [112, 114, 111, 103, 114, 97, 109], [99, 111, 112, 121]], []⟩], 0, 0) := by
  unfold expandF
  rw [exStep_row, exText_lines]
  rw [if_neg (by decide)]
  simp only [List.length_singleton, readT, LF0_step ⟨[], [], []⟩ rfl (by decide), if_true]
  rfl

theorem stmF_len {out : List Stm} {call : List UInt8} {k : Nat} {rest : List Row} {words : List (List UInt8)} (h : out.length ≤ 400) : (stmF out call k rest words).1.length ≤ 400 := by
  unfold stmF
  split
  · exact h
  · split
    · split
      · exact h
      · simp; omega
    · simp; omega

/-- A line that is a statement. -/
theorem LF0_line {B0 R ms mp kn k : Nat} {s : RS} {G : Hp} {rv : Value} {t w : List UInt8} {ws : List (List UInt8)} {rest : List Row} {K2 : Ending → Hp → Prop} (hB0 : 0 < B0) (h1 : s.syms = []) (h2 : s.out.length ≤ 400) (hBG : B0 ≤ G.size) (hg : G0 G) (hrd : Rdr B0 R ms mp G s) (hmk : MapC G kn hndL) (hrv : RowsV G rv ((k, t) :: rest))
    (hrl : rest.length ≤ 1000000) (ht : t.length ≤ 1000000) (hlr : ∀ x ∈ rest, x.2.length ≤ 1000000000) (hw : lineW (fun x => List.lookup x ([] : List (List UInt8 × List UInt8))) t = .ok (w :: ws)) (hlw : hndL.lookup w = some (fnV 90))
    (hk : ∀ G', FrJ B0 (MM ms mp) G G' → Rdr B0 R ms mp G' (LF0 s (k, t) rest).1 → K2 (.returned (.tuple #[.int .i64 (LF0 s (k, t) rest).2.n, .agg #[.int .i64 (LF0 s (k, t) rest).2.line, .int .i64 (LF0 s (k, t) rest).2.code]])) G') :
    HCall Tryd.prog 63 #[.pointer (some ⟨R, 0, none⟩), .map (some kn), .agg #[rv, .string (B []), .bool false]] G K2 := by
  refine line_c (fun ws => ({ s with out := (stmF s.out [] k rest ws).1 }, (stmF s.out [] k rest ws).2)) hrd hB0 hg hmk hrv ht ?_ ?_
  · intro w' ws' f hl hlk G1 wv K3 E hwv hlen hk3
    rw [h1, hw] at hl
    simp only [Except.ok.injEq, List.cons.injEq] at hl
    obtain ⟨rfl, rfl⟩ := hl
    have hf : f = 90 := by
      rw [hlw] at hlk
      simp only [fnV, Option.some.injEq, Value.func.injEq, Fn.func.injEq, and_true] at hlk
      exact hlk.symm
    subst hf
    exact statement_c (hrd.ext E).out (by have := E.size; omega) (hrv.ext E) hrl hlr hwv (by simp) hlen (by omega) fun G' f1 f2 => hk3 G' (f1.mono fun x o ⟨a, b⟩ => ⟨a, b.imp_right fun c => c.1.elim⟩) ((hrd.ext E).stm f1 f2)
  · rw [known_fun]
    exact hk

theorem exText_c {H : Hp} {K : Ending → Hp → Prop} (g : G0 H) (h : ∀ G v, Ext H G → StmsV G v [⟨1, [], [[115, 116, 101, 112], [83, 49], [112, 114, 111, 103, 114, 97, 109], [99, 111, 112, 121]], []⟩] → K (.returned (.tuple #[v, .int .i64 0, .int .i64 0])) G) :
    HCall Tryd.prog 19 #[.string (B exText)] H K := by
  refine expand_c LF0 (fun s => s.syms = [] ∧ s.out.length ≤ 400) (fun r => r = [(1, exStep)] ∨ r = []) g (by decide) ⟨rfl, by decide⟩ (.inl exStep_row) ?_ ?_ ?_
  · rintro s x rest ⟨h1, h2⟩ hr _
    rcases hr with hr | hr
    · simp only [List.cons.injEq] at hr
      obtain ⟨rfl, rfl⟩ := hr
      have e : LF0 s (1, exStep) [] = ({ s with out := (stmF s.out [] 1 [] [[115, 116, 101, 112], [83, 49], [112, 114, 111, 103, 114, 97, 109], [99, 111, 112, 121]]).1 }, (stmF s.out [] 1 [] [[115, 116, 101, 112], [83, 49], [112, 114, 111, 103, 114, 97, 109], [99, 111, 112, 121]]).2) := by
        unfold LF0 lineR
        rw [h1, exStep_word]
        simp only
        rw [if_pos (by decide)]
      rw [e]
      refine ⟨⟨h1, stmF_len h2⟩, ?_, .inr (by simp)⟩
      unfold stmF
      split
      · exact Nat.le_refl _
      · rw [if_neg (by decide)]; exact Nat.le_refl _
    · cases hr
  · rintro B0 R ms mp s G rv k t rest kn K2 hB0 _ ⟨h1, h2⟩ hrw hBG hg hrd hmk hrv hrl hk
    rcases hrw with hrw | hrw
    · simp only [List.cons.injEq, Prod.mk.injEq] at hrw
      obtain ⟨⟨rfl, rfl⟩, rfl⟩ := hrw
      exact LF0_line hB0 h1 h2 hBG hg hrd hmk hrv hrl (by decide) (by simp) exStep_word rfl hk
    · cases hrw
  · rw [exText_exp]
    intro G v e hs _
    exact h G v e hs

theorem awake_c {H : Hp} {K : Ending → Hp → Prop} (g : G0 H) (h : ∀ G, Ext H G → K (.returned (.bool true)) G) : HCall Tryd.prog 9 #[] H K := by
  refine hcall mixed B9 (args := []) (by simp) ?_
  simp only [go_sem, reduceCtorEq, Nat.reduceEqDiff, Nat.reduceAdd, withc_some, withcs_some, cells_0, cells_s, Option.bind_some, Option.map_some, List.getElem?_toArray, List.getElem?_cons_zero, List.getElem?_cons_succ, Nat.add_zero, Nat.zero_add, Value.cells, splice, List.setIfInBounds_toArray, List.set_cons_zero, List.set_cons_succ, bfill_nil, bfill_cons, bstep_some, withO_some, List.take_zero, List.take_succ_cons, List.drop_zero, List.drop_succ_cons, List.cons_append, List.nil_append, List.append_nil, List.length_cons, List.length_nil, Nat.reduceLeDiff, Nat.le_refl, and_true, true_and, and_self, decide_true, decide_false, Bool.not_true, Bool.not_false, c9, r9_0, c9_3, r9_1, callA_fn0 pl10]
  refine scan exScan H (by decide) fun G1 v e E1 hs => ?_
  unfold ScanR at hs
  rw [exScan_eq] at hs
  obtain ⟨rfl, own⟩ := hs
  obtain ⟨va, vc, rfl⟩ := own.form
  have own' : SlV G1 _ _ := SlE.own own
  simp only [go_sem, reduceCtorEq, Nat.reduceEqDiff, Nat.reduceAdd, withc_some, withcs_some, cells_0, cells_s, Option.bind_some, Option.map_some, List.getElem?_toArray, List.getElem?_cons_zero, List.getElem?_cons_succ, Nat.add_zero, Nat.zero_add, Value.cells, splice, List.setIfInBounds_toArray, List.set_cons_zero, List.set_cons_succ, bfill_nil, bfill_cons, bstep_some, withO_some, List.take_zero, List.take_succ_cons, List.drop_zero, List.drop_succ_cons, List.cons_append, List.nil_append, List.append_nil, List.length_cons, List.length_nil, Nat.reduceLeDiff, Nat.le_refl, and_true, true_and, and_self, decide_true, decide_false, Bool.not_true, Bool.not_false, c9_2, r9_2, opA_makeMap, opA_insert, B_lit, callA_fn0 pl10, callA_fn0 pl12]
  have m0 : MapC (G1.push (.map #[] 0)) G1.size [] := MapC.new
  have e0 : Ext G1 (G1.push (.map #[] 0)) := Ext.push _ _
  generalize G1.push (.map #[] 0) = G2 at *
  generalize hm : G1.size = m at *
  refine mupA_ok Tryd.underlying22 uStr m0 fun G3 m1 k1 => ?_
  have e1 : Ext G1 G3 := k1.two e0 (by omega)
  simp only [go_sem, reduceCtorEq, Nat.reduceEqDiff, Nat.reduceAdd, withc_some, withcs_some, cells_0, cells_s, Option.bind_some, Option.map_some, List.getElem?_toArray, List.getElem?_cons_zero, List.getElem?_cons_succ, Nat.add_zero, Nat.zero_add, Value.cells, splice, List.setIfInBounds_toArray, List.set_cons_zero, List.set_cons_succ, bfill_nil, bfill_cons, bstep_some, withO_some, List.take_zero, List.take_succ_cons, List.drop_zero, List.drop_succ_cons, List.cons_append, List.nil_append, List.append_nil, List.length_cons, List.length_nil, Nat.reduceLeDiff, Nat.le_refl, and_true, true_and, and_self, decide_true, decide_false, Bool.not_true, Bool.not_false, callA_fn0 pl10, callA_fn0 pl12]
  refine replace_c exRepl (.map (some m)) [([68, 65, 89], [55])] G3 (by decide) (by decide) (g.ext (E1.trans e1)) (.inr ⟨m, rfl, m1.o⟩) fun G4 E4 => ?_
  rw [show replR (fun x => List.lookup x [([68, 65, 89], [55])]) exRepl = ([100, 100, 32, 79, 85, 84, 32, 100, 97, 116, 97, 32, 80, 65, 89, 46, 68, 55, 32, 110, 101, 119], 0) from exRepl_eq]
  simp only [go_sem, reduceCtorEq, Nat.reduceEqDiff, Nat.reduceAdd, withc_some, withcs_some, cells_0, cells_s, Option.bind_some, Option.map_some, List.getElem?_toArray, List.getElem?_cons_zero, List.getElem?_cons_succ, Nat.add_zero, Nat.zero_add, Value.cells, splice, List.setIfInBounds_toArray, List.set_cons_zero, List.set_cons_succ, bfill_nil, bfill_cons, bstep_some, withO_some, List.take_zero, List.take_succ_cons, List.drop_zero, List.drop_succ_cons, List.cons_append, List.nil_append, List.append_nil, List.length_cons, List.length_nil, Nat.reduceLeDiff, Nat.le_refl, and_true, true_and, and_self, decide_true, decide_false, Bool.not_true, Bool.not_false, c9_1, r9_3, callA_fn0 pl10, callA_fn0 pl12, callA_fn0 pl19]
  refine exText_c (g.ext (E1.trans (e1.trans E4))) fun G5 v5 E5 hst => ?_
  obtain ⟨cells, hsl, hst⟩ := hst
  obtain ⟨b5, off5, vc5, rfl, hcell⟩ := hsl.cell (i := 0) (by decide)
  obtain ⟨u, hu, hcell⟩ := hcell 0 (by decide)
  obtain ⟨wv, dv, rest, rfl, _⟩ := hst
  cases hu
  replace hcell : cellH G5 ⟨b5, off5, none⟩ = some (.int .i64 ((1 : Nat) : Int)) := hcell
  have E15 := e1.trans (E4.trans E5)
  obtain ⟨wb, woff, wc', ew, w1⟩ := (own'.ext E15).at (i := 5) (w := [98, 121, 32, 49, 32, 56]) rfl
  cases ew
  simp only [go_sem, reduceCtorEq, Nat.reduceEqDiff, Nat.reduceAdd, withc_some, withcs_some, cells_0, cells_s, Option.bind_some, Option.map_some, List.getElem?_toArray, List.getElem?_cons_zero, List.getElem?_cons_succ, Nat.add_zero, Nat.zero_add, Value.cells, splice, List.setIfInBounds_toArray, List.set_cons_zero, List.set_cons_succ, bfill_nil, bfill_cons, bstep_some, withO_some, List.take_zero, List.take_succ_cons, List.drop_zero, List.drop_succ_cons, List.cons_append, List.nil_append, List.append_nil, List.length_cons, List.length_nil, Nat.reduceLeDiff, Nat.le_refl, and_true, true_and, and_self, decide_true, decide_false, Bool.not_true, Bool.not_false, c9_0, r9_4, List.length_cons, List.length_nil, show decide (((0 + 1 + 1 + 1 + 1 + 1 + 1 : Nat) : Int) = 6) = true from rfl, show decide ((0 : Int) = 0) = true from rfl, show decide (((0 + 1 : Nat) : Int) = 1) = true from rfl, callA_fn0 pl10, callA_fn0 pl12, callA_fn0 pl15, callA_fn0 pl19, fa40_0, ld3, ld9, len_slice Tryd.underlying24, len_slice Tryd.underlying36]
  rw [iadA_slice uStrs ty9 (by omega) (by simp)]
  have hb1 : (([98, 121, 32, 49, 32, 56] : List UInt8) == [98, 121, 32, 49, 32, 56]) = true := rfl
  have hb2 : (([100, 100, 32, 79, 85, 84, 32, 100, 97, 116, 97, 32, 80, 65, 89, 46, 68, 55, 32, 110, 101, 119] : List UInt8) == [100, 100, 32, 79, 85, 84, 32, 100, 97, 116, 97, 32, 80, 65, 89, 46, 68, 55, 32, 110, 101, 119]) = true := rfl
  simp only [go_sem, reduceCtorEq, Nat.reduceEqDiff, Nat.reduceAdd, withc_some, withcs_some, cells_0, cells_s, Option.bind_some, Option.map_some, List.getElem?_toArray, List.getElem?_cons_zero, List.getElem?_cons_succ, Nat.add_zero, Nat.zero_add, Value.cells, splice, List.setIfInBounds_toArray, List.set_cons_zero, List.set_cons_succ, bfill_nil, bfill_cons, bstep_some, withO_some, List.take_zero, List.take_succ_cons, List.drop_zero, List.drop_succ_cons, List.cons_append, List.nil_append, List.append_nil, List.length_cons, List.length_nil, Nat.reduceLeDiff, Nat.le_refl, and_true, true_and, and_self, decide_true, decide_false, Bool.not_true, Bool.not_false, add_none, show Int.toNat 5 = 5 from rfl, Nat.mul_one, w1, B_lit, B_toList, hb1, hb2, show decide (((1 : Nat) : Int) = 1) = true from rfl, callA_fn0 pl10, callA_fn0 pl12, callA_fn0 pl15, callA_fn0 pl19, fa40_0, ld3, ld9, len_slice Tryd.underlying24, len_slice Tryd.underlying36]
  rw [iadA_slice Tryd.underlying36 ty40 (by omega) (by simp)]
  simp only [go_sem, reduceCtorEq, Nat.reduceEqDiff, Nat.reduceAdd, withc_some, withcs_some, cells_0, cells_s, Option.bind_some, Option.map_some, List.getElem?_toArray, List.getElem?_cons_zero, List.getElem?_cons_succ, Nat.add_zero, Nat.zero_add, Value.cells, splice, List.setIfInBounds_toArray, List.set_cons_zero, List.set_cons_succ, bfill_nil, bfill_cons, bstep_some, withO_some, List.take_zero, List.take_succ_cons, List.drop_zero, List.drop_succ_cons, List.cons_append, List.nil_append, List.append_nil, List.length_cons, List.length_nil, Nat.reduceLeDiff, Nat.le_refl, and_true, true_and, and_self, decide_true, decide_false, Bool.not_true, Bool.not_false, add_none, Int.toNat_zero, Nat.zero_mul, hcell, show decide (((1 : Nat) : Int) = 1) = true from rfl, B_lit, callA_fn0 pl10, callA_fn0 pl12, callA_fn0 pl15, callA_fn0 pl19, fa40_0, ld3, ld9, len_slice Tryd.underlying24, len_slice Tryd.underlying36]
  refine quote_c [97, 32, 98] (by decide) (g.ext (E1.trans E15)) fun G6 E6 => ?_
  rw [exQuote_eq]
  have hb3 : (([39, 97, 32, 98, 39] : List UInt8) == [39, 97, 32, 98, 39]) = true := rfl
  simp only [go_sem, reduceCtorEq, Nat.reduceEqDiff, Nat.reduceAdd, withc_some, withcs_some, cells_0, cells_s, Option.bind_some, Option.map_some, List.getElem?_toArray, List.getElem?_cons_zero, List.getElem?_cons_succ, Nat.add_zero, Nat.zero_add, Value.cells, splice, List.setIfInBounds_toArray, List.set_cons_zero, List.set_cons_succ, bfill_nil, bfill_cons, bstep_some, withO_some, List.take_zero, List.take_succ_cons, List.drop_zero, List.drop_succ_cons, List.cons_append, List.nil_append, List.append_nil, List.length_cons, List.length_nil, Nat.reduceLeDiff, Nat.le_refl, and_true, true_and, and_self, decide_true, decide_false, Bool.not_true, Bool.not_false, B_lit, B_toList, hb3, callA_fn0 pl10, callA_fn0 pl12, callA_fn0 pl15, callA_fn0 pl19, fa40_0, ld3, ld9, len_slice Tryd.underlying24, len_slice Tryd.underlying36]
  exact h G6 ((E1.trans E15).trans E6)
end Go.Proofs.YtoabcmhiaknjiaaDoor

/- Contracts of jobtext: call. -/
set_option maxRecDepth 100000
set_option linter.unusedSimpArgs false
set_option linter.unusedVariables false
namespace Go.Proofs.YtoabcmhiaknjiaaDoor
open Go.Hw

theorem inlineT_n (k : Nat) : ∀ (r : List Row) (acc l : List (List UInt8)), inlineT k r acc = .ok l → l.length + 1 ≤ acc.length + r.length
  | [], acc, l, h => by simp [inlineT] at h
  | (m, t) :: r, acc, l, h => by
    unfold inlineT at h
    split at h
    · cases h; simp
    · split at h
      · cases h
      · have := inlineT_n k r _ _ h
        simp only [List.length_append, List.length_cons, List.length_nil] at this ⊢
        omega
theorem stmF_step {out : List Stm} {call : List UInt8} {k : Nat} {rest : List Row} {words : List (List UInt8)} (h : out.length ≤ 400) : (stmF out call k rest words).1.length ≤ 400 ∧ (stmF out call k rest words).2.n ≤ rest.length := by
  unfold stmF
  split
  · exact ⟨h, Nat.zero_le _⟩
  · split
    · split
      · exact ⟨h, Nat.zero_le _⟩
      · rename_i l hl
        have := inlineT_n _ _ _ _ hl
        simp only [List.length_nil, Nat.zero_add] at this
        exact ⟨by simp; omega, this⟩
    · exact ⟨by simp; omega, Nat.zero_le _⟩
theorem LFi_step {call : List UInt8} {s : RS} {x : Row} {rest : List Row} (h : s.out.length ≤ 400) : (LFi call s x rest).1.out.length ≤ 400 ∧ (LFi call s x rest).2.n ≤ rest.length := by
  unfold LFi lineR
  split
  · exact ⟨h, Nat.zero_le _⟩
  · exact ⟨h, Nat.zero_le _⟩
  · rename_i w ws _
    split
    · rw [hfF_words]
      split
      · unfold setF; split <;> exact ⟨h, Nat.zero_le _⟩
      · split
        · unfold procF; split <;> exact ⟨h, Nat.zero_le _⟩
        · split
          · exact ⟨h, Nat.zero_le _⟩
          · split
            · unfold callF; split <;> exact ⟨h, Nat.zero_le _⟩
            · exact stmF_step h
    · exact ⟨h, Nat.zero_le _⟩

def rowsOk (rows : List Row) : Prop := rows.length ≤ 1000000 ∧ ∀ x ∈ rows, x.2.length ≤ 1000000
theorem rowsOk.drop {rows : List Row} (h : rowsOk rows) (n : Nat) : rowsOk (rows.drop n) := ⟨by have := h.1; simp; omega, fun x hx => h.2 x (List.mem_of_mem_drop hx)⟩
theorem rowsOk.tail {x : Row} {rows : List Row} (h : rowsOk (x :: rows)) : rowsOk rows := ⟨by have := h.1; simp at this; omega, fun y hy => h.2 y (List.mem_cons_of_mem _ hy)⟩

/-- Another map of symbols is put into the reader. -/
theorem Rdr.turn {B0 R ms mp d : Nat} {H H' : Hp} {s : RS} {sy : Sym} (h : Rdr B0 R ms mp H s) (k : Keep (· = R) H H') (hR : ∀ c, H[R]? = some (.cells c 77 (0, 0)) → H'[R]? = some (.cells (c.setIfInBounds 0 (.map (some d))) 77 (0, 0))) (hs : SymsV H' d sy) (hd : B0 ≤ d) (hdm : d ≠ mp) (hpr : ProcsV B0 R d mp H' s.procs) : Rdr B0 R d mp H' { s with syms := sy } := by
  obtain ⟨⟨h0, ov, cells, h1, h2, h3⟩, hsy, _, b1, b2, b3⟩ := h
  have hc : ∀ (b : Nat) (c : Array Value) (e : TypeId) (f : Nat × Nat), e ≠ 77 → H[b]? = some (.cells c e f) → H'[b]? = some (.cells c e f) := fun b c e f hne hb => k.get hb (by intro h; subst h; rw [h1] at hb; cases hb; exact hne rfl)
  refine ⟨⟨h0, ov, cells, hR _ h1, ?_, stmC.mono (fun v ws hv => SlE.mono hv fun b c f hb => hc _ _ _ _ (by decide) hb) _ _ h3⟩, hs, hpr, hd, b2, hdm⟩
  rcases h2 with h | ⟨b, cap, c, f, o1, o2, o3, o4⟩
  · exact .inl h
  · exact .inr ⟨b, cap, c, f, o1, o2, hc _ _ _ _ (by decide) o3, o4⟩
/-- A store into the reader leaves maps and what is no reader. -/
theorem keepR_map {R m : Nat} {H H' : Hp} {c : Array Value} {f : Nat × Nat} {l : List (List UInt8 × Value)} (hR : H[R]? = some (.cells c 77 f)) (k : Keep (· = R) H H') (h : MapC H m l) : MapC H' m l := by
  obtain ⟨es, clk, q, _⟩ := id h
  exact MapC.keep h k (by intro e; subst e; rw [hR] at q; cases q)
theorem keepR_cells {R b : Nat} {H H' : Hp} {c c' : Array Value} {f f' : Nat × Nat} {e : TypeId} (hR : H[R]? = some (.cells c 77 f)) (k : Keep (· = R) H H') (hb : H[b]? = some (.cells c' e f')) (hne : e ≠ 77) : H'[b]? = some (.cells c' e f') :=
  k.get hb (by intro h; subst h; rw [hR] at hb; cases hb; exact hne rfl)

theorem ent_mem {es : Array MapEntry} {l : Sym} (hes : es.toList.map (fun e => (e.key, e.val)) = ((symV l).map fun p => ((.string (B p.1) : Value), p.2))) {p : List UInt8 × List UInt8} (hp : p ∈ l) : ∃ e ∈ es, e.key = .string (B p.1) ∧ e.val = .string (B p.2) := by
  have : ((.string (B p.1), .string (B p.2)) : Value × Value) ∈ es.toList.map (fun e => (e.key, e.val)) := by
    rw [hes]
    exact List.mem_map.2 ⟨(p.1, .string (B p.2)), List.mem_map.2 ⟨p, hp, rfl⟩, rfl⟩
  obtain ⟨e, he, heq⟩ := List.mem_map.1 this
  simp only [Prod.mk.injEq] at heq
  exact ⟨e, Array.mem_toList_iff.1 he, heq.1, heq.2⟩
theorem lookup_some_mem {α : Type} {k : List UInt8} {y : α} : ∀ {l : List (List UInt8 × α)}, l.lookup k = some y → (k, y) ∈ l
  | q :: r, h => by
    rw [List.lookup_cons] at h
    cases hq : k == q.1 with
    | true => rw [hq] at h; cases h; rw [eq_of_beq hq]; exact List.mem_cons_self ..
    | false => rw [hq] at h; exact List.mem_cons_of_mem _ (lookup_some_mem h)

set_option maxHeartbeats 4000000 in
theorem call_c {B0 R ms mp : Nat} {rv wv : Value} {call : List UInt8} {k : Nat} {t : List UInt8} {rest : List Row} {words : List (List UInt8)} {s : RS} {H : Hp} {K : Ending → Hp → Prop}
    (hR : Rdr B0 R ms mp H s) (hB0 : 0 < B0) (hmsR : ms < R) (hB : B0 ≤ H.size) (g : G0 H) (hr : RowsV H rv ((k, t) :: rest)) (hw : SlV H wv words) (hwl : words.length ≤ 1000000) (hwb : ∀ w ∈ words, w.length ≤ 1000) (hout : s.out.length ≤ 400) (hpr : ∀ p ∈ s.procs, rowsOk p.2.2)
    (h : ∀ G, FrJ B0 (MM ms mp) H G → Rdr B0 R ms mp G (callF LFi false s k words).1 → K (.returned (.tuple #[.int .i64 (callF LFi false s k words).2.n, .agg #[.int .i64 (callF LFi false s k words).2.line, .int .i64 (callF LFi false s k words).2.code]])) G) :
    HCall Tryd.prog 89 #[.pointer (some ⟨R, 0, none⟩), .agg #[rv, .string (B call), .bool false], wv] H K := by
  refine hcall mixed B89 (args := [.pointer (some ⟨R, 0, none⟩), .agg #[rv, .string (B call), .bool false], wv]) (by simp) ?_
  obtain ⟨wa, wc, rfl⟩ := SlE.form hw
  simp only [go_sem, reduceCtorEq, Nat.reduceEqDiff, Nat.reduceAdd, withc_some, withcs_some, cells_0, cells_s, Option.bind_some, Option.map_some, List.getElem?_toArray, List.getElem?_cons_zero, List.getElem?_cons_succ, Nat.add_zero, Nat.zero_add, Value.cells, splice, List.setIfInBounds_toArray, List.set_cons_zero, List.set_cons_succ, bfill_nil, bfill_cons, bstep_some, withO_some, List.take_zero, List.take_succ_cons, List.drop_zero, List.drop_succ_cons, List.cons_append, List.nil_append, List.append_nil, List.length_cons, List.length_nil, Nat.reduceLeDiff, Nat.le_refl, and_true, true_and, and_self, decide_true, decide_false, Bool.not_true, Bool.not_false, c89, r89_0, opA_alloc 79 ty79]
  refine box_kA fun b4 G1 e4 s1 h4 E1 => ?_
  simp only [go_sem, reduceCtorEq, Nat.reduceEqDiff, Nat.reduceAdd, withc_some, withcs_some, cells_0, cells_s, Option.bind_some, Option.map_some, List.getElem?_toArray, List.getElem?_cons_zero, List.getElem?_cons_succ, Nat.add_zero, Nat.zero_add, Value.cells, splice, List.setIfInBounds_toArray, List.set_cons_zero, List.set_cons_succ, bfill_nil, bfill_cons, bstep_some, withO_some, List.take_zero, List.take_succ_cons, List.drop_zero, List.drop_succ_cons, List.cons_append, List.nil_append, List.append_nil, List.length_cons, List.length_nil, Nat.reduceLeDiff, Nat.le_refl, and_true, true_and, and_self, decide_true, decide_false, Bool.not_true, Bool.not_false, opA_alloc 79 ty79]
  refine box_kA fun b7 G2 e7 s2 h7 E2 => ?_
  have E12 := E1.trans E2
  have h42 := E2.get h4
  simp only [go_sem, reduceCtorEq, Nat.reduceEqDiff, Nat.reduceAdd, withc_some, withcs_some, cells_0, cells_s, Option.bind_some, Option.map_some, List.getElem?_toArray, List.getElem?_cons_zero, List.getElem?_cons_succ, Nat.add_zero, Nat.zero_add, Value.cells, splice, List.setIfInBounds_toArray, List.set_cons_zero, List.set_cons_succ, bfill_nil, bfill_cons, bstep_some, withO_some, List.take_zero, List.take_succ_cons, List.drop_zero, List.drop_succ_cons, List.cons_append, List.nil_append, List.append_nil, List.length_cons, List.length_nil, Nat.reduceLeDiff, Nat.le_refl, and_true, true_and, and_self, decide_true, decide_false, Bool.not_true, Bool.not_false, c89_32, r89_1, cell_of_blk h42, c89_1, c89_31, r89_3, callA_fn0 pl30, fa82_2, ld4, ld9, len_slice Tryd.underlying24, opA_alloc 79 ty79]
  have fin : ∀ (G G' : Hp) (e : Int), callF LFi false s k words = (s, ⟨0, k, e⟩) → Ext G2 G → Keep (· = b7) G G' → K (.returned (.tuple #[.int .i64 0, .agg #[.int .i64 k, .int .i64 e]])) G' := by
    intro G G' e hs hE k4
    rw [hs] at h
    have E4 : Ext H G' := k4.two (E12.trans hE) (by omega)
    exact h G' E4.ko (hR.ext E4)
  have err3 : ∀ (G : Hp) (Q : E → Fr → Hp → Prop) (F0 : Fr), callF LFi false s k words = (s, ⟨0, k, 3⟩) → Ext G2 G → (∀ F G, Q .ret F G = retK Tryd.prog [.tmp 6, .cell 7 79] K .ret F G) → aw Tryd.prog 114 c89_2 Q ((0, .pointer (some ⟨R, 0, none⟩)) :: (2, .slice wa words.length wc) :: (4, .pointer (some ⟨b4, 0, none⟩)) :: (7, .pointer (some ⟨b7, 0, none⟩)) :: F0) G := by
    intro G Q F0 hs hE hQ
    simp only [go_sem, reduceCtorEq, Nat.reduceEqDiff, Nat.reduceAdd, withc_some, withcs_some, cells_0, cells_s, Option.bind_some, Option.map_some, List.getElem?_toArray, List.getElem?_cons_zero, List.getElem?_cons_succ, Nat.add_zero, Nat.zero_add, Value.cells, splice, List.setIfInBounds_toArray, List.set_cons_zero, List.set_cons_succ, bfill_nil, bfill_cons, bstep_some, withO_some, List.take_zero, List.take_succ_cons, List.drop_zero, List.drop_succ_cons, List.cons_append, List.nil_append, List.append_nil, List.length_cons, List.length_nil, Nat.reduceLeDiff, Nat.le_refl, and_true, true_and, and_self, decide_true, decide_false, Bool.not_true, Bool.not_false, c89_2, r89_4, cell_of_blk (hE.get h42), callA_fn0 pl30, callA_fn0 pl91, fa82_2, ld4, ld82, ld9, len_slice Tryd.underlying24, opA_alloc 79 ty79]
    refine at_c (hr.ext (E12.trans hE)) fun G3 E3 => ?_
    simp only [go_sem, reduceCtorEq, Nat.reduceEqDiff, Nat.reduceAdd, withc_some, withcs_some, cells_0, cells_s, Option.bind_some, Option.map_some, List.getElem?_toArray, List.getElem?_cons_zero, List.getElem?_cons_succ, Nat.add_zero, Nat.zero_add, Value.cells, splice, List.setIfInBounds_toArray, List.set_cons_zero, List.set_cons_succ, bfill_nil, bfill_cons, bstep_some, withO_some, List.take_zero, List.take_succ_cons, List.drop_zero, List.drop_succ_cons, List.cons_append, List.nil_append, List.append_nil, List.length_cons, List.length_nil, Nat.reduceLeDiff, Nat.le_refl, and_true, true_and, and_self, decide_true, decide_false, Bool.not_true, Bool.not_false, callA_fn0 pl30, callA_fn0 pl91, fa82_2, ld4, ld82, ld9, len_slice Tryd.underlying24, opA_alloc 79 ty79]
    refine store_kA ((hE.trans E3).get h7) ty79 (k := fun G4 h8 k4 s4 => ?_)
    simp only [go_sem, reduceCtorEq, Nat.reduceEqDiff, Nat.reduceAdd, withc_some, withcs_some, cells_0, cells_s, Option.bind_some, Option.map_some, List.getElem?_toArray, List.getElem?_cons_zero, List.getElem?_cons_succ, Nat.add_zero, Nat.zero_add, Value.cells, splice, List.setIfInBounds_toArray, List.set_cons_zero, List.set_cons_succ, bfill_nil, bfill_cons, bstep_some, withO_some, List.take_zero, List.take_succ_cons, List.drop_zero, List.drop_succ_cons, List.cons_append, List.nil_append, List.append_nil, List.length_cons, List.length_nil, Nat.reduceLeDiff, Nat.le_refl, and_true, true_and, and_self, decide_true, decide_false, Bool.not_true, Bool.not_false, hQ, resW_cell, callA_fn0 pl30, callA_fn0 pl91, fa82_2, ld4, ld82, ld9, len_slice Tryd.underlying24, opA_alloc 79 ty79]
    rw [rc79 (l := [.int .i64 k, .int .i64 3]) (by simp only [go_sem, reduceCtorEq, Nat.reduceEqDiff, Nat.reduceAdd, withc_some, withcs_some, cells_0, cells_s, Option.bind_some, Option.map_some, List.getElem?_toArray, List.getElem?_cons_zero, List.getElem?_cons_succ, Nat.add_zero, Nat.zero_add, Value.cells, splice, List.setIfInBounds_toArray, List.set_cons_zero, List.set_cons_succ, bfill_nil, bfill_cons, bstep_some, withO_some, List.take_zero, List.take_succ_cons, List.drop_zero, List.drop_succ_cons, List.cons_append, List.nil_append, List.append_nil, List.length_cons, List.length_nil, Nat.reduceLeDiff, Nat.le_refl, and_true, true_and, and_self, decide_true, decide_false, Bool.not_true, Bool.not_false, cell_of_blk h8, callA_fn0 pl30, callA_fn0 pl91, fa82_2, ld4, ld82, ld9, len_slice Tryd.underlying24, opA_alloc 79 ty79])]
    exact fin G3 G4 3 hs (hE.trans E3) k4
  by_cases h2 : words.length < 3
  · have e1 : decide ((words.length : Int) < 3) = true := by rw [decide_eq_true_eq]; omega
    simp only [go_sem, reduceCtorEq, Nat.reduceEqDiff, Nat.reduceAdd, withc_some, withcs_some, cells_0, cells_s, Option.bind_some, Option.map_some, List.getElem?_toArray, List.getElem?_cons_zero, List.getElem?_cons_succ, Nat.add_zero, Nat.zero_add, Value.cells, splice, List.setIfInBounds_toArray, List.set_cons_zero, List.set_cons_succ, bfill_nil, bfill_cons, bstep_some, withO_some, List.take_zero, List.take_succ_cons, List.drop_zero, List.drop_succ_cons, List.cons_append, List.nil_append, List.append_nil, List.length_cons, List.length_nil, Nat.reduceLeDiff, Nat.le_refl, and_true, true_and, and_self, decide_true, decide_false, Bool.not_true, Bool.not_false, e1, c89_3, callA_fn0 pl30, callA_fn0 pl91, fa82_2, ld4, ld82, ld9, len_slice Tryd.underlying24, opA_alloc 79 ty79]
    refine err3 G2 _ _ ?_ (Ext.refl _) (fun F G => by simp only [seqQ_ret])
    match words, h2 with
    | [], _ => rfl
    | [_], _ => rfl
    | [_, _], _ => rfl
  have e1 : decide ((words.length : Int) < 3) = false := by rw [decide_eq_false_iff_not]; omega
  obtain ⟨w0, a, b, ws, rfl⟩ : ∃ w0 a b ws, words = w0 :: a :: b :: ws := by
    match words, h2 with
    | w0 :: a :: b :: ws, _ => exact ⟨_, _, _, _, rfl⟩
    | [], h => exact absurd (by simp) h
    | [_], h => exact absurd (by simp) h
    | [_, _], h => exact absurd (by simp) h
  obtain ⟨wb, woff, wc', ew, wv1⟩ := (hw.ext E12).at (i := 1) (w := a) rfl
  cases ew
  obtain ⟨_, _, _, ew, wv2⟩ := (hw.ext E12).at (i := 2) (w := b) rfl
  cases ew
  have hab := hwb a (by simp)
  have hbb := hwb b (by simp)
  simp only [List.length_cons] at e1 hwl
  simp only [go_sem, reduceCtorEq, Nat.reduceEqDiff, Nat.reduceAdd, withc_some, withcs_some, cells_0, cells_s, Option.bind_some, Option.map_some, List.getElem?_toArray, List.getElem?_cons_zero, List.getElem?_cons_succ, Nat.add_zero, Nat.zero_add, Value.cells, splice, List.setIfInBounds_toArray, List.set_cons_zero, List.set_cons_succ, bfill_nil, bfill_cons, bstep_some, withO_some, List.take_zero, List.take_succ_cons, List.drop_zero, List.drop_succ_cons, List.cons_append, List.nil_append, List.append_nil, List.length_cons, List.length_nil, Nat.reduceLeDiff, Nat.le_refl, and_true, true_and, and_self, decide_true, decide_false, Bool.not_true, Bool.not_false, e1, callA_fn0 pl30, callA_fn0 pl91, fa82_2, ld4, ld82, ld9, len_slice Tryd.underlying24, opA_alloc 79 ty79]
  rw [iadA_slice uStrs ty9 (by omega) (by simp; omega)]
  simp only [go_sem, reduceCtorEq, Nat.reduceEqDiff, Nat.reduceAdd, withc_some, withcs_some, cells_0, cells_s, Option.bind_some, Option.map_some, List.getElem?_toArray, List.getElem?_cons_zero, List.getElem?_cons_succ, Nat.add_zero, Nat.zero_add, Value.cells, splice, List.setIfInBounds_toArray, List.set_cons_zero, List.set_cons_succ, bfill_nil, bfill_cons, bstep_some, withO_some, List.take_zero, List.take_succ_cons, List.drop_zero, List.drop_succ_cons, List.cons_append, List.nil_append, List.append_nil, List.length_cons, List.length_nil, Nat.reduceLeDiff, Nat.le_refl, and_true, true_and, and_self, decide_true, decide_false, Bool.not_true, Bool.not_false, add_none, show Int.toNat 1 = 1 from rfl, Nat.mul_one, wv1, callA_fn0 pl30, callA_fn0 pl91, fa82_2, ld4, ld82, ld9, len_slice Tryd.underlying24, opA_alloc 79 ty79]
  refine symbol_c a (by omega) (g.ext E12) fun G3 E3 => ?_
  cases hsy : symF a with
  | false =>
    simp only [go_sem, reduceCtorEq, Nat.reduceEqDiff, Nat.reduceAdd, withc_some, withcs_some, cells_0, cells_s, Option.bind_some, Option.map_some, List.getElem?_toArray, List.getElem?_cons_zero, List.getElem?_cons_succ, Nat.add_zero, Nat.zero_add, Value.cells, splice, List.setIfInBounds_toArray, List.set_cons_zero, List.set_cons_succ, bfill_nil, bfill_cons, bstep_some, withO_some, List.take_zero, List.take_succ_cons, List.drop_zero, List.drop_succ_cons, List.cons_append, List.nil_append, List.append_nil, List.length_cons, List.length_nil, Nat.reduceLeDiff, Nat.le_refl, and_true, true_and, and_self, decide_true, decide_false, Bool.not_true, Bool.not_false, c89_3, callA_fn0 pl30, callA_fn0 pl91, fa82_2, ld4, ld82, ld9, len_slice Tryd.underlying24, opA_alloc 79 ty79]
    exact err3 G3 _ _ (by unfold callF; simp [hsy]) E3 (fun F G => by simp only [seqQ_ret])
  | true =>
    simp only [go_sem, reduceCtorEq, Nat.reduceEqDiff, Nat.reduceAdd, withc_some, withcs_some, cells_0, cells_s, Option.bind_some, Option.map_some, List.getElem?_toArray, List.getElem?_cons_zero, List.getElem?_cons_succ, Nat.add_zero, Nat.zero_add, Value.cells, splice, List.setIfInBounds_toArray, List.set_cons_zero, List.set_cons_succ, bfill_nil, bfill_cons, bstep_some, withO_some, List.take_zero, List.take_succ_cons, List.drop_zero, List.drop_succ_cons, List.cons_append, List.nil_append, List.append_nil, List.length_cons, List.length_nil, Nat.reduceLeDiff, Nat.le_refl, and_true, true_and, and_self, decide_true, decide_false, Bool.not_true, Bool.not_false, callA_fn0 pl30, callA_fn0 pl91, fa82_2, ld4, ld82, ld9, len_slice Tryd.underlying24, opA_alloc 79 ty79]
    rw [iadA_slice uStrs ty9 (by omega) (by simp; omega)]
    simp only [go_sem, reduceCtorEq, Nat.reduceEqDiff, Nat.reduceAdd, withc_some, withcs_some, cells_0, cells_s, Option.bind_some, Option.map_some, List.getElem?_toArray, List.getElem?_cons_zero, List.getElem?_cons_succ, Nat.add_zero, Nat.zero_add, Value.cells, splice, List.setIfInBounds_toArray, List.set_cons_zero, List.set_cons_succ, bfill_nil, bfill_cons, bstep_some, withO_some, List.take_zero, List.take_succ_cons, List.drop_zero, List.drop_succ_cons, List.cons_append, List.nil_append, List.append_nil, List.length_cons, List.length_nil, Nat.reduceLeDiff, Nat.le_refl, and_true, true_and, and_self, decide_true, decide_false, Bool.not_true, Bool.not_false, add_none, show Int.toNat 2 = 2 from rfl, Nat.mul_one, cell_ext E3 wv2, callA_fn0 pl30, callA_fn0 pl91, fa82_2, ld4, ld82, ld9, len_slice Tryd.underlying24, opA_alloc 79 ty79]
    have E13' := E12.trans E3
    refine symbol_c b (by omega) (g.ext E13') fun G4 E4 => ?_
    have E34 := E3.trans E4
    cases hsy2 : symF b with
    | false =>
      simp only [go_sem, reduceCtorEq, Nat.reduceEqDiff, Nat.reduceAdd, withc_some, withcs_some, cells_0, cells_s, Option.bind_some, Option.map_some, List.getElem?_toArray, List.getElem?_cons_zero, List.getElem?_cons_succ, Nat.add_zero, Nat.zero_add, Value.cells, splice, List.setIfInBounds_toArray, List.set_cons_zero, List.set_cons_succ, bfill_nil, bfill_cons, bstep_some, withO_some, List.take_zero, List.take_succ_cons, List.drop_zero, List.drop_succ_cons, List.cons_append, List.nil_append, List.append_nil, List.length_cons, List.length_nil, Nat.reduceLeDiff, Nat.le_refl, and_true, true_and, and_self, decide_true, decide_false, Bool.not_true, Bool.not_false, c89_3, callA_fn0 pl30, callA_fn0 pl91, fa82_2, ld4, ld82, ld9, len_slice Tryd.underlying24, opA_alloc 79 ty79]
      exact err3 G4 _ _ (by unfold callF; simp [hsy, hsy2]) E34 (fun F G => by simp only [seqQ_ret])
    | true =>
      have E14 := E12.trans E34
      have hcap : ws.length + 1 + 1 + 1 ≤ wc := by
        rcases SlE.part (lo := 0) (hi := 0) hw (Nat.le_refl _) (Nat.zero_le _) with h1 | h1
        · simpa using h1
        · simp at h1
      have hws : SlV G4 (.slice (subAddr (some ⟨wb, woff, none⟩) 1 3 wc) (ws.length + 1 + 1 + 1 - 3) (wc - 3)) ws := by
        have h1 := SlE.drop (lo := 3) (SlE.ext hw E14) (by simp)
        have e : (strs (w0 :: a :: b :: ws)).drop (3 * 1) = strs ws := by simp [strs]
        rw [e] at h1
        show SlE 9 1 G4 (.slice (subAddr (some ⟨wb, woff, none⟩) 1 3 wc) ws.length (wc - 3)) ws.length (strs ws)
        simpa using h1
      simp only [go_sem, reduceCtorEq, Nat.reduceEqDiff, Nat.reduceAdd, withc_some, withcs_some, cells_0, cells_s, Option.bind_some, Option.map_some, List.getElem?_toArray, List.getElem?_cons_zero, List.getElem?_cons_succ, Nat.add_zero, Nat.zero_add, Value.cells, splice, List.setIfInBounds_toArray, List.set_cons_zero, List.set_cons_succ, bfill_nil, bfill_cons, bstep_some, withO_some, List.take_zero, List.take_succ_cons, List.drop_zero, List.drop_succ_cons, List.cons_append, List.nil_append, List.append_nil, List.length_cons, List.length_nil, Nat.reduceLeDiff, Nat.le_refl, and_true, true_and, and_self, decide_true, decide_false, Bool.not_true, Bool.not_false, c89_3, c89_30, r89_5, callA_fn0 pl30, callA_fn0 pl91, callA_fn0 pl98, fa82_2, ld4, ld82, ld9, len_slice Tryd.underlying24, opA_alloc 79 ty79]
      rw [sliA_slice uStrs ty9 (lit_bound 3 3) (.no _) (by omega) hcap]
      simp only [go_sem, reduceCtorEq, Nat.reduceEqDiff, Nat.reduceAdd, withc_some, withcs_some, cells_0, cells_s, Option.bind_some, Option.map_some, List.getElem?_toArray, List.getElem?_cons_zero, List.getElem?_cons_succ, Nat.add_zero, Nat.zero_add, Value.cells, splice, List.setIfInBounds_toArray, List.set_cons_zero, List.set_cons_succ, bfill_nil, bfill_cons, bstep_some, withO_some, List.take_zero, List.take_succ_cons, List.drop_zero, List.drop_succ_cons, List.cons_append, List.nil_append, List.append_nil, List.length_cons, List.length_nil, Nat.reduceLeDiff, Nat.le_refl, and_true, true_and, and_self, decide_true, decide_false, Bool.not_true, Bool.not_false, callA_fn0 pl30, callA_fn0 pl91, callA_fn0 pl98, fa82_2, ld4, ld82, ld9, len_slice Tryd.underlying24, opA_alloc 79 ty79]
      refine values_c (g.ext E14) hws (fun w hw' => hwb w (by simp [hw'])) (by omega) ?_ ?_
      · intro hv G5 E5
        have E25 := E34.trans E5
        simp only [go_sem, reduceCtorEq, Nat.reduceEqDiff, Nat.reduceAdd, withc_some, withcs_some, cells_0, cells_s, Option.bind_some, Option.map_some, List.getElem?_toArray, List.getElem?_cons_zero, List.getElem?_cons_succ, Nat.add_zero, Nat.zero_add, Value.cells, splice, List.setIfInBounds_toArray, List.set_cons_zero, List.set_cons_succ, bfill_nil, bfill_cons, bstep_some, withO_some, List.take_zero, List.take_succ_cons, List.drop_zero, List.drop_succ_cons, List.cons_append, List.nil_append, List.append_nil, List.length_cons, List.length_nil, Nat.reduceLeDiff, Nat.le_refl, and_true, true_and, and_self, decide_true, decide_false, Bool.not_true, Bool.not_false, c89_29, r89_6, c89_5, c89_4, r89_7, cell_of_blk (E25.get h42), callA_fn0 pl30, callA_fn0 pl91, callA_fn0 pl98, fa82_2, ld4, ld82, ld9, len_slice Tryd.underlying24, opA_alloc 79 ty79]
        refine at_c (hr.ext (E12.trans E25)) fun G6 E6 => ?_
        simp only [go_sem, reduceCtorEq, Nat.reduceEqDiff, Nat.reduceAdd, withc_some, withcs_some, cells_0, cells_s, Option.bind_some, Option.map_some, List.getElem?_toArray, List.getElem?_cons_zero, List.getElem?_cons_succ, Nat.add_zero, Nat.zero_add, Value.cells, splice, List.setIfInBounds_toArray, List.set_cons_zero, List.set_cons_succ, bfill_nil, bfill_cons, bstep_some, withO_some, List.take_zero, List.take_succ_cons, List.drop_zero, List.drop_succ_cons, List.cons_append, List.nil_append, List.append_nil, List.length_cons, List.length_nil, Nat.reduceLeDiff, Nat.le_refl, and_true, true_and, and_self, decide_true, decide_false, Bool.not_true, Bool.not_false, callA_fn0 pl30, callA_fn0 pl91, callA_fn0 pl98, fa82_2, ld4, ld82, ld9, len_slice Tryd.underlying24, opA_alloc 79 ty79]
        refine store_kA ((E25.trans E6).get h7) ty79 (k := fun G7 h8 k4 s4 => ?_)
        simp only [go_sem, reduceCtorEq, Nat.reduceEqDiff, Nat.reduceAdd, withc_some, withcs_some, cells_0, cells_s, Option.bind_some, Option.map_some, List.getElem?_toArray, List.getElem?_cons_zero, List.getElem?_cons_succ, Nat.add_zero, Nat.zero_add, Value.cells, splice, List.setIfInBounds_toArray, List.set_cons_zero, List.set_cons_succ, bfill_nil, bfill_cons, bstep_some, withO_some, List.take_zero, List.take_succ_cons, List.drop_zero, List.drop_succ_cons, List.cons_append, List.nil_append, List.append_nil, List.length_cons, List.length_nil, Nat.reduceLeDiff, Nat.le_refl, and_true, true_and, and_self, decide_true, decide_false, Bool.not_true, Bool.not_false, resW_cell, callA_fn0 pl30, callA_fn0 pl91, callA_fn0 pl98, fa82_2, ld4, ld82, ld9, len_slice Tryd.underlying24, opA_alloc 79 ty79]
        rw [rc79 (l := [.int .i64 k, .int .i64 3]) (by simp only [go_sem, reduceCtorEq, Nat.reduceEqDiff, Nat.reduceAdd, withc_some, withcs_some, cells_0, cells_s, Option.bind_some, Option.map_some, List.getElem?_toArray, List.getElem?_cons_zero, List.getElem?_cons_succ, Nat.add_zero, Nat.zero_add, Value.cells, splice, List.setIfInBounds_toArray, List.set_cons_zero, List.set_cons_succ, bfill_nil, bfill_cons, bstep_some, withO_some, List.take_zero, List.take_succ_cons, List.drop_zero, List.drop_succ_cons, List.cons_append, List.nil_append, List.append_nil, List.length_cons, List.length_nil, Nat.reduceLeDiff, Nat.le_refl, and_true, true_and, and_self, decide_true, decide_false, Bool.not_true, Bool.not_false, cell_of_blk h8, callA_fn0 pl30, callA_fn0 pl91, callA_fn0 pl98, fa82_2, ld4, ld82, ld9, len_slice Tryd.underlying24, opA_alloc 79 ty79])]
        exact fin G6 G7 3 (by unfold callF; simp [hsy, hsy2, hv]) (E25.trans E6) k4
      · intro v hv G5 r hrH E5 hm
        have E25 := E34.trans E5
        have E15 := E12.trans E25
        have hR5 := hR.ext E15
        obtain ⟨⟨hR0, ov, cells, hRb, hown, hst⟩, ⟨lsy, hsy1, hsy2', hsy3⟩, ⟨pl, hpl, hall⟩, hbms, hbmp, hne⟩ := id hR5
        simp only [go_sem, reduceCtorEq, Nat.reduceEqDiff, Nat.reduceAdd, withc_some, withcs_some, cells_0, cells_s, Option.bind_some, Option.map_some, List.getElem?_toArray, List.getElem?_cons_zero, List.getElem?_cons_succ, Nat.add_zero, Nat.zero_add, Value.cells, splice, List.setIfInBounds_toArray, List.set_cons_zero, List.set_cons_succ, bfill_nil, bfill_cons, bstep_some, withO_some, List.take_zero, List.take_succ_cons, List.drop_zero, List.drop_succ_cons, List.cons_append, List.nil_append, List.append_nil, List.length_cons, List.length_nil, Nat.reduceLeDiff, Nat.le_refl, and_true, true_and, and_self, decide_true, decide_false, Bool.not_true, Bool.not_false, c89_29, r89_6, c89_5, c89_28, r89_8, cell_of_blk hRb, callA_fn0 pl30, callA_fn0 pl91, callA_fn0 pl98, fa77_1, fa82_2, fq77_1, ld4, ld75, ld82, ld9, len_slice Tryd.underlying24, lq75, lq9, opA_alloc 137 ty137, opA_alloc 79 ty79]
        rw [iadQ_slice uStrs ty9 (by omega) (by simp; omega)]
        simp only [go_sem, reduceCtorEq, Nat.reduceEqDiff, Nat.reduceAdd, withc_some, withcs_some, cells_0, cells_s, Option.bind_some, Option.map_some, List.getElem?_toArray, List.getElem?_cons_zero, List.getElem?_cons_succ, Nat.add_zero, Nat.zero_add, Value.cells, splice, List.setIfInBounds_toArray, List.set_cons_zero, List.set_cons_succ, bfill_nil, bfill_cons, bstep_some, withO_some, List.take_zero, List.take_succ_cons, List.drop_zero, List.drop_succ_cons, List.cons_append, List.nil_append, List.append_nil, List.length_cons, List.length_nil, Nat.reduceLeDiff, Nat.le_refl, and_true, true_and, and_self, decide_true, decide_false, Bool.not_true, Bool.not_false, add_none, show Int.toNat 2 = 2 from rfl, Nat.mul_one, cell_ext E25 wv2, qA_lookup, callA_fn0 pl30, callA_fn0 pl91, callA_fn0 pl98, fa77_1, fa82_2, fq77_1, ld4, ld75, ld82, ld9, len_slice Tryd.underlying24, lq75, lq9, opA_alloc 137 ty137, opA_alloc 79 ty79]
        rw [lkpQ_ok uMP uStr ty137 hpl.o]
        simp only [go_sem, reduceCtorEq, Nat.reduceEqDiff, Nat.reduceAdd, withc_some, withcs_some, cells_0, cells_s, Option.bind_some, Option.map_some, List.getElem?_toArray, List.getElem?_cons_zero, List.getElem?_cons_succ, Nat.add_zero, Nat.zero_add, Value.cells, splice, List.setIfInBounds_toArray, List.set_cons_zero, List.set_cons_succ, bfill_nil, bfill_cons, bstep_some, withO_some, List.take_zero, List.take_succ_cons, List.drop_zero, List.drop_succ_cons, List.cons_append, List.nil_append, List.append_nil, List.length_cons, List.length_nil, Nat.reduceLeDiff, Nat.le_refl, and_true, true_and, and_self, decide_true, decide_false, Bool.not_true, Bool.not_false, callA_fn0 pl30, callA_fn0 pl91, callA_fn0 pl98, fa77_1, fa82_2, fq77_1, ld4, ld75, ld82, ld9, len_slice Tryd.underlying24, lq75, lq9, opA_alloc 137 ty137, opA_alloc 79 ty79]
        rcases procs_lookup b hall with ⟨p1, p2⟩ | ⟨pv, prows, mv, prv, p1, p2, p3, p4, p5, p6, p7, p8, p9⟩
        · rw [p2]
          simp only [go_sem, reduceCtorEq, Nat.reduceEqDiff, Nat.reduceAdd, withc_some, withcs_some, cells_0, cells_s, Option.bind_some, Option.map_some, List.getElem?_toArray, List.getElem?_cons_zero, List.getElem?_cons_succ, Nat.add_zero, Nat.zero_add, Value.cells, splice, List.setIfInBounds_toArray, List.set_cons_zero, List.set_cons_succ, bfill_nil, bfill_cons, bstep_some, withO_some, List.take_zero, List.take_succ_cons, List.drop_zero, List.drop_succ_cons, List.cons_append, List.nil_append, List.append_nil, List.length_cons, List.length_nil, Nat.reduceLeDiff, Nat.le_refl, and_true, true_and, and_self, decide_true, decide_false, Bool.not_true, Bool.not_false, Option.getD_none, Option.isSome_none, callA_fn0 pl30, callA_fn0 pl91, callA_fn0 pl98, fa77_1, fa82_2, fq77_1, ld4, ld75, ld82, ld9, len_slice Tryd.underlying24, lq75, lq9, opA_alloc 137 ty137, opA_alloc 79 ty79]
          refine box_kA fun b10 G6 e10 s10 h10 E6 => ?_
          simp only [go_sem, reduceCtorEq, Nat.reduceEqDiff, Nat.reduceAdd, withc_some, withcs_some, cells_0, cells_s, Option.bind_some, Option.map_some, List.getElem?_toArray, List.getElem?_cons_zero, List.getElem?_cons_succ, Nat.add_zero, Nat.zero_add, Value.cells, splice, List.setIfInBounds_toArray, List.set_cons_zero, List.set_cons_succ, bfill_nil, bfill_cons, bstep_some, withO_some, List.take_zero, List.take_succ_cons, List.drop_zero, List.drop_succ_cons, List.cons_append, List.nil_append, List.append_nil, List.length_cons, List.length_nil, Nat.reduceLeDiff, Nat.le_refl, and_true, true_and, and_self, decide_true, decide_false, Bool.not_true, Bool.not_false, callA_fn0 pl30, callA_fn0 pl91, callA_fn0 pl98, fa77_1, fa82_2, fq77_1, ld4, ld75, ld82, ld9, len_slice Tryd.underlying24, lq75, lq9, opA_alloc 137 ty137, opA_alloc 79 ty79]
          refine ⟨E6, ?_⟩
          refine store_kA h10 ty137 (k := fun G7 h11 k7 s7 => ?_)
          have E7 : Ext G5 G7 := k7.two E6 (by omega)
          have E27 := E25.trans E7
          simp only [go_sem, reduceCtorEq, Nat.reduceEqDiff, Nat.reduceAdd, withc_some, withcs_some, cells_0, cells_s, Option.bind_some, Option.map_some, List.getElem?_toArray, List.getElem?_cons_zero, List.getElem?_cons_succ, Nat.add_zero, Nat.zero_add, Value.cells, splice, List.setIfInBounds_toArray, List.set_cons_zero, List.set_cons_succ, bfill_nil, bfill_cons, bstep_some, withO_some, List.take_zero, List.take_succ_cons, List.drop_zero, List.drop_succ_cons, List.cons_append, List.nil_append, List.append_nil, List.length_cons, List.length_nil, Nat.reduceLeDiff, Nat.le_refl, and_true, true_and, and_self, decide_true, decide_false, Bool.not_true, Bool.not_false, c89_27, r89_9, c89_7, c89_6, r89_10, cell_of_blk (E27.get h42), callA_fn0 pl30, callA_fn0 pl91, callA_fn0 pl98, fa77_1, fa82_2, fq77_1, ld4, ld75, ld82, ld9, len_slice Tryd.underlying24, lq75, lq9, opA_alloc 137 ty137, opA_alloc 79 ty79]
          refine at_c (hr.ext (E12.trans E27)) fun G8 E8 => ?_
          simp only [go_sem, reduceCtorEq, Nat.reduceEqDiff, Nat.reduceAdd, withc_some, withcs_some, cells_0, cells_s, Option.bind_some, Option.map_some, List.getElem?_toArray, List.getElem?_cons_zero, List.getElem?_cons_succ, Nat.add_zero, Nat.zero_add, Value.cells, splice, List.setIfInBounds_toArray, List.set_cons_zero, List.set_cons_succ, bfill_nil, bfill_cons, bstep_some, withO_some, List.take_zero, List.take_succ_cons, List.drop_zero, List.drop_succ_cons, List.cons_append, List.nil_append, List.append_nil, List.length_cons, List.length_nil, Nat.reduceLeDiff, Nat.le_refl, and_true, true_and, and_self, decide_true, decide_false, Bool.not_true, Bool.not_false, callA_fn0 pl30, callA_fn0 pl91, callA_fn0 pl98, fa77_1, fa82_2, fq77_1, ld4, ld75, ld82, ld9, len_slice Tryd.underlying24, lq75, lq9, opA_alloc 137 ty137, opA_alloc 79 ty79]
          refine store_kA ((E27.trans E8).get h7) ty79 (k := fun G9 h8 k9 s9 => ?_)
          simp only [go_sem, reduceCtorEq, Nat.reduceEqDiff, Nat.reduceAdd, withc_some, withcs_some, cells_0, cells_s, Option.bind_some, Option.map_some, List.getElem?_toArray, List.getElem?_cons_zero, List.getElem?_cons_succ, Nat.add_zero, Nat.zero_add, Value.cells, splice, List.setIfInBounds_toArray, List.set_cons_zero, List.set_cons_succ, bfill_nil, bfill_cons, bstep_some, withO_some, List.take_zero, List.take_succ_cons, List.drop_zero, List.drop_succ_cons, List.cons_append, List.nil_append, List.append_nil, List.length_cons, List.length_nil, Nat.reduceLeDiff, Nat.le_refl, and_true, true_and, and_self, decide_true, decide_false, Bool.not_true, Bool.not_false, resW_cell, callA_fn0 pl30, callA_fn0 pl91, callA_fn0 pl98, fa77_1, fa82_2, fq77_1, ld4, ld75, ld82, ld9, len_slice Tryd.underlying24, lq75, lq9, opA_alloc 137 ty137, opA_alloc 79 ty79]
          rw [rc79 (l := [.int .i64 k, .int .i64 4]) (by simp only [go_sem, reduceCtorEq, Nat.reduceEqDiff, Nat.reduceAdd, withc_some, withcs_some, cells_0, cells_s, Option.bind_some, Option.map_some, List.getElem?_toArray, List.getElem?_cons_zero, List.getElem?_cons_succ, Nat.add_zero, Nat.zero_add, Value.cells, splice, List.setIfInBounds_toArray, List.set_cons_zero, List.set_cons_succ, bfill_nil, bfill_cons, bstep_some, withO_some, List.take_zero, List.take_succ_cons, List.drop_zero, List.drop_succ_cons, List.cons_append, List.nil_append, List.append_nil, List.length_cons, List.length_nil, Nat.reduceLeDiff, Nat.le_refl, and_true, true_and, and_self, decide_true, decide_false, Bool.not_true, Bool.not_false, cell_of_blk h8, callA_fn0 pl30, callA_fn0 pl91, callA_fn0 pl98, fa77_1, fa82_2, fq77_1, ld4, ld75, ld82, ld9, len_slice Tryd.underlying24, lq75, lq9, opA_alloc 137 ty137, opA_alloc 79 ty79])]
          exact fin G8 G9 4 (by unfold callF; simp [hsy, hsy2, hv, p1]) (E27.trans E8) k9
        · obtain ⟨pa, pc, rfl⟩ := SlE.form p8
          rw [p2]
          simp only [go_sem, reduceCtorEq, Nat.reduceEqDiff, Nat.reduceAdd, withc_some, withcs_some, cells_0, cells_s, Option.bind_some, Option.map_some, List.getElem?_toArray, List.getElem?_cons_zero, List.getElem?_cons_succ, Nat.add_zero, Nat.zero_add, Value.cells, splice, List.setIfInBounds_toArray, List.set_cons_zero, List.set_cons_succ, bfill_nil, bfill_cons, bstep_some, withO_some, List.take_zero, List.take_succ_cons, List.drop_zero, List.drop_succ_cons, List.cons_append, List.nil_append, List.append_nil, List.length_cons, List.length_nil, Nat.reduceLeDiff, Nat.le_refl, and_true, true_and, and_self, decide_true, decide_false, Bool.not_true, Bool.not_false, Option.getD_some, Option.isSome_some, callA_fn0 pl30, callA_fn0 pl91, callA_fn0 pl98, fa77_1, fa82_2, fq77_1, ld4, ld75, ld82, ld9, len_slice Tryd.underlying24, lq75, lq9, opA_alloc 137 ty137, opA_alloc 79 ty79]
          refine box_kA fun b10 G6 e10 s10 h10 E6 => ?_
          simp only [go_sem, reduceCtorEq, Nat.reduceEqDiff, Nat.reduceAdd, withc_some, withcs_some, cells_0, cells_s, Option.bind_some, Option.map_some, List.getElem?_toArray, List.getElem?_cons_zero, List.getElem?_cons_succ, Nat.add_zero, Nat.zero_add, Value.cells, splice, List.setIfInBounds_toArray, List.set_cons_zero, List.set_cons_succ, bfill_nil, bfill_cons, bstep_some, withO_some, List.take_zero, List.take_succ_cons, List.drop_zero, List.drop_succ_cons, List.cons_append, List.nil_append, List.append_nil, List.length_cons, List.length_nil, Nat.reduceLeDiff, Nat.le_refl, and_true, true_and, and_self, decide_true, decide_false, Bool.not_true, Bool.not_false, callA_fn0 pl30, callA_fn0 pl91, callA_fn0 pl98, fa77_1, fa82_2, fq77_1, ld4, ld75, ld82, ld9, len_slice Tryd.underlying24, lq75, lq9, opA_alloc 137 ty137, opA_alloc 79 ty79]
          refine ⟨E6, ?_⟩
          refine store_kA h10 ty137 (k := fun G7 h11 k7 s7 => ?_)
          have h11' : G7[b10]? = some (.cells #[.map (some mv), .slice pa prows.length pc] 137 (0, 0)) := h11
          have E7 : Ext G5 G7 := k7.two E6 (by omega)
          simp only [go_sem, reduceCtorEq, Nat.reduceEqDiff, Nat.reduceAdd, withc_some, withcs_some, cells_0, cells_s, Option.bind_some, Option.map_some, List.getElem?_toArray, List.getElem?_cons_zero, List.getElem?_cons_succ, Nat.add_zero, Nat.zero_add, Value.cells, splice, List.setIfInBounds_toArray, List.set_cons_zero, List.set_cons_succ, bfill_nil, bfill_cons, bstep_some, withO_some, List.take_zero, List.take_succ_cons, List.drop_zero, List.drop_succ_cons, List.cons_append, List.nil_append, List.append_nil, List.length_cons, List.length_nil, Nat.reduceLeDiff, Nat.le_refl, and_true, true_and, and_self, decide_true, decide_false, Bool.not_true, Bool.not_false, c89_27, r89_9, c89_7, c89_26, r89_11, cell_of_blk (E7.get hRb), c89_25, r89_12, callA_fn0 pl30, callA_fn0 pl91, callA_fn0 pl98, callA_fn0 pl99, fa77_0, fa77_1, fa82_2, fq77_1, ld22, ld4, ld75, ld82, ld9, len_slice Tryd.underlying24, lq75, lq9, opA_alloc 137 ty137, opA_alloc 79 ty79]
          have E27 := E25.trans E7
          have E17 := E12.trans E27
          refine clone_c (MapC.ext hsy1 E7) fun G8 d hd E8 m8 => ?_
          simp only [go_sem, reduceCtorEq, Nat.reduceEqDiff, Nat.reduceAdd, withc_some, withcs_some, cells_0, cells_s, Option.bind_some, Option.map_some, List.getElem?_toArray, List.getElem?_cons_zero, List.getElem?_cons_succ, Nat.add_zero, Nat.zero_add, Value.cells, splice, List.setIfInBounds_toArray, List.set_cons_zero, List.set_cons_succ, bfill_nil, bfill_cons, bstep_some, withO_some, List.take_zero, List.take_succ_cons, List.drop_zero, List.drop_succ_cons, List.cons_append, List.nil_append, List.append_nil, List.length_cons, List.length_nil, Nat.reduceLeDiff, Nat.le_refl, and_true, true_and, and_self, decide_true, decide_false, Bool.not_true, Bool.not_false, c89_24, r89_13, cell_of_blk (E8.get h11'), callA_fn0 pl100, callA_fn0 pl30, callA_fn0 pl91, callA_fn0 pl98, callA_fn0 pl99, fa137_0, fa77_0, fa77_1, fa82_2, fq77_1, ld22, ld4, ld75, ld82, ld9, len_slice Tryd.underlying24, lq75, lq9, opA_alloc 137 ty137, opA_alloc 79 ty79]
          have p38 := MapC.ext p3 (E7.trans E8)
          have hmvlt := MapC.lt p3
          have hs7 := E7.size
          refine copy_c m8 p38 (by omega) p4.1 fun G9 l9 k9 m9 lk9 mem9 => ?_
          have E79 : Ext G7 G9 := k9.two E8 hd
          have hrlt := MapC.lt hm
          obtain ⟨es, clk, hr7, hes, hborn, hbn⟩ := MapC.ext hm E7
          have hr9 := E79.get hr7
          have hvg := valuesF_good _ _ _ ⟨by simp, by simp⟩ (fun w hw' => hwb w (by simp [hw'])) hv
          have b9 : ∀ p ∈ l9, p.2.length ≤ 1000 := fun p hp => (mem9 p hp).elim (fun h => hsy3 p h) (fun h => p4.2 p h)
          simp only [go_sem, reduceCtorEq, Nat.reduceEqDiff, Nat.reduceAdd, withc_some, withcs_some, cells_0, cells_s, Option.bind_some, Option.map_some, List.getElem?_toArray, List.getElem?_cons_zero, List.getElem?_cons_succ, Nat.add_zero, Nat.zero_add, Value.cells, splice, List.setIfInBounds_toArray, List.set_cons_zero, List.set_cons_succ, bfill_nil, bfill_cons, bstep_some, withO_some, List.take_zero, List.take_succ_cons, List.drop_zero, List.drop_succ_cons, List.cons_append, List.nil_append, List.append_nil, List.length_cons, List.length_nil, Nat.reduceLeDiff, Nat.le_refl, and_true, true_and, and_self, decide_true, decide_false, Bool.not_true, Bool.not_false, c89_23, r89_14, callA_fn0 pl100, callA_fn0 pl30, callA_fn0 pl91, callA_fn0 pl98, callA_fn0 pl99, fa137_0, fa77_0, fa77_1, fa82_2, fq77_1, ld22, ld4, ld75, ld82, ld9, len_slice Tryd.underlying24, lq75, lq9, opA_alloc 137 ty137, opA_alloc 79 ty79]
          rw [rngA_map uMS hr9]
          simp only [go_sem, reduceCtorEq, Nat.reduceEqDiff, Nat.reduceAdd, withc_some, withcs_some, cells_0, cells_s, Option.bind_some, Option.map_some, List.getElem?_toArray, List.getElem?_cons_zero, List.getElem?_cons_succ, Nat.add_zero, Nat.zero_add, Value.cells, splice, List.setIfInBounds_toArray, List.set_cons_zero, List.set_cons_succ, bfill_nil, bfill_cons, bstep_some, withO_some, List.take_zero, List.take_succ_cons, List.drop_zero, List.drop_succ_cons, List.cons_append, List.nil_append, List.append_nil, List.length_cons, List.length_nil, Nat.reduceLeDiff, Nat.le_refl, and_true, true_and, and_self, decide_true, decide_false, Bool.not_true, Bool.not_false, c89_18, callA_fn0 pl100, callA_fn0 pl30, callA_fn0 pl91, callA_fn0 pl98, callA_fn0 pl99, fa137_0, fa77_0, fa77_1, fa82_2, fq77_1, ld22, ld4, ld75, ld82, ld9, len_slice Tryd.underlying24, lq75, lq9, opA_alloc 137 ty137, opA_alloc 79 ty79]
          have hit0 : (G9.push (.mapIter (some r) clk #[] clk))[G9.size]? = some (.mapIter (some r) clk #[] clk) := by simp
          have e10 : Ext G7 (G9.push (.mapIter (some r) clk #[] clk)) := E79.trans (Ext.push _ _)
          have m10 := MapC.ext m9 (Ext.push G9 (.mapIter (some r) clk #[] clk))
          have hs79 := E79.size
          have hdlt := MapC.lt m9
          generalize (G9.push (.mapIter (some r) clk #[] clk)) = G10 at *
          obtain ⟨it, hitd⟩ : ∃ it, G9.size = it := ⟨_, rfl⟩
          rw [hitd] at hit0 ⊢
          have hent : ∀ e ∈ es, ∃ p ∈ v, e.key = .string (B p.1) ∧ e.val = .string (B p.2) := by
            intro e he
            have : (e.key, e.val) ∈ es.toList.map (fun e => (e.key, e.val)) := List.mem_map.2 ⟨e, Array.mem_toList_iff.2 he, rfl⟩
            rw [hes] at this
            obtain ⟨q, hq, heq⟩ := List.mem_map.1 this
            obtain ⟨p, hp, rfl⟩ := List.mem_map.1 hq
            simp only [Prod.mk.injEq] at heq
            exact ⟨p, hp, heq.1.symm, heq.2.symm⟩
          refine aw_while (L := c89_17) rfl (fun n F G => ∃ (seen : Array Nat) (l : Sym), n = (es.toList.filter fun e => !seen.contains e.born).length ∧ F = [(0, .pointer (some ⟨R, 0, none⟩)), (2, .slice (some ⟨wb, woff, none⟩) (ws.length + 1 + 1 + 1) wc), (4, .pointer (some ⟨b4, 0, none⟩)), (7, .pointer (some ⟨b7, 0, none⟩)), (10, .pointer (some ⟨b10, 0, none⟩)), (11, .map (some ms)), (12, .map (some d)), (77, .pointer (some ⟨it, 0, none⟩))] ∧
              G[it]? = some (.mapIter (some r) clk seen clk) ∧ Ext G7 G ∧ MapC G d (symV l) ∧ (∀ k, (∃ e ∈ es, e.born ∈ seen ∧ e.key = .string (B k)) → l.lookup k = v.lookup k) ∧ (∀ k, (¬ ∃ e ∈ es, e.born ∈ seen ∧ e.key = .string (B k)) → l.lookup k = l9.lookup k) ∧ (∀ p ∈ l, p.2.length ≤ 1000) ∧
              (∀ e ∈ es, e.born ∈ seen → ∀ q : List UInt8, e.key = .string (B q) → (pv.lookup q).isSome = true)) (m := (es.toList.filter fun e => !(#[] : Array Nat).contains e.born).length)
            ⟨#[], l9, rfl, rfl, hit0, e10, m10, (by rintro k ⟨e, _, h, _⟩; simp at h), fun k _ => rfl, b9, by simp⟩ ?_
          rintro n F G ih ⟨seen, l, rfl, rfl, hit, hE, hl, hl1, hl2, hl3, hl4⟩
          have hrG := hE.get hr7
          have hdit : d ≠ it := by omega
          simp only [go_sem, reduceCtorEq, Nat.reduceEqDiff, Nat.reduceAdd, withc_some, withcs_some, cells_0, cells_s, Option.bind_some, Option.map_some, List.getElem?_toArray, List.getElem?_cons_zero, List.getElem?_cons_succ, Nat.add_zero, Nat.zero_add, Value.cells, splice, List.setIfInBounds_toArray, List.set_cons_zero, List.set_cons_succ, bfill_nil, bfill_cons, bstep_some, withO_some, List.take_zero, List.take_succ_cons, List.drop_zero, List.drop_succ_cons, List.cons_append, List.nil_append, List.append_nil, List.length_cons, List.length_nil, Nat.reduceLeDiff, Nat.le_refl, and_true, true_and, and_self, decide_true, decide_false, Bool.not_true, Bool.not_false, c89_16, c89_15, r89_15, callA_fn0 pl100, callA_fn0 pl30, callA_fn0 pl91, callA_fn0 pl98, callA_fn0 pl99, fa137_0, fa77_0, fa77_1, fa82_2, fq77_1, ld22, ld4, ld75, ld82, ld9, len_slice Tryd.underlying24, lq75, lq9, opA_alloc 137 ty137, opA_alloc 79 ty79]
          refine nxtA_map hit hrG hborn ?_ ?_
          · intro e he hns
            have hit2 := get_set (o := .mapIter (some r) clk (seen.push e.born) clk) hit
            have hE2 : Ext G7 (G.setIfInBounds it (.mapIter (some r) clk (seen.push e.born) clk)) := hE.set (by omega)
            have hl' : MapC (G.setIfInBounds it (.mapIter (some r) clk (seen.push e.born) clk)) d (symV l) := by
              obtain ⟨es', clk', q1, q2⟩ := hl
              exact ⟨es', clk', by rw [Array.getElem?_setIfInBounds_ne (fun e => hdit e.symm)]; exact q1, q2⟩
            generalize (G.setIfInBounds it (.mapIter (some r) clk (seen.push e.born) clk)) = G11 at *
            simp only [go_sem, reduceCtorEq, Nat.reduceEqDiff, Nat.reduceAdd, withc_some, withcs_some, cells_0, cells_s, Option.bind_some, Option.map_some, List.getElem?_toArray, List.getElem?_cons_zero, List.getElem?_cons_succ, Nat.add_zero, Nat.zero_add, Value.cells, splice, List.setIfInBounds_toArray, List.set_cons_zero, List.set_cons_succ, bfill_nil, bfill_cons, bstep_some, withO_some, List.take_zero, List.take_succ_cons, List.drop_zero, List.drop_succ_cons, List.cons_append, List.nil_append, List.append_nil, List.length_cons, List.length_nil, Nat.reduceLeDiff, Nat.le_refl, and_true, true_and, and_self, decide_true, decide_false, Bool.not_true, Bool.not_false, c89_14, c89_13, c89_12, r89_16, callA_fn0 pl100, callA_fn0 pl30, callA_fn0 pl91, callA_fn0 pl98, callA_fn0 pl99, fa137_0, fa77_0, fa77_1, fa82_2, fq77_1, ld22, ld4, ld75, ld82, ld9, len_slice Tryd.underlying24, lq75, lq9, opA_alloc 137 ty137, opA_alloc 79 ty79]
            refine entA_map hit2 (by simp) (hE2.get hr7) ⟨e, he, rfl⟩ fun e' he' hb' => ?_
            have hee : e' = e := born_inj hbn he' he hb'
            subst hee
            obtain ⟨p, hp, hkey, hval⟩ := hent e' he
            have hpvl : SymV G11 (.map (some mv)) pv := .inr ⟨mv, rfl, (MapC.ext p3 (E7.trans hE2)).o⟩
            simp only [go_sem, reduceCtorEq, Nat.reduceEqDiff, Nat.reduceAdd, withc_some, withcs_some, cells_0, cells_s, Option.bind_some, Option.map_some, List.getElem?_toArray, List.getElem?_cons_zero, List.getElem?_cons_succ, Nat.add_zero, Nat.zero_add, Value.cells, splice, List.setIfInBounds_toArray, List.set_cons_zero, List.set_cons_succ, bfill_nil, bfill_cons, bstep_some, withO_some, List.take_zero, List.take_succ_cons, List.drop_zero, List.drop_succ_cons, List.cons_append, List.nil_append, List.append_nil, List.length_cons, List.length_nil, Nat.reduceLeDiff, Nat.le_refl, and_true, true_and, and_self, decide_true, decide_false, Bool.not_true, Bool.not_false, hkey, hval, c89_11, r89_17, cell_of_blk (hE2.get h11'), opA_lookup, callA_fn0 pl100, callA_fn0 pl30, callA_fn0 pl91, callA_fn0 pl98, callA_fn0 pl99, fa137_0, fa77_0, fa77_1, fa82_2, fq77_1, ld22, ld4, ld75, ld82, ld9, len_slice Tryd.underlying24, lq75, lq9, opA_alloc 137 ty137, opA_alloc 79 ty79]
            rw [lkp_sym hpvl]
            simp only [go_sem, reduceCtorEq, Nat.reduceEqDiff, Nat.reduceAdd, withc_some, withcs_some, cells_0, cells_s, Option.bind_some, Option.map_some, List.getElem?_toArray, List.getElem?_cons_zero, List.getElem?_cons_succ, Nat.add_zero, Nat.zero_add, Value.cells, splice, List.setIfInBounds_toArray, List.set_cons_zero, List.set_cons_succ, bfill_nil, bfill_cons, bstep_some, withO_some, List.take_zero, List.take_succ_cons, List.drop_zero, List.drop_succ_cons, List.cons_append, List.nil_append, List.append_nil, List.length_cons, List.length_nil, Nat.reduceLeDiff, Nat.le_refl, and_true, true_and, and_self, decide_true, decide_false, Bool.not_true, Bool.not_false, c89_10, r89_18, callA_fn0 pl100, callA_fn0 pl30, callA_fn0 pl91, callA_fn0 pl98, callA_fn0 pl99, fa137_0, fa77_0, fa77_1, fa82_2, fq77_1, ld22, ld4, ld75, ld82, ld9, len_slice Tryd.underlying24, lq75, lq9, opA_alloc 137 ty137, opA_alloc 79 ty79]
            have E2G := E27.trans hE2
            cases hok : (pv.lookup p.1).isSome with
            | false =>
              have hvall : (v.all fun q => (pv.lookup q.1).isSome) = false := by
                rw [Bool.eq_false_iff]
                intro ha
                rw [List.all_eq_true] at ha
                have := ha p hp
                rw [hok] at this
                cases this
              simp only [go_sem, reduceCtorEq, Nat.reduceEqDiff, Nat.reduceAdd, withc_some, withcs_some, cells_0, cells_s, Option.bind_some, Option.map_some, List.getElem?_toArray, List.getElem?_cons_zero, List.getElem?_cons_succ, Nat.add_zero, Nat.zero_add, Value.cells, splice, List.setIfInBounds_toArray, List.set_cons_zero, List.set_cons_succ, bfill_nil, bfill_cons, bstep_some, withO_some, List.take_zero, List.take_succ_cons, List.drop_zero, List.drop_succ_cons, List.cons_append, List.nil_append, List.append_nil, List.length_cons, List.length_nil, Nat.reduceLeDiff, Nat.le_refl, and_true, true_and, and_self, decide_true, decide_false, Bool.not_true, Bool.not_false, c89_9, c89_8, r89_19, cell_of_blk (E2G.get h42), callA_fn0 pl100, callA_fn0 pl30, callA_fn0 pl91, callA_fn0 pl98, callA_fn0 pl99, fa137_0, fa77_0, fa77_1, fa82_2, fq77_1, ld22, ld4, ld75, ld82, ld9, len_slice Tryd.underlying24, lq75, lq9, opA_alloc 137 ty137, opA_alloc 79 ty79]
              refine at_c (hr.ext (E12.trans E2G)) fun G12 E12' => ?_
              simp only [go_sem, reduceCtorEq, Nat.reduceEqDiff, Nat.reduceAdd, withc_some, withcs_some, cells_0, cells_s, Option.bind_some, Option.map_some, List.getElem?_toArray, List.getElem?_cons_zero, List.getElem?_cons_succ, Nat.add_zero, Nat.zero_add, Value.cells, splice, List.setIfInBounds_toArray, List.set_cons_zero, List.set_cons_succ, bfill_nil, bfill_cons, bstep_some, withO_some, List.take_zero, List.take_succ_cons, List.drop_zero, List.drop_succ_cons, List.cons_append, List.nil_append, List.append_nil, List.length_cons, List.length_nil, Nat.reduceLeDiff, Nat.le_refl, and_true, true_and, and_self, decide_true, decide_false, Bool.not_true, Bool.not_false, callA_fn0 pl100, callA_fn0 pl30, callA_fn0 pl91, callA_fn0 pl98, callA_fn0 pl99, fa137_0, fa77_0, fa77_1, fa82_2, fq77_1, ld22, ld4, ld75, ld82, ld9, len_slice Tryd.underlying24, lq75, lq9, opA_alloc 137 ty137, opA_alloc 79 ty79]
              refine store_kA ((E2G.trans E12').get h7) ty79 (k := fun G13 h8 k13 s13 => ?_)
              simp only [go_sem, reduceCtorEq, Nat.reduceEqDiff, Nat.reduceAdd, withc_some, withcs_some, cells_0, cells_s, Option.bind_some, Option.map_some, List.getElem?_toArray, List.getElem?_cons_zero, List.getElem?_cons_succ, Nat.add_zero, Nat.zero_add, Value.cells, splice, List.setIfInBounds_toArray, List.set_cons_zero, List.set_cons_succ, bfill_nil, bfill_cons, bstep_some, withO_some, List.take_zero, List.take_succ_cons, List.drop_zero, List.drop_succ_cons, List.cons_append, List.nil_append, List.append_nil, List.length_cons, List.length_nil, Nat.reduceLeDiff, Nat.le_refl, and_true, true_and, and_self, decide_true, decide_false, Bool.not_true, Bool.not_false, resW_cell, callA_fn0 pl100, callA_fn0 pl30, callA_fn0 pl91, callA_fn0 pl98, callA_fn0 pl99, fa137_0, fa77_0, fa77_1, fa82_2, fq77_1, ld22, ld4, ld75, ld82, ld9, len_slice Tryd.underlying24, lq75, lq9, opA_alloc 137 ty137, opA_alloc 79 ty79]
              rw [rc79 (l := [.int .i64 k, .int .i64 4]) (by simp only [go_sem, reduceCtorEq, Nat.reduceEqDiff, Nat.reduceAdd, withc_some, withcs_some, cells_0, cells_s, Option.bind_some, Option.map_some, List.getElem?_toArray, List.getElem?_cons_zero, List.getElem?_cons_succ, Nat.add_zero, Nat.zero_add, Value.cells, splice, List.setIfInBounds_toArray, List.set_cons_zero, List.set_cons_succ, bfill_nil, bfill_cons, bstep_some, withO_some, List.take_zero, List.take_succ_cons, List.drop_zero, List.drop_succ_cons, List.cons_append, List.nil_append, List.append_nil, List.length_cons, List.length_nil, Nat.reduceLeDiff, Nat.le_refl, and_true, true_and, and_self, decide_true, decide_false, Bool.not_true, Bool.not_false, cell_of_blk h8, callA_fn0 pl100, callA_fn0 pl30, callA_fn0 pl91, callA_fn0 pl98, callA_fn0 pl99, fa137_0, fa77_0, fa77_1, fa82_2, fq77_1, ld22, ld4, ld75, ld82, ld9, len_slice Tryd.underlying24, lq75, lq9, opA_alloc 137 ty137, opA_alloc 79 ty79])]
              exact fin G12 G13 4 (by unfold callF; simp [hsy, hsy2, hv, p1, hvall]) (E2G.trans E12') k13
            | true =>
              simp only [go_sem, reduceCtorEq, Nat.reduceEqDiff, Nat.reduceAdd, withc_some, withcs_some, cells_0, cells_s, Option.bind_some, Option.map_some, List.getElem?_toArray, List.getElem?_cons_zero, List.getElem?_cons_succ, Nat.add_zero, Nat.zero_add, Value.cells, splice, List.setIfInBounds_toArray, List.set_cons_zero, List.set_cons_succ, bfill_nil, bfill_cons, bstep_some, withO_some, List.take_zero, List.take_succ_cons, List.drop_zero, List.drop_succ_cons, List.cons_append, List.nil_append, List.append_nil, List.length_cons, List.length_nil, Nat.reduceLeDiff, Nat.le_refl, and_true, true_and, and_self, decide_true, decide_false, Bool.not_true, Bool.not_false, c89_9, r89_20, opA_mapUpdate, callA_fn0 pl100, callA_fn0 pl30, callA_fn0 pl91, callA_fn0 pl98, callA_fn0 pl99, fa137_0, fa77_0, fa77_1, fa82_2, fq77_1, ld22, ld4, ld75, ld82, ld9, len_slice Tryd.underlying24, lq75, lq9, opA_alloc 137 ty137, opA_alloc 79 ty79]
              refine mupA_ok uMS uStr hl' fun G12 m12 k12 => ?_
              rw [← symV_putS] at m12
              have hit12 := k12.get hit2 (fun e => hdit e.symm)
              have hsp := lookup_nodup hvg.1 (show (p.1, p.2) ∈ v from hp)
              have hE12 : Ext G7 G12 := k12.two hE2 hd
              simp only [go_sem, reduceCtorEq, Nat.reduceEqDiff, Nat.reduceAdd, withc_some, withcs_some, cells_0, cells_s, Option.bind_some, Option.map_some, List.getElem?_toArray, List.getElem?_cons_zero, List.getElem?_cons_succ, Nat.add_zero, Nat.zero_add, Value.cells, splice, List.setIfInBounds_toArray, List.set_cons_zero, List.set_cons_succ, bfill_nil, bfill_cons, bstep_some, withO_some, List.take_zero, List.take_succ_cons, List.drop_zero, List.drop_succ_cons, List.cons_append, List.nil_append, List.append_nil, List.length_cons, List.length_nil, Nat.reduceLeDiff, Nat.le_refl, and_true, true_and, and_self, decide_true, decide_false, Bool.not_true, Bool.not_false, callA_fn0 pl100, callA_fn0 pl30, callA_fn0 pl91, callA_fn0 pl98, callA_fn0 pl99, fa137_0, fa77_0, fa77_1, fa82_2, fq77_1, ld22, ld4, ld75, ld82, ld9, len_slice Tryd.underlying24, lq75, lq9, opA_alloc 137 ty137, opA_alloc 79 ty79]
              refine ih _ _ _ ?_ ⟨seen.push e'.born, putS p.1 p.2 l, rfl, rfl, hit12, hE12, m12, ?_, ?_, ?_, ?_⟩
              · refine filter_lt (a := e') ?_ (Array.mem_toList_iff.2 he) (by simpa using hns) (by simp)
                intro x hx
                simp at hx ⊢
                exact hx.1
              · rintro k ⟨e2, he2, hb2, hk2'⟩
                rw [lookup_putS]
                by_cases hkp : k = p.1
                · rw [if_pos hkp, hkp, hsp]
                · rw [if_neg hkp]
                  refine hl1 k ⟨e2, he2, ?_, hk2'⟩
                  rcases Array.mem_push.1 hb2 with h3 | h3
                  · exact h3
                  · have := born_inj hbn he2 he h3
                    subst this
                    rw [hkey] at hk2'
                    simp only [Value.string.injEq, B_inj] at hk2'
                    exact absurd hk2'.symm hkp
              · intro k hno
                have hkp : k ≠ p.1 := fun e => hno ⟨e', he, Array.mem_push_self, by rw [hkey, e]⟩
                rw [lookup_putS, if_neg hkp]
                exact hl2 k fun ⟨e2, he2, hb2, hk2'⟩ => hno ⟨e2, he2, Array.mem_push_of_mem _ hb2, hk2'⟩
              · intro q hq
                rcases putS_mem hq with rfl | hq
                · exact hvg.2 p hp
                · exact hl3 q hq
              · intro e2 he2 hb2 q hkq
                rcases Array.mem_push.1 hb2 with h3 | h3
                · exact hl4 e2 he2 h3 q hkq
                · have := born_inj hbn he2 he h3
                  subst this
                  rw [hkey] at hkq
                  simp only [Value.string.injEq, B_inj] at hkq
                  rw [← hkq]; exact hok
          · intro hseen
            have hvall : (v.all fun q => (pv.lookup q.1).isSome) = true := by
              rw [List.all_eq_true]
              intro q hq
              obtain ⟨e, he, hk1, _⟩ := ent_mem hes hq
              exact hl4 e he (hseen e he) q.1 hk1
            have hlk : ∀ x, l.lookup x = (v ++ (pv ++ s.syms)).lookup x := by
              intro x
              rw [lookup_append', lookup_append']
              cases hx : v.lookup x with
              | some y =>
                obtain ⟨e, he, hk1, _⟩ := ent_mem hes (lookup_some_mem hx)
                rw [hl1 x ⟨e, he, hseen e he, hk1⟩, hx]; rfl
              | none =>
                rw [hl2 x ?_, lk9, hsy2']
                · rfl
                · rintro ⟨e, he, _, hk1⟩
                  obtain ⟨p, hp, hkey, _⟩ := hent e he
                  rw [hkey] at hk1
                  simp only [Value.string.injEq, B_inj] at hk1
                  have := lookup_nodup hvg.1 (show (p.1, p.2) ∈ v from hp)
                  rw [hk1, hx] at this
                  cases this
            have hcall : callF LFi false s k (w0 :: a :: b :: ws) = ({ (readT (LFi a) prows.length { s with syms := v ++ (pv ++ s.syms) } prows).1 with syms := s.syms }, ⟨0, (readT (LFi a) prows.length { s with syms := v ++ (pv ++ s.syms) } prows).2.1, (readT (LFi a) prows.length { s with syms := v ++ (pv ++ s.syms) } prows).2.2⟩) := by
              unfold callF
              simp only [hsy, hsy2, hv, p1, hvall, Bool.false_eq_true, if_false, Bool.true_eq_false, or_self, if_true]
            have E2G := E27.trans hE
            have EHG := E12.trans E2G
            have E5G := E7.trans hE
            have hRG := hR5.ext E5G
            have hsymG : SymsV G d (v ++ (pv ++ s.syms)) := ⟨l, hl, hlk, hl3⟩
            simp only [go_sem, reduceCtorEq, Nat.reduceEqDiff, Nat.reduceAdd, withc_some, withcs_some, cells_0, cells_s, Option.bind_some, Option.map_some, List.getElem?_toArray, List.getElem?_cons_zero, List.getElem?_cons_succ, Nat.add_zero, Nat.zero_add, Value.cells, splice, List.setIfInBounds_toArray, List.set_cons_zero, List.set_cons_succ, bfill_nil, bfill_cons, bstep_some, withO_some, List.take_zero, List.take_succ_cons, List.drop_zero, List.drop_succ_cons, List.cons_append, List.nil_append, List.append_nil, List.length_cons, List.length_nil, Nat.reduceLeDiff, Nat.le_refl, and_true, true_and, and_self, decide_true, decide_false, Bool.not_true, Bool.not_false, c89_14, c89_22, r89_21, callA_fn0 pl100, callA_fn0 pl30, callA_fn0 pl91, callA_fn0 pl98, callA_fn0 pl99, fa137_0, fa77_0, fa77_1, fa82_2, fq77_1, ld22, ld4, ld75, ld82, ld9, len_slice Tryd.underlying24, lq75, lq9, opA_alloc 137 ty137, opA_alloc 79 ty79]
            have hRbG := E5G.get hRb
            refine store_k1 hRbG ty22 (k := fun Ga ha ka sa => ?_)
            have hfa : KeepO (mutJ B0 (fun x => x = ms ∨ x = mp ∨ x = d)) H Ga := KeepO.trans (EHG.ko) (ka.ko fun x o hx ho => by subst hx; rw [hRbG] at ho; cases ho; exact ⟨hR0, .inl ⟨_, _, .inl rfl⟩⟩)
            have hga : G0 Ga := G0.frJ g hfa hB0
            have h10a := keepR_cells hRbG ka (hE.get h11') (by decide)
            have hrowsa : RowsV Ga (.slice pa prows.length pc) prows := SlE.mono (p8.ext E5G) fun b c f hb => keepR_cells hRbG ka hb (by decide)
            have hwa : SlV Ga (.slice (some ⟨wb, woff, none⟩) (ws.length + 1 + 1 + 1) wc) (w0 :: a :: b :: ws) := SlE.mono (SlE.ext hw EHG) fun b c f hb => keepR_cells hRbG ka hb (by decide)
            obtain ⟨_, _, _, ee, wva⟩ := hwa.at (i := 1) (w := a) rfl
            cases ee
            have hmpG := MapC.ext hpl E5G
            have hs17 := E17.size
            have hs15 := E15.size
            have hmp5 := MapC.lt hpl
            have hms5 : ms < G5.size := MapC.lt hsy1
            have hpra : ProcsV B0 R d mp Ga s.procs := ⟨pl, keepR_map hRbG ka hmpG, hall.imp fun p x ⟨e, mv, rv, q1, q2, q3, q4, q5, q6, q7⟩ => ⟨e, mv, rv, q1, keepR_map hRbG ka (MapC.ext q2 E5G), q3, by have := MapC.lt q2; omega, q5, q6, SlE.mono (q7.ext E5G) fun b c f hb => keepR_cells hRbG ka hb (by decide)⟩⟩
            have hrda : Rdr B0 R d mp Ga { s with syms := v ++ (pv ++ s.syms) } := hRG.turn ka (fun c hc => by rw [hRbG] at hc; cases hc; exact ha) (hsymG.turn fun _ h => keepR_map hRbG ka h) (by omega) (by omega) hpra
            simp only [go_sem, reduceCtorEq, Nat.reduceEqDiff, Nat.reduceAdd, withc_some, withcs_some, cells_0, cells_s, Option.bind_some, Option.map_some, List.getElem?_toArray, List.getElem?_cons_zero, List.getElem?_cons_succ, Nat.add_zero, Nat.zero_add, Value.cells, splice, List.setIfInBounds_toArray, List.set_cons_zero, List.set_cons_succ, bfill_nil, bfill_cons, bstep_some, withO_some, List.take_zero, List.take_succ_cons, List.drop_zero, List.drop_succ_cons, List.cons_append, List.nil_append, List.append_nil, List.length_cons, List.length_nil, Nat.reduceLeDiff, Nat.le_refl, and_true, true_and, and_self, decide_true, decide_false, Bool.not_true, Bool.not_false, c89_21, r89_22, cell_of_blk h10a, bl82, bq82, callA_fn0 pl100, callA_fn0 pl30, callA_fn0 pl91, callA_fn0 pl98, callA_fn0 pl99, fa137_0, fa137_1, fa77_0, fa77_1, fa82_2, fq137_1, fq77_1, ld22, ld4, ld68, ld75, ld82, ld9, len_slice Tryd.underlying24, lq68, lq75, lq9, opA_alloc 137 ty137, opA_alloc 79 ty79]
            rw [iadQ_slice uStrs ty9 (by omega) (by simp; omega)]
            simp only [go_sem, reduceCtorEq, Nat.reduceEqDiff, Nat.reduceAdd, withc_some, withcs_some, cells_0, cells_s, Option.bind_some, Option.map_some, List.getElem?_toArray, List.getElem?_cons_zero, List.getElem?_cons_succ, Nat.add_zero, Nat.zero_add, Value.cells, splice, List.setIfInBounds_toArray, List.set_cons_zero, List.set_cons_succ, bfill_nil, bfill_cons, bstep_some, withO_some, List.take_zero, List.take_succ_cons, List.drop_zero, List.drop_succ_cons, List.cons_append, List.nil_append, List.append_nil, List.length_cons, List.length_nil, Nat.reduceLeDiff, Nat.le_refl, and_true, true_and, and_self, decide_true, decide_false, Bool.not_true, Bool.not_false, add_none, show Int.toNat 1 = 1 from rfl, Nat.mul_one, wva, bl82, bq82, callA_fn0 pl100, callA_fn0 pl30, callA_fn0 pl91, callA_fn0 pl98, callA_fn0 pl99, fa137_0, fa137_1, fa77_0, fa77_1, fa82_2, fq137_1, fq77_1, ld22, ld4, ld68, ld75, ld82, ld9, len_slice Tryd.underlying24, lq68, lq75, lq9, opA_alloc 137 ty137, opA_alloc 79 ty79]
            have hBa : B0 ≤ Ga.size := Nat.le_trans hB hfa.size
            -- the call of read, at whatever heap that holds the same
            have hread : ∀ (Gx : Hp) (KK : Ending → Hp → Prop), Ext Ga Gx → (∀ Gb, KeepO (mutJ B0 (MM d mp)) Gx Gb → Rdr B0 R d mp Gb (readT (LFi a) prows.length { s with syms := v ++ (pv ++ s.syms) } prows).1 → KK (.returned (.agg #[.int .i64 (readT (LFi a) prows.length { s with syms := v ++ (pv ++ s.syms) } prows).2.1, .int .i64 (readT (LFi a) prows.length { s with syms := v ++ (pv ++ s.syms) } prows).2.2])) Gb) →
                HCall Tryd.prog 39 #[.pointer (some ⟨R, 0, none⟩), .agg #[.slice pa prows.length pc, .string (B a), .bool true]] Gx KK := by
              intro Gx KK Ex hk
              refine read_c (LFi a) (fun s => s.out.length ≤ 400) rowsOk (hrda.ext Ex) hB0 (by have := Ex.size; omega) (hga.ext Ex) (hrowsa.ext Ex) hout (hpr _ p9) (hpr _ p9).1 (fun s x rest h1 h2 _ => ⟨(LFi_step h1).1, (LFi_step h1).2, h2.tail.drop _⟩) ?_ hk
              intro s' G' rv' k' t' rest' kn' K2 hiv hrw hBG hg' hrd' hmk' hrv' hrl' hk'
              refine line_any (fun _ s _ _ => (s, ⟨0, 0, 0⟩)) hrd' hB0 hBG hg' hmk' hrv' (hrw.2 (k', t') (List.mem_cons_self ..)) hrw.tail.2 hrl' hiv ?_ hk'
              intro G'' wv' words' K3 E'' hw'' hl'' hb'' hh'' hk3
              have e9 : callF (fun _ s _ _ => (s, ⟨0, 0, 0⟩)) true s' k' words' = (s', ⟨0, k', 9⟩) := by
                unfold callF
                split <;> rfl
              rw [e9] at hk3
              exact callin_c (hrd'.ext E'') (hrv'.ext E'') (by obtain ⟨x, y, z⟩ := SlE.form hw''; exact ⟨_, _, _, z⟩) hk3
            generalize hres : readT (LFi a) prows.length { s with syms := v ++ (pv ++ s.syms) } prows = res at *
            -- behind the region
            have rest_ : ∀ (Gd : Hp) (b17 : Nat), H.size ≤ b17 → KeepO (mutJ B0 (MM d mp)) Ga Gd → Rdr B0 R d mp Gd res.1 → Gd[b17]? = some (.cells #[.int .i64 res.2.1, .int .i64 res.2.2] 79 (0, 0)) →
                (aw Tryd.prog 114 c89_20 (retK Tryd.prog [.tmp 6, .cell 7 79] K) [(0, .pointer (some ⟨R, 0, none⟩)), (7, .pointer (some ⟨b7, 0, none⟩)), (11, .map (some ms)), (17, .pointer (some ⟨b17, 0, none⟩))] Gd) := by
              intro Gd b17 hb17 hfad hrdd h17
              obtain ⟨⟨hRo0, ovd, cellsd, hRbd, hownd, hstd⟩, hsymsd, ⟨pld, hpld, halld⟩, _⟩ := id hrdd
              have h7a := keepR_cells hRbG ka (E2G.get h7) (by decide)
              have h7d := cells_frJ hfad h7a (by decide) (by decide)
              have hmsd : SymsV Gd ms s.syms := ⟨lsy, MapC.ko (keepR_map hRbG ka (MapC.ext hsy1 E5G)) hfad (fun es kk hh => by
                rcases hh.2 with ⟨c, f, h3 | h3⟩ | ⟨h3, _⟩
                · cases h3
                · cases h3
                · rcases h3 with h3 | h3 <;> omega), hsy2', hsy3⟩
              simp only [go_sem, reduceCtorEq, Nat.reduceEqDiff, Nat.reduceAdd, withc_some, withcs_some, cells_0, cells_s, Option.bind_some, Option.map_some, List.getElem?_toArray, List.getElem?_cons_zero, List.getElem?_cons_succ, Nat.add_zero, Nat.zero_add, Value.cells, splice, List.setIfInBounds_toArray, List.set_cons_zero, List.set_cons_succ, bfill_nil, bfill_cons, bstep_some, withO_some, List.take_zero, List.take_succ_cons, List.drop_zero, List.drop_succ_cons, List.cons_append, List.nil_append, List.append_nil, List.length_cons, List.length_nil, Nat.reduceLeDiff, Nat.le_refl, and_true, true_and, and_self, decide_true, decide_false, Bool.not_true, Bool.not_false, c89_20, r89_23, bl82, bq82, callA_fn0 pl100, callA_fn0 pl30, callA_fn0 pl91, callA_fn0 pl98, callA_fn0 pl99, fa137_0, fa137_1, fa77_0, fa77_1, fa82_2, fq137_1, fq77_1, ld22, ld4, ld68, ld75, ld82, ld9, len_slice Tryd.underlying24, lq68, lq75, lq9, opA_alloc 137 ty137, opA_alloc 79 ty79]
              refine store_k1 hRbd ty22 (k := fun Ge he ke se => ?_)
              have h17e := keepR_cells hRbd ke h17 (by decide)
              have h7e := keepR_cells hRbd ke h7d (by decide)
              have hpre : ProcsV B0 R ms mp Ge res.1.procs := ⟨pld, keepR_map hRbd ke hpld, halld.imp fun p x ⟨e, mv, rv, q1, q2, q3, q4, q5, q6, q7⟩ => ⟨e, mv, rv, q1, keepR_map hRbd ke q2, q3, by omega, q5, q6, SlE.mono q7 fun b c f hb => keepR_cells hRbd ke hb (by decide)⟩⟩
              have hrde : Rdr B0 R ms mp Ge { res.1 with syms := s.syms } := hrdd.turn ke (fun c hc => by rw [hRbd] at hc; cases hc; exact he) (hmsd.turn fun _ h => keepR_map hRbd ke h) hbms hne hpre
              have hfe : KeepO (mutJ B0 (fun x => x = ms ∨ x = mp ∨ x = d)) H Ge := KeepO.trans (KeepO.trans hfa (hfad.mono fun x o ⟨q1, q2⟩ => ⟨q1, q2.imp_right fun ⟨c, e⟩ => ⟨c.elim (fun c => .inr (.inr c)) (fun c => .inr (.inl c)), e⟩⟩)) (ke.ko fun x o hx ho => by subst hx; rw [hRbd] at ho; cases ho; exact ⟨hR0, .inl ⟨_, _, .inl rfl⟩⟩)
              simp only [go_sem, reduceCtorEq, Nat.reduceEqDiff, Nat.reduceAdd, withc_some, withcs_some, cells_0, cells_s, Option.bind_some, Option.map_some, List.getElem?_toArray, List.getElem?_cons_zero, List.getElem?_cons_succ, Nat.add_zero, Nat.zero_add, Value.cells, splice, List.setIfInBounds_toArray, List.set_cons_zero, List.set_cons_succ, bfill_nil, bfill_cons, bstep_some, withO_some, List.take_zero, List.take_succ_cons, List.drop_zero, List.drop_succ_cons, List.cons_append, List.nil_append, List.append_nil, List.length_cons, List.length_nil, Nat.reduceLeDiff, Nat.le_refl, and_true, true_and, and_self, decide_true, decide_false, Bool.not_true, Bool.not_false, c89_19, r89_24, bl82, bq82, callA_fn0 pl100, callA_fn0 pl30, callA_fn0 pl91, callA_fn0 pl98, callA_fn0 pl99, fa137_0, fa137_1, fa77_0, fa77_1, fa82_2, fq137_1, fq77_1, ld22, ld4, ld68, ld75, ld79, ld82, ld9, len_slice Tryd.underlying24, lq68, lq75, lq9, opA_alloc 137 ty137, opA_alloc 79 ty79]
              rw [loadQ_agg Tryd.underlying79 rfl ty79 (show cellsH Ge ⟨b17, 0, none⟩ 0 2 = some [.int .i64 res.2.1, .int .i64 res.2.2] by rw [cellsH_of_blk h17e 2 0 (by simp)]; rfl)]
              simp only [go_sem, reduceCtorEq, Nat.reduceEqDiff, Nat.reduceAdd, withc_some, withcs_some, cells_0, cells_s, Option.bind_some, Option.map_some, List.getElem?_toArray, List.getElem?_cons_zero, List.getElem?_cons_succ, Nat.add_zero, Nat.zero_add, Value.cells, splice, List.setIfInBounds_toArray, List.set_cons_zero, List.set_cons_succ, bfill_nil, bfill_cons, bstep_some, withO_some, List.take_zero, List.take_succ_cons, List.drop_zero, List.drop_succ_cons, List.cons_append, List.nil_append, List.append_nil, List.length_cons, List.length_nil, Nat.reduceLeDiff, Nat.le_refl, and_true, true_and, and_self, decide_true, decide_false, Bool.not_true, Bool.not_false, bl82, bq82, callA_fn0 pl100, callA_fn0 pl30, callA_fn0 pl91, callA_fn0 pl98, callA_fn0 pl99, fa137_0, fa137_1, fa77_0, fa77_1, fa82_2, fq137_1, fq77_1, ld22, ld4, ld68, ld75, ld79, ld82, ld9, len_slice Tryd.underlying24, lq68, lq75, lq9, opA_alloc 137 ty137, opA_alloc 79 ty79]
              refine store_kA h7e ty79 (k := fun Gf h8 kf sf => ?_)
              simp only [go_sem, reduceCtorEq, Nat.reduceEqDiff, Nat.reduceAdd, withc_some, withcs_some, cells_0, cells_s, Option.bind_some, Option.map_some, List.getElem?_toArray, List.getElem?_cons_zero, List.getElem?_cons_succ, Nat.add_zero, Nat.zero_add, Value.cells, splice, List.setIfInBounds_toArray, List.set_cons_zero, List.set_cons_succ, bfill_nil, bfill_cons, bstep_some, withO_some, List.take_zero, List.take_succ_cons, List.drop_zero, List.drop_succ_cons, List.cons_append, List.nil_append, List.append_nil, List.length_cons, List.length_nil, Nat.reduceLeDiff, Nat.le_refl, and_true, true_and, and_self, decide_true, decide_false, Bool.not_true, Bool.not_false, resW_cell, bl82, bq82, callA_fn0 pl100, callA_fn0 pl30, callA_fn0 pl91, callA_fn0 pl98, callA_fn0 pl99, fa137_0, fa137_1, fa77_0, fa77_1, fa82_2, fq137_1, fq77_1, ld22, ld4, ld68, ld75, ld79, ld82, ld9, len_slice Tryd.underlying24, lq68, lq75, lq9, opA_alloc 137 ty137, opA_alloc 79 ty79]
              rw [rc79 (l := [.int .i64 res.2.1, .int .i64 res.2.2]) (by simp only [go_sem, reduceCtorEq, Nat.reduceEqDiff, Nat.reduceAdd, withc_some, withcs_some, cells_0, cells_s, Option.bind_some, Option.map_some, List.getElem?_toArray, List.getElem?_cons_zero, List.getElem?_cons_succ, Nat.add_zero, Nat.zero_add, Value.cells, splice, List.setIfInBounds_toArray, List.set_cons_zero, List.set_cons_succ, bfill_nil, bfill_cons, bstep_some, withO_some, List.take_zero, List.take_succ_cons, List.drop_zero, List.drop_succ_cons, List.cons_append, List.nil_append, List.append_nil, List.length_cons, List.length_nil, Nat.reduceLeDiff, Nat.le_refl, and_true, true_and, and_self, decide_true, decide_false, Bool.not_true, Bool.not_false, cell_of_blk h8, bl82, bq82, callA_fn0 pl100, callA_fn0 pl30, callA_fn0 pl91, callA_fn0 pl98, callA_fn0 pl99, fa137_0, fa137_1, fa77_0, fa77_1, fa82_2, fq137_1, fq77_1, ld22, ld4, ld68, ld75, ld79, ld82, ld9, len_slice Tryd.underlying24, lq68, lq75, lq9, opA_alloc 137 ty137, opA_alloc 79 ty79])]
              rw [hcall] at h
              refine h Gf ⟨?_, fun x o hx hm => ?_⟩ (hrde.kk (keepK_of h7e kf))
              · have := hfe.size; omega
              · have hxl := get_lt hx
                refine kf.get (hfe.blk x o hx fun hh => hm ⟨hh.1, hh.2.imp_right fun ⟨c, e⟩ => ⟨?_, e⟩⟩) (by have := E1.size; omega)
                rcases c with c | c | c
                · exact .inl c
                · exact .inr c
                · omega
            constructor
            · simp only [go_sem, reduceCtorEq, Nat.reduceEqDiff, Nat.reduceAdd, withc_some, withcs_some, cells_0, cells_s, Option.bind_some, Option.map_some, List.getElem?_toArray, List.getElem?_cons_zero, List.getElem?_cons_succ, Nat.add_zero, Nat.zero_add, Value.cells, splice, List.setIfInBounds_toArray, List.set_cons_zero, List.set_cons_succ, bfill_nil, bfill_cons, bstep_some, withO_some, List.take_zero, List.take_succ_cons, List.drop_zero, List.drop_succ_cons, List.cons_append, List.nil_append, List.append_nil, List.length_cons, List.length_nil, Nat.reduceLeDiff, Nat.le_refl, and_true, true_and, and_self, decide_true, decide_false, Bool.not_true, Bool.not_false, r89_22a, bl82, bq82, callA_fn0 pl100, callA_fn0 pl30, callA_fn0 pl39, callA_fn0 pl91, callA_fn0 pl98, callA_fn0 pl99, callQ_fn0 pl39, fa137_0, fa137_1, fa77_0, fa77_1, fa82_2, fq137_1, fq77_1, ld22, ld4, ld68, ld75, ld79, ld82, ld9, len_slice Tryd.underlying24, lq68, lq75, lq9, opA_alloc 137 ty137, opA_alloc 79 ty79]
              refine hread Ga _ (Ext.refl _) fun Gb hfb hrdb => ?_
              simp only [go_sem, reduceCtorEq, Nat.reduceEqDiff, Nat.reduceAdd, withc_some, withcs_some, cells_0, cells_s, Option.bind_some, Option.map_some, List.getElem?_toArray, List.getElem?_cons_zero, List.getElem?_cons_succ, Nat.add_zero, Nat.zero_add, Value.cells, splice, List.setIfInBounds_toArray, List.set_cons_zero, List.set_cons_succ, bfill_nil, bfill_cons, bstep_some, withO_some, List.take_zero, List.take_succ_cons, List.drop_zero, List.drop_succ_cons, List.cons_append, List.nil_append, List.append_nil, List.length_cons, List.length_nil, Nat.reduceLeDiff, Nat.le_refl, and_true, true_and, and_self, decide_true, decide_false, Bool.not_true, Bool.not_false, bl82, bq82, callA_fn0 pl100, callA_fn0 pl30, callA_fn0 pl39, callA_fn0 pl91, callA_fn0 pl98, callA_fn0 pl99, callQ_fn0 pl39, fa137_0, fa137_1, fa77_0, fa77_1, fa82_2, fq137_1, fq77_1, ld22, ld4, ld68, ld75, ld79, ld82, ld9, len_slice Tryd.underlying24, lq68, lq75, lq9, opA_alloc 137 ty137, opA_alloc 79 ty79]
              refine box_kA fun b17 Gc e17 s17 h17 Ec => ?_
              simp only [go_sem, reduceCtorEq, Nat.reduceEqDiff, Nat.reduceAdd, withc_some, withcs_some, cells_0, cells_s, Option.bind_some, Option.map_some, List.getElem?_toArray, List.getElem?_cons_zero, List.getElem?_cons_succ, Nat.add_zero, Nat.zero_add, Value.cells, splice, List.setIfInBounds_toArray, List.set_cons_zero, List.set_cons_succ, bfill_nil, bfill_cons, bstep_some, withO_some, List.take_zero, List.take_succ_cons, List.drop_zero, List.drop_succ_cons, List.cons_append, List.nil_append, List.append_nil, List.length_cons, List.length_nil, Nat.reduceLeDiff, Nat.le_refl, and_true, true_and, and_self, decide_true, decide_false, Bool.not_true, Bool.not_false, bl82, bq82, callA_fn0 pl100, callA_fn0 pl30, callA_fn0 pl39, callA_fn0 pl91, callA_fn0 pl98, callA_fn0 pl99, callQ_fn0 pl39, fa137_0, fa137_1, fa77_0, fa77_1, fa82_2, fq137_1, fq77_1, ld22, ld4, ld68, ld75, ld79, ld82, ld9, len_slice Tryd.underlying24, lq68, lq75, lq9, opA_alloc 137 ty137, opA_alloc 79 ty79]
              refine ⟨Ec, ?_⟩
              refine store_kA h17 ty79 (k := fun Gd h17d kd sd => ?_)
              have Ed : Ext Gb Gd := kd.two Ec (by omega)
              simp only [go_sem, reduceCtorEq, Nat.reduceEqDiff, Nat.reduceAdd, withc_some, withcs_some, cells_0, cells_s, Option.bind_some, Option.map_some, List.getElem?_toArray, List.getElem?_cons_zero, List.getElem?_cons_succ, Nat.add_zero, Nat.zero_add, Value.cells, splice, List.setIfInBounds_toArray, List.set_cons_zero, List.set_cons_succ, bfill_nil, bfill_cons, bstep_some, withO_some, List.take_zero, List.take_succ_cons, List.drop_zero, List.drop_succ_cons, List.cons_append, List.nil_append, List.append_nil, List.length_cons, List.length_nil, Nat.reduceLeDiff, Nat.le_refl, and_true, true_and, and_self, decide_true, decide_false, Bool.not_true, Bool.not_false, bl82, bq82, callA_fn0 pl100, callA_fn0 pl30, callA_fn0 pl39, callA_fn0 pl91, callA_fn0 pl98, callA_fn0 pl99, callQ_fn0 pl39, fa137_0, fa137_1, fa77_0, fa77_1, fa82_2, fq137_1, fq77_1, ld22, ld4, ld68, ld75, ld79, ld82, ld9, len_slice Tryd.underlying24, lq68, lq75, lq9, opA_alloc 137 ty137, opA_alloc 79 ty79]
              have hsb := hfb.size
              have hsa := hfa.size
              exact rest_ Gd b17 (by omega) (hfb.trans Ed.ko) (hrdb.ext Ed) h17d
            · simp only [go_sem, reduceCtorEq, Nat.reduceEqDiff, Nat.reduceAdd, withc_some, withcs_some, cells_0, cells_s, Option.bind_some, Option.map_some, List.getElem?_toArray, List.getElem?_cons_zero, List.getElem?_cons_succ, Nat.add_zero, Nat.zero_add, Value.cells, splice, List.setIfInBounds_toArray, List.set_cons_zero, List.set_cons_succ, bfill_nil, bfill_cons, bstep_some, withO_some, List.take_zero, List.take_succ_cons, List.drop_zero, List.drop_succ_cons, List.cons_append, List.nil_append, List.append_nil, List.length_cons, List.length_nil, Nat.reduceLeDiff, Nat.le_refl, and_true, true_and, and_self, decide_true, decide_false, Bool.not_true, Bool.not_false, r89_22b, bl82, bq82, callA_fn0 pl100, callA_fn0 pl30, callA_fn0 pl39, callA_fn0 pl91, callA_fn0 pl98, callA_fn0 pl99, callQ_fn0 pl39, fa137_0, fa137_1, fa77_0, fa77_1, fa82_2, fq137_1, fq77_1, ld22, ld4, ld68, ld75, ld79, ld82, ld9, len_slice Tryd.underlying24, lq68, lq75, lq9, opA_alloc 137 ty137, opA_alloc 79 ty79]
              refine box_kA fun b17 Gc e17 s17 h17 Ec => ?_
              simp only [go_sem, reduceCtorEq, Nat.reduceEqDiff, Nat.reduceAdd, withc_some, withcs_some, cells_0, cells_s, Option.bind_some, Option.map_some, List.getElem?_toArray, List.getElem?_cons_zero, List.getElem?_cons_succ, Nat.add_zero, Nat.zero_add, Value.cells, splice, List.setIfInBounds_toArray, List.set_cons_zero, List.set_cons_succ, bfill_nil, bfill_cons, bstep_some, withO_some, List.take_zero, List.take_succ_cons, List.drop_zero, List.drop_succ_cons, List.cons_append, List.nil_append, List.append_nil, List.length_cons, List.length_nil, Nat.reduceLeDiff, Nat.le_refl, and_true, true_and, and_self, decide_true, decide_false, Bool.not_true, Bool.not_false, bl82, bq82, callA_fn0 pl100, callA_fn0 pl30, callA_fn0 pl39, callA_fn0 pl91, callA_fn0 pl98, callA_fn0 pl99, callQ_fn0 pl39, fa137_0, fa137_1, fa77_0, fa77_1, fa82_2, fq137_1, fq77_1, ld22, ld4, ld68, ld75, ld79, ld82, ld9, len_slice Tryd.underlying24, lq68, lq75, lq9, opA_alloc 137 ty137, opA_alloc 79 ty79]
              refine ⟨Ec, ?_⟩
              refine hread Gc _ Ec fun Gb hfb hrdb => ?_
              have h17b := cells_frJ hfb h17 (by decide) (by decide)
              simp only [go_sem, reduceCtorEq, Nat.reduceEqDiff, Nat.reduceAdd, withc_some, withcs_some, cells_0, cells_s, Option.bind_some, Option.map_some, List.getElem?_toArray, List.getElem?_cons_zero, List.getElem?_cons_succ, Nat.add_zero, Nat.zero_add, Value.cells, splice, List.setIfInBounds_toArray, List.set_cons_zero, List.set_cons_succ, bfill_nil, bfill_cons, bstep_some, withO_some, List.take_zero, List.take_succ_cons, List.drop_zero, List.drop_succ_cons, List.cons_append, List.nil_append, List.append_nil, List.length_cons, List.length_nil, Nat.reduceLeDiff, Nat.le_refl, and_true, true_and, and_self, decide_true, decide_false, Bool.not_true, Bool.not_false, bl82, bq82, callA_fn0 pl100, callA_fn0 pl30, callA_fn0 pl39, callA_fn0 pl91, callA_fn0 pl98, callA_fn0 pl99, callQ_fn0 pl39, fa137_0, fa137_1, fa77_0, fa77_1, fa82_2, fq137_1, fq77_1, ld22, ld4, ld68, ld75, ld79, ld82, ld9, len_slice Tryd.underlying24, lq68, lq75, lq9, opA_alloc 137 ty137, opA_alloc 79 ty79]
              refine store_kA h17b ty79 (k := fun Gd h17d kd sd => ?_)
              simp only [go_sem, reduceCtorEq, Nat.reduceEqDiff, Nat.reduceAdd, withc_some, withcs_some, cells_0, cells_s, Option.bind_some, Option.map_some, List.getElem?_toArray, List.getElem?_cons_zero, List.getElem?_cons_succ, Nat.add_zero, Nat.zero_add, Value.cells, splice, List.setIfInBounds_toArray, List.set_cons_zero, List.set_cons_succ, bfill_nil, bfill_cons, bstep_some, withO_some, List.take_zero, List.take_succ_cons, List.drop_zero, List.drop_succ_cons, List.cons_append, List.nil_append, List.append_nil, List.length_cons, List.length_nil, Nat.reduceLeDiff, Nat.le_refl, and_true, true_and, and_self, decide_true, decide_false, Bool.not_true, Bool.not_false, bl82, bq82, callA_fn0 pl100, callA_fn0 pl30, callA_fn0 pl39, callA_fn0 pl91, callA_fn0 pl98, callA_fn0 pl99, callQ_fn0 pl39, fa137_0, fa137_1, fa77_0, fa77_1, fa82_2, fq137_1, fq77_1, ld22, ld4, ld68, ld75, ld79, ld82, ld9, len_slice Tryd.underlying24, lq68, lq75, lq9, opA_alloc 137 ty137, opA_alloc 79 ty79]
              have hsa := hfa.size
              refine rest_ Gd b17 (by omega) ?_ (hrdb.kk (keepK_of h17b kd)) h17d
              exact FrJ.new (B0 := B0) (M := MM d mp) (Ec.ko.trans hfb) kd (by omega)
end Go.Proofs.YtoabcmhiaknjiaaDoor

/- Contracts of jobtext: Expand at any text. -/
set_option maxRecDepth 100000
set_option linter.unusedSimpArgs false
set_option linter.unusedVariables false
namespace Go.Proofs.YtoabcmhiaknjiaaDoor
open Go.Hw

theorem LFi_procs {call : List UInt8} {s : RS} {x : Row} {rest : List Row} : (LFi call s x rest).1.procs = s.procs := by
  unfold LFi lineR
  split
  · rfl
  · rfl
  · split
    · rw [hfF_words]
      split
      · unfold setF; split <;> rfl
      · split
        · unfold procF; split <;> rfl
        · split
          · rfl
          · split
            · unfold callF; split <;> rfl
            · rfl
    · rfl
theorem readI_step (call : List UInt8) : ∀ (n : Nat) (s : RS) (rows : List Row), s.out.length ≤ 400 → (readT (LFi call) n s rows).1.out.length ≤ 400 ∧ (readT (LFi call) n s rows).1.procs = s.procs
  | 0, s, _, h => ⟨h, rfl⟩
  | _ + 1, s, [], h => ⟨h, rfl⟩
  | n + 1, s, x :: rest, h => by
    unfold readT
    have h1 := (LFi_step (call := call) (s := s) (x := x) (rest := rest) h).1
    split
    · have := readI_step call n (LFi call s x rest).1 (rest.drop (LFi call s x rest).2.n) h1
      exact ⟨this.1, this.2.trans LFi_procs⟩
    · exact ⟨h1, LFi_procs⟩
def Iv (s : RS) : Prop := s.out.length ≤ 400 ∧ ∀ p ∈ s.procs, rowsOk p.2.2
theorem rowsOk.take {rows : List Row} (h : rowsOk rows) (n : Nat) : rowsOk (rows.take n) := ⟨by have := h.1; simp; omega, fun x hx => h.2 x (List.mem_of_mem_take hx)⟩
theorem LFo_step {s : RS} {x : Row} {rest : List Row} (hs : Iv s) (hr : rowsOk (x :: rest)) : Iv (LFo s x rest).1 ∧ (LFo s x rest).2.n ≤ rest.length := by
  unfold LFo lineR
  split
  · exact ⟨hs, Nat.zero_le _⟩
  · exact ⟨hs, Nat.zero_le _⟩
  · split
    · rw [hfF_words]
      split
      · unfold setF
        split
        · split
          · exact ⟨hs, Nat.zero_le _⟩
          · split <;> exact ⟨hs, Nat.zero_le _⟩
        · split <;> exact ⟨hs, Nat.zero_le _⟩
      · split
        · unfold procF
          split
          · split
            · exact ⟨hs, Nat.zero_le _⟩
            · split
              · exact ⟨hs, Nat.zero_le _⟩
              · split
                · exact ⟨hs, Nat.zero_le _⟩
                · split
                  · exact ⟨hs, Nat.zero_le _⟩
                  · split
                    · exact ⟨hs, Nat.zero_le _⟩
                    · rename_i i hi
                      refine ⟨⟨hs.1, ?_⟩, endAt_lt hi⟩
                      intro p hp
                      rcases List.mem_append.1 hp with hp | hp
                      · exact hs.2 p hp
                      · simp only [List.mem_cons, List.mem_nil_iff, or_false] at hp
                        subst hp
                        exact hr.tail.take i
          · split <;> exact ⟨hs, Nat.zero_le _⟩
        · split
          · exact ⟨hs, Nat.zero_le _⟩
          · split
            · unfold callF
              split
              · split
                · exact ⟨hs, Nat.zero_le _⟩
                · split
                  · exact ⟨hs, Nat.zero_le _⟩
                  · split
                    · exact ⟨hs, Nat.zero_le _⟩
                    · split
                      · exact ⟨hs, Nat.zero_le _⟩
                      · split
                        · refine ⟨⟨(readI_step _ _ _ _ (by exact hs.1)).1, ?_⟩, Nat.zero_le _⟩
                          show ∀ p ∈ (readT _ _ _ _).1.procs, _
                          rw [(readI_step _ _ _ _ (by exact hs.1)).2]
                          exact hs.2
                        · exact ⟨hs, Nat.zero_le _⟩
              · split <;> exact ⟨hs, Nat.zero_le _⟩
            · exact ⟨⟨(stmF_step hs.1).1, hs.2⟩, (stmF_step hs.1).2⟩
    · exact ⟨hs, Nat.zero_le _⟩

theorem linesF_le (n : Nat) : ∀ (l : List UInt8), l.length ≤ n → ∀ x ∈ linesF l, x.length ≤ n := by
  induction n using Nat.strongRecOn with
  | _ n ih =>
    intro l hl x hx
    by_cases h : l = []
    · subst h; rw [linesF_nil] at hx; cases hx
    · rw [linesF_cons h] at hx
      have hlt := lineTl_len h
      rcases List.mem_cons.1 hx with rfl | hx
      · have := (List.takeWhile_sublist (l := l) notNl).length_le
        omega
      · have := ih (n - 1) (by omega) (lineTl l) (by omega) x hx
        omega
theorem rowsFrom_mem : ∀ (k : Nat) (a : List (List UInt8)) (x : Row), x ∈ rowsFrom k a → x.2 ∈ a
  | k, t :: r, x, h => by
    rcases List.mem_cons.1 h with rfl | h
    · exact List.mem_cons_self ..
    · exact List.mem_cons_of_mem _ (rowsFrom_mem _ r x h)
theorem rows_ok {t : List UInt8} (ht : t.length ≤ 1000000) : rowsOk (rowsFrom 0 (linesF t)) := ⟨by have := linesF_len t; rw [rowsFrom_length]; omega, fun x hx => linesF_le 1000000 t ht _ (rowsFrom_mem _ _ _ hx)⟩

/-- Expand as the plain reader says. -/
theorem expand_full {t : List UInt8} {H : Hp} {K : Ending → Hp → Prop} (g : G0 H) (ht : t.length ≤ 1000000)
    (h : ∀ G v, Ext H G → StmsO H.size G v (expandF LFo t).1 → (v = .slice none 0 0 ∨ (expandF LFo t).2.2 = 0) → K (.returned (.tuple #[v, .int .i64 (expandF LFo t).2.1, .int .i64 (expandF LFo t).2.2])) G) :
    HCall Tryd.prog 19 #[.string (B t)] H K := by
  refine expand_o LFo Iv rowsOk g ht ⟨by decide, by rintro p h; cases h⟩ (rows_ok ht) ?_ ?_ h
  · intro s x rest hs hr _
    have := LFo_step hs hr
    exact ⟨this.1, this.2, hr.tail.drop _⟩
  · intro B0 R ms mp s G rv k t rest kn K2 hB0 hmsR hs hr hBG hg hrd hmk hrv hrl hk
    refine line_any LFi hrd hB0 hBG hg hmk hrv (hr.2 (k, t) (List.mem_cons_self ..)) (fun x hx => hr.tail.2 x hx) hrl hs.1 ?_ hk
    intro G1 wv words K3 E hwv hwl hwb _ hk3
    exact call_c (hrd.ext E) hB0 hmsR (by have := E.size; omega) (hg.ext E) (hrv.ext E) hwv hwl hwb hs.1 hs.2 hk3
end Go.Proofs.YtoabcmhiaknjiaaDoor

set_option maxRecDepth 100000
namespace Go.Proofs.YtoabcmhiaknjiaaDoor
open Go.Hw
/-! ### 5 dasd/dasdlaw39.JobtextCalls -/
/-! ### 8 dasd/dasdlaw39.JobtextIdle -/
def r8_0 : List O := [⟨some 4, .assign (.const (.bool false)), 4, none⟩]
def r8_1 : List O := [⟨some 16, .call { callee := .value (.func 9), args := #[], argTypes := #[] }, 4, none⟩,
  ⟨some 17, .unOp .not 4 (.tmp 16), 4, none⟩]
def r8_2 : List O := [⟨some 4, .assign (.const (.bool false)), 4, none⟩]
def r8_3 : List O := [⟨some 18, .move (.tmp 0), 9, none⟩,
  ⟨some 19, .call { callee := .builtin .len, args := #[.tmp 18], argTypes := #[9] }, 3, none⟩,
  ⟨some 20, .binOp .gtr 3 (.tmp 19) (.const (.int .i64 4000)) 3, 4, none⟩,
  ⟨some 21, .move (.tmp 20), 4, none⟩,
  ⟨some 22, .move (.tmp 1), 24, some (21, false)⟩,
  ⟨some 23, .call { callee := .builtin .len, args := #[.tmp 22], argTypes := #[24] }, 3, some (21, false)⟩,
  ⟨some 24, .binOp .gtr 3 (.tmp 23) (.const (.int .i64 20)) 3, 4, some (21, false)⟩,
  ⟨some 25, .pick (.tmp 21) (.const (.bool true)) (.tmp 24), 4, none⟩]
def r8_4 : List O := [⟨some 4, .assign (.const (.bool true)), 4, none⟩]
def r8_5 : List O := [⟨some 5, .assign (.const (.string ⟨#[]⟩)), 9, none⟩]
def r8_6 : List O := [⟨some 26, .move (.tmp 1), 24, none⟩,
  ⟨some 27, .call { callee := .builtin .len, args := #[.tmp 26], argTypes := #[24] }, 3, none⟩,
  ⟨some 28, .move (.const (.int .i64 0)), 3, none⟩]
def r8_7 : List O := [⟨some 29, .binOp .lss 3 (.tmp 28) (.tmp 27) 3, 0, none⟩]
def r8_8 : List O := [⟨some 30, .indexAddr 24 (.tmp 26) (.tmp 28), 0, none⟩,
  ⟨some 31, .load 9 (.tmp 30), 9, none⟩,
  ⟨some 7, .assign (.tmp 31), 9, none⟩]
def r8_9 : List O := [⟨some 32, .move (.tmp 7), 9, none⟩,
  ⟨some 33, .call { callee := .builtin .len, args := #[.tmp 32], argTypes := #[9] }, 3, none⟩,
  ⟨some 34, .binOp .gtr 3 (.tmp 33) (.const (.int .i64 60)) 3, 4, none⟩]
def r8_10 : List O := [⟨some 4, .assign (.const (.bool true)), 4, none⟩]
def r8_11 : List O := [⟨some 35, .move (.tmp 7), 9, none⟩,
  ⟨some 36, .call { callee := .builtin .len, args := #[.tmp 35], argTypes := #[9] }, 3, none⟩,
  ⟨some 37, .move (.const (.int .i64 0)), 3, none⟩]
def r8_12 : List O := [⟨some 38, .binOp .lss 3 (.tmp 37) (.tmp 36) 3, 4, none⟩]
def r8_13 : List O := [⟨some 39, .move (.tmp 37), 3, none⟩,
  ⟨some 8, .assign (.tmp 39), 3, none⟩]
def r8_14 : List O := [⟨some 40, .move (.tmp 7), 9, none⟩,
  ⟨some 41, .move (.tmp 8), 3, none⟩,
  ⟨some 42, .index 9 (.tmp 40) (.tmp 41), 5, none⟩,
  ⟨some 43, .binOp .eql 5 (.tmp 42) (.const (.int .u8 10)) 5, 4, none⟩]
def r8_15 : List O := [⟨some 4, .assign (.const (.bool true)), 4, none⟩]
def r8_16 : List O := [⟨some 44, .binOp .add 3 (.tmp 37) (.const (.int .i64 1)) 3, 3, none⟩,
  ⟨some 37, .move (.tmp 44), 3, none⟩]
def r8_17 : List O := [⟨some 45, .move (.tmp 5), 9, none⟩,
  ⟨some 46, .move (.tmp 7), 9, none⟩,
  ⟨some 47, .binOp .add 9 (.const (.string ⟨#[32, 32, 35]⟩)) (.tmp 46) 9, 9, none⟩,
  ⟨some 48, .binOp .add 9 (.tmp 47) (.const (.string ⟨#[10]⟩)) 9, 9, none⟩,
  ⟨some 49, .move (.tmp 7), 9, none⟩,
  ⟨some 50, .call { callee := .builtin .len, args := #[.tmp 49], argTypes := #[9] }, 3, none⟩,
  ⟨some 51, .call { callee := .value (.func 21), args := #[.const (.string ⟨#[32]⟩), .tmp 50], argTypes := #[9, 3] }, 9, none⟩,
  ⟨some 52, .binOp .add 9 (.tmp 48) (.tmp 51) 9, 9, none⟩,
  ⟨some 53, .binOp .add 9 (.tmp 52) (.const (.string ⟨#[10]⟩)) 9, 9, none⟩,
  ⟨some 54, .binOp .add 9 (.tmp 45) (.tmp 53) 9, 9, none⟩,
  ⟨some 5, .assign (.tmp 54), 9, none⟩]
def r8_18 : List O := [⟨some 55, .binOp .add 3 (.tmp 28) (.const (.int .i64 1)) 3, 3, none⟩,
  ⟨some 28, .move (.tmp 55), 3, none⟩]
def r8_19 : List O := [⟨some 56, .move (.tmp 0), 9, none⟩,
  ⟨some 57, .call { callee := .value (.func 22), args := #[.tmp 56, .const (.string ⟨#[10]⟩)], argTypes := #[9, 9] }, 3, none⟩,
  ⟨some 58, .binOp .gtr 3 (.tmp 57) (.const (.int .i64 400)) 3, 4, none⟩]
def r8_20 : List O := [⟨some 4, .assign (.const (.bool true)), 4, none⟩]
def r8_21 : List O := [⟨some 60, .move (.tmp 0), 9, none⟩,
  ⟨some 61, .call { callee := .value (.func 19), args := #[.tmp 60], argTypes := #[9] }, 37, none⟩,
  ⟨some 59, .move (.tmp 61), 37, none⟩,
  ⟨some 62, .extract (.tmp 59) 0, 36, none⟩,
  ⟨some 63, .extract (.tmp 59) 1, 3, none⟩,
  ⟨some 64, .extract (.tmp 59) 2, 25, none⟩,
  ⟨some 9, .assign (.tmp 62), 36, none⟩,
  ⟨some 10, .assign (.tmp 63), 3, none⟩,
  ⟨some 11, .assign (.tmp 64), 25, none⟩]
def r8_22 : List O := [⟨some 66, .move (.tmp 5), 9, none⟩,
  ⟨some 67, .move (.tmp 0), 9, none⟩,
  ⟨some 68, .binOp .add 9 (.tmp 66) (.tmp 67) 9, 9, none⟩,
  ⟨some 69, .call { callee := .value (.func 19), args := #[.tmp 68], argTypes := #[9] }, 37, none⟩,
  ⟨some 65, .move (.tmp 69), 37, none⟩,
  ⟨some 70, .extract (.tmp 65) 0, 36, none⟩,
  ⟨some 71, .extract (.tmp 65) 1, 3, none⟩,
  ⟨some 72, .extract (.tmp 65) 2, 25, none⟩,
  ⟨some 12, .assign (.tmp 70), 36, none⟩,
  ⟨some 13, .assign (.tmp 71), 3, none⟩,
  ⟨some 14, .assign (.tmp 72), 25, none⟩]
def r8_23 : List O := [⟨some 73, .move (.tmp 11), 25, none⟩,
  ⟨some 74, .move (.tmp 14), 25, none⟩,
  ⟨some 75, .binOp .neq 25 (.tmp 73) (.tmp 74) 25, 4, none⟩,
  ⟨some 76, .move (.tmp 75), 4, none⟩,
  ⟨some 77, .move (.tmp 9), 36, some (76, false)⟩,
  ⟨some 78, .call { callee := .builtin .len, args := #[.tmp 77], argTypes := #[36] }, 3, some (76, false)⟩,
  ⟨some 79, .move (.tmp 12), 36, some (76, false)⟩,
  ⟨some 80, .call { callee := .builtin .len, args := #[.tmp 79], argTypes := #[36] }, 3, some (76, false)⟩,
  ⟨some 81, .binOp .neq 3 (.tmp 78) (.tmp 80) 3, 4, some (76, false)⟩,
  ⟨some 82, .pick (.tmp 76) (.const (.bool true)) (.tmp 81), 4, none⟩,
  ⟨some 83, .move (.tmp 82), 4, none⟩,
  ⟨some 84, .move (.tmp 11), 25, some (83, false)⟩,
  ⟨some 85, .binOp .neq 25 (.tmp 84) (.const (.int .i64 0)) 25, 4, some (83, false)⟩,
  ⟨some 86, .move (.tmp 85), 4, some (83, false)⟩,
  ⟨some 87, .move (.tmp 13), 3, some (86, true)⟩,
  ⟨some 88, .move (.tmp 10), 3, some (86, true)⟩,
  ⟨some 89, .move (.tmp 1), 24, some (86, true)⟩,
  ⟨some 90, .call { callee := .builtin .len, args := #[.tmp 89], argTypes := #[24] }, 3, some (86, true)⟩,
  ⟨some 91, .binOp .mul 3 (.const (.int .i64 2)) (.tmp 90) 3, 3, some (86, true)⟩,
  ⟨some 92, .binOp .add 3 (.tmp 88) (.tmp 91) 3, 3, some (86, true)⟩,
  ⟨some 93, .binOp .neq 3 (.tmp 87) (.tmp 92) 3, 4, some (86, true)⟩,
  ⟨some 94, .pick (.tmp 86) (.tmp 93) (.const (.bool false)), 4, some (83, false)⟩,
  ⟨some 95, .pick (.tmp 83) (.const (.bool true)) (.tmp 94), 4, none⟩]
def r8_24 : List O := [⟨some 4, .assign (.const (.bool false)), 4, none⟩]
def r8_25 : List O := [⟨some 96, .move (.tmp 9), 36, none⟩,
  ⟨some 97, .call { callee := .builtin .len, args := #[.tmp 96], argTypes := #[36] }, 3, none⟩,
  ⟨some 98, .move (.const (.int .i64 0)), 3, none⟩]
def r8_26 : List O := [⟨some 99, .binOp .lss 3 (.tmp 98) (.tmp 97) 3, 0, none⟩]
def r8_27 : List O := [⟨some 100, .move (.tmp 98), 3, none⟩,
  ⟨some 15, .assign (.tmp 100), 3, none⟩]
def r8_28 : List O := [⟨some 101, .move (.tmp 9), 36, none⟩,
  ⟨some 102, .move (.tmp 15), 3, none⟩,
  ⟨some 103, .indexAddr 36 (.tmp 101) (.tmp 102), 0, none⟩,
  ⟨some 104, .fieldAddr 40 (.tmp 103) 0, 0, none⟩,
  ⟨some 105, .load 3 (.tmp 104), 3, none⟩,
  ⟨some 106, .move (.tmp 1), 24, none⟩,
  ⟨some 107, .call { callee := .builtin .len, args := #[.tmp 106], argTypes := #[24] }, 3, none⟩,
  ⟨some 108, .binOp .mul 3 (.const (.int .i64 2)) (.tmp 107) 3, 3, none⟩,
  ⟨some 109, .binOp .add 3 (.tmp 105) (.tmp 108) 3, 3, none⟩,
  ⟨some 110, .indexAddr 36 (.tmp 101) (.tmp 102), 0, none⟩,
  ⟨some 111, .fieldAddr 40 (.tmp 110) 0, 0, none⟩,
  ⟨none, .store 3 (.tmp 111) (.tmp 109), 0, none⟩]
def r8_29 : List O := [⟨some 112, .binOp .add 3 (.tmp 98) (.const (.int .i64 1)) 3, 3, none⟩,
  ⟨some 98, .move (.tmp 112), 3, none⟩]
def r8_30 : List O := [⟨some 113, .move (.tmp 9), 36, none⟩,
  ⟨some 114, .move (.tmp 12), 36, none⟩,
  ⟨some 115, .call { callee := .value (.func 20), args := #[.tmp 113, .tmp 114], argTypes := #[36, 36] }, 4, none⟩,
  ⟨some 4, .assign (.tmp 115), 4, none⟩]
def c8_0 : A := .seq (.reg r8_2 [4]) .ret
def c8_1 : A := .cond (.tmp 17) c8_0 .skip
def c8_2 : A := .seq (.reg r8_4 [4]) .ret
def c8_3 : A := .cond (.tmp 25) c8_2 .skip
def c8_4 : A := .seq (.reg r8_10 [4]) .ret
def c8_5 : A := .cond (.tmp 34) c8_4 .skip
def c8_6 : A := .seq (.reg r8_15 [4]) .ret
def c8_7 : A := .cond (.tmp 43) c8_6 .skip
def c8_8 : A := .seq (.reg r8_14 [0, 1, 5, 7, 26, 27, 28, 36, 37, 43]) c8_7
def c8_9 : A := .seq (.reg r8_13 [0, 1, 5, 7, 8, 26, 27, 28, 36, 37]) c8_8
def c8_10 : A := .seq (.block 3 c8_9) (.reg r8_16 [0, 1, 5, 7, 26, 27, 28, 36, 37])
def c8_11 : A := .seq (.cond (.tmp 38) .skip (.exit 2)) (.seq (.keep [0, 1, 5, 7, 26, 27, 28, 36, 37]) c8_10)
def c8_12 : A := .seq (.reg r8_12 [0, 1, 5, 7, 26, 27, 28, 36, 37, 38]) c8_11
def c8_13 : A := .seq c8_12 (.keep [0, 1, 5, 7, 26, 27, 28, 36, 37])
def c8_14 : A := .loop c8_13
def c8_15 : A := .block 2 c8_14
def c8_16 : A := .seq (.seq (.reg r8_11 [0, 1, 5, 7, 26, 27, 28, 36, 37]) c8_15) (.reg r8_17 [0, 1, 5, 26, 27, 28])
def c8_17 : A := .seq (.seq (.reg r8_9 [0, 1, 5, 7, 26, 27, 28, 34]) c8_5) (.seq (.keep [0, 1, 5, 7, 26, 27, 28]) c8_16)
def c8_18 : A := .seq (.reg r8_8 [0, 1, 5, 7, 26, 27, 28]) c8_17
def c8_19 : A := .seq (.block 1 c8_18) (.reg r8_18 [0, 1, 5, 26, 27, 28])
def c8_20 : A := .seq (.cond (.tmp 29) .skip (.exit 0)) (.seq (.keep [0, 1, 5, 26, 27, 28]) c8_19)
def c8_21 : A := .seq (.reg r8_7 [0, 1, 5, 26, 27, 28, 29]) c8_20
def c8_22 : A := .seq c8_21 (.keep [0, 1, 5, 26, 27, 28])
def c8_23 : A := .loop c8_22
def c8_24 : A := .block 0 c8_23
def c8_25 : A := .seq (.reg r8_20 [4]) .ret
def c8_26 : A := .cond (.tmp 58) c8_25 .skip
def c8_27 : A := .seq (.reg r8_24 [4]) .ret
def c8_28 : A := .cond (.tmp 95) c8_27 .skip
def c8_29 : A := .seq (.reg r8_27 [1, 9, 12, 15, 97, 98]) (.reg r8_28 [1, 9, 12, 97, 98])
def c8_30 : A := .seq (.block 5 c8_29) (.reg r8_29 [1, 9, 12, 97, 98])
def c8_31 : A := .seq (.cond (.tmp 99) .skip (.exit 4)) (.seq (.keep [1, 9, 12, 97, 98]) c8_30)
def c8_32 : A := .seq (.reg r8_26 [1, 9, 12, 97, 98, 99]) c8_31
def c8_33 : A := .seq c8_32 (.keep [1, 9, 12, 97, 98])
def c8_34 : A := .loop c8_33
def c8_35 : A := .block 4 c8_34
def c8_36 : A := .seq (.reg r8_30 [4]) .ret
def c8_37 : A := .seq (.seq (.reg r8_25 [1, 9, 12, 97, 98]) c8_35) c8_36
def c8_38 : A := .seq (.seq (.reg r8_23 [1, 9, 12, 95]) c8_28) (.seq (.keep [1, 9, 12]) c8_37)
def c8_39 : A := .seq (.reg r8_22 [1, 9, 10, 11, 12, 13, 14]) c8_38
def c8_40 : A := .seq (.reg r8_21 [0, 1, 5, 9, 10, 11]) c8_39
def c8_41 : A := .seq (.seq (.reg r8_19 [0, 1, 5, 58]) c8_26) (.seq (.keep [0, 1, 5]) c8_40)
def c8_42 : A := .seq (.seq (.reg r8_6 [0, 1, 5, 26, 27, 28]) c8_24) c8_41
def c8_43 : A := .seq (.reg r8_5 [0, 1, 5]) c8_42
def c8_44 : A := .seq (.seq (.reg r8_3 [0, 1, 25]) c8_3) (.seq (.keep [0, 1]) c8_43)
def c8_45 : A := .seq (.seq (.reg r8_1 [0, 1, 17]) c8_1) (.seq (.keep [0, 1]) c8_44)
def c8 : A := .seq (.reg r8_0 [0, 1]) c8_45
theorem B8 : Body Tryd.prog 8 116 [.tmp 4] c8 := ⟨by kernel_rfl, _, _, [(0, [0, 1]), (1, [0, 1, 17]), (2, [4]), (3, [0, 1, 25]), (4, [4]), (5, [0, 1, 5]), (6, [0, 1, 5, 26, 27, 28]), (7, [0, 1, 5, 26, 27, 28, 29]), (8, [0, 1, 5, 7, 26, 27, 28]), (9, [0, 1, 5, 7, 26, 27, 28, 34]), (10, [4]), (11, [0, 1, 5, 7, 26, 27, 28, 36, 37]), (12, [0, 1, 5, 7, 26, 27, 28, 36, 37, 38]), (13, [0, 1, 5, 7, 8, 26, 27, 28, 36, 37]), (14, [0, 1, 5, 7, 26, 27, 28, 36, 37, 43]), (15, [4]), (16, [0, 1, 5, 7, 26, 27, 28, 36, 37]), (17, [0, 1, 5, 26, 27, 28]), (18, [0, 1, 5, 26, 27, 28]), (19, [0, 1, 5, 58]), (20, [4]), (21, [0, 1, 5, 9, 10, 11]), (22, [1, 9, 10, 11, 12, 13, 14]), (23, [1, 9, 12, 95]), (24, [4]), (25, [1, 9, 12, 97, 98]), (26, [1, 9, 12, 97, 98, 99]), (27, [1, 9, 12, 15, 97, 98]), (28, [1, 9, 12, 97, 98]), (29, [1, 9, 12, 97, 98]), (30, [4]), (1007, [0, 1, 5, 26, 27, 28]), (1012, [0, 1, 5, 7, 26, 27, 28, 36, 37]), (1026, [1, 9, 12, 97, 98]), (2003, [0, 1]), (2005, [0, 1]), (2008, [0, 1, 5, 26, 27, 28]), (2011, [0, 1, 5, 7, 26, 27, 28]), (2013, [0, 1, 5, 7, 26, 27, 28, 36, 37]), (2021, [0, 1, 5]), (2025, [1, 9, 12]), (2027, [1, 9, 12, 97, 98])], Tryd.func8, rfl, rfl, rfl, by kernel_rfl⟩
/-! ### 20 dasd/dasdref39.Same -/
def r20_0 : List O := [⟨some 4, .assign (.const (.bool false)), 4, none⟩]
def r20_1 : List O := [⟨some 6, .move (.tmp 0), 36, none⟩,
  ⟨some 7, .call { callee := .builtin .len, args := #[.tmp 6], argTypes := #[36] }, 3, none⟩,
  ⟨some 8, .move (.tmp 1), 36, none⟩,
  ⟨some 9, .call { callee := .builtin .len, args := #[.tmp 8], argTypes := #[36] }, 3, none⟩,
  ⟨some 10, .binOp .neq 3 (.tmp 7) (.tmp 9) 3, 4, none⟩]
def r20_2 : List O := [⟨some 4, .assign (.const (.bool false)), 4, none⟩]
def r20_3 : List O := [⟨some 5, .assign (.const (.int .i64 0)), 3, none⟩]
def r20_4 : List O := [⟨some 11, .move (.tmp 5), 3, none⟩,
  ⟨some 12, .move (.tmp 0), 36, none⟩,
  ⟨some 13, .call { callee := .builtin .len, args := #[.tmp 12], argTypes := #[36] }, 3, none⟩,
  ⟨some 14, .binOp .lss 3 (.tmp 11) (.tmp 13) 3, 4, none⟩]
def r20_6 : List O := [⟨some 17, .move (.tmp 0), 36, none⟩,
  ⟨some 18, .move (.tmp 5), 3, none⟩,
  ⟨some 19, .indexAddr 36 (.tmp 17) (.tmp 18), 0, none⟩,
  ⟨some 20, .load 40 (.tmp 19), 40, none⟩,
  ⟨some 21, .move (.tmp 1), 36, none⟩,
  ⟨some 22, .move (.tmp 5), 3, none⟩,
  ⟨some 23, .indexAddr 36 (.tmp 21) (.tmp 22), 0, none⟩,
  ⟨some 24, .load 40 (.tmp 23), 40, none⟩,
  ⟨some 25, .call { callee := .value (.func 40), args := #[.tmp 20, .tmp 24], argTypes := #[40, 40] }, 4, none⟩,
  ⟨some 26, .unOp .not 4 (.tmp 25), 4, none⟩]
def r20_7 : List O := [⟨some 4, .assign (.const (.bool false)), 4, none⟩]
def r20_5 : List O := [⟨some 15, .move (.tmp 5), 3, none⟩,
  ⟨some 16, .binOp .add 3 (.tmp 15) (.const (.int .i64 1)) 3, 3, none⟩,
  ⟨some 5, .assign (.tmp 16), 3, none⟩]
def r20_8 : List O := [⟨some 4, .assign (.const (.bool true)), 4, none⟩]
def c20_0 : A := .seq (.reg r20_2 [4]) .ret
def c20_1 : A := .cond (.tmp 10) c20_0 .skip
def c20_2 : A := .cond (.tmp 14) .skip (.exit 0)
def c20_3 : A := .seq (.reg r20_7 [4]) .ret
def c20_4 : A := .cond (.tmp 26) c20_3 .skip
def c20_5 : A := .seq (.draw 8 r20_6 [0, 1, 5, 26]) c20_4
def c20_6 : A := .seq (.block 1 c20_5) (.reg r20_5 [0, 1, 5])
def c20_7 : A := .seq (.seq (.reg r20_4 [0, 1, 5, 14]) c20_2) (.seq (.keep [0, 1, 5]) c20_6)
def c20_8 : A := .seq c20_7 (.keep [0, 1, 5])
def c20_9 : A := .loop c20_8
def c20_10 : A := .block 0 c20_9
def c20_11 : A := .seq (.reg r20_8 [4]) .ret
def c20_12 : A := .seq (.seq (.reg r20_3 [0, 1, 5]) c20_10) c20_11
def c20_13 : A := .seq (.seq (.reg r20_1 [0, 1, 10]) c20_1) (.seq (.keep [0, 1]) c20_12)
def c20 : A := .seq (.reg r20_0 [0, 1]) c20_13
theorem B20 : Body Tryd.prog 20 27 [.tmp 4] c20 := ⟨by kernel_rfl, _, _, [(0, [0, 1]), (1, [0, 1, 10]), (2, [4]), (3, [0, 1, 5]), (4, [0, 1, 5, 14]), (5, [0, 1, 5]), (6, [0, 1, 5, 26]), (7, [4]), (8, [4]), (1004, [0, 1, 5]), (2003, [0, 1]), (2006, [0, 1, 5])], Tryd.func20, rfl, rfl, rfl, by kernel_rfl⟩
/-! ### 40 dasd/dasdref39.SameStatement -/
def r40_0 : List O := [⟨some 2, .box 40 (.tmp 0), 0, none⟩,
  ⟨some 3, .box 40 (.tmp 1), 0, none⟩,
  ⟨some 4, .assign (.const (.bool false)), 4, none⟩]
def r40_1 : List O := [⟨some 5, .fieldAddr 40 (.tmp 2) 0, 0, none⟩,
  ⟨some 6, .load 3 (.tmp 5), 3, none⟩,
  ⟨some 7, .fieldAddr 40 (.tmp 3) 0, 0, none⟩,
  ⟨some 8, .load 3 (.tmp 7), 3, none⟩,
  ⟨some 9, .binOp .eql 3 (.tmp 6) (.tmp 8) 3, 4, none⟩,
  ⟨some 10, .move (.tmp 9), 4, none⟩,
  ⟨some 11, .fieldAddr 40 (.tmp 2) 1, 0, some (10, true)⟩,
  ⟨some 12, .load 9 (.tmp 11), 9, some (10, true)⟩,
  ⟨some 13, .fieldAddr 40 (.tmp 3) 1, 0, some (10, true)⟩,
  ⟨some 14, .load 9 (.tmp 13), 9, some (10, true)⟩,
  ⟨some 15, .binOp .eql 9 (.tmp 12) (.tmp 14) 9, 4, some (10, true)⟩,
  ⟨some 16, .pick (.tmp 10) (.tmp 15) (.const (.bool false)), 4, none⟩,
  ⟨some 17, .move (.tmp 16), 4, none⟩,
  ⟨some 18, .fieldAddr 40 (.tmp 2) 2, 0, some (17, true)⟩,
  ⟨some 19, .load 24 (.tmp 18), 24, some (17, true)⟩,
  ⟨some 20, .fieldAddr 40 (.tmp 3) 2, 0, some (17, true)⟩,
  ⟨some 21, .load 24 (.tmp 20), 24, some (17, true)⟩,
  ⟨some 22, .call { callee := .value (.func 14), args := #[.tmp 19, .tmp 21], argTypes := #[24, 24] }, 4, some (17, true)⟩,
  ⟨some 23, .pick (.tmp 17) (.tmp 22) (.const (.bool false)), 4, none⟩,
  ⟨some 24, .move (.tmp 23), 4, none⟩,
  ⟨some 25, .fieldAddr 40 (.tmp 2) 3, 0, some (24, true)⟩,
  ⟨some 26, .load 24 (.tmp 25), 24, some (24, true)⟩,
  ⟨some 27, .fieldAddr 40 (.tmp 3) 3, 0, some (24, true)⟩,
  ⟨some 28, .load 24 (.tmp 27), 24, some (24, true)⟩,
  ⟨some 29, .call { callee := .value (.func 14), args := #[.tmp 26, .tmp 28], argTypes := #[24, 24] }, 4, some (24, true)⟩,
  ⟨some 30, .pick (.tmp 24) (.tmp 29) (.const (.bool false)), 4, none⟩,
  ⟨some 4, .assign (.tmp 30), 4, none⟩]
def c40_0 : A := .seq (.reg r40_1 [4]) .ret
def c40 : A := .seq (.reg r40_0 [2, 3]) c40_0
theorem B40 : Body Tryd.prog 40 31 [.tmp 4] c40 := ⟨by kernel_rfl, _, _, [(0, [2, 3]), (1, [4])], Tryd.func40, rfl, rfl, rfl, by kernel_rfl⟩
end Go.Proofs.YtoabcmhiaknjiaaDoor

/- The reference's comparison of statements; a store into a statement. -/
set_option maxRecDepth 100000
set_option linter.unusedSimpArgs false
set_option linter.unusedVariables false
namespace Go.Proofs.YtoabcmhiaknjiaaDoor
open Go.Hw

theorem stmC_at {H : Hp} : ∀ {l : List Stm} {cs : List Value} {i : Nat} {s : Stm}, stmC H l cs → l[i]? = some s →
    ∃ wv dv, cs[i * 4]? = some (.int .i64 s.line) ∧ cs[i * 4 + 1]? = some (.string (B s.call)) ∧ cs[i * 4 + 2]? = some wv ∧ cs[i * 4 + 3]? = some dv ∧ SlV H wv s.words ∧ SlV H dv s.data
  | x :: r, cs, 0, s, ⟨wv, dv, rest, h1, h2, h3, h4⟩, hi => by
    cases hi
    subst h1
    exact ⟨wv, dv, rfl, rfl, rfl, rfl, h2, h3⟩
  | x :: r, cs, i + 1, s, ⟨wv, dv, rest, h1, h2, h3, h4⟩, hi => by
    obtain ⟨wv', dv', q1, q2, q3, q4, q5, q6⟩ := stmC_at (i := i) h4 (by simpa using hi)
    subst h1
    refine ⟨wv', dv', ?_, ?_, ?_, ?_, q5, q6⟩
    · rw [show (i + 1) * 4 = i * 4 + 4 by omega]; exact q1
    · rw [show (i + 1) * 4 + 1 = (i * 4 + 1) + 4 by omega]; exact q2
    · rw [show (i + 1) * 4 + 2 = (i * 4 + 2) + 4 by omega]; exact q3
    · rw [show (i + 1) * 4 + 3 = (i * 4 + 3) + 4 by omega]; exact q4
/-- A statement of a slice of statements. -/
theorem stm_at {H : Hp} {v : Value} {l : List Stm} {i : Nat} {s : Stm} (h : StmsV H v l) (hi : l[i]? = some s) :
    ∃ b off c wv dv, v = .slice (some ⟨b, off, none⟩) l.length c ∧ cellsH H ⟨b, off + i * 4, none⟩ 0 4 = some [.int .i64 s.line, .string (B s.call), wv, dv] ∧ SlV H wv s.words ∧ SlV H dv s.data := by
  obtain ⟨cells, hsl, hst⟩ := h
  obtain ⟨wv, dv, q0, q1, q2, q3, q4, q5⟩ := stmC_at hst hi
  have hil : i < l.length := by
    rcases Nat.lt_or_ge i l.length with h | h
    · exact h
    · rw [List.getElem?_eq_none h] at hi; cases hi
  obtain ⟨b, off, c, hv, hc⟩ := hsl.cell hil
  refine ⟨b, off, c, wv, dv, hv, ?_, q4, q5⟩
  obtain ⟨u0, e0, c0⟩ := hc 0 (by decide)
  obtain ⟨u1, e1, c1⟩ := hc 1 (by decide)
  obtain ⟨u2, e2, c2⟩ := hc 2 (by decide)
  obtain ⟨u3, e3, c3⟩ := hc 3 (by decide)
  rw [Nat.add_zero, q0] at e0; cases e0
  rw [q1] at e1; cases e1
  rw [q2] at e2; cases e2
  rw [q3] at e3; cases e3
  have a0 : off + i * 4 + 0 = off + (i * 4 + 0) := by omega
  have a1 : off + i * 4 + (0 + 1) = off + (i * 4 + 1) := by omega
  have a2 : off + i * 4 + (0 + 1 + 1) = off + (i * 4 + 2) := by omega
  have a3 : off + i * 4 + (0 + 1 + 1 + 1) = off + (i * 4 + 3) := by omega
  simp only [cells_s, cells_0, a0, a1, a2, a3, c0, c1, c2, c3, Option.bind_some, Option.map_some]

/-- How long the parts of a statement are. -/
def smallS (s : Stm) : Prop := s.words.length ≤ 1000000 ∧ s.data.length ≤ 1000000

theorem sst_c {H : Hp} {K : Ending → Hp → Prop} {wa da wb db : Value} {s : Stm} (hs : smallS s) (h1 : SlV H wa s.words) (h2 : SlV H da s.data) (h3 : SlV H wb s.words) (h4 : SlV H db s.data) (h : ∀ G, Ext H G → K (.returned (.bool true)) G) :
    HCall Tryd.prog 40 #[.agg #[.int .i64 s.line, .string (B s.call), wa, da], .agg #[.int .i64 s.line, .string (B s.call), wb, db]] H K := by
  refine hcall mixed B40 (args := [.agg #[.int .i64 s.line, .string (B s.call), wa, da], .agg #[.int .i64 s.line, .string (B s.call), wb, db]]) (by simp) ?_
  obtain ⟨wa1, wa2, rfl⟩ := h1.form
  obtain ⟨da1, da2, rfl⟩ := h2.form
  obtain ⟨wb1, wb2, rfl⟩ := h3.form
  obtain ⟨db1, db2, rfl⟩ := h4.form
  simp only [go_sem, reduceCtorEq, Nat.reduceEqDiff, Nat.reduceAdd, withc_some, withcs_some, cells_0, cells_s, Option.bind_some, Option.map_some, List.getElem?_toArray, List.getElem?_cons_zero, List.getElem?_cons_succ, Nat.add_zero, Nat.zero_add, Value.cells, splice, List.setIfInBounds_toArray, List.set_cons_zero, List.set_cons_succ, bfill_nil, bfill_cons, bstep_some, withO_some, List.take_zero, List.take_succ_cons, List.drop_zero, List.drop_succ_cons, List.cons_append, List.nil_append, List.append_nil, List.length_cons, List.length_nil, Nat.reduceLeDiff, Nat.le_refl, and_true, true_and, and_self, decide_true, decide_false, Bool.not_true, Bool.not_false, c40, r40_0]
  refine box_kA fun b2 G1 e1 s1 q1 E1 => ?_
  simp only [go_sem, reduceCtorEq, Nat.reduceEqDiff, Nat.reduceAdd, withc_some, withcs_some, cells_0, cells_s, Option.bind_some, Option.map_some, List.getElem?_toArray, List.getElem?_cons_zero, List.getElem?_cons_succ, Nat.add_zero, Nat.zero_add, Value.cells, splice, List.setIfInBounds_toArray, List.set_cons_zero, List.set_cons_succ, bfill_nil, bfill_cons, bstep_some, withO_some, List.take_zero, List.take_succ_cons, List.drop_zero, List.drop_succ_cons, List.cons_append, List.nil_append, List.append_nil, List.length_cons, List.length_nil, Nat.reduceLeDiff, Nat.le_refl, and_true, true_and, and_self, decide_true, decide_false, Bool.not_true, Bool.not_false]
  refine box_kA fun b3 G2 e2 s2 q2 E2 => ?_
  have E := E1.trans E2
  have q12 := E2.get q1
  simp only [go_sem, reduceCtorEq, Nat.reduceEqDiff, Nat.reduceAdd, withc_some, withcs_some, cells_0, cells_s, Option.bind_some, Option.map_some, List.getElem?_toArray, List.getElem?_cons_zero, List.getElem?_cons_succ, Nat.add_zero, Nat.zero_add, Value.cells, splice, List.setIfInBounds_toArray, List.set_cons_zero, List.set_cons_succ, bfill_nil, bfill_cons, bstep_some, withO_some, List.take_zero, List.take_succ_cons, List.drop_zero, List.drop_succ_cons, List.cons_append, List.nil_append, List.append_nil, List.length_cons, List.length_nil, Nat.reduceLeDiff, Nat.le_refl, and_true, true_and, and_self, decide_true, decide_false, Bool.not_true, Bool.not_false, c40_0, r40_1, cell_of_blk q12, cell_of_blk q2, show decide ((s.line : Int) = (s.line : Int)) = true from decide_eq_true rfl, show (s.call == s.call) = true from by simp, B_toList, callA_fn0 pl14, fa40_0, fa40_1, fa40_2, fa40_3, ld24, ld3, ld9]
  refine texts_c _ _ s.words s.words ⟨SlE.src (h1.ext E), _, _, rfl⟩ ⟨SlE.src (h3.ext E), _, _, rfl⟩ (by have := hs.1; omega) ?_
  rw [decide_eq_true rfl]
  simp only [go_sem, reduceCtorEq, Nat.reduceEqDiff, Nat.reduceAdd, withc_some, withcs_some, cells_0, cells_s, Option.bind_some, Option.map_some, List.getElem?_toArray, List.getElem?_cons_zero, List.getElem?_cons_succ, Nat.add_zero, Nat.zero_add, Value.cells, splice, List.setIfInBounds_toArray, List.set_cons_zero, List.set_cons_succ, bfill_nil, bfill_cons, bstep_some, withO_some, List.take_zero, List.take_succ_cons, List.drop_zero, List.drop_succ_cons, List.cons_append, List.nil_append, List.append_nil, List.length_cons, List.length_nil, Nat.reduceLeDiff, Nat.le_refl, and_true, true_and, and_self, decide_true, decide_false, Bool.not_true, Bool.not_false, cell_of_blk q12, cell_of_blk q2, callA_fn0 pl14, fa40_0, fa40_1, fa40_2, fa40_3, ld24, ld3, ld9]
  refine texts_c _ _ s.data s.data ⟨SlE.src (h2.ext E), _, _, rfl⟩ ⟨SlE.src (h4.ext E), _, _, rfl⟩ (by have := hs.2; omega) ?_
  rw [decide_eq_true rfl]
  simp only [go_sem, reduceCtorEq, Nat.reduceEqDiff, Nat.reduceAdd, withc_some, withcs_some, cells_0, cells_s, Option.bind_some, Option.map_some, List.getElem?_toArray, List.getElem?_cons_zero, List.getElem?_cons_succ, Nat.add_zero, Nat.zero_add, Value.cells, splice, List.setIfInBounds_toArray, List.set_cons_zero, List.set_cons_succ, bfill_nil, bfill_cons, bstep_some, withO_some, List.take_zero, List.take_succ_cons, List.drop_zero, List.drop_succ_cons, List.cons_append, List.nil_append, List.append_nil, List.length_cons, List.length_nil, Nat.reduceLeDiff, Nat.le_refl, and_true, true_and, and_self, decide_true, decide_false, Bool.not_true, Bool.not_false, callA_fn0 pl14, fa40_0, fa40_1, fa40_2, fa40_3, ld24, ld3, ld9]
  exact h G2 E

theorem same_c {H : Hp} {K : Ending → Hp → Prop} {va vb : Value} {l : List Stm} (hl : l.length ≤ 1000000) (hs : ∀ s ∈ l, smallS s) (h1 : StmsV H va l) (h2 : StmsV H vb l) (h : ∀ G, Ext H G → K (.returned (.bool true)) G) :
    HCall Tryd.prog 20 #[va, vb] H K := by
  refine hcall mixed B20 (args := [va, vb]) (by simp) ?_
  obtain ⟨a1, c1, e1⟩ : ∃ a c, va = .slice a l.length c := by obtain ⟨cells, hsl, _⟩ := h1; exact hsl.form
  obtain ⟨a2, c2, e2⟩ : ∃ a c, vb = .slice a l.length c := by obtain ⟨cells, hsl, _⟩ := h2; exact hsl.form
  subst e1 e2
  simp only [go_sem, reduceCtorEq, Nat.reduceEqDiff, Nat.reduceAdd, withc_some, withcs_some, cells_0, cells_s, Option.bind_some, Option.map_some, List.getElem?_toArray, List.getElem?_cons_zero, List.getElem?_cons_succ, Nat.add_zero, Nat.zero_add, Value.cells, splice, List.setIfInBounds_toArray, List.set_cons_zero, List.set_cons_succ, bfill_nil, bfill_cons, bstep_some, withO_some, List.take_zero, List.take_succ_cons, List.drop_zero, List.drop_succ_cons, List.cons_append, List.nil_append, List.append_nil, List.length_cons, List.length_nil, Nat.reduceLeDiff, Nat.le_refl, and_true, true_and, and_self, decide_true, decide_false, Bool.not_true, Bool.not_false, c20, r20_0, c20_13, r20_1, show decide ((l.length : Int) = (l.length : Int)) = true from decide_eq_true rfl, c20_1, c20_12, r20_3, c20_10, len_slice Tryd.underlying36]
  refine aw_while (L := c20_9) rfl (fun m F G => ∃ i : Nat, m = l.length - i ∧ F = [(0, .slice a1 l.length c1), (1, .slice a2 l.length c2), (5, .int .i64 i)] ∧ Ext H G ∧ i ≤ l.length) (m := l.length)
    ⟨0, rfl, rfl, Ext.refl _, Nat.zero_le _⟩ ?_
  rintro m F G ih ⟨i, rfl, rfl, hE, hi⟩
  by_cases hlt : i < l.length
  · obtain ⟨s, hsi⟩ : ∃ s, l[i]? = some s := ⟨l[i], List.getElem?_eq_getElem hlt⟩
    have e3 : decide ((i : Int) < (l.length : Int)) = true := by rw [decide_eq_true_eq]; omega
    have x1 : StmsV G (.slice a1 l.length c1) l := by
      obtain ⟨cells, p1, p2⟩ := h1
      exact ⟨cells, SlE.ext p1 hE, stmC.mono (fun v ws hv => SlE.ext hv hE) _ _ p2⟩
    have x2 : StmsV G (.slice a2 l.length c2) l := by
      obtain ⟨cells, p1, p2⟩ := h2
      exact ⟨cells, SlE.ext p1 hE, stmC.mono (fun v ws hv => SlE.ext hv hE) _ _ p2⟩
    obtain ⟨b1, o1, cc1, wv1, dv1, ee1, k1, w1, d1⟩ := stm_at x1 hsi
    obtain ⟨b2, o2, cc2, wv2, dv2, ee2, k2, w2, d2⟩ := stm_at x2 hsi
    cases ee1
    cases ee2
    simp only [go_sem, reduceCtorEq, Nat.reduceEqDiff, Nat.reduceAdd, withc_some, withcs_some, cells_0, cells_s, Option.bind_some, Option.map_some, List.getElem?_toArray, List.getElem?_cons_zero, List.getElem?_cons_succ, Nat.add_zero, Nat.zero_add, Value.cells, splice, List.setIfInBounds_toArray, List.set_cons_zero, List.set_cons_succ, bfill_nil, bfill_cons, bstep_some, withO_some, List.take_zero, List.take_succ_cons, List.drop_zero, List.drop_succ_cons, List.cons_append, List.nil_append, List.append_nil, List.length_cons, List.length_nil, Nat.reduceLeDiff, Nat.le_refl, and_true, true_and, and_self, decide_true, decide_false, Bool.not_true, Bool.not_false, c20_8, c20_7, r20_4, e3, c20_2, c20_6, c20_5, r20_6, callA_fn0 pl40, callQ_fn0 pl40, ld40, len_slice Tryd.underlying36]
    rw [iadQ_slice Tryd.underlying36 ty40 (by omega) (by omega)]
    simp only [go_sem, reduceCtorEq, Nat.reduceEqDiff, Nat.reduceAdd, withc_some, withcs_some, cells_0, cells_s, Option.bind_some, Option.map_some, List.getElem?_toArray, List.getElem?_cons_zero, List.getElem?_cons_succ, Nat.add_zero, Nat.zero_add, Value.cells, splice, List.setIfInBounds_toArray, List.set_cons_zero, List.set_cons_succ, bfill_nil, bfill_cons, bstep_some, withO_some, List.take_zero, List.take_succ_cons, List.drop_zero, List.drop_succ_cons, List.cons_append, List.nil_append, List.append_nil, List.length_cons, List.length_nil, Nat.reduceLeDiff, Nat.le_refl, and_true, true_and, and_self, decide_true, decide_false, Bool.not_true, Bool.not_false, add_none, Int.toNat_natCast, callA_fn0 pl40, callQ_fn0 pl40, ld40, len_slice Tryd.underlying36]
    rw [loadQ_agg Tryd.underlying40 rfl ty40 k1]
    simp only [go_sem, reduceCtorEq, Nat.reduceEqDiff, Nat.reduceAdd, withc_some, withcs_some, cells_0, cells_s, Option.bind_some, Option.map_some, List.getElem?_toArray, List.getElem?_cons_zero, List.getElem?_cons_succ, Nat.add_zero, Nat.zero_add, Value.cells, splice, List.setIfInBounds_toArray, List.set_cons_zero, List.set_cons_succ, bfill_nil, bfill_cons, bstep_some, withO_some, List.take_zero, List.take_succ_cons, List.drop_zero, List.drop_succ_cons, List.cons_append, List.nil_append, List.append_nil, List.length_cons, List.length_nil, Nat.reduceLeDiff, Nat.le_refl, and_true, true_and, and_self, decide_true, decide_false, Bool.not_true, Bool.not_false, callA_fn0 pl40, callQ_fn0 pl40, ld40, len_slice Tryd.underlying36]
    rw [iadQ_slice Tryd.underlying36 ty40 (by omega) (by omega)]
    simp only [go_sem, reduceCtorEq, Nat.reduceEqDiff, Nat.reduceAdd, withc_some, withcs_some, cells_0, cells_s, Option.bind_some, Option.map_some, List.getElem?_toArray, List.getElem?_cons_zero, List.getElem?_cons_succ, Nat.add_zero, Nat.zero_add, Value.cells, splice, List.setIfInBounds_toArray, List.set_cons_zero, List.set_cons_succ, bfill_nil, bfill_cons, bstep_some, withO_some, List.take_zero, List.take_succ_cons, List.drop_zero, List.drop_succ_cons, List.cons_append, List.nil_append, List.append_nil, List.length_cons, List.length_nil, Nat.reduceLeDiff, Nat.le_refl, and_true, true_and, and_self, decide_true, decide_false, Bool.not_true, Bool.not_false, add_none, Int.toNat_natCast, callA_fn0 pl40, callQ_fn0 pl40, ld40, len_slice Tryd.underlying36]
    rw [loadQ_agg Tryd.underlying40 rfl ty40 k2]
    simp only [go_sem, reduceCtorEq, Nat.reduceEqDiff, Nat.reduceAdd, withc_some, withcs_some, cells_0, cells_s, Option.bind_some, Option.map_some, List.getElem?_toArray, List.getElem?_cons_zero, List.getElem?_cons_succ, Nat.add_zero, Nat.zero_add, Value.cells, splice, List.setIfInBounds_toArray, List.set_cons_zero, List.set_cons_succ, bfill_nil, bfill_cons, bstep_some, withO_some, List.take_zero, List.take_succ_cons, List.drop_zero, List.drop_succ_cons, List.cons_append, List.nil_append, List.append_nil, List.length_cons, List.length_nil, Nat.reduceLeDiff, Nat.le_refl, and_true, true_and, and_self, decide_true, decide_false, Bool.not_true, Bool.not_false, callA_fn0 pl40, callQ_fn0 pl40, ld40, len_slice Tryd.underlying36]
    refine sst_c (hs s (List.mem_of_getElem? hsi)) w1 d1 w2 d2 fun G1 E1 => ?_
    simp only [go_sem, reduceCtorEq, Nat.reduceEqDiff, Nat.reduceAdd, withc_some, withcs_some, cells_0, cells_s, Option.bind_some, Option.map_some, List.getElem?_toArray, List.getElem?_cons_zero, List.getElem?_cons_succ, Nat.add_zero, Nat.zero_add, Value.cells, splice, List.setIfInBounds_toArray, List.set_cons_zero, List.set_cons_succ, bfill_nil, bfill_cons, bstep_some, withO_some, List.take_zero, List.take_succ_cons, List.drop_zero, List.drop_succ_cons, List.cons_append, List.nil_append, List.append_nil, List.length_cons, List.length_nil, Nat.reduceLeDiff, Nat.le_refl, and_true, true_and, and_self, decide_true, decide_false, Bool.not_true, Bool.not_false, c20_4, r20_5, wrap_one (show i + 1 ≤ 9223372036854775807 by omega), callA_fn0 pl40, callQ_fn0 pl40, ld40, len_slice Tryd.underlying36]
    exact ih _ _ _ (by omega) ⟨i + 1, rfl, rfl, hE.trans E1, by omega⟩
  · have e3 : decide ((i : Int) < (l.length : Int)) = false := by rw [decide_eq_false_iff_not]; omega
    simp only [go_sem, reduceCtorEq, Nat.reduceEqDiff, Nat.reduceAdd, withc_some, withcs_some, cells_0, cells_s, Option.bind_some, Option.map_some, List.getElem?_toArray, List.getElem?_cons_zero, List.getElem?_cons_succ, Nat.add_zero, Nat.zero_add, Value.cells, splice, List.setIfInBounds_toArray, List.set_cons_zero, List.set_cons_succ, bfill_nil, bfill_cons, bstep_some, withO_some, List.take_zero, List.take_succ_cons, List.drop_zero, List.drop_succ_cons, List.cons_append, List.nil_append, List.append_nil, List.length_cons, List.length_nil, Nat.reduceLeDiff, Nat.le_refl, and_true, true_and, and_self, decide_true, decide_false, Bool.not_true, Bool.not_false, c20_8, c20_7, r20_4, e3, c20_2, c20_11, r20_8, callA_fn0 pl40, callQ_fn0 pl40, ld40, len_slice Tryd.underlying36]
    exact h G hE
end Go.Proofs.YtoabcmhiaknjiaaDoor

/- Rows whose numbers are moved; a procedure without symbols. -/
set_option maxRecDepth 100000
set_option linter.unusedVariables false
set_option linter.unusedSimpArgs false
namespace Go.Proofs.YtoabcmhiaknjiaaDoor
open Go.Hw

def shR (d : Nat) (x : Row) : Row := (x.1 + d, x.2)
def shH (d : Nat) (h : HR) : HR := ⟨h.n, if h.code = 0 then h.line else h.line + d, h.code⟩
theorem shH_0 (d n : Nat) : shH d ⟨n, 0, 0⟩ = ⟨n, 0, 0⟩ := rfl
theorem shH_e {d n k : Nat} {c : Int} (h : c ≠ 0) : shH d ⟨n, k, c⟩ = ⟨n, k + d, c⟩ := by simp [shH, h]
theorem rowsFrom_shR (d : Nat) : ∀ (k : Nat) (a : List (List UInt8)), (rowsFrom k a).map (shR d) = rowsFrom (k + d) a
  | k, [] => rfl
  | k, t :: r => by
    show shR d (k + 1, t) :: (rowsFrom (k + 1) r).map (shR d) = (k + d + 1, t) :: rowsFrom (k + d + 1) r
    rw [rowsFrom_shR d (k + 1) r]
    simp [shR, Nat.add_right_comm]

theorem readT_map {LF LF' : RS → Row → List Row → RS × HR} (f : RS → RS) (d : Nat) (Ok : Row → Prop) (Good : RS → Prop)
    (h : ∀ s x rest, (∀ y ∈ x :: rest, Ok y) → Good s → LF' (f s) (shR d x) (rest.map (shR d)) = (f (LF s x rest).1, shH d (LF s x rest).2) ∧ Good (LF s x rest).1) :
    ∀ (n : Nat) (s : RS) (rows : List Row), (∀ y ∈ rows, Ok y) → Good s → readT LF' n (f s) (rows.map (shR d)) = (f (readT LF n s rows).1, (if (readT LF n s rows).2.2 = 0 then (readT LF n s rows).2.1 else (readT LF n s rows).2.1 + d), (readT LF n s rows).2.2)
  | 0, s, rows, _, _ => rfl
  | n + 1, s, [], _, _ => rfl
  | n + 1, s, x :: rest, ho, hg => by
    obtain ⟨h1, h2⟩ := h s x rest ho hg
    rw [List.map_cons]
    unfold readT
    rw [h1]
    show (if (LF s x rest).2.code = 0 then _ else _) = _
    by_cases hc : (LF s x rest).2.code = 0
    · rw [if_pos hc, if_pos hc]
      show readT LF' n (f (LF s x rest).1) ((rest.map (shR d)).drop (LF s x rest).2.n) = _
      rw [← List.map_drop]
      exact readT_map f d Ok Good h n _ _ (fun y hy => ho y (List.mem_cons_of_mem _ (List.mem_of_mem_drop hy))) h2
    · rw [if_neg hc, if_neg hc]
      show (f (LF s x rest).1, (shH d (LF s x rest).2).line, (shH d (LF s x rest).2).code) = (_, (if (LF s x rest).2.code = 0 then _ else _), _)
      rw [if_neg hc]
      show (_, (if (LF s x rest).2.code = 0 then _ else _), _) = _
      rw [if_neg hc]
      rfl
theorem inlineT_sh (d k : Nat) : ∀ (r : List Row) (acc : List (List UInt8)), inlineT (k + d) (r.map (shR d)) acc = match inlineT k r acc with | .error p => .error (p.1 + d, p.2) | .ok l => .ok l
  | [], acc => rfl
  | (m, t) :: r, acc => by
    have e : ∀ (k m : Nat) (R : List Row), inlineT k ((m, t) :: R) acc = if t = [47, 42] then .ok acc else if 64 ≤ acc.length ∨ 200 < t.length then .error (m, 8) else inlineT k R (acc ++ [t]) := fun _ _ _ => rfl
    show inlineT (k + d) ((m + d, t) :: r.map (shR d)) acc = _
    rw [e, e]
    by_cases h1 : t = [47, 42]
    · rw [if_pos h1, if_pos h1]
    · rw [if_neg h1, if_neg h1]
      by_cases h2 : 64 ≤ acc.length ∨ 200 < t.length
      · rw [if_pos h2, if_pos h2]
      · rw [if_neg h2, if_neg h2]
        exact inlineT_sh d k r _
theorem stmF_sh {d : Nat} {c0 c1 : List UInt8} (g : Stm → Stm) (hg : ∀ (k : Nat) (w l : List (List UInt8)), g ⟨k, c0, w, l⟩ = ⟨k + d, c1, w, l⟩) (out : List Stm) (k : Nat) (rest : List Row) (ws : List (List UInt8)) :
    stmF (out.map g) c1 (k + d) (rest.map (shR d)) ws = ((stmF out c0 k rest ws).1.map g, shH d (stmF out c0 k rest ws).2) := by
  unfold stmF
  rw [List.length_map]
  by_cases h1 : 400 ≤ out.length
  · rw [if_pos h1, if_pos h1]; rfl
  · rw [if_neg h1, if_neg h1]
    by_cases h2 : ws[0]? = some [100, 100] ∧ ws.length = 3 ∧ ws[2]? = some [105, 110, 108, 105, 110, 101]
    · rw [if_pos h2, if_pos h2, inlineT_sh]
      cases hi : inlineT k rest [] with
      | error p =>
        obtain ⟨m, c⟩ := p
        have hc := inlineT_err k rest [] m c hi
        show (out.map g, (⟨0, m + d, c⟩ : HR)) = (out.map g, shH d ⟨0, m, c⟩)
        rw [shH_e hc]
      | ok l =>
        show ((out.map g) ++ [(⟨k + d, c1, ws, l⟩ : Stm)], (⟨l.length + 1, 0, 0⟩ : HR)) = ((out ++ [(⟨k, c0, ws, l⟩ : Stm)]).map g, shH d ⟨l.length + 1, 0, 0⟩)
        rw [List.map_append, List.map_cons, hg, shH_0]; rfl
    · rw [if_neg h2, if_neg h2, List.map_append, List.map_cons, hg]; rfl

theorem lineW_err {sym : List UInt8 → Option (List UInt8)} {t : List UInt8} {e : Int} (h : lineW sym t = .error e) : e ≠ 0 := by
  unfold lineW at h
  split at h
  · cases h
  · split at h
    · split at h
      · cases h; decide
      · cases h
    · rename_i hn
      cases h; exact hn
theorem lineR_sh {d : Nat} {s s' : RS} {k : Nat} {t : List UInt8} {known : List UInt8 → Bool} {hf hf' : List (List UInt8) → RS × HR} (f : RS → RS) (hs : s' = f s) (hy : s'.syms = s.syms)
    (h : ∀ w ws, lineW (s.syms.lookup ·) t = .ok (w :: ws) → known w = true → hf' (w :: ws) = (f (hf (w :: ws)).1, shH d (hf (w :: ws)).2)) :
    lineR s' (k + d) t known hf' = (f (lineR s k t known hf).1, shH d (lineR s k t known hf).2) := by
  unfold lineR
  rw [hy]
  cases hl : lineW (s.syms.lookup ·) t with
  | error e =>
    show (s', (⟨0, k + d, e⟩ : HR)) = (f s, shH d ⟨0, k, e⟩)
    rw [shH_e (lineW_err hl), hs]
  | ok l =>
    match l, hl with
    | [], hl => show (s', (⟨0, 0, 0⟩ : HR)) = (f s, shH d ⟨0, 0, 0⟩); rw [shH_0, hs]
    | w :: ws, hl =>
      show (if known w = true then hf' (w :: ws) else (s', ⟨0, k + d, 3⟩)) = (f (if known w = true then hf (w :: ws) else (s, ⟨0, k, 3⟩)).1, shH d (if known w = true then hf (w :: ws) else (s, ⟨0, k, 3⟩)).2)
      by_cases hk : known w = true
      · rw [if_pos hk, if_pos hk]; exact h w ws hl hk
      · rw [if_neg hk, if_neg hk, hs]
        show (f s, (⟨0, k + d, 3⟩ : HR)) = (f s, shH d ⟨0, k, 3⟩)
        rw [shH_e (by decide)]

/-! ### Idle lines: all numbers move -/
def gL (d : Nat) (s : Stm) : Stm := { s with line := s.line + d }
def shS (d : Nat) (s : RS) : RS := ⟨s.syms, s.procs.map fun p => (p.1, p.2.1, p.2.2.map (shR d)), s.out.map (gL d)⟩
theorem lookup_mapv {α β : Type} (F : α → β) (k : List UInt8) : ∀ (l : List (List UInt8 × α)), (l.map fun p => (p.1, F p.2)).lookup k = (l.lookup k).map F
  | [] => rfl
  | p :: r => by
    rw [List.map_cons, List.lookup_cons, List.lookup_cons]
    cases k == p.1 with
    | true => rfl
    | false => exact lookup_mapv F k r
theorem endAt_sh (d : Nat) : ∀ (l : List Row), endAt (l.map (shR d)) = endAt l
  | [] => rfl
  | x :: r => by
    rw [List.map_cons]
    unfold endAt
    rw [endAt_sh d r]
    rfl
theorem setF_sh (d : Nat) (inn : Bool) (s : RS) (k : Nat) (ws : List (List UInt8)) : setF inn (shS d s) (k + d) ws = (shS d (setF inn s k ws).1, shH d (setF inn s k ws).2) := by
  unfold setF
  split
  · cases inn
    · rename_i a b
      simp only [Bool.false_eq_true, if_false]
      by_cases h : symF a = true
      · rw [if_pos h, if_pos h]; rfl
      · rw [if_neg h, if_neg h]; rfl
    · rfl
  · cases inn <;> rfl
theorem procF_sh (d : Nat) (inn : Bool) (s : RS) (k : Nat) (rest : List Row) (ws : List (List UInt8)) : procF inn (shS d s) (k + d) (rest.map (shR d)) ws = (shS d (procF inn s k rest ws).1, shH d (procF inn s k rest ws).2) := by
  unfold procF
  split
  · rename_i w a r
    cases inn
    · simp only [Bool.false_eq_true, if_false]
      by_cases h : symF a = false
      · rw [if_pos h, if_pos h]; rfl
      · rw [if_neg h, if_neg h]
        cases valuesF r [] with
        | none => rfl
        | some v =>
          simp only
          have e : ((shS d s).procs.lookup a).isSome = (s.procs.lookup a).isSome := by
            show ((s.procs.map fun p => (p.1, (fun q : Sym × List Row => (q.1, q.2.map (shR d))) p.2)).lookup a).isSome = _
            rw [lookup_mapv (fun q : Sym × List Row => (q.1, q.2.map (shR d))), Option.isSome_map]
          rw [e, endAt_sh]
          by_cases hp : (s.procs.lookup a).isSome = true
          · rw [if_pos hp, if_pos hp]; rfl
          · rw [if_neg hp, if_neg hp]
            cases endAt rest with
            | none => rfl
            | some i =>
              simp only
              rw [← List.map_take]
              show ((⟨s.syms, s.procs.map (fun p => (p.1, p.2.1, p.2.2.map (shR d))) ++ [(a, v, (rest.take i).map (shR d))], s.out.map (gL d)⟩ : RS), (⟨i + 1, 0, 0⟩ : HR)) = ((⟨s.syms, (s.procs ++ [(a, v, rest.take i)]).map (fun p => (p.1, p.2.1, p.2.2.map (shR d))), s.out.map (gL d)⟩ : RS), (⟨i + 1, 0, 0⟩ : HR))
              rw [List.map_append]; rfl
    · rfl
  · cases inn <;> rfl
theorem LFi_sh (d : Nat) (call : List UInt8) (s : RS) (x : Row) (rest : List Row) : LFi call (shS d s) (shR d x) (rest.map (shR d)) = (shS d (LFi call s x rest).1, shH d (LFi call s x rest).2) := by
  unfold LFi
  refine lineR_sh (shS d) rfl rfl fun w ws _ _ => ?_
  unfold hfF
  by_cases h1 : (w :: ws).head? = some [115, 101, 116]
  · rw [if_pos h1, if_pos h1]; exact setF_sh d true s x.1 _
  · rw [if_neg h1, if_neg h1]
    by_cases h2 : (w :: ws).head? = some [112, 114, 111, 99]
    · rw [if_pos h2, if_pos h2]; exact procF_sh d true s x.1 rest _
    · rw [if_neg h2, if_neg h2]
      by_cases h3 : (w :: ws).head? = some [101, 110, 100]
      · rw [if_pos h3, if_pos h3]; rfl
      · rw [if_neg h3, if_neg h3]
        by_cases h4 : (w :: ws).head? = some [99, 97, 108, 108]
        · rw [if_pos h4, if_pos h4]
          unfold callF
          split <;> rfl
        · rw [if_neg h4, if_neg h4]
          have := stmF_sh (d := d) (c0 := call) (c1 := call) (gL d) (fun k w l => rfl) s.out x.1 rest (w :: ws)
          show ((⟨s.syms, _, (stmF (s.out.map (gL d)) call (x.1 + d) (rest.map (shR d)) (w :: ws)).1⟩ : RS), (stmF (s.out.map (gL d)) call (x.1 + d) (rest.map (shR d)) (w :: ws)).2) = _
          rw [this]; rfl
theorem callF_sh (d : Nat) (s : RS) (k : Nat) (ws : List (List UInt8)) : callF LFi false (shS d s) (k + d) ws = (shS d (callF LFi false s k ws).1, shH d (callF LFi false s k ws).2) := by
  unfold callF
  split
  · rename_i w a b r
    simp only [Bool.false_eq_true, if_false]
    by_cases h : symF a = false ∨ symF b = false
    · rw [if_pos h, if_pos h]; rfl
    · rw [if_neg h, if_neg h]
      cases valuesF r [] with
      | none => rfl
      | some v =>
        simp only
        have e : (shS d s).procs.lookup b = (s.procs.lookup b).map fun q : Sym × List Row => (q.1, q.2.map (shR d)) := by
          show (s.procs.map fun p => (p.1, (fun q : Sym × List Row => (q.1, q.2.map (shR d))) p.2)).lookup b = _
          rw [lookup_mapv (fun q : Sym × List Row => (q.1, q.2.map (shR d)))]
        rw [e]
        cases hp : s.procs.lookup b with
        | none => rfl
        | some q =>
          obtain ⟨pv, rows⟩ := q
          simp only [Option.map_some]
          by_cases ha : (v.all fun q => (pv.lookup q.1).isSome) = true
          · rw [if_pos ha, if_pos ha, List.length_map]
            have hr := readT_map (LF := LFi a) (LF' := LFi a) (shS d) d (fun _ => True) (fun _ => True) (fun s x rest _ _ => ⟨LFi_sh d a s x rest, trivial⟩) rows.length { s with syms := v ++ (pv ++ s.syms) } rows (fun _ _ => trivial) trivial
            have e2 : ({ shS d s with syms := v ++ (pv ++ (shS d s).syms) } : RS) = shS d { s with syms := v ++ (pv ++ s.syms) } := rfl
            rw [e2, hr]
            rfl
          · rw [if_neg ha, if_neg ha]; rfl
  · rfl
theorem LFo_sh (d : Nat) (s : RS) (x : Row) (rest : List Row) : LFo (shS d s) (shR d x) (rest.map (shR d)) = (shS d (LFo s x rest).1, shH d (LFo s x rest).2) := by
  unfold LFo
  refine lineR_sh (shS d) rfl rfl fun w ws _ _ => ?_
  unfold hfF
  by_cases h1 : (w :: ws).head? = some [115, 101, 116]
  · rw [if_pos h1, if_pos h1]; exact setF_sh d false s x.1 _
  · rw [if_neg h1, if_neg h1]
    by_cases h2 : (w :: ws).head? = some [112, 114, 111, 99]
    · rw [if_pos h2, if_pos h2]; exact procF_sh d false s x.1 rest _
    · rw [if_neg h2, if_neg h2]
      by_cases h3 : (w :: ws).head? = some [101, 110, 100]
      · rw [if_pos h3, if_pos h3]; rfl
      · rw [if_neg h3, if_neg h3]
        by_cases h4 : (w :: ws).head? = some [99, 97, 108, 108]
        · rw [if_pos h4, if_pos h4]; exact callF_sh d s x.1 _
        · rw [if_neg h4, if_neg h4]
          have := stmF_sh (d := d) (c0 := []) (c1 := []) (gL d) (fun k w l => rfl) s.out x.1 rest (w :: ws)
          show ((⟨s.syms, _, (stmF (s.out.map (gL d)) [] (x.1 + d) (rest.map (shR d)) (w :: ws)).1⟩ : RS), (stmF (s.out.map (gL d)) [] (x.1 + d) (rest.map (shR d)) (w :: ws)).2) = _
          rw [this]; rfl

/-- An idle line. -/
def idleL (t : List UInt8) : Prop := t.dropWhile blank = [] ∨ (t.dropWhile blank).head? = some 35
theorem LFo_idle {s : RS} {k : Nat} {t : List UInt8} {rest : List Row} (h : idleL t) : LFo s (k, t) rest = (s, ⟨0, 0, 0⟩) := by
  unfold LFo lineR lineW
  unfold idleL at h
  rw [if_pos h]
theorem readT_idle {s : RS} (rows : List Row) : ∀ (bl : List (List UInt8)) (k n : Nat), (∀ t ∈ bl, idleL t) → readT LFo (bl.length + n) s (rowsFrom k bl ++ rows) = readT LFo n s rows
  | [], k, n, _ => by simp [rowsFrom]
  | t :: bl, k, n, h => by
    rw [List.length_cons, show bl.length + 1 + n = (bl.length + n) + 1 by omega]
    show readT LFo (bl.length + n + 1) s ((k + 1, t) :: (rowsFrom (k + 1) bl ++ rows)) = _
    conv => lhs; unfold readT
    rw [LFo_idle (h t (List.mem_cons_self ..))]
    simp only [if_true, List.drop_zero]
    exact readT_idle rows bl (k + 1) n fun x hx => h x (List.mem_cons_of_mem _ hx)
theorem expandF_eq' (LF : RS → Row → List Row → RS × HR) (t : List UInt8) : expandF LF t = if 16384 < t.length ∨ 512 < (linesF t).length then ([], 0, 8) else
    if (readT LF (linesF t).length ⟨[], [], []⟩ (rowsFrom 0 (linesF t))).2.2 = 0 then ((readT LF (linesF t).length ⟨[], [], []⟩ (rowsFrom 0 (linesF t))).1.out, 0, 0)
      else ([], (readT LF (linesF t).length ⟨[], [], []⟩ (rowsFrom 0 (linesF t))).2.1, (readT LF (linesF t).length ⟨[], [], []⟩ (rowsFrom 0 (linesF t))).2.2) := rfl
/-- The law of idle lines. -/
theorem idle_exp {bl : List (List UInt8)} {t : List UInt8} (hb : ∀ x ∈ bl, 10 ∉ x ∧ idleL x) (h1 : t.length + (txt bl).length ≤ 16384) (h2 : (linesF t).length + bl.length ≤ 512) :
    expandF LFo (txt bl ++ t) = ((expandF LFo t).1.map (gL bl.length), (if (expandF LFo t).2.2 = 0 then 0 else (expandF LFo t).2.1 + bl.length), (expandF LFo t).2.2) := by
  have hL := linesF_txt t bl fun x hx => (hb x hx).1
  have n1 : ¬ (16384 < (txt bl ++ t).length ∨ 512 < (bl ++ linesF t).length) := by rw [List.length_append, List.length_append]; omega
  have n2 : ¬ (16384 < t.length ∨ 512 < (linesF t).length) := by omega
  rw [expandF_eq' LFo (txt bl ++ t), expandF_eq' LFo t, hL, if_neg n1, if_neg n2, List.length_append, rowsFrom_append, readT_idle _ bl 0 _ fun x hx => (hb x hx).2]
  have hr := readT_map (LF := LFo) (LF' := LFo) (shS bl.length) bl.length (fun _ => True) (fun _ => True) (fun s x rest _ _ => ⟨LFo_sh _ s x rest, trivial⟩) (linesF t).length ⟨[], [], []⟩ (rowsFrom 0 (linesF t)) (fun _ _ => trivial) trivial
  rw [rowsFrom_shR, show shS bl.length ⟨[], [], []⟩ = ⟨[], [], []⟩ from rfl] at hr
  rw [hr]
  generalize readT LFo (linesF t).length ⟨[], [], []⟩ (rowsFrom 0 (linesF t)) = res
  by_cases hc : res.2.2 = 0
  · simp only [hc, if_true]; rfl
  · simp only [hc, if_false]; rfl

/-- What has been read is small. -/
theorem linesF_count (n : Nat) : ∀ (t : List UInt8), t.length ≤ n → (linesF t).length ≤ t.count 10 + 1 := by
  induction n using Nat.strongRecOn with
  | _ n ih =>
    intro t ht
    by_cases h : t = []
    · subst h; simp [linesF_nil]
    · rw [linesF_cons h, List.length_cons]
      have hlt := lineTl_len h
      have h1 := ih (n - 1) (by omega) (lineTl t) (by omega)
      by_cases he : lineTl t = []
      · rw [he, linesF_nil]; simp
      · have : (lineTl t).count 10 + 1 ≤ t.count 10 := by
          have hsp := List.takeWhile_append_dropWhile (p := notNl) (l := t)
          have hd : t.dropWhile notNl = 10 :: lineTl t := by
            unfold lineTl at he ⊢
            cases hdw : t.dropWhile notNl with
            | nil => rw [hdw] at he; exact absurd rfl he
            | cons c r =>
              have := List.head_dropWhile_not (p := notNl) (l := t) (by rw [hdw]; simp)
              simp only [hdw, List.head_cons] at this
              have hc : c = 10 := by
                unfold notNl at this
                simpa using this
              rw [hc]; rfl
          conv => rhs; rw [← hsp]
          rw [List.count_append, hd, List.count_cons_self]
          omega
        omega
end Go.Proofs.YtoabcmhiaknjiaaDoor

/- A store into a statement of an own slice. -/
set_option maxRecDepth 100000
set_option linter.unusedSimpArgs false
set_option linter.unusedVariables false
namespace Go.Proofs.YtoabcmhiaknjiaaDoor
open Go.Hw

/-- Setting a cell of a slice of the call's own. -/
theorem own_setC {P : Program} {H : Hp} {t : TypeId} {K : Value → Hp → Prop} {X : List PanicEntry → Hp → Prop} {ok : Nat → Prop} {E : TypeId} {sz b q : Nat} {u : Value} {n by_ cap : Nat} {l : List Value} {z : Option Value} (own : OwnS ok E sz H (.slice (some ⟨b, 0, none⟩) n cap) n l) (hi : q < n * sz) (ht : TyOK P t z 1 by_) (hu : u.cells = #[u]) (h1 : oneC u = true)
    (k : ∀ H', OwnS ok E sz H' (.slice (some ⟨b, 0, none⟩) n cap) n (l.set q u) → Keep (· = b) H H' → H'.size = H.size → K undef H') : storeA P t (.pointer (some ⟨b, q, none⟩)) u K X H := by
  rcases own with ⟨h, _⟩ | ⟨b', cap', c, f, he, h2, h3, h4, h5, h6, h7, h8⟩
  · cases h
  cases he
  have hcap : n * sz ≤ cap * sz := Nat.mul_le_mul_right _ h5
  have hp := putH_blk (e := E) (f := f) [u] 0 H c (off := q) h3 (by intro w hw; simp at hw; subst hw; exact h1) (by simp; omega) (fun j _ _ => h8 j)
  rw [storeA_put ht (by rw [hu]; rfl) (by rw [hu]; exact hp)]
  have hb := get_lt h3
  refine k _ (.inr ⟨b, cap, splice c (q + 0) [u], f, rfl, h2, by rw [Array.getElem?_setIfInBounds]; simp [hb], by rw [size_splice]; exact h4, h5, by rw [List.length_set]; exact h6, ?_, h8⟩) ⟨by simp, fun j hj hn => ?_⟩ (by simp)
  · have : (splice c (q + 0) [u]).toList = c.toList.set q u := by
      simp [splice, Array.toList_setIfInBounds]
    rw [this, ← h7, List.take_set]
  · rw [Array.getElem?_setIfInBounds, if_neg]
    exact fun hbj => hn hbj.symm
theorem stmC_set {H : Hp} {m : Nat} {cl : List UInt8} : ∀ {l : List Stm} {cs : List Value} {i : Nat} {s : Stm}, stmC H l cs → l[i]? = some s →
    stmC H (l.set i { s with line := m }) (cs.set (i * 4) (.int .i64 m)) ∧ stmC H (l.set i { s with call := cl }) (cs.set (i * 4 + 1) (.string (B cl)))
  | x :: r, cs, 0, s, ⟨wv, dv, rest, h1, h2, h3, h4⟩, hi => by
    cases hi
    subst h1
    exact ⟨⟨wv, dv, rest, rfl, h2, h3, h4⟩, ⟨wv, dv, rest, rfl, h2, h3, h4⟩⟩
  | x :: r, cs, i + 1, s, ⟨wv, dv, rest, h1, h2, h3, h4⟩, hi => by
    obtain ⟨q1, q2⟩ := stmC_set (m := m) (cl := cl) (i := i) h4 (by simpa using hi)
    subst h1
    refine ⟨⟨wv, dv, _, ?_, h2, h3, q1⟩, ⟨wv, dv, _, ?_, h2, h3, q2⟩⟩
    · rw [show (i + 1) * 4 = i * 4 + 4 by omega]; rfl
    · rw [show (i + 1) * 4 + 1 = (i * 4 + 1) + 4 by omega]; rfl
/-- What another slice of statements sees of a store. -/
theorem StmsO.keep {B b : Nat} {G G' : Hp} {v : Value} {l : List Stm} {c : Array Value} {f : Nat × Nat} (h : StmsO B G v l) (hb : G[b]? = some (.cells c 40 f)) (hlt : b < B) (k : Keep (· = b) G G') : StmsO B G' v l := by
  obtain ⟨cells, h1, h2⟩ := h
  refine ⟨cells, ?_, stmC.mono (fun v ws hv => sl_kk hv (keepK_of hb k) (by decide)) _ _ h2⟩
  rcases h1 with h | ⟨b', cap, c', f', o1, o2, o3, o4⟩
  · exact .inl h
  · refine .inr ⟨b', cap, c', f', o1, o2, k.get o3 ?_, o4⟩
    intro e; subst e; exact absurd o2 (by show ¬ B ≤ b'; omega)
theorem StmsO.ext {B : Nat} {G G' : Hp} {v : Value} {l : List Stm} (h : StmsO B G v l) (e : Ext G G') : StmsO B G' v l := by
  obtain ⟨cells, h1, h2⟩ := h
  exact ⟨cells, h1.ext e, stmC.mono (fun v ws hv => SlE.ext hv e) _ _ h2⟩
theorem StmsO.form {B : Nat} {G : Hp} {v : Value} {l : List Stm} (h : StmsO B G v l) : ∃ a c, v = .slice a l.length c := by
  obtain ⟨cells, h1, h2⟩ := h
  exact (SlE.own h1).form
/-- A statement of an own slice: where it lies, and what a store does. -/
theorem stm_own {B : Nat} {G : Hp} {v : Value} {l : List Stm} {i : Nat} {s : Stm} (h : StmsO B G v l) (hi : l[i]? = some s) :
    ∃ b c cc ff, v = .slice (some ⟨b, 0, none⟩) l.length c ∧ B ≤ b ∧ G[b]? = some (.cells cc 40 ff) ∧ cellH G ⟨b, i * 4, none⟩ = some (.int .i64 s.line) ∧
      (∀ (m : Nat) (K : Value → Hp → Prop) (X : List PanicEntry → Hp → Prop), (∀ G', StmsO B G' v (l.set i { s with line := m }) → Keep (· = b) G G' → G'.size = G.size → K undef G') → storeA Tryd.prog 3 (.pointer (some ⟨b, i * 4, none⟩)) (.int .i64 m) K X G) ∧
      (∀ (m : List UInt8) (K : Value → Hp → Prop) (X : List PanicEntry → Hp → Prop), (∀ G', StmsO B G' v (l.set i { s with call := m }) → Keep (· = b) G G' → G'.size = G.size → K undef G') → storeA Tryd.prog 9 (.pointer (some ⟨b, i * 4 + 1, none⟩)) (.string (Go.Hw.B m)) K X G) := by
  obtain ⟨cells, h1, h2⟩ := h
  have hil : i < l.length := by
    rcases Nat.lt_or_ge i l.length with h | h
    · exact h
    · rw [List.getElem?_eq_none h] at hi; cases hi
  obtain ⟨wv, dv, q0, _⟩ := stmC_at h2 hi
  have h1' := h1
  rcases h1 with ⟨_, h, _⟩ | ⟨b, cap, c, f, rfl, o2, o3, o4, o5, o6, o7, o8⟩
  · omega
  have hw : ∀ {G' : Hp} (k : Keep (· = b) G G') (v : Value) (ws : List (List UInt8)), SlV G v ws → SlV G' v ws := fun k v ws hv => sl_kk hv (keepK_of o3 k) (by decide)
  refine ⟨b, cap, c, f, rfl, o2, o3, ?_, ?_, ?_⟩
  · obtain ⟨b', off', c', e, hc⟩ := (SlE.own h1').cell hil
    obtain ⟨u, e1, e2⟩ := hc 0 (by decide)
    cases e
    rw [Nat.add_zero, q0] at e1
    cases e1
    rw [Nat.add_zero, Nat.zero_add] at e2
    exact e2
  · intro m K X k
    refine own_setC h1' (by omega) ty3 rfl rfl fun G' own' k' s' => k G' ⟨_, by rw [List.length_set]; exact own', stmC.mono (hw k') _ _ (stmC_set (m := m) (cl := []) h2 hi).1⟩ k' s'
  · intro m K X k
    refine own_setC h1' (by omega) ty9 rfl rfl fun G' own' k' s' => k G' ⟨_, by rw [List.length_set]; exact own', stmC.mono (hw k') _ _ (stmC_set (m := 0) (cl := m) h2 hi).2⟩ k' s'
end Go.Proofs.YtoabcmhiaknjiaaDoor

/- How large the statements are that a text gives. -/
set_option maxRecDepth 100000
set_option linter.unusedVariables false
set_option linter.unusedSimpArgs false
namespace Go.Proofs.YtoabcmhiaknjiaaDoor
open Go.Hw

def smallM (M : Nat) (s : Stm) : Prop := s.line ≤ M ∧ s.words.length ≤ 1000 ∧ s.data.length ≤ 64
structure Sm (M : Nat) (s : RS) : Prop where
  len : s.out.length ≤ 400
  out : ∀ x ∈ s.out, smallM M x
  procs : ∀ p ∈ s.procs, ∀ y ∈ p.2.2, y.1 ≤ M
theorem lineW_count {sym : List UInt8 → Option (List UInt8)} {t : List UInt8} {ws : List (List UInt8)} (h : lineW sym t = .ok ws) : ws.length ≤ 1000 := by
  unfold lineW at h
  split at h
  · cases h; simp
  · split at h
    · have hb : (replR sym t).1.length ≤ 1000 := by
        unfold replR
        split
        · split
          · simp
          · simp; omega
        · simp
      cases hs : scanF (replR sym t).1 with
      | none => rw [hs] at h; cases h
      | some w =>
        rw [hs] at h
        cases h
        have := scanF_len hs
        omega
    · cases h
theorem stmF_small {M : Nat} {out : List Stm} {call : List UInt8} {k : Nat} {rest : List Row} {ws : List (List UInt8)} (h1 : out.length ≤ 400) (h2 : ∀ x ∈ out, smallM M x) (hk : k ≤ M) (hw : ws.length ≤ 1000) :
    (stmF out call k rest ws).1.length ≤ 400 ∧ ∀ x ∈ (stmF out call k rest ws).1, smallM M x := by
  have add : ∀ l : List (List UInt8), l.length ≤ 64 → ∀ x ∈ out ++ [(⟨k, call, ws, l⟩ : Stm)], smallM M x := by
    intro l hl x hx
    rcases List.mem_append.1 hx with hx | hx
    · exact h2 x hx
    · simp only [List.mem_cons, List.mem_nil_iff, or_false] at hx
      subst hx
      exact ⟨hk, hw, hl⟩
  unfold stmF
  split
  · exact ⟨h1, h2⟩
  · split
    · cases hi : inlineT k rest [] with
      | error p => exact ⟨h1, h2⟩
      | ok l => exact ⟨by simp; omega, add l (inlineT_len k rest [] l (by simp) hi)⟩
    · exact ⟨by simp; omega, add [] (by simp)⟩
theorem lineR_inv {I : RS → Prop} {s : RS} {k : Nat} {t : List UInt8} {known : List UInt8 → Bool} {hf : List (List UInt8) → RS × HR} (hs : I s) (h : ∀ w ws, lineW (s.syms.lookup ·) t = .ok (w :: ws) → I (hf (w :: ws)).1) : I (lineR s k t known hf).1 := by
  unfold lineR
  cases hl : lineW (s.syms.lookup ·) t with
  | error e => exact hs
  | ok l =>
    match l, hl with
    | [], hl => exact hs
    | w :: ws, hl =>
      show I (if known w = true then hf (w :: ws) else (s, ⟨0, k, 3⟩)).1
      by_cases hk : known w = true
      · rw [if_pos hk]; exact h w ws hl
      · rw [if_neg hk]; exact hs
theorem readT_inv {LF : RS → Row → List Row → RS × HR} (I : RS → Prop) (Ok : Row → Prop) (h : ∀ s x rest, (∀ y ∈ x :: rest, Ok y) → I s → I (LF s x rest).1) : ∀ (n : Nat) (s : RS) (rows : List Row), (∀ y ∈ rows, Ok y) → I s → I (readT LF n s rows).1
  | 0, s, rows, _, hs => hs
  | n + 1, s, [], _, hs => hs
  | n + 1, s, x :: rest, ho, hs => by
    unfold readT
    split
    · exact readT_inv I Ok h n _ _ (fun y hy => ho y (List.mem_cons_of_mem _ (List.mem_of_mem_drop hy))) (h s x rest ho hs)
    · exact h s x rest ho hs
theorem setF_sm {M : Nat} {inn : Bool} {s : RS} {k : Nat} {ws : List (List UInt8)} (hs : Sm M s) : Sm M (setF inn s k ws).1 := by
  unfold setF
  split
  · split
    · exact hs
    · split
      · exact ⟨hs.len, hs.out, hs.procs⟩
      · exact hs
  · split <;> exact hs
theorem procF_sm {M : Nat} {inn : Bool} {s : RS} {k : Nat} {rest : List Row} {ws : List (List UInt8)} (hr : ∀ y ∈ rest, y.1 ≤ M) (hs : Sm M s) : Sm M (procF inn s k rest ws).1 := by
  unfold procF
  split
  · split
    · exact hs
    · split
      · exact hs
      · split
        · exact hs
        · split
          · exact hs
          · split
            · exact hs
            · refine ⟨hs.len, hs.out, ?_⟩
              intro p hp
              rcases List.mem_append.1 hp with hp | hp
              · exact hs.procs p hp
              · simp only [List.mem_cons, List.mem_nil_iff, or_false] at hp
                subst hp
                exact fun y hy => hr y (List.mem_of_mem_take hy)
  · split <;> exact hs
theorem stm_sm {M : Nat} {s : RS} {call : List UInt8} {k : Nat} {rest : List Row} {ws : List (List UInt8)} (hs : Sm M s) (hk : k ≤ M) (hw : ws.length ≤ 1000) : Sm M { s with out := (stmF s.out call k rest ws).1 } :=
  ⟨(stmF_small hs.len hs.out hk hw).1, (stmF_small hs.len hs.out hk hw).2, hs.procs⟩
theorem LFi_sm {M : Nat} {call : List UInt8} {s : RS} {x : Row} {rest : List Row} (hr : ∀ y ∈ x :: rest, y.1 ≤ M) (hs : Sm M s) : Sm M (LFi call s x rest).1 := by
  unfold LFi
  refine lineR_inv hs fun w ws hl => ?_
  unfold hfF
  split
  · exact setF_sm hs
  · split
    · exact procF_sm (fun y hy => hr y (List.mem_cons_of_mem _ hy)) hs
    · split
      · exact hs
      · split
        · unfold callF
          split <;> exact hs
        · exact stm_sm hs (hr x (List.mem_cons_self ..)) (lineW_count hl)
theorem callF_sm {M : Nat} {s : RS} {k : Nat} {ws : List (List UInt8)} (hs : Sm M s) : Sm M (callF LFi false s k ws).1 := by
  unfold callF
  split
  · split
    · exact hs
    · split
      · exact hs
      · split
        · exact hs
        · split
          · exact hs
          · rename_i pv rows hl
            split
            · have h1 : ∀ y ∈ rows, y.1 ≤ M := by
                obtain ⟨p, hp, he⟩ := lookup_mem hl
                have := hs.procs p hp
                rw [he] at this
                exact this
              have key : ∀ (c : List UInt8) (v : Sym), Sm M (readT (LFi c) rows.length { s with syms := v } rows).1 := fun c v =>
                readT_inv (LF := LFi c) (Sm M) (fun y => y.1 ≤ M) (fun s x rest ho h => LFi_sm ho h) rows.length _ rows h1 (show Sm M { s with syms := v } from ⟨hs.len, hs.out, hs.procs⟩)
              exact ⟨(key _ _).len, (key _ _).out, (key _ _).procs⟩
            · exact hs
  · split <;> exact hs
theorem LFo_sm {M : Nat} {s : RS} {x : Row} {rest : List Row} (hr : ∀ y ∈ x :: rest, y.1 ≤ M) (hs : Sm M s) : Sm M (LFo s x rest).1 := by
  unfold LFo
  refine lineR_inv hs fun w ws hl => ?_
  unfold hfF
  split
  · exact setF_sm hs
  · split
    · exact procF_sm (fun y hy => hr y (List.mem_cons_of_mem _ hy)) hs
    · split
      · exact hs
      · split
        · exact callF_sm hs
        · exact stm_sm hs (hr x (List.mem_cons_self ..)) (lineW_count hl)
theorem rowsFrom_le : ∀ (k : Nat) (a : List (List UInt8)), ∀ y ∈ rowsFrom k a, y.1 ≤ k + a.length
  | k, t :: r, y, h => by
    rcases List.mem_cons.1 h with rfl | h
    · simp
    · have := rowsFrom_le (k + 1) r y h
      simp only [List.length_cons]; omega
theorem expand_small (t : List UInt8) : (expandF LFo t).1.length ≤ 400 ∧ ∀ x ∈ (expandF LFo t).1, smallM 512 x := by
  unfold expandF
  split
  · exact ⟨by simp, by simp⟩
  · rename_i hn
    split
    · have := readT_inv (LF := LFo) (Sm 512) (fun y => y.1 ≤ 512) (fun s x rest ho h => LFo_sm ho h) (linesF t).length ⟨[], [], []⟩ (rowsFrom 0 (linesF t)) (fun y hy => by have := rowsFrom_le _ _ y hy; omega) ⟨by simp, by simp, by simp⟩
      exact ⟨this.len, this.out⟩
    · exact ⟨by simp, by simp⟩

/-! ### The line of an error -/
theorem inlineT_lineM {M k : Nat} (hk : k ≤ M) : ∀ (r : List Row) (acc : List (List UInt8)) (m : Nat) (c : Int), (∀ y ∈ r, y.1 ≤ M) → inlineT k r acc = .error (m, c) → m ≤ M
  | [], acc, m, c, _, h => by simp [inlineT] at h; omega
  | (x, t) :: r, acc, m, c, hr, h => by
    unfold inlineT at h
    split at h
    · cases h
    · split at h
      · cases h; exact hr (x, t) (List.mem_cons_self ..)
      · exact inlineT_lineM hk r _ _ _ (fun y hy => hr y (List.mem_cons_of_mem _ hy)) h
theorem stmF_lineM {M : Nat} {out : List Stm} {call : List UInt8} {k : Nat} {rest : List Row} {ws : List (List UInt8)} (hk : k ≤ M) (hr : ∀ y ∈ rest, y.1 ≤ M) : (stmF out call k rest ws).2.line ≤ M := by
  unfold stmF
  split
  · exact hk
  · split
    · cases hi : inlineT k rest [] with
      | error p => exact inlineT_lineM hk rest [] p.1 p.2 hr hi
      | ok l => exact Nat.zero_le _
    · exact Nat.zero_le _
theorem lineR_lineM {M : Nat} {s : RS} {k : Nat} {t : List UInt8} {known : List UInt8 → Bool} {hf : List (List UInt8) → RS × HR} (hk : k ≤ M) (h : ∀ w ws, (hf (w :: ws)).2.line ≤ M) : (lineR s k t known hf).2.line ≤ M := by
  unfold lineR
  split
  · exact hk
  · exact Nat.zero_le _
  · split
    · exact h _ _
    · exact hk
theorem readT_lineM {M : Nat} {LF : RS → Row → List Row → RS × HR} (I : RS → Prop) (Ok : Row → Prop) (hi : ∀ s x rest, (∀ y ∈ x :: rest, Ok y) → I s → I (LF s x rest).1) (h : ∀ s x rest, (∀ y ∈ x :: rest, Ok y) → I s → (LF s x rest).2.line ≤ M) : ∀ (n : Nat) (s : RS) (rows : List Row), (∀ y ∈ rows, Ok y) → I s → (readT LF n s rows).2.1 ≤ M
  | 0, s, rows, _, hs => Nat.zero_le _
  | n + 1, s, [], _, hs => Nat.zero_le _
  | n + 1, s, x :: rest, ho, hs => by
    unfold readT
    split
    · exact readT_lineM I Ok hi h n _ _ (fun y hy => ho y (List.mem_cons_of_mem _ (List.mem_of_mem_drop hy))) (hi s x rest ho hs)
    · exact h s x rest ho hs
theorem setF_lineM {M : Nat} {inn : Bool} {s : RS} {k : Nat} {ws : List (List UInt8)} (hk : k ≤ M) : (setF inn s k ws).2.line ≤ M := by
  unfold setF
  split
  · split
    · exact hk
    · split
      · exact Nat.zero_le _
      · exact hk
  · split <;> exact hk
theorem procF_lineM {M : Nat} {inn : Bool} {s : RS} {k : Nat} {rest : List Row} {ws : List (List UInt8)} (hk : k ≤ M) : (procF inn s k rest ws).2.line ≤ M := by
  unfold procF
  split
  · split
    · exact hk
    · split
      · exact hk
      · split
        · exact hk
        · split
          · exact hk
          · split
            · exact hk
            · exact Nat.zero_le _
  · split <;> exact hk
theorem LFi_lineM {M : Nat} {call : List UInt8} {s : RS} {x : Row} {rest : List Row} (hr : ∀ y ∈ x :: rest, y.1 ≤ M) : (LFi call s x rest).2.line ≤ M := by
  have hk := hr x (List.mem_cons_self ..)
  unfold LFi
  refine lineR_lineM hk fun w ws => ?_
  unfold hfF
  split
  · exact setF_lineM hk
  · split
    · exact procF_lineM hk
    · split
      · exact hk
      · split
        · unfold callF
          split <;> exact hk
        · exact stmF_lineM hk fun y hy => hr y (List.mem_cons_of_mem _ hy)
theorem callF_lineM {M : Nat} {s : RS} {k : Nat} {ws : List (List UInt8)} (hk : k ≤ M) (hs : Sm M s) : (callF LFi false s k ws).2.line ≤ M := by
  unfold callF
  split
  · split
    · exact hk
    · split
      · exact hk
      · split
        · exact hk
        · split
          · exact hk
          · rename_i pv rows hl
            split
            · have h1 : ∀ y ∈ rows, y.1 ≤ M := by
                obtain ⟨p, hp, he⟩ := lookup_mem hl
                have := hs.procs p hp
                rw [he] at this
                exact this
              exact readT_lineM (fun _ => True) (fun y => y.1 ≤ M) (fun _ _ _ _ _ => trivial) (fun s x rest ho _ => LFi_lineM ho) _ _ _ h1 trivial
            · exact hk
  · split <;> exact hk
theorem LFo_lineM {M : Nat} {s : RS} {x : Row} {rest : List Row} (hr : ∀ y ∈ x :: rest, y.1 ≤ M) (hs : Sm M s) : (LFo s x rest).2.line ≤ M := by
  have hk := hr x (List.mem_cons_self ..)
  unfold LFo
  refine lineR_lineM hk fun w ws => ?_
  unfold hfF
  split
  · exact setF_lineM hk
  · split
    · exact procF_lineM hk
    · split
      · exact hk
      · split
        · exact callF_lineM hk hs
        · exact stmF_lineM hk fun y hy => hr y (List.mem_cons_of_mem _ hy)
theorem expand_lineM (t : List UInt8) : (expandF LFo t).2.1 ≤ 512 := by
  unfold expandF
  split
  · exact Nat.zero_le _
  · rename_i hn
    split
    · exact Nat.zero_le _
    · exact readT_lineM (LF := LFo) (Sm 512) (fun y => y.1 ≤ 512) (fun s x rest ho h => LFo_sm ho h) (fun s x rest ho h => LFo_lineM ho h) (linesF t).length ⟨[], [], []⟩ (rowsFrom 0 (linesF t)) (fun y hy => by have := rowsFrom_le _ _ y hy; omega) ⟨by simp, by simp, by simp⟩
end Go.Proofs.YtoabcmhiaknjiaaDoor

set_option maxRecDepth 100000
namespace Go.Proofs.YtoabcmhiaknjiaaDoor
open Go.Hw
/-! ### 16 dasd/dasdref39.Quote -/
end Go.Proofs.YtoabcmhiaknjiaaDoor

/- The reference's Quote. -/
set_option maxRecDepth 100000
set_option linter.unusedSimpArgs false
set_option linter.unusedVariables false
namespace Go.Proofs.YtoabcmhiaknjiaaDoor
open Go.Hw
variable {H : Hp} {K : Ending → Hp → Prop}

end Go.Proofs.YtoabcmhiaknjiaaDoor

/- Words that are quoted and joined by blanks are read as they were. -/
set_option linter.unusedVariables false
namespace Go.Proofs.YtoabcmhiaknjiaaDoor
open Go.Hw

theorem repeat_blank : ∀ n, Lib.repeatL [32] n = List.replicate n (32 : UInt8)
  | 0 => rfl
  | n + 1 => by show [32] ++ Lib.repeatL [32] n = _; rw [repeat_blank n]; rfl
end Go.Proofs.YtoabcmhiaknjiaaDoor

/- JobtextIdle returns true. -/
set_option maxRecDepth 100000
set_option linter.unusedSimpArgs false
set_option linter.unusedVariables false
namespace Go.Proofs.YtoabcmhiaknjiaaDoor
open Go.Hw

/-- The idle lines of the law. -/
def idl (ls : List (List UInt8)) : List (List UInt8) := ls.flatMap fun s => [[32, 32, 35] ++ s, List.replicate s.length 32]
theorem idl_len (ls : List (List UInt8)) : (idl ls).length = 2 * ls.length := by
  induction ls with
  | nil => rfl
  | cons s ls ih => rw [show idl (s :: ls) = [[32, 32, 35] ++ s, List.replicate s.length 32] ++ idl ls from rfl, List.length_append, ih]; simp; omega
theorem idl_snoc (ls : List (List UInt8)) (s : List UInt8) : idl (ls ++ [s]) = idl ls ++ [[32, 32, 35] ++ s, List.replicate s.length 32] := by simp [idl]
theorem idl_good {ls : List (List UInt8)} (h : ∀ s ∈ ls, s.length ≤ 60 ∧ 10 ∉ s) : ∀ x ∈ idl ls, (10 ∉ x ∧ idleL x) ∧ x.length ≤ 63 := by
  intro x hx
  obtain ⟨s, hs, hx⟩ := List.mem_flatMap.1 hx
  have := h s hs
  simp only [List.mem_cons, List.mem_nil_iff, or_false] at hx
  rcases hx with rfl | rfl
  · refine ⟨⟨?_, .inr ?_⟩, by simp; omega⟩
    · intro hm
      rcases List.mem_append.1 hm with hm | hm
      · exact absurd hm (by decide)
      · exact this.2 hm
    · rfl
  · refine ⟨⟨?_, .inl ?_⟩, by simp; omega⟩
    · intro hm
      have := List.eq_of_mem_replicate hm
      exact absurd this (by decide)
    · have : ∀ n : Nat, (List.replicate n (32 : UInt8)).dropWhile blank = [] := by
        intro n
        induction n with
        | zero => rfl
        | succ n ih => rw [List.replicate_succ]; exact ih
      exact this _
theorem mid_set {f : Stm → Stm} : ∀ {l : List Stm} {i : Nat} {s : Stm}, l[i]? = some s → ((l.take i).map f ++ l.drop i).set i (f s) = (l.take (i + 1)).map f ++ l.drop (i + 1) ∧ ((l.take i).map f ++ l.drop i)[i]? = some s
  | x :: r, 0, s, h => by cases h; exact ⟨rfl, rfl⟩
  | x :: r, i + 1, s, h => by
    obtain ⟨h1, h2⟩ := mid_set (f := f) (l := r) (i := i) (s := s) (by simpa using h)
    refine ⟨?_, ?_⟩
    · show f x :: (((r.take i).map f ++ r.drop i).set i (f s)) = _
      rw [h1]; rfl
    · exact h2

set_option maxHeartbeats 2000000 in
theorem idle_law {pv : Value} {t : List UInt8} {ls : List (List UInt8)} {H : Hp} {K : Ending → Hp → Prop} (g : G0 H) (ht : t.length ≤ 9223372036854775807) (hp : StrsV H pv ls) (hl : ∀ s ∈ ls, s.length ≤ 9223372036854775807) (hn : ls.length ≤ 9223372036854775807) (h : ∀ G, Ext H G → K (.returned (.bool true)) G) :
    HCall Tryd.prog 8 #[.string (B t), pv] H K := by
  refine hcall mixed B8 (args := [.string (B t), pv]) (by simp) ?_
  obtain ⟨pa, pc, rfl⟩ := hp.2
  simp only [go_sem, reduceCtorEq, Nat.reduceEqDiff, Nat.reduceAdd, withc_some, withcs_some, cells_0, cells_s, Option.bind_some, Option.map_some, List.getElem?_toArray, List.getElem?_cons_zero, List.getElem?_cons_succ, Nat.add_zero, Nat.zero_add, Value.cells, splice, List.setIfInBounds_toArray, List.set_cons_zero, List.set_cons_succ, bfill_nil, bfill_cons, bstep_some, withO_some, List.take_zero, List.take_succ_cons, List.drop_zero, List.drop_succ_cons, List.cons_append, List.nil_append, List.append_nil, List.length_cons, List.length_nil, Nat.reduceLeDiff, Nat.le_refl, and_true, true_and, and_self, decide_true, decide_false, Bool.not_true, Bool.not_false, c8, r8_0, c8_45, r8_1, callA_fn0 pl9]
  refine awake_c g fun G1 E1 => ?_
  simp only [go_sem, reduceCtorEq, Nat.reduceEqDiff, Nat.reduceAdd, withc_some, withcs_some, cells_0, cells_s, Option.bind_some, Option.map_some, List.getElem?_toArray, List.getElem?_cons_zero, List.getElem?_cons_succ, Nat.add_zero, Nat.zero_add, Value.cells, splice, List.setIfInBounds_toArray, List.set_cons_zero, List.set_cons_succ, bfill_nil, bfill_cons, bstep_some, withO_some, List.take_zero, List.take_succ_cons, List.drop_zero, List.drop_succ_cons, List.cons_append, List.nil_append, List.append_nil, List.length_cons, List.length_nil, Nat.reduceLeDiff, Nat.le_refl, and_true, true_and, and_self, decide_true, decide_false, Bool.not_true, Bool.not_false, c8_1, c8_44, r8_3, callA_fn0 pl9, len_B Tryd.underlying9, len_slice Tryd.underlying24]
  by_cases h4 : 4000 < t.length
  · have e1 : decide ((4000 : Int) < (t.length : Int)) = true := by rw [decide_eq_true_eq]; omega
    simp only [go_sem, reduceCtorEq, Nat.reduceEqDiff, Nat.reduceAdd, withc_some, withcs_some, cells_0, cells_s, Option.bind_some, Option.map_some, List.getElem?_toArray, List.getElem?_cons_zero, List.getElem?_cons_succ, Nat.add_zero, Nat.zero_add, Value.cells, splice, List.setIfInBounds_toArray, List.set_cons_zero, List.set_cons_succ, bfill_nil, bfill_cons, bstep_some, withO_some, List.take_zero, List.take_succ_cons, List.drop_zero, List.drop_succ_cons, List.cons_append, List.nil_append, List.append_nil, List.length_cons, List.length_nil, Nat.reduceLeDiff, Nat.le_refl, and_true, true_and, and_self, decide_true, decide_false, Bool.not_true, Bool.not_false, e1, c8_3, c8_2, r8_4, callA_fn0 pl9, len_B Tryd.underlying9, len_slice Tryd.underlying24]
    exact h G1 E1
  have e1 : decide ((4000 : Int) < (t.length : Int)) = false := by rw [decide_eq_false_iff_not]; omega
  by_cases h20 : 20 < ls.length
  · have e2 : decide ((20 : Int) < (ls.length : Int)) = true := by rw [decide_eq_true_eq]; omega
    simp only [go_sem, reduceCtorEq, Nat.reduceEqDiff, Nat.reduceAdd, withc_some, withcs_some, cells_0, cells_s, Option.bind_some, Option.map_some, List.getElem?_toArray, List.getElem?_cons_zero, List.getElem?_cons_succ, Nat.add_zero, Nat.zero_add, Value.cells, splice, List.setIfInBounds_toArray, List.set_cons_zero, List.set_cons_succ, bfill_nil, bfill_cons, bstep_some, withO_some, List.take_zero, List.take_succ_cons, List.drop_zero, List.drop_succ_cons, List.cons_append, List.nil_append, List.append_nil, List.length_cons, List.length_nil, Nat.reduceLeDiff, Nat.le_refl, and_true, true_and, and_self, decide_true, decide_false, Bool.not_true, Bool.not_false, e1, e2, c8_3, c8_2, r8_4, callA_fn0 pl9, len_B Tryd.underlying9, len_slice Tryd.underlying24]
    exact h G1 E1
  have e2 : decide ((20 : Int) < (ls.length : Int)) = false := by rw [decide_eq_false_iff_not]; omega
  simp only [go_sem, reduceCtorEq, Nat.reduceEqDiff, Nat.reduceAdd, withc_some, withcs_some, cells_0, cells_s, Option.bind_some, Option.map_some, List.getElem?_toArray, List.getElem?_cons_zero, List.getElem?_cons_succ, Nat.add_zero, Nat.zero_add, Value.cells, splice, List.setIfInBounds_toArray, List.set_cons_zero, List.set_cons_succ, bfill_nil, bfill_cons, bstep_some, withO_some, List.take_zero, List.take_succ_cons, List.drop_zero, List.drop_succ_cons, List.cons_append, List.nil_append, List.append_nil, List.length_cons, List.length_nil, Nat.reduceLeDiff, Nat.le_refl, and_true, true_and, and_self, decide_true, decide_false, Bool.not_true, Bool.not_false, e1, e2, c8_3, c8_43, r8_5, c8_42, r8_6, c8_24, B_lit, callA_fn0 pl9, len_B Tryd.underlying9, len_slice Tryd.underlying24]
  refine aw_while (L := c8_23) rfl (fun m' F G => ∃ i : Nat, m' = ls.length - i ∧ F = [(0, .string (B t)), (1, .slice pa ls.length pc), (5, .string (B (txt (idl (ls.take i))))), (26, .slice pa ls.length pc), (27, .int .i64 ls.length), (28, .int .i64 i)] ∧ Ext H G ∧ i ≤ ls.length ∧ ∀ s ∈ ls.take i, s.length ≤ 60 ∧ 10 ∉ s) (m := ls.length)
    ⟨0, rfl, rfl, E1, Nat.zero_le _, by intro s hs; simp at hs⟩ ?_
  rintro m' F G ih ⟨i, rfl, rfl, hE, hi, hgood⟩
  have hti : (ls.take i).length = i := by simp; omega
  have hL : (txt (idl (ls.take i))).length ≤ 2560 := by
    have h1 := txt_len (idl (ls.take i)) 63 fun x hx => (idl_good hgood x hx).2
    rw [idl_len, hti] at h1
    omega
  by_cases hlt : i < ls.length
  · obtain ⟨s, hsi⟩ : ∃ s, ls[i]? = some s := ⟨ls[i], List.getElem?_eq_getElem hlt⟩
    have e3 : decide ((i : Int) < (ls.length : Int)) = true := by rw [decide_eq_true_eq]; omega
    obtain ⟨ad, pc', ew, hcell⟩ := (hp.ext hE).cell hsi
    cases ew
    simp only [go_sem, reduceCtorEq, Nat.reduceEqDiff, Nat.reduceAdd, withc_some, withcs_some, cells_0, cells_s, Option.bind_some, Option.map_some, List.getElem?_toArray, List.getElem?_cons_zero, List.getElem?_cons_succ, Nat.add_zero, Nat.zero_add, Value.cells, splice, List.setIfInBounds_toArray, List.set_cons_zero, List.set_cons_succ, bfill_nil, bfill_cons, bstep_some, withO_some, List.take_zero, List.take_succ_cons, List.drop_zero, List.drop_succ_cons, List.cons_append, List.nil_append, List.append_nil, List.length_cons, List.length_nil, Nat.reduceLeDiff, Nat.le_refl, and_true, true_and, and_self, decide_true, decide_false, Bool.not_true, Bool.not_false, c8_22, c8_21, r8_7, e3, c8_20, c8_19, c8_18, r8_8, callA_fn0 pl9, ld9, len_B Tryd.underlying9, len_slice Tryd.underlying24]
    rw [iadA_slice uStrs ty9 (by omega) (by omega)]
    have hss := hl s (List.mem_of_getElem? hsi)
    simp only [go_sem, reduceCtorEq, Nat.reduceEqDiff, Nat.reduceAdd, withc_some, withcs_some, cells_0, cells_s, Option.bind_some, Option.map_some, List.getElem?_toArray, List.getElem?_cons_zero, List.getElem?_cons_succ, Nat.add_zero, Nat.zero_add, Value.cells, splice, List.setIfInBounds_toArray, List.set_cons_zero, List.set_cons_succ, bfill_nil, bfill_cons, bstep_some, withO_some, List.take_zero, List.take_succ_cons, List.drop_zero, List.drop_succ_cons, List.cons_append, List.nil_append, List.append_nil, List.length_cons, List.length_nil, Nat.reduceLeDiff, Nat.le_refl, and_true, true_and, and_self, decide_true, decide_false, Bool.not_true, Bool.not_false, Int.toNat_natCast, hcell, c8_17, r8_9, callA_fn0 pl9, ld9, len_B Tryd.underlying9, len_slice Tryd.underlying24]
    by_cases h60 : 60 < s.length
    · have e4 : decide ((60 : Int) < (s.length : Int)) = true := by rw [decide_eq_true_eq]; omega
      simp only [go_sem, reduceCtorEq, Nat.reduceEqDiff, Nat.reduceAdd, withc_some, withcs_some, cells_0, cells_s, Option.bind_some, Option.map_some, List.getElem?_toArray, List.getElem?_cons_zero, List.getElem?_cons_succ, Nat.add_zero, Nat.zero_add, Value.cells, splice, List.setIfInBounds_toArray, List.set_cons_zero, List.set_cons_succ, bfill_nil, bfill_cons, bstep_some, withO_some, List.take_zero, List.take_succ_cons, List.drop_zero, List.drop_succ_cons, List.cons_append, List.nil_append, List.append_nil, List.length_cons, List.length_nil, Nat.reduceLeDiff, Nat.le_refl, and_true, true_and, and_self, decide_true, decide_false, Bool.not_true, Bool.not_false, e4, c8_5, c8_4, r8_10, callA_fn0 pl9, ld9, len_B Tryd.underlying9, len_slice Tryd.underlying24]
      exact h G hE
    have e4 : decide ((60 : Int) < (s.length : Int)) = false := by rw [decide_eq_false_iff_not]; omega
    simp only [go_sem, reduceCtorEq, Nat.reduceEqDiff, Nat.reduceAdd, withc_some, withcs_some, cells_0, cells_s, Option.bind_some, Option.map_some, List.getElem?_toArray, List.getElem?_cons_zero, List.getElem?_cons_succ, Nat.add_zero, Nat.zero_add, Value.cells, splice, List.setIfInBounds_toArray, List.set_cons_zero, List.set_cons_succ, bfill_nil, bfill_cons, bstep_some, withO_some, List.take_zero, List.take_succ_cons, List.drop_zero, List.drop_succ_cons, List.cons_append, List.nil_append, List.append_nil, List.length_cons, List.length_nil, Nat.reduceLeDiff, Nat.le_refl, and_true, true_and, and_self, decide_true, decide_false, Bool.not_true, Bool.not_false, e4, c8_5, c8_16, r8_11, c8_15, callA_fn0 pl9, ld9, len_B Tryd.underlying9, len_slice Tryd.underlying24]
    refine aw_while (L := c8_14) rfl (fun m F' G' => ∃ k : Nat, m = s.length - k ∧ F' = [(0, .string (B t)), (1, .slice (some ad) ls.length pc), (5, .string (B (txt (idl (ls.take i))))), (7, .string (B s)), (26, .slice (some ad) ls.length pc), (27, .int .i64 ls.length), (28, .int .i64 i), (36, .int .i64 s.length), (37, .int .i64 k)] ∧ G' = G ∧ k ≤ s.length ∧ 10 ∉ s.take k) (m := s.length)
      ⟨0, rfl, rfl, rfl, Nat.zero_le _, by simp⟩ ?_
    rintro m F' G' ih2 ⟨k, rfl, rfl, rfl, hk, hch⟩
    by_cases hkl : k < s.length
    · obtain ⟨c, hc⟩ : ∃ c, s[k]? = some c := ⟨s[k], List.getElem?_eq_getElem hkl⟩
      have e5 : decide ((k : Int) < (s.length : Int)) = true := by rw [decide_eq_true_eq]; omega
      simp only [go_sem, reduceCtorEq, Nat.reduceEqDiff, Nat.reduceAdd, withc_some, withcs_some, cells_0, cells_s, Option.bind_some, Option.map_some, List.getElem?_toArray, List.getElem?_cons_zero, List.getElem?_cons_succ, Nat.add_zero, Nat.zero_add, Value.cells, splice, List.setIfInBounds_toArray, List.set_cons_zero, List.set_cons_succ, bfill_nil, bfill_cons, bstep_some, withO_some, List.take_zero, List.take_succ_cons, List.drop_zero, List.drop_succ_cons, List.cons_append, List.nil_append, List.append_nil, List.length_cons, List.length_nil, Nat.reduceLeDiff, Nat.le_refl, and_true, true_and, and_self, decide_true, decide_false, Bool.not_true, Bool.not_false, c8_13, c8_12, r8_12, e5, c8_11, c8_10, c8_9, r8_13, c8_8, r8_14, callA_fn0 pl9, ld9, len_B Tryd.underlying9, len_slice Tryd.underlying24]
      rw [idxA_at uStr hc]
      by_cases h10 : c = 10
      · subst h10
        simp only [go_sem, reduceCtorEq, Nat.reduceEqDiff, Nat.reduceAdd, withc_some, withcs_some, cells_0, cells_s, Option.bind_some, Option.map_some, List.getElem?_toArray, List.getElem?_cons_zero, List.getElem?_cons_succ, Nat.add_zero, Nat.zero_add, Value.cells, splice, List.setIfInBounds_toArray, List.set_cons_zero, List.set_cons_succ, bfill_nil, bfill_cons, bstep_some, withO_some, List.take_zero, List.take_succ_cons, List.drop_zero, List.drop_succ_cons, List.cons_append, List.nil_append, List.append_nil, List.length_cons, List.length_nil, Nat.reduceLeDiff, Nat.le_refl, and_true, true_and, and_self, decide_true, decide_false, Bool.not_true, Bool.not_false, show decide ((((10 : UInt8).toNat : Nat) : Int) = 10) = true from rfl, c8_7, c8_6, r8_15, callA_fn0 pl9, ld9, len_B Tryd.underlying9, len_slice Tryd.underlying24]
        exact h G' hE
      · have e6 : decide ((c.toNat : Int) = 10) = false := u8_ne (b := 10) h10
        simp only [go_sem, reduceCtorEq, Nat.reduceEqDiff, Nat.reduceAdd, withc_some, withcs_some, cells_0, cells_s, Option.bind_some, Option.map_some, List.getElem?_toArray, List.getElem?_cons_zero, List.getElem?_cons_succ, Nat.add_zero, Nat.zero_add, Value.cells, splice, List.setIfInBounds_toArray, List.set_cons_zero, List.set_cons_succ, bfill_nil, bfill_cons, bstep_some, withO_some, List.take_zero, List.take_succ_cons, List.drop_zero, List.drop_succ_cons, List.cons_append, List.nil_append, List.append_nil, List.length_cons, List.length_nil, Nat.reduceLeDiff, Nat.le_refl, and_true, true_and, and_self, decide_true, decide_false, Bool.not_true, Bool.not_false, e6, c8_7, r8_16, wrap_one (show k + 1 ≤ 9223372036854775807 by omega), callA_fn0 pl9, ld9, len_B Tryd.underlying9, len_slice Tryd.underlying24]
        refine ih2 _ _ _ (by omega) ⟨k + 1, rfl, rfl, rfl, by omega, ?_⟩
        rw [List.take_add_one, hc]
        intro hm
        rcases List.mem_append.1 hm with hm | hm
        · exact hch hm
        · simp at hm; exact h10 hm.symm
    · have e5 : decide ((k : Int) < (s.length : Int)) = false := by rw [decide_eq_false_iff_not]; omega
      have hks : k = s.length := by omega
      subst hks
      rw [List.take_length] at hch
      have htt : txt (idl (ls.take (i + 1))) = txt (idl (ls.take i)) ++ (32 :: 32 :: 35 :: (((s ++ [10]) ++ List.replicate s.length 32) ++ [10])) := by
        rw [List.take_add_one, hsi, Option.toList_some, idl_snoc, txt_append]
        simp [txt]
      simp only [go_sem, reduceCtorEq, Nat.reduceEqDiff, Nat.reduceAdd, withc_some, withcs_some, cells_0, cells_s, Option.bind_some, Option.map_some, List.getElem?_toArray, List.getElem?_cons_zero, List.getElem?_cons_succ, Nat.add_zero, Nat.zero_add, Value.cells, splice, List.setIfInBounds_toArray, List.set_cons_zero, List.set_cons_succ, bfill_nil, bfill_cons, bstep_some, withO_some, List.take_zero, List.take_succ_cons, List.drop_zero, List.drop_succ_cons, List.cons_append, List.nil_append, List.append_nil, List.length_cons, List.length_nil, Nat.reduceLeDiff, Nat.le_refl, and_true, true_and, and_self, decide_true, decide_false, Bool.not_true, Bool.not_false, c8_13, c8_12, r8_12, e5, c8_11, r8_17, B_lit, binA_cat (show ([32, 32, 35] : List UInt8).length + s.length ≤ 9223372036854775807 by simp; omega), binA_cat (show (32 :: 32 :: 35 :: s : List UInt8).length + ([10] : List UInt8).length ≤ 9223372036854775807 by simp; omega), callA_fn0 pl21, callA_fn0 pl9, ld9, len_B Tryd.underlying9, len_slice Tryd.underlying24]
      refine repeat_c [32] s.length (by omega) (by simp; omega) fun G2 E2 => ?_
      rw [repeat_blank]
      simp only [go_sem, reduceCtorEq, Nat.reduceEqDiff, Nat.reduceAdd, withc_some, withcs_some, cells_0, cells_s, Option.bind_some, Option.map_some, List.getElem?_toArray, List.getElem?_cons_zero, List.getElem?_cons_succ, Nat.add_zero, Nat.zero_add, Value.cells, splice, List.setIfInBounds_toArray, List.set_cons_zero, List.set_cons_succ, bfill_nil, bfill_cons, bstep_some, withO_some, List.take_zero, List.take_succ_cons, List.drop_zero, List.drop_succ_cons, List.cons_append, List.nil_append, List.append_nil, List.length_cons, List.length_nil, Nat.reduceLeDiff, Nat.le_refl, and_true, true_and, and_self, decide_true, decide_false, Bool.not_true, Bool.not_false, B_lit, binA_cat (show (32 :: 32 :: 35 :: (s ++ [10]) : List UInt8).length + (List.replicate s.length (32 : UInt8)).length ≤ 9223372036854775807 by simp; omega), binA_cat (show (32 :: 32 :: 35 :: ((s ++ [10]) ++ List.replicate s.length (32 : UInt8)) : List UInt8).length + ([10] : List UInt8).length ≤ 9223372036854775807 by simp; omega),
        binA_cat (show (txt (idl (ls.take i))).length + (32 :: 32 :: 35 :: (((s ++ [10]) ++ List.replicate s.length (32 : UInt8)) ++ [10]) : List UInt8).length ≤ 9223372036854775807 by simp; omega), r8_18, wrap_one (show i + 1 ≤ 9223372036854775807 by omega), callA_fn0 pl21, callA_fn0 pl9, ld9, len_B Tryd.underlying9, len_slice Tryd.underlying24]
      rw [← htt]
      refine ih _ _ _ (by omega) ⟨i + 1, rfl, rfl, hE.trans E2, by omega, ?_⟩
      intro x hx
      rw [List.take_add_one, hsi] at hx
      rcases List.mem_append.1 hx with hx | hx
      · exact hgood x hx
      · simp at hx; subst hx; exact ⟨by omega, hch⟩
  · have e3 : decide ((i : Int) < (ls.length : Int)) = false := by rw [decide_eq_false_iff_not]; omega
    have hil : i = ls.length := by omega
    subst hil
    rw [List.take_length] at hgood hL
    simp only [go_sem, reduceCtorEq, Nat.reduceEqDiff, Nat.reduceAdd, withc_some, withcs_some, cells_0, cells_s, Option.bind_some, Option.map_some, List.getElem?_toArray, List.getElem?_cons_zero, List.getElem?_cons_succ, Nat.add_zero, Nat.zero_add, Value.cells, splice, List.setIfInBounds_toArray, List.set_cons_zero, List.set_cons_succ, bfill_nil, bfill_cons, bstep_some, withO_some, List.take_zero, List.take_succ_cons, List.drop_zero, List.drop_succ_cons, List.cons_append, List.nil_append, List.append_nil, List.length_cons, List.length_nil, Nat.reduceLeDiff, Nat.le_refl, and_true, true_and, and_self, decide_true, decide_false, Bool.not_true, Bool.not_false, List.take_length, c8_22, c8_21, r8_7, e3, c8_20, c8_41, r8_19, B_lit, callA_fn0 pl21, callA_fn0 pl22, callA_fn0 pl9, ld9, len_B Tryd.underlying9, len_slice Tryd.underlying24]
    refine countOne_c t 10 ?_
    have hct : t.count 10 ≤ t.length := List.count_le_length
    by_cases h400 : 400 < t.count 10
    · have e4 : decide ((400 : Int) < ((t.count 10 : Nat) : Int)) = true := by rw [decide_eq_true_eq]; omega
      simp only [go_sem, reduceCtorEq, Nat.reduceEqDiff, Nat.reduceAdd, withc_some, withcs_some, cells_0, cells_s, Option.bind_some, Option.map_some, List.getElem?_toArray, List.getElem?_cons_zero, List.getElem?_cons_succ, Nat.add_zero, Nat.zero_add, Value.cells, splice, List.setIfInBounds_toArray, List.set_cons_zero, List.set_cons_succ, bfill_nil, bfill_cons, bstep_some, withO_some, List.take_zero, List.take_succ_cons, List.drop_zero, List.drop_succ_cons, List.cons_append, List.nil_append, List.append_nil, List.length_cons, List.length_nil, Nat.reduceLeDiff, Nat.le_refl, and_true, true_and, and_self, decide_true, decide_false, Bool.not_true, Bool.not_false, e4, c8_26, c8_25, r8_20, callA_fn0 pl21, callA_fn0 pl22, callA_fn0 pl9, ld9, len_B Tryd.underlying9, len_slice Tryd.underlying24]
      exact h G hE
    have e4 : decide ((400 : Int) < ((t.count 10 : Nat) : Int)) = false := by rw [decide_eq_false_iff_not]; omega
    have hlc := linesF_count _ t (Nat.le_refl _)
    have hbl := idl_len ls
    have hexp := idle_exp (bl := idl ls) (t := t) (fun x hx => (idl_good hgood x hx).1) (by omega) (by omega)
    rw [hbl] at hexp
    have hsm := expand_small t
    have hlm := expand_lineM t
    simp only [go_sem, reduceCtorEq, Nat.reduceEqDiff, Nat.reduceAdd, withc_some, withcs_some, cells_0, cells_s, Option.bind_some, Option.map_some, List.getElem?_toArray, List.getElem?_cons_zero, List.getElem?_cons_succ, Nat.add_zero, Nat.zero_add, Value.cells, splice, List.setIfInBounds_toArray, List.set_cons_zero, List.set_cons_succ, bfill_nil, bfill_cons, bstep_some, withO_some, List.take_zero, List.take_succ_cons, List.drop_zero, List.drop_succ_cons, List.cons_append, List.nil_append, List.append_nil, List.length_cons, List.length_nil, Nat.reduceLeDiff, Nat.le_refl, and_true, true_and, and_self, decide_true, decide_false, Bool.not_true, Bool.not_false, e4, c8_26, c8_40, r8_21, callA_fn0 pl19, callA_fn0 pl21, callA_fn0 pl22, callA_fn0 pl9, ld9, len_B Tryd.underlying9, len_slice Tryd.underlying24]
    refine expand_full (g.ext hE) (by omega) fun G2 va E2 hsa _ => ?_
    have hE2 := hE.trans E2
    simp only [go_sem, reduceCtorEq, Nat.reduceEqDiff, Nat.reduceAdd, withc_some, withcs_some, cells_0, cells_s, Option.bind_some, Option.map_some, List.getElem?_toArray, List.getElem?_cons_zero, List.getElem?_cons_succ, Nat.add_zero, Nat.zero_add, Value.cells, splice, List.setIfInBounds_toArray, List.set_cons_zero, List.set_cons_succ, bfill_nil, bfill_cons, bstep_some, withO_some, List.take_zero, List.take_succ_cons, List.drop_zero, List.drop_succ_cons, List.cons_append, List.nil_append, List.append_nil, List.length_cons, List.length_nil, Nat.reduceLeDiff, Nat.le_refl, and_true, true_and, and_self, decide_true, decide_false, Bool.not_true, Bool.not_false, c8_39, r8_22, binA_cat (show (txt (idl ls)).length + t.length ≤ 9223372036854775807 by omega), callA_fn0 pl19, callA_fn0 pl21, callA_fn0 pl22, callA_fn0 pl9, ld9, len_B Tryd.underlying9, len_slice Tryd.underlying24]
    refine expand_full (g.ext hE2) (by rw [List.length_append]; omega) fun G3 vb E3 hsb _ => ?_
    have hE3 := hE2.trans E3
    rw [hexp] at hsb ⊢
    have hsa3 := hsa.ext E3
    generalize expandF LFo t = res at *
    obtain ⟨l, n, e⟩ := res
    simp only at hsa hsb hsm hsa3 ⊢
    obtain ⟨va1, va2, rfl⟩ := hsa.form
    obtain ⟨vb1, vb2, rfl⟩ := hsb.form
    simp only at hlm
    rw [List.length_map] at hsb ⊢
    have hd2 : IntKind.wrap .i64 ((2 : Int) * (ls.length : Int)) = ((2 * ls.length : Nat) : Int) := by
      rw [show ((2 : Int) * (ls.length : Int)) = ((2 * ls.length : Nat) : Int) by omega, wrap_i64 (by omega) (by omega)]
    have ec : decide (e = e) = true := decide_eq_true rfl
    have el : decide ((l.length : Int) = (l.length : Int)) = true := decide_eq_true rfl
    have fin : aw Tryd.prog 116 c8_37 (retK Tryd.prog [.tmp 4] K) [(1, .slice pa ls.length pc), (9, .slice va1 l.length va2), (12, .slice vb1 l.length vb2)] G3 := by
      simp only [go_sem, reduceCtorEq, Nat.reduceEqDiff, Nat.reduceAdd, withc_some, withcs_some, cells_0, cells_s, Option.bind_some, Option.map_some, List.getElem?_toArray, List.getElem?_cons_zero, List.getElem?_cons_succ, Nat.add_zero, Nat.zero_add, Value.cells, splice, List.setIfInBounds_toArray, List.set_cons_zero, List.set_cons_succ, bfill_nil, bfill_cons, bstep_some, withO_some, List.take_zero, List.take_succ_cons, List.drop_zero, List.drop_succ_cons, List.cons_append, List.nil_append, List.append_nil, List.length_cons, List.length_nil, Nat.reduceLeDiff, Nat.le_refl, and_true, true_and, and_self, decide_true, decide_false, Bool.not_true, Bool.not_false, c8_37, r8_25, c8_35, callA_fn0 pl19, callA_fn0 pl21, callA_fn0 pl22, callA_fn0 pl9, ld9, len_B Tryd.underlying9, len_slice Tryd.underlying24, len_slice Tryd.underlying36]
      refine aw_while (L := c8_34) rfl (fun m' F G' => ∃ i : Nat, m' = l.length - i ∧ F = [(1, .slice pa ls.length pc), (9, .slice va1 l.length va2), (12, .slice vb1 l.length vb2), (97, .int .i64 l.length), (98, .int .i64 i)] ∧ Ext H G' ∧ i ≤ l.length ∧ StmsO G.size G' (.slice va1 l.length va2) ((l.take i).map (gL (2 * ls.length)) ++ l.drop i) ∧ StmsO G2.size G' (.slice vb1 l.length vb2) (l.map (gL (2 * ls.length))) ∧ (∀ b off, va1 = some ⟨b, off, none⟩ → b < G2.size)) (m := l.length)
        ⟨0, rfl, rfl, hE3, Nat.zero_le _, hsa3, hsb, ?_⟩ ?_
      · intro b off hv
        obtain ⟨cells, h1, _⟩ := hsa
        rcases h1 with ⟨h1, _⟩ | ⟨b', cap, c, f, h1, _, h3, _⟩
        · rw [hv] at h1; cases h1
        · rw [hv] at h1
          cases h1
          exact get_lt h3
      rintro m' F G' ih ⟨i, rfl, rfl, hE', hi, ha, hb, hab⟩
      by_cases hlt : i < l.length
      · obtain ⟨s, hsi⟩ : ∃ s, l[i]? = some s := ⟨l[i], List.getElem?_eq_getElem hlt⟩
        have hms := mid_set (f := gL (2 * ls.length)) hsi
        obtain ⟨b, c, cc, ff, ev, hGb, hcb, hcell, hst, _⟩ := stm_own ha hms.2
        simp only [Value.slice.injEq] at ev
        obtain ⟨rfl, _, rfl⟩ := ev
        have hbG := hab b 0 rfl
        have e3 : decide ((i : Int) < (l.length : Int)) = true := by rw [decide_eq_true_eq]; omega
        have hsl := (hsm.2 s (List.mem_of_getElem? hsi)).1
        have hs2 : IntKind.wrap .i64 ((s.line : Int) + ((2 * ls.length : Nat) : Int)) = ((s.line + 2 * ls.length : Nat) : Int) := by
          rw [show ((s.line : Int) + ((2 * ls.length : Nat) : Int)) = ((s.line + 2 * ls.length : Nat) : Int) by omega, wrap_i64 (by omega) (by omega)]
        simp only [go_sem, reduceCtorEq, Nat.reduceEqDiff, Nat.reduceAdd, withc_some, withcs_some, cells_0, cells_s, Option.bind_some, Option.map_some, List.getElem?_toArray, List.getElem?_cons_zero, List.getElem?_cons_succ, Nat.add_zero, Nat.zero_add, Value.cells, splice, List.setIfInBounds_toArray, List.set_cons_zero, List.set_cons_succ, bfill_nil, bfill_cons, bstep_some, withO_some, List.take_zero, List.take_succ_cons, List.drop_zero, List.drop_succ_cons, List.cons_append, List.nil_append, List.append_nil, List.length_cons, List.length_nil, Nat.reduceLeDiff, Nat.le_refl, and_true, true_and, and_self, decide_true, decide_false, Bool.not_true, Bool.not_false, c8_33, c8_32, r8_26, e3, c8_31, c8_30, c8_29, r8_27, r8_28, callA_fn0 pl19, callA_fn0 pl21, callA_fn0 pl22, callA_fn0 pl9, fa40_0, ld3, ld9, len_B Tryd.underlying9, len_slice Tryd.underlying24, len_slice Tryd.underlying36]
        rw [iadA_slice Tryd.underlying36 ty40 (by omega) (by omega)]
        simp only [go_sem, reduceCtorEq, Nat.reduceEqDiff, Nat.reduceAdd, withc_some, withcs_some, cells_0, cells_s, Option.bind_some, Option.map_some, List.getElem?_toArray, List.getElem?_cons_zero, List.getElem?_cons_succ, Nat.add_zero, Nat.zero_add, Value.cells, splice, List.setIfInBounds_toArray, List.set_cons_zero, List.set_cons_succ, bfill_nil, bfill_cons, bstep_some, withO_some, List.take_zero, List.take_succ_cons, List.drop_zero, List.drop_succ_cons, List.cons_append, List.nil_append, List.append_nil, List.length_cons, List.length_nil, Nat.reduceLeDiff, Nat.le_refl, and_true, true_and, and_self, decide_true, decide_false, Bool.not_true, Bool.not_false, add_none, Int.toNat_natCast, Nat.zero_add, hcell, hd2, hs2, callA_fn0 pl19, callA_fn0 pl21, callA_fn0 pl22, callA_fn0 pl9, fa40_0, ld3, ld9, len_B Tryd.underlying9, len_slice Tryd.underlying24, len_slice Tryd.underlying36]
        rw [iadA_slice Tryd.underlying36 ty40 (by omega) (by omega)]
        simp only [go_sem, reduceCtorEq, Nat.reduceEqDiff, Nat.reduceAdd, withc_some, withcs_some, cells_0, cells_s, Option.bind_some, Option.map_some, List.getElem?_toArray, List.getElem?_cons_zero, List.getElem?_cons_succ, Nat.add_zero, Nat.zero_add, Value.cells, splice, List.setIfInBounds_toArray, List.set_cons_zero, List.set_cons_succ, bfill_nil, bfill_cons, bstep_some, withO_some, List.take_zero, List.take_succ_cons, List.drop_zero, List.drop_succ_cons, List.cons_append, List.nil_append, List.append_nil, List.length_cons, List.length_nil, Nat.reduceLeDiff, Nat.le_refl, and_true, true_and, and_self, decide_true, decide_false, Bool.not_true, Bool.not_false, add_none, Int.toNat_natCast, Nat.zero_add, callA_fn0 pl19, callA_fn0 pl21, callA_fn0 pl22, callA_fn0 pl9, fa40_0, ld3, ld9, len_B Tryd.underlying9, len_slice Tryd.underlying24, len_slice Tryd.underlying36]
        refine hst (s.line + 2 * ls.length) _ _ fun G4 h4 k4 s4 => ?_
        simp only [go_sem, reduceCtorEq, Nat.reduceEqDiff, Nat.reduceAdd, withc_some, withcs_some, cells_0, cells_s, Option.bind_some, Option.map_some, List.getElem?_toArray, List.getElem?_cons_zero, List.getElem?_cons_succ, Nat.add_zero, Nat.zero_add, Value.cells, splice, List.setIfInBounds_toArray, List.set_cons_zero, List.set_cons_succ, bfill_nil, bfill_cons, bstep_some, withO_some, List.take_zero, List.take_succ_cons, List.drop_zero, List.drop_succ_cons, List.cons_append, List.nil_append, List.append_nil, List.length_cons, List.length_nil, Nat.reduceLeDiff, Nat.le_refl, and_true, true_and, and_self, decide_true, decide_false, Bool.not_true, Bool.not_false, r8_29, wrap_one (show i + 1 ≤ 9223372036854775807 by omega), callA_fn0 pl19, callA_fn0 pl21, callA_fn0 pl22, callA_fn0 pl9, fa40_0, ld3, ld9, len_B Tryd.underlying9, len_slice Tryd.underlying24, len_slice Tryd.underlying36]
        refine ih _ _ _ (by omega) ⟨i + 1, rfl, rfl, k4.two hE' (by have := hE.size; omega), by omega, ?_, hb.keep hcb hbG k4, hab⟩
        rw [← hms.1]
        exact h4
      · have e3 : decide ((i : Int) < (l.length : Int)) = false := by rw [decide_eq_false_iff_not]; omega
        have hil : i = l.length := by omega
        subst hil
        rw [List.take_length, List.drop_length, List.append_nil] at ha
        simp only [go_sem, reduceCtorEq, Nat.reduceEqDiff, Nat.reduceAdd, withc_some, withcs_some, cells_0, cells_s, Option.bind_some, Option.map_some, List.getElem?_toArray, List.getElem?_cons_zero, List.getElem?_cons_succ, Nat.add_zero, Nat.zero_add, Value.cells, splice, List.setIfInBounds_toArray, List.set_cons_zero, List.set_cons_succ, bfill_nil, bfill_cons, bstep_some, withO_some, List.take_zero, List.take_succ_cons, List.drop_zero, List.drop_succ_cons, List.cons_append, List.nil_append, List.append_nil, List.length_cons, List.length_nil, Nat.reduceLeDiff, Nat.le_refl, and_true, true_and, and_self, decide_true, decide_false, Bool.not_true, Bool.not_false, c8_33, c8_32, r8_26, e3, c8_31, c8_36, r8_30, callA_fn0 pl19, callA_fn0 pl20, callA_fn0 pl21, callA_fn0 pl22, callA_fn0 pl9, fa40_0, ld3, ld9, len_B Tryd.underlying9, len_slice Tryd.underlying24, len_slice Tryd.underlying36]
        refine same_c (l := l.map (gL (2 * ls.length))) (by rw [List.length_map]; omega) ?_ ha.V hb.V fun G4 E4 => ?_
        · intro x hx
          obtain ⟨y, hy, rfl⟩ := List.mem_map.1 hx
          have := hsm.2 y hy
          exact ⟨by show y.words.length ≤ _; have := this.2.1; omega, by show y.data.length ≤ _; have := this.2.2; omega⟩
        · simp only [go_sem, reduceCtorEq, Nat.reduceEqDiff, Nat.reduceAdd, withc_some, withcs_some, cells_0, cells_s, Option.bind_some, Option.map_some, List.getElem?_toArray, List.getElem?_cons_zero, List.getElem?_cons_succ, Nat.add_zero, Nat.zero_add, Value.cells, splice, List.setIfInBounds_toArray, List.set_cons_zero, List.set_cons_succ, bfill_nil, bfill_cons, bstep_some, withO_some, List.take_zero, List.take_succ_cons, List.drop_zero, List.drop_succ_cons, List.cons_append, List.nil_append, List.append_nil, List.length_cons, List.length_nil, Nat.reduceLeDiff, Nat.le_refl, and_true, true_and, and_self, decide_true, decide_false, Bool.not_true, Bool.not_false, callA_fn0 pl19, callA_fn0 pl20, callA_fn0 pl21, callA_fn0 pl22, callA_fn0 pl9, fa40_0, ld3, ld9, len_B Tryd.underlying9, len_slice Tryd.underlying24, len_slice Tryd.underlying36]
          exact h G4 (hE'.trans E4)
    by_cases hc : e = 0
    · have e0 : decide (e = 0) = true := decide_eq_true hc
      simp only [go_sem, reduceCtorEq, Nat.reduceEqDiff, Nat.reduceAdd, withc_some, withcs_some, cells_0, cells_s, Option.bind_some, Option.map_some, List.getElem?_toArray, List.getElem?_cons_zero, List.getElem?_cons_succ, Nat.add_zero, Nat.zero_add, Value.cells, splice, List.setIfInBounds_toArray, List.set_cons_zero, List.set_cons_succ, bfill_nil, bfill_cons, bstep_some, withO_some, List.take_zero, List.take_succ_cons, List.drop_zero, List.drop_succ_cons, List.cons_append, List.nil_append, List.append_nil, List.length_cons, List.length_nil, Nat.reduceLeDiff, Nat.le_refl, and_true, true_and, and_self, decide_true, decide_false, Bool.not_true, Bool.not_false, c8_38, r8_23, ec, el, e0, c8_28, callA_fn0 pl19, callA_fn0 pl20, callA_fn0 pl21, callA_fn0 pl22, callA_fn0 pl9, fa40_0, ld3, ld9, len_B Tryd.underlying9, len_slice Tryd.underlying24, len_slice Tryd.underlying36]
      exact fin
    · have e0 : decide (e = 0) = false := decide_eq_false hc
      rw [if_neg hc]
      have hn2 : IntKind.wrap .i64 ((n : Int) + ((2 * ls.length : Nat) : Int)) = ((n + 2 * ls.length : Nat) : Int) := by
        rw [show ((n : Int) + ((2 * ls.length : Nat) : Int)) = ((n + 2 * ls.length : Nat) : Int) by omega, wrap_i64 (by omega) (by omega)]
      simp only [go_sem, reduceCtorEq, Nat.reduceEqDiff, Nat.reduceAdd, withc_some, withcs_some, cells_0, cells_s, Option.bind_some, Option.map_some, List.getElem?_toArray, List.getElem?_cons_zero, List.getElem?_cons_succ, Nat.add_zero, Nat.zero_add, Value.cells, splice, List.setIfInBounds_toArray, List.set_cons_zero, List.set_cons_succ, bfill_nil, bfill_cons, bstep_some, withO_some, List.take_zero, List.take_succ_cons, List.drop_zero, List.drop_succ_cons, List.cons_append, List.nil_append, List.append_nil, List.length_cons, List.length_nil, Nat.reduceLeDiff, Nat.le_refl, and_true, true_and, and_self, decide_true, decide_false, Bool.not_true, Bool.not_false, c8_38, r8_23, ec, el, e0, hd2, hn2, show decide (((n + 2 * ls.length : Nat) : Int) = ((n + 2 * ls.length : Nat) : Int)) = true from decide_eq_true rfl, c8_28, callA_fn0 pl19, callA_fn0 pl20, callA_fn0 pl21, callA_fn0 pl22, callA_fn0 pl9, fa40_0, ld3, ld9, len_B Tryd.underlying9, len_slice Tryd.underlying24, len_slice Tryd.underlying36]
      exact fin
end Go.Proofs.YtoabcmhiaknjiaaDoor

/- A law's row out of a contract over the heap alone: it returns true, and what was in memory is as it was. -/
set_option linter.unusedVariables false
namespace Go.Hw
open Go Go.ChangeShapes Go.WideShapes Go.ChangeAt Go.RowKit

theorem below_of {W W' : World} (e : EnvEq W W') (x : Ext W.heap W'.heap) : Below W.heap.size W W' := ⟨e.os, e.tape, e.output, e.size, x.blk⟩

theorem trodAll_below {H : Type} {enc : TypeId × Value → H} {P : Program} (hl : laidOutB P = true) {W W' : World} (hb : Below W.heap.size W W') :
    ∀ {ts : List TypeId} {vs : List Value} {ds : List (DataW H)} {ps : List MemPlace}, (∀ t ∈ ts, P.readableRec t = true ∧ t < P.types.size) → DataW.TrodAll enc P W 0 (fun _ => true) true ts vs ds ps → (∀ x ∈ ps, x.block < W.heap.size) →
      DataW.TrodAll enc P W' 0 (fun b => decide (b < W.heap.size)) true ts vs ds ps
  | [], vs, ds, ps, _, h, _ => by
    obtain ⟨rfl, rfl, rfl⟩ := trodAll_nil h
    exact rfl
  | t :: ts, vs, ds, ps, hr, h, hlt => by
    obtain ⟨v, vs', d, ds', p, q, rfl, rfl, rfl, h1, h2⟩ := trodAll_cons h
    have ht := hr t (List.mem_cons_self ..)
    exact ⟨p, q, Below.trod hl ht.1 ht.2 h1 hb (fun x hx => hlt x (List.mem_append_left _ hx)),
      trodAll_below hl hb (fun t' ht' => hr t' (List.mem_cons_of_mem _ ht')) h2 (fun x hx => hlt x (List.mem_append_right _ hx)), rfl⟩

theorem law_row {C : Checked} {os : Os} {f : FuncId} {fn : Func} {s : ChangeSpec} {laid : List (String × DataW Unit)} {H : Type} {enc : TypeId × Value → H} {tb : TypeId}
    (hl : laidOutB C.prog = true) (own : ownKnob C.prog.godebug = none) (started : os.Started) (noInit : C.prog.inits.idxOf? f = none) (hfn : C.prog.funcs[f]? = some fn)
    (hvars : s.vars = []) (hread : ∀ t ∈ fn.params.toList, C.prog.readableRec t = true ∧ t < C.prog.types.size)
    (hres : fn.resultTypes = #[tb]) (hb : C.prog.underlying tb = some .bool)
    (hspec : ∀ ds : List (DataW H), ds.length = fn.params.size → s.fn H ds = { results := [.lit (.bool true)], args := ds })
    (witness : ∃ (w : World) (tape : Tape) (i : Input), w.os = os ∧ (w.forCall tape i).Shaped C.prog ∧ i.vars = [] ∧ Input.okWide C.prog (w.forCall tape i) .any w.heap.size f i ∧
      ((s.pre enc C.prog fn [] false (w.forCall tape i).memory i.args ∧ laidMetH C.prog laid (w.forCall tape i).memory) ∧ sizedMet enc C.prog fn (OpenSpec.ofChange s) false (w.forCall tape i).memory i.args) ∧ ({} : Assume).holds C.prog (lone (Frame.enter C.prog f i.args .normal) [] (w.forCall tape i)))
    (walk : ∀ (W : World) (base : Nat) (args : Array Value) (ds : List (DataW H)) (p : List MemPlace),
      (∀ (j : Nat) t v, fn.params[j]? = some t → args[j]? = some v → Value.okWide C.prog W .any base t v) →
      DataW.TrodAll enc C.prog W 0 (fun _ => true) true fn.params.toList args.toList ds p →
      laidMetH C.prog laid W → W.ShapedOpen C.prog → HCall C.prog f args W.heap (fun e G => Ext W.heap G ∧ e = .returned (.bool true))) :
    ReturnsInHanded {} C os f .any (fun w args => (s.pre enc C.prog fn [] false w args ∧ laidMetH C.prog laid w) ∧ sizedMet enc C.prog fn (OpenSpec.ofChange s) false w args) (s.post enc C.prog fn false true false false) := by
  refine returnsInHanded_of_calls own started noInit witness ?_
  intro w tape i _ hsh _ hok hpre hholds
  obtain ⟨_, _, _, fn', hfn', _, _, _, _, hval⟩ := hok
  have e : fn' = fn := Option.some.inj (hfn'.symm.trans hfn)
  subst e
  obtain ⟨⟨⟨ds, gs, before, hw, hc⟩, hx⟩, hz⟩ := hpre
  have hw' := DataW.Whole.of_heap (w' := w.forCall tape i) (by rfl) hw
  have hwk := hw'
  obtain ⟨p, q, hA, hV, rfl, hfz, hnd⟩ := hw'
  rw [hvars] at hV
  obtain ⟨rfl, rfl⟩ := trodVars_none hV
  have hlen : ds.length = fn'.params.size := by
    have : ∀ {ts : List TypeId} {vs : List Value} {ds : List (DataW H)} {ps : List MemPlace}, DataW.TrodAll enc C.prog (w.forCall tape i) 0 (fun _ => true) true ts vs ds ps → ds.length = ts.length := by
      intro ts
      induction ts with
      | nil => intro vs ds ps h; obtain ⟨_, rfl, _⟩ := trodAll_nil h; rfl
      | cons t ts ih => intro vs ds ps h; obtain ⟨_, _, _, _, _, _, _, rfl, _, _, h2⟩ := trodAll_cons h; simp [ih h2]
    simpa using this hA
  have key := walk (w.forCall tape i) w.heap.size i.args ds p hval hA (hx.of_heap (by rfl)) hsh
  refine (key (w.forCall tape i) rfl).mono fun e W' ⟨henv, hext, he⟩ => ?_
  subst he
  have hbel := below_of henv hext
  refine ChangeSpec.post_blind ?_
  refine ⟨ds, [], p ++ [], [], p, [], hwk, ?_, ?_, ?_, hbel.frame _, fun h => by cases h⟩
  · rw [List.append_nil, hspec ds hlen, hres]
    exact trodAll_mk1 (shut_bool hb true)
  · rw [List.append_nil, hspec ds hlen]
    exact trodAll_below hl hbel hread hA (fun x hx => hwk.lt x (by simpa using hx))
  · rw [List.append_nil, hspec ds hlen, hvars]
    exact rfl
end Go.Hw

/- The arguments of a law, opened. -/
set_option maxRecDepth 100000
set_option linter.unusedVariables false
namespace Go.Proofs.YtoabcmhiaknjiaaDoor
open Go.Hw Go.ChangeShapes Go.WideShapes Go.ChangeAt Go.RowKit Go.WideMaps Go.ChangeMaps

theorem maxLen_eq : Go.maxLen = 9223372036854775807 := rfl
theorem cellsH_of_each {H : Hp} {a : Addr} (f : Nat → Value) : ∀ (n i : Nat), (∀ j, i ≤ j → j < i + n → cellH H (a.add j) = some (f j)) → cellsH H a i n = some ((List.range n).map fun j => f (i + j))
  | 0, i, _ => rfl
  | n + 1, i, h => by
    unfold cellsH
    rw [h i (Nat.le_refl _) (by omega)]
    simp only
    rw [cellsH_of_each f n (i + 1) (fun j h1 h2 => h j (by omega) (by omega))]
    simp [List.range_succ_eq_map, Nat.add_assoc, Nat.add_comm 1]
theorem cellsOf_str : Tryd.prog.cellsOf 9 = 1 := by kernel_rfl
theorem B_data (s : ByteArray) : B s.data.toList = s := by cases s; simp [B]

theorem open_strV {H : Type} {enc : TypeId × Value → H} {W : World} {base : Nat} {v : Value} {d : DataW H} {p : List MemPlace} (hok : Value.okWide Tryd.prog W .any base 9 v) (h : DataW.Trod enc Tryd.prog W 0 (fun _ => true) true 9 v d p) :
    ∃ s : List UInt8, v = .string (B s) ∧ s.length ≤ 9223372036854775807 := by
  obtain ⟨s, rfl, rfl, rfl, hs⟩ := open_string uStr hok h
  exact ⟨s.data.toList, by rw [B_data], by rw [← maxLen_eq]; exact hs⟩

theorem open_strsV {H : Type} {enc : TypeId × Value → H} {W : World} {base : Nat} {v : Value} {d : DataW H} {p : List MemPlace} (hok : Value.okWide Tryd.prog W .any base 24 v) (h : DataW.Trod enc Tryd.prog W 0 (fun _ => true) true 24 v d p) :
    ∃ ws : List (List UInt8), StrsV W.heap v ws ∧ (∀ w ∈ ws, w.length ≤ 9223372036854775807) ∧ ws.length ≤ 9223372036854775807 := by
  obtain ⟨a0, len, cap, rfl⟩ := okWide_slice uStrs hok
  obtain ⟨fuel, hf⟩ := h
  rcases open_strings uStrs uStr cellsOf_str hf with ⟨hcs, _⟩ | ⟨a, len', cap', ss, hcs, _, hl, hm, hz, _, hcell, hsz⟩
  · simp [Value.cells] at hcs
    obtain ⟨rfl, rfl, rfl⟩ := hcs
    exact ⟨[], ⟨.inr (.inl ⟨0, rfl, rfl, rfl⟩), _, _, rfl⟩, by simp, by simp⟩
  · simp [Value.cells] at hcs
    obtain ⟨rfl, rfl, rfl⟩ := hcs
    simp only [if_true] at hz
    have hlen : ((ss.take len).map fun s => s.data.toList).length = len := by simp; omega
    refine ⟨(ss.take len).map fun s => s.data.toList, ⟨.inl ⟨a, cap, by rw [hlen], ?_⟩, _, _, by rw [hlen]⟩, ?_, ?_⟩
    · rw [hlen, Nat.mul_one, cellsH_of_each (fun j => .string (ss.getD j ByteArray.empty)) len 0 (fun j _ h2 => by rw [← cellH_eq]; exact hcell j (by omega))]
      congr 1
      apply List.ext_getElem
      · simp [strs]; omega
      · intro i h1 h2
        simp only [List.length_map, List.length_range] at h1
        simp [strs, B_data, List.getD, List.getElem?_eq_getElem (show i < ss.length by omega)]
    · intro w hw
      obtain ⟨s, hs, rfl⟩ := List.mem_map.1 hw
      rw [← maxLen_eq]
      exact hsz s (List.mem_of_mem_take hs)
    · rw [hlen, ← maxLen_eq]; omega
end Go.Proofs.YtoabcmhiaknjiaaDoor

/- What every law's row of this seat leans on. -/
set_option maxRecDepth 100000
set_option linter.unusedVariables false
namespace Go.Proofs.YtoabcmhiaknjiaaDoor
open Go.Hw Go.ChangeShapes Go.WideShapes Go.ChangeAt Go.RowKit Go.WideMaps Go.ChangeMaps

theorem own_knob : ownKnob Tryd.prog.godebug = none := by kernel_rfl
theorem laid_out : laidOutB Tryd.prog = true := by kernel_rfl

theorem g0_of {W : World} (h : W.ShapedOpen Tryd.prog) : G0 W.heap := by
  obtain ⟨m, hm⟩ := cell_of_shapedOpen_int (P := Tryd.prog) (g := 0) (t := 3) (zero := #[.int .i64 0]) (k := .i64) h (of_decide_eq_true (by kernel_rfl)) (by kernel_rfl) rfl (by kernel_rfl) (by kernel_rfl) Tryd.underlying3
  exact ⟨m, by rw [← cellH_eq]; exact hm⟩

end Go.Proofs.YtoabcmhiaknjiaaDoor
