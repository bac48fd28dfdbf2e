/- Contracts and laws that the claim leans on, part 3. -/
import Derived.Test.YtoabcmhiaknjiaaDoorS39P2
import Derived.Test.YtoabcmhiaknjiaaDoorProg
import Derived.Test.YtoabcmhiaknjiaaDoorS39P1
/- The contracts of dsname's functions and of symbol. -/
set_option maxRecDepth 100000
set_option linter.unusedSimpArgs false
set_option linter.unusedVariables false
namespace Go.Proofs.YtoabcmhiaknjiaaDoor
open Go.Hw
variable {H : Hp} {K : Ending → Hp → Prop}

theorem upper_c (c : UInt8) (h : K (.returned (.bool (upperF c))) H) : HCall Tryd.prog 75 #[.int .u8 c.toNat] H K := by
  refine hcall mixed B75 (args := [.int .u8 c.toNat]) (by simp) ?_
  unfold upperF at h
  cases h1 : decide ((65 : Int) ≤ c.toNat) <;> rw [h1] at h <;> simp only [go_sem, reduceCtorEq, Nat.reduceEqDiff, Nat.reduceAdd, c75, r75_0, c75_0, r75_1, h1] <;> exact h
theorem digit_c (c : UInt8) (h : K (.returned (.bool (digitF c))) H) : HCall Tryd.prog 94 #[.int .u8 c.toNat] H K := by
  refine hcall mixed B94 (args := [.int .u8 c.toNat]) (by simp) ?_
  unfold digitF at h
  cases h1 : decide ((48 : Int) ≤ c.toNat) <;> rw [h1] at h <;> simp only [go_sem, reduceCtorEq, Nat.reduceEqDiff, Nat.reduceAdd, c94, r94_0, c94_0, r94_1, h1] <;> exact h
theorem plain_c (c : UInt8) (h : K (.returned (.bool (plainF c))) H) : HCall Tryd.prog 76 #[.int .u8 c.toNat] H K := by
  refine hcall mixed B76 (args := [.int .u8 c.toNat]) (by simp) ?_
  simp only [go_sem, reduceCtorEq, Nat.reduceEqDiff, Nat.reduceAdd, c76, r76_0, c76_0, r76_1, callA_fn0 pl75]
  refine upper_c c ?_
  unfold plainF at h
  cases h1 : upperF c <;> rw [h1] at h
  · simp only [go_sem, reduceCtorEq, Nat.reduceEqDiff, Nat.reduceAdd, callA_fn0 pl94]
    refine digit_c c ?_
    simp only [go_sem, reduceCtorEq, Nat.reduceEqDiff, Nat.reduceAdd, ]
    exact h
  · simp only [go_sem, reduceCtorEq, Nat.reduceEqDiff, Nat.reduceAdd, ]
    exact h

theorem qualifier_c (l : List UInt8) (hl : l.length < 100000000) (h : K (.returned (.bool (qualF l))) H) : HCall Tryd.prog 74 #[.string (B l), .func (.func 75) #[] #[], .func (.func 76) #[] #[]] H K := by
  refine hcall mixed B74 (args := [.string (B l), .func (.func 75) #[] #[], .func (.func 76) #[] #[]]) (by simp) ?_
  match l, hl, h with
  | [], hl, h =>
    simp only [go_sem, reduceCtorEq, Nat.reduceEqDiff, Nat.reduceAdd, c74, r74_0, c74_13, r74_1, len_B uStr, List.length_nil, show decide (((0 : Nat) : Int) < 1) = true from rfl, c74_1, c74_0, r74_2]
    exact h
  | c :: r, hl, h =>
    have e1 : decide (((c :: r).length : Int) < 1) = false := by rw [decide_eq_false_iff_not, List.length_cons]; omega
    have hq : qualF (c :: r) = (decide (r.length < 8) && upperF c && r.all plainF) := rfl
    rw [hq] at h
    by_cases h8 : r.length < 8
    · have e2 : decide ((8 : Int) < ((c :: r).length : Int)) = false := by rw [decide_eq_false_iff_not, List.length_cons]; omega
      simp only [go_sem, reduceCtorEq, Nat.reduceEqDiff, Nat.reduceAdd, c74, r74_0, c74_13, r74_1, len_B uStr, e1, e2]
      rw [idxA_B uStr (by omega) (by simp only [List.length_cons]; omega)]
      simp only [Int.toNat_zero, List.getD_cons_zero]
      simp only [go_sem, reduceCtorEq, Nat.reduceEqDiff, Nat.reduceAdd, callA_fn0 pl75]
      refine upper_c c ?_
      cases hu : upperF c
      · simp only [go_sem, reduceCtorEq, Nat.reduceEqDiff, Nat.reduceAdd, c74_1, c74_0, r74_2]
        rw [hu] at h
        simpa using h
      · simp only [go_sem, reduceCtorEq, Nat.reduceEqDiff, Nat.reduceAdd, c74_1, c74_12, r74_3, c74_10]
        rw [hu, decide_eq_true h8] at h
        simp only [Bool.and_self, Bool.true_and] at h
        refine aw_while (L := c74_9) rfl (fun m F G => ∃ i : Nat, m = (c :: r).length - i ∧ F = [(0, .string (B (c :: r))), (2, .func (.func 76) #[] #[]), (7, .int .i64 i)] ∧ G = H ∧ 1 ≤ i ∧ i ≤ (c :: r).length ∧ r.all plainF = ((c :: r).drop i).all plainF) (m := (c :: r).length - 1)
          ⟨1, rfl, rfl, rfl, Nat.le_refl _, by simp, rfl⟩ ?_
        rintro m F G ih ⟨i, rfl, rfl, rfl, h2, h3, h4⟩
        by_cases hi : i < (c :: r).length
        · have hi' : decide ((i : Int) < ((c :: r).length : Int)) = true := by rw [decide_eq_true_eq]; omega
          simp only [go_sem, reduceCtorEq, Nat.reduceEqDiff, Nat.reduceAdd, c74_8, c74_7, r74_4, len_B uStr, hi', c74_2, c74_6, c74_5, r74_6]
          rw [idxA_B uStr (by omega) (by omega)]
          rw [List.drop_eq_getElem_cons hi, List.all_cons] at h4
          have hg : (c :: r).getD (i : Int).toNat 0 = (c :: r)[i] := by rw [Int.toNat_natCast]; exact getD_lt hi
          rw [hg]
          simp only [go_sem, reduceCtorEq, Nat.reduceEqDiff, Nat.reduceAdd, callA_fn0 pl76]
          refine plain_c _ ?_
          cases hp : plainF (c :: r)[i]
          · simp only [go_sem, reduceCtorEq, Nat.reduceEqDiff, Nat.reduceAdd, c74_4, c74_3, r74_7]
            rw [h4, hp] at h
            exact h
          · simp only [go_sem, reduceCtorEq, Nat.reduceEqDiff, Nat.reduceAdd, c74_4, r74_5]
            rw [wrap_i64 (by omega) (by omega)]
            rw [hp, Bool.true_and] at h4
            exact ih _ _ _ (by omega) ⟨i + 1, rfl, rfl, rfl, by omega, by omega, h4⟩
        · have hi' : decide ((i : Int) < ((c :: r).length : Int)) = false := by rw [decide_eq_false_iff_not]; omega
          simp only [go_sem, reduceCtorEq, Nat.reduceEqDiff, Nat.reduceAdd, c74_8, c74_7, r74_4, len_B uStr, hi', c74_2, c74_11, r74_8]
          rw [List.drop_eq_nil_of_le (by omega)] at h4
          rw [h4] at h
          exact h
    · have e2 : decide ((8 : Int) < ((c :: r).length : Int)) = true := by rw [decide_eq_true_eq, List.length_cons]; omega
      simp only [go_sem, reduceCtorEq, Nat.reduceEqDiff, Nat.reduceAdd, c74, r74_0, c74_13, r74_1, len_B uStr, e1, e2, c74_1, c74_0, r74_2]
      rw [decide_eq_false h8] at h
      simpa using h

theorem valid1_c (l : List UInt8) (hl : l.length < 100000000) (h : K (.returned (.bool (qualF l))) H) : HCall Tryd.prog 73 #[.string (B l)] H K := by
  refine hcall mixed B73 (args := [.string (B l)]) (by simp) ?_
  simp only [go_sem, reduceCtorEq, Nat.reduceEqDiff, Nat.reduceAdd, c73, r73_0, c73_0, r73_1, callA_fn0 pl74]
  refine qualifier_c l hl ?_
  simp only [go_sem, reduceCtorEq, Nat.reduceEqDiff, Nat.reduceAdd, ]
  exact h

theorem split_len (l : List UInt8) (sep : List UInt8) : ∀ q ∈ Lib.split l sep, q.length ≤ l.length := by
  have key : ∀ (k : Nat) (l : List UInt8), ∀ q ∈ Lib.splitK sep 0 k l, q.length ≤ l.length := by
    intro k
    induction k with
    | zero => intro l q hq; unfold Lib.splitK at hq; simp at hq; subst hq; exact Nat.le_refl _
    | succ k ih =>
      intro l q hq
      unfold Lib.splitK at hq
      split at hq
      · simp at hq; subst hq; exact Nat.le_refl _
      · rcases List.mem_cons.1 hq with h | h
        · subst h; simp; omega
        · have := ih _ q h; simp at this; omega
  exact key _ l

theorem count_one_split (l : List UInt8) (c : UInt8) : (Lib.split l [c]).length = Lib.count l [c] + 1 := by
  have := Lib.splitB_all (B [c]) (by rw [B_size]; exact Nat.le_refl _) 0 (Lib.count l [c]) (B l) (by unfold Lib.countB; rw [B_list, B_list])
  have h2 := Lib.splitB_data (B [c]) 0 (Lib.count l [c]) (B l)
  rw [B_list, B_list] at h2
  unfold Lib.split
  rw [← h2, List.length_map, this]

theorem all_c (l : List UInt8) (hl : l.length < 100000000) (g : G0 H) (h : ∀ H', Ext H H' → K (.returned (.bool (validF l))) H') : HCall Tryd.prog 72 #[.string (B l), .int .i64 31, .func (.func 73) #[] #[]] H K := by
  refine hcall mixed B72 (args := [.string (B l), .int .i64 31, .func (.func 73) #[] #[]]) (by simp) ?_
  unfold validF at h
  have e1 : decide ((l.length : Int) < 1) = !decide (1 ≤ l.length) := by
    by_cases h1 : 1 ≤ l.length
    · rw [decide_eq_true h1]; simp; omega
    · rw [decide_eq_false h1]; simp; omega
  have e2 : decide ((31 : Int) < (l.length : Int)) = !decide (l.length ≤ 31) := by
    by_cases h1 : l.length ≤ 31
    · rw [decide_eq_true h1]; simp; omega
    · rw [decide_eq_false h1]; simp; omega
  cases h1 : decide (1 ≤ l.length)
  · rw [h1] at h
    simp only [go_sem, reduceCtorEq, Nat.reduceEqDiff, Nat.reduceAdd, c72, r72_0, c72_14, r72_1, len_B uStr, e1, h1, c72_1, c72_0, r72_2]
    exact h H (Ext.refl _)
  cases h2 : decide (l.length ≤ 31)
  · rw [h1, h2] at h
    simp only [go_sem, reduceCtorEq, Nat.reduceEqDiff, Nat.reduceAdd, c72, r72_0, c72_14, r72_1, len_B uStr, e1, h1, e2, h2, c72_1, c72_0, r72_2]
    exact h H (Ext.refl _)
  rw [h1, h2, Bool.true_and, Bool.true_and] at h
  simp only [go_sem, reduceCtorEq, Nat.reduceEqDiff, Nat.reduceAdd, c72, r72_0, c72_14, r72_1, len_B uStr, e1, h1, e2, h2, c72_1, c72_13, r72_3, callA_fn0 pl93, B_lit]
  refine split_c l [46] (by omega) g (by simp) ?_
  simp only [go_sem, reduceCtorEq, Nat.reduceEqDiff, Nat.reduceAdd, len_slice uStrs, c72_11]
  have hsl := count_one_split l 46
  have hcl : Lib.count l [46] < 4611686018427387904 := by have := Lib.count_le l [46]; omega
  generalize hws : Lib.split l [46] = ws at *
  rw [← hsl]
  have hsrc : Src (H.push (.cells (ws.map fun l => Value.string (B l)).toArray 9)) 1 (.slice (some ⟨H.size, 0, none⟩) ws.length ws.length) ws.length (ws.map fun l => Value.string (B l)) := src_push (by simp)
  refine aw_while (L := c72_10) rfl (fun m F G => ∃ i : Nat, m = ws.length - i ∧ F = [(2, .func (.func 73) #[] #[]), (19, .slice (some ⟨H.size, 0, none⟩) ws.length ws.length), (20, .int .i64 ws.length), (21, .int .i64 i)] ∧ G = H.push (.cells (ws.map fun l => Value.string (B l)).toArray 9) ∧ i ≤ ws.length ∧ ws.all qualF = (ws.drop i).all qualF) (m := ws.length)
    ⟨0, rfl, rfl, rfl, Nat.zero_le _, rfl⟩ ?_
  rintro m F G ih ⟨i, rfl, rfl, rfl, h3, h4⟩
  by_cases hi : i < ws.length
  · have hi' : decide ((i : Int) < (ws.length : Int)) = true := by rw [decide_eq_true_eq]; omega
    obtain ⟨a, c, u, hv, hu, hc⟩ := src1_cell hsrc ⟨_, _, rfl⟩ hi
    cases hv
    rw [List.getElem?_map, List.getElem?_eq_getElem hi] at hu
    cases hu
    rw [add_none] at hc
    simp only [go_sem, reduceCtorEq, Nat.reduceEqDiff, Nat.reduceAdd, c72_9, c72_8, r72_4, hi', c72_7, c72_6, c72_5, r72_5]
    rw [iadA_slice uStrs ty9 (by omega) (by omega)]
    simp only [go_sem, reduceCtorEq, Nat.reduceEqDiff, Nat.reduceAdd, ]
    rw [loadA_cell uStr rfl (by rw [Int.toNat_natCast]; exact hc)]
    simp only [go_sem, reduceCtorEq, Nat.reduceEqDiff, Nat.reduceAdd, c72_4, r72_6, callA_fn0 pl73]
    have hmem : ws[i] ∈ ws := List.getElem_mem hi
    have hln : ws[i].length ≤ l.length := split_len l [46] _ (by rw [hws]; exact hmem)
    refine valid1_c _ (by omega) ?_
    rw [List.drop_eq_getElem_cons hi, List.all_cons] at h4
    cases hp : qualF ws[i]
    · simp only [go_sem, reduceCtorEq, Nat.reduceEqDiff, Nat.reduceAdd, c72_3, c72_2, r72_7]
      rw [h4, hp] at h
      exact h _ (Ext.push _ _)
    · simp only [go_sem, reduceCtorEq, Nat.reduceEqDiff, Nat.reduceAdd, c72_3, r72_8]
      rw [wrap_i64 (by omega) (by omega)]
      rw [hp, Bool.true_and] at h4
      exact ih _ _ _ (by omega) ⟨i + 1, rfl, rfl, rfl, by omega, h4⟩
  · have hi' : decide ((i : Int) < (ws.length : Int)) = false := by rw [decide_eq_false_iff_not]; omega
    simp only [go_sem, reduceCtorEq, Nat.reduceEqDiff, Nat.reduceAdd, c72_9, c72_8, r72_4, hi', c72_7, c72_12, r72_9]
    rw [List.drop_eq_nil_of_le (by omega)] at h4
    rw [h4] at h
    exact h _ (Ext.push _ _)

theorem valid_c (l : List UInt8) (hl : l.length < 100000000) (g : G0 H) (h : ∀ H', Ext H H' → K (.returned (.bool (validF l))) H') : HCall Tryd.prog 55 #[.string (B l)] H K := by
  refine hcall mixed B55 (args := [.string (B l)]) (by simp) ?_
  simp only [go_sem, reduceCtorEq, Nat.reduceEqDiff, Nat.reduceAdd, c55, r55_0, c55_0, r55_1, callA_fn0 pl72]
  refine all_c l hl g fun H' e => ?_
  simp only [go_sem, reduceCtorEq, Nat.reduceEqDiff, Nat.reduceAdd, ]
  exact h H' e

theorem symbol_c (l : List UInt8) (hl : l.length < 100000000) (g : G0 H) (h : ∀ H', Ext H H' → K (.returned (.bool (symF l))) H') : HCall Tryd.prog 30 #[.string (B l)] H K := by
  refine hcall mixed B30 (args := [.string (B l)]) (by simp) ?_
  simp only [go_sem, reduceCtorEq, Nat.reduceEqDiff, Nat.reduceAdd, c30, r30_0, c30_0, r30_1, callA_fn0 pl55]
  refine valid_c l hl g fun H' e => ?_
  unfold symF at h
  cases hv : validF l
  · simp only [go_sem, reduceCtorEq, Nat.reduceEqDiff, Nat.reduceAdd, ]
    rw [hv] at h
    exact h H' e
  · simp only [go_sem, reduceCtorEq, Nat.reduceEqDiff, Nat.reduceAdd, callA_fn0 pl18, B_lit]
    refine contains_c l [46] (by omega) (g.ext e) ?_
    simp only [go_sem, reduceCtorEq, Nat.reduceEqDiff, Nat.reduceAdd, ]
    rw [hv] at h
    exact h H' e
end Go.Proofs.YtoabcmhiaknjiaaDoor

set_option maxRecDepth 100000
namespace Go.Proofs.YtoabcmhiaknjiaaDoor
open Go.Hw
/-! ### 12 dasd/jobtext.Replace -/
def r12_0 : List O := [⟨some 4, .assign (.const (.string ⟨#[]⟩)), 9, none⟩,
  ⟨some 5, .assign (.const (.int .i64 0)), 25, none⟩]
def r12_1 : List O := [⟨some 6, .alloc 54, 0, none⟩]
def r12_2 : List O := [⟨some 12, .move (.tmp 0), 9, none⟩,
  ⟨some 13, .binOp .neq 9 (.tmp 12) (.const (.string ⟨#[]⟩)) 9, 4, none⟩]
def r12_3 : List O := [⟨some 14, .move (.tmp 0), 9, none⟩,
  ⟨some 15, .call { callee := .value (.func 25), args := #[.tmp 14, .const (.int .u8 38)], argTypes := #[9, 5] }, 3, none⟩,
  ⟨some 7, .assign (.tmp 15), 3, none⟩]
def r12_4 : List O := [⟨some 16, .move (.tmp 7), 3, none⟩,
  ⟨some 17, .binOp .lss 3 (.tmp 16) (.const (.int .i64 0)) 3, 4, none⟩]
def r12_5 : List O := [⟨some 18, .move (.tmp 0), 9, none⟩,
  ⟨some 19, .call { callee := .builtin .len, args := #[.tmp 18], argTypes := #[9] }, 3, none⟩,
  ⟨some 7, .assign (.tmp 19), 3, none⟩]
def r12_6 : List O := [⟨some 20, .move (.tmp 0), 9, none⟩,
  ⟨some 21, .move (.tmp 7), 3, none⟩,
  ⟨some 22, .slice 9 (.tmp 20) none (some (.tmp 21)) none, 9, none⟩,
  ⟨some 23, .call { callee := .value (.func 26), args := #[.tmp 6, .tmp 22], argTypes := #[54, 9] }, 58, none⟩]
def r12_7 : List O := [⟨some 24, .move (.tmp 0), 9, none⟩,
  ⟨some 25, .move (.tmp 7), 3, none⟩,
  ⟨some 26, .slice 9 (.tmp 24) (some (.tmp 25)) none none, 9, none⟩,
  ⟨some 0, .assign (.tmp 26), 9, none⟩]
def r12_8 : List O := [⟨some 27, .move (.tmp 0), 9, none⟩,
  ⟨some 28, .binOp .eql 9 (.tmp 27) (.const (.string ⟨#[]⟩)) 9, 4, none⟩]
def r12_9 : List O := [⟨some 29, .move (.tmp 0), 9, none⟩,
  ⟨some 30, .call { callee := .value (.func 27), args := #[.tmp 29, .const (.string ⟨#[38, 38]⟩)], argTypes := #[9, 9] }, 4, none⟩]
def r12_10 : List O := [⟨some 31, .call { callee := .value (.func 28), args := #[.tmp 6, .const (.int .u8 38)], argTypes := #[54, 5] }, 57, none⟩]
def r12_11 : List O := [⟨some 32, .move (.tmp 0), 9, none⟩,
  ⟨some 33, .slice 9 (.tmp 32) (some (.const (.int .i64 2))) none none, 9, none⟩,
  ⟨some 0, .assign (.tmp 33), 9, none⟩]
def r12_12 : List O := [⟨some 35, .move (.tmp 0), 9, none⟩,
  ⟨some 36, .slice 9 (.tmp 35) (some (.const (.int .i64 1))) none none, 9, none⟩,
  ⟨some 37, .call { callee := .value (.func 29), args := #[.tmp 36, .const (.string ⟨#[59]⟩)], argTypes := #[9, 9] }, 49, none⟩,
  ⟨some 34, .move (.tmp 37), 49, none⟩,
  ⟨some 38, .extract (.tmp 34) 0, 9, none⟩,
  ⟨some 39, .extract (.tmp 34) 1, 9, none⟩,
  ⟨some 40, .extract (.tmp 34) 2, 4, none⟩,
  ⟨some 8, .assign (.tmp 38), 9, none⟩,
  ⟨some 9, .assign (.tmp 39), 9, none⟩,
  ⟨some 10, .assign (.tmp 40), 4, none⟩]
def r12_13 : List O := [⟨some 41, .move (.tmp 10), 4, none⟩,
  ⟨some 42, .unOp .not 4 (.tmp 41), 4, none⟩,
  ⟨some 43, .move (.tmp 42), 4, none⟩,
  ⟨some 44, .move (.tmp 8), 9, some (43, false)⟩,
  ⟨some 45, .call { callee := .value (.func 30), args := #[.tmp 44], argTypes := #[9] }, 4, some (43, false)⟩,
  ⟨some 46, .unOp .not 4 (.tmp 45), 4, some (43, false)⟩,
  ⟨some 47, .pick (.tmp 43) (.const (.bool true)) (.tmp 46), 4, none⟩]
def r12_14 : List O := [⟨some 4, .assign (.const (.string ⟨#[]⟩)), 9, none⟩,
  ⟨some 5, .assign (.const (.int .i64 3)), 25, none⟩]
def r12_15 : List O := [⟨some 49, .move (.tmp 1), 22, none⟩,
  ⟨some 50, .move (.tmp 8), 9, none⟩,
  ⟨some 51, .lookup 22 (.tmp 49) (.tmp 50) true, 63, none⟩,
  ⟨some 48, .move (.tmp 51), 63, none⟩,
  ⟨some 52, .extract (.tmp 48) 0, 9, none⟩,
  ⟨some 53, .extract (.tmp 48) 1, 4, none⟩,
  ⟨some 11, .assign (.tmp 52), 9, none⟩,
  ⟨some 10, .assign (.tmp 53), 4, none⟩]
def r12_16 : List O := [⟨some 54, .move (.tmp 10), 4, none⟩,
  ⟨some 55, .unOp .not 4 (.tmp 54), 4, none⟩]
def r12_17 : List O := [⟨some 4, .assign (.const (.string ⟨#[]⟩)), 9, none⟩,
  ⟨some 5, .assign (.const (.int .i64 4)), 25, none⟩]
def r12_18 : List O := [⟨some 56, .move (.tmp 11), 9, none⟩,
  ⟨some 57, .call { callee := .value (.func 26), args := #[.tmp 6, .tmp 56], argTypes := #[54, 9] }, 58, none⟩]
def r12_19 : List O := [⟨some 58, .move (.tmp 9), 9, none⟩,
  ⟨some 0, .assign (.tmp 58), 9, none⟩]
def r12_20 : List O := [⟨some 59, .call { callee := .value (.func 31), args := #[.tmp 6], argTypes := #[54] }, 3, none⟩,
  ⟨some 60, .binOp .gtr 3 (.tmp 59) (.const (.int .i64 1000)) 3, 4, none⟩]
def r12_21 : List O := [⟨some 4, .assign (.const (.string ⟨#[]⟩)), 9, none⟩,
  ⟨some 5, .assign (.const (.int .i64 8)), 25, none⟩]
def r12_22 : List O := [⟨some 61, .call { callee := .value (.func 32), args := #[.tmp 6], argTypes := #[54] }, 9, none⟩,
  ⟨some 4, .assign (.tmp 61), 9, none⟩,
  ⟨some 5, .assign (.const (.int .i64 0)), 25, none⟩]
def c12_0 : A := .cond (.tmp 13) .skip (.exit 0)
def c12_1 : A := .cond (.tmp 17) (.reg r12_5 [0, 1, 6, 7]) .skip
def c12_2 : A := .cond (.tmp 28) (.exit 0) .skip
def c12_3 : A := .seq (.reg r12_11 [0, 1, 6]) (.exit 1)
def c12_4 : A := .seq (.reg r12_10 [0, 1, 6]) c12_3
def c12_5 : A := .cond (.tmp 30) c12_4 .skip
def c12_6 : A := .seq (.reg r12_14 [4, 5]) .ret
def c12_7 : A := .cond (.tmp 47) c12_6 .skip
def c12_8 : A := .seq (.reg r12_17 [4, 5]) .ret
def c12_9 : A := .cond (.tmp 55) c12_8 .skip
def c12_10 : A := .seq (.reg r12_18 [1, 6, 9]) (.reg r12_19 [0, 1, 6])
def c12_11 : A := .seq (.seq (.reg r12_16 [1, 6, 9, 11, 55]) c12_9) (.seq (.keep [1, 6, 9, 11]) c12_10)
def c12_12 : A := .seq (.reg r12_15 [1, 6, 9, 10, 11]) c12_11
def c12_13 : A := .seq (.seq (.reg r12_13 [1, 6, 8, 9, 47]) c12_7) (.seq (.keep [1, 6, 8, 9]) c12_12)
def c12_14 : A := .seq (.reg r12_12 [1, 6, 8, 9, 10]) c12_13
def c12_15 : A := .seq (.seq (.reg r12_9 [0, 1, 6, 30]) c12_5) (.seq (.keep [0, 1, 6]) c12_14)
def c12_16 : A := .seq (.seq (.reg r12_8 [0, 1, 6, 28]) c12_2) (.seq (.keep [0, 1, 6]) c12_15)
def c12_17 : A := .seq (.reg r12_7 [0, 1, 6]) c12_16
def c12_18 : A := .seq (.reg r12_6 [0, 1, 6, 7]) c12_17
def c12_19 : A := .seq (.seq (.reg r12_4 [0, 1, 6, 7, 17]) c12_1) (.seq (.keep [0, 1, 6, 7]) c12_18)
def c12_20 : A := .seq (.reg r12_3 [0, 1, 6, 7]) c12_19
def c12_21 : A := .block 1 c12_20
def c12_22 : A := .seq (.seq (.reg r12_2 [0, 1, 6, 13]) c12_0) (.seq (.keep [0, 1, 6]) c12_21)
def c12_23 : A := .seq c12_22 (.keep [0, 1, 6])
def c12_24 : A := .loop c12_23
def c12_25 : A := .seq (.reg r12_21 [4, 5]) .ret
def c12_26 : A := .cond (.tmp 60) c12_25 .skip
def c12_27 : A := .seq (.reg r12_22 [4, 5]) .ret
def c12_28 : A := .seq (.seq (.reg r12_20 [6, 60]) c12_26) (.seq (.keep [6]) c12_27)
def c12_29 : A := .seq (.block 0 c12_24) c12_28
def c12_30 : A := .seq (.reg r12_1 [0, 1, 6]) c12_29
def c12 : A := .seq (.reg r12_0 [0, 1]) c12_30
theorem B12 : Body Tryd.prog 12 62 [.tmp 4, .tmp 5] c12 := ⟨by kernel_rfl, _, _, [(0, [0, 1]), (1, [0, 1, 6]), (2, [0, 1, 6, 13]), (3, [0, 1, 6, 7]), (4, [0, 1, 6, 7, 17]), (5, [0, 1, 6, 7]), (6, [0, 1, 6, 7]), (7, [0, 1, 6]), (8, [0, 1, 6, 28]), (9, [0, 1, 6, 30]), (10, [0, 1, 6]), (11, [0, 1, 6]), (12, [1, 6, 8, 9, 10]), (13, [1, 6, 8, 9, 47]), (14, [4, 5]), (15, [1, 6, 9, 10, 11]), (16, [1, 6, 9, 11, 55]), (17, [4, 5]), (18, [1, 6, 9]), (19, [0, 1, 6]), (20, [6, 60]), (21, [4, 5]), (22, [4, 5]), (1002, [0, 1, 6]), (2003, [0, 1, 6]), (2006, [0, 1, 6, 7]), (2009, [0, 1, 6]), (2012, [0, 1, 6]), (2015, [1, 6, 8, 9]), (2018, [1, 6, 9, 11]), (2022, [6])], Tryd.func12, rfl, rfl, rfl, by kernel_rfl⟩
end Go.Proofs.YtoabcmhiaknjiaaDoor

/- The contract of Replace. -/
set_option maxRecDepth 100000
set_option linter.unusedSimpArgs false
set_option linter.unusedVariables false
namespace Go.Proofs.YtoabcmhiaknjiaaDoor
open Go.Hw
theorem uMS : Tryd.prog.underlying 22 = some (.map 9 9) := Tryd.underlying22

/-- A map of strings. -/
def SymV (H : Hp) (v : Value) (syms : List (List UInt8 × List UInt8)) : Prop := (v = .map none ∧ syms = []) ∨ ∃ r, v = .map (some r) ∧ MapO H r (syms.map fun p => (p.1, .string (B p.2)))
theorem SymV.ext {H H' : Hp} {v : Value} {syms : List (List UInt8 × List UInt8)} (h : SymV H v syms) (e : Ext H H') : SymV H' v syms := by
  rcases h with h | ⟨r, h1, h2⟩
  · exact .inl h
  · exact .inr ⟨r, h1, h2.ext e⟩
theorem lookup_map {α β : Type} (f : α → β) (k : List UInt8) : ∀ (l : List (List UInt8 × α)), (l.map fun p => (p.1, f p.2)).lookup k = (l.lookup k).map f
  | [] => rfl
  | (a, b) :: r => by
    rw [List.map_cons, List.lookup_cons, List.lookup_cons]
    cases k == a
    · exact lookup_map f k r
    · rfl
theorem lookup_mem {α : Type} {k : List UInt8} {v : α} : ∀ {l : List (List UInt8 × α)}, l.lookup k = some v → ∃ p ∈ l, p.2 = v
  | [], h => by cases h
  | (a, b) :: r, h => by
    rw [List.lookup_cons] at h
    cases hk : k == a
    · rw [hk] at h
      obtain ⟨p, h1, h2⟩ := lookup_mem h
      exact ⟨p, List.mem_cons_of_mem _ h1, h2⟩
    · rw [hk] at h
      exact ⟨(a, b), by simp, Option.some.inj h⟩
theorem lkp_sym {H : Hp} {K : Value → Hp → Prop} {X : List PanicEntry → Hp → Prop} {v : Value} {syms : List (List UInt8 × List UInt8)} {k : List UInt8} (h : SymV H v syms) :
    lkpA Tryd.prog 22 v (.string (B k)) true K X H = K (.tuple #[.string (B ((syms.lookup k).getD [])), .bool (syms.lookup k).isSome]) H := by
  rcases h with ⟨rfl, rfl⟩ | ⟨r, rfl, hm⟩
  · rw [lkpA_nil uMS uStr ty9]
    rfl
  · rw [lkpA_ok uMS uStr ty9 hm, lookup_map (fun s => Value.string (B s))]
    cases syms.lookup k <;> rfl

theorem replace_c (l : List UInt8) (v : Value) (syms : List (List UInt8 × List UInt8)) (H : Hp) (hl : l.length ≤ 1048576) (hv : ∀ p ∈ syms, p.2.length ≤ 100000000) (g : G0 H) (hs : SymV H v syms) {K : Ending → Hp → Prop}
    (h : ∀ H', Ext H H' → K (.returned (.tuple #[.string (B (replR (syms.lookup ·) l).1), .int .i64 (replR (syms.lookup ·) l).2])) H') : HCall Tryd.prog 12 #[.string (B l), v] H K := by
  refine hcall mixed B12 (args := [.string (B l), v]) (by simp) ?_
  simp only [go_sem, reduceCtorEq, Nat.reduceEqDiff, Nat.reduceAdd, c12, r12_0, c12_30, r12_1, opA_alloc 54 ty54, boxA, c12_29]
  obtain ⟨R, hR⟩ : ∃ R, replT (syms.lookup ·) l.length l [] = R := ⟨_, rfl⟩
  unfold replR at h
  rw [hR] at h
  have hnew := Bld.new (H := H)
  have hEnew : Ext H (H.push (.cells (Value.agg #[.pointer none, .slice none 0 0]).cells 54)) := Ext.push _ _
  generalize hb : H.size = b at *
  have hfin : ∀ (acc : List UInt8) (G : Hp), Bld b b acc G → Ext H G → R = .ok acc →
      ∀ x y z, aw Tryd.prog 62 c12_28 (retK Tryd.prog [.tmp 4, .tmp 5] K) [(0, x), (1, v), (6, .pointer (some ⟨b, 0, none⟩)), (y, z)] G := by
    intro acc G hB hE hq x y z
    rw [hq] at h
    simp only at h
    simp only [go_sem, reduceCtorEq, Nat.reduceEqDiff, Nat.reduceAdd, c12_28, r12_20, callA_fn0 pl31]
    refine bLen hB ?_
    by_cases hbig : 1000 < acc.length
    · have e1 : decide ((1000 : Int) < (acc.length : Int)) = true := by rw [decide_eq_true_eq]; omega
      rw [if_pos hbig] at h
      simp only [go_sem, reduceCtorEq, Nat.reduceEqDiff, Nat.reduceAdd, e1, c12_26, c12_25, r12_21]
      exact h G hE
    · have e1 : decide ((1000 : Int) < (acc.length : Int)) = false := by rw [decide_eq_false_iff_not]; omega
      rw [if_neg hbig] at h
      simp only [go_sem, reduceCtorEq, Nat.reduceEqDiff, Nat.reduceAdd, e1, c12_26, c12_27, r12_22, callA_fn0 pl32]
      refine bString hB (by omega) (by rw [← hb]; exact hE.size) fun G2 hL => ?_
      simp only [go_sem, reduceCtorEq, Nat.reduceEqDiff, Nat.reduceAdd, ]
      rw [← hb] at hL
      exact h G2 (hE.belowH hL)
  refine aw_while (L := c12_24) rfl (fun m F G => ∃ (n : Nat) (t acc : List UInt8), m = t.length ∧ F = [(0, .string (B t)), (1, v), (6, .pointer (some ⟨b, 0, none⟩))] ∧ Bld b b acc G ∧ Ext H G ∧ t.length ≤ l.length ∧ t.length ≤ n ∧ acc.length + t.length * 100000001 ≤ l.length * 100000001 ∧ R = replT (syms.lookup ·) n t acc) (m := l.length)
    ⟨l.length, l, [], rfl, rfl, hnew, hEnew, Nat.le_refl _, Nat.le_refl _, by simp, hR.symm⟩ ?_
  rintro m F G ih ⟨n, t, acc, rfl, rfl, hB, hE, h1, h2, h3, hq⟩
  have hBG : b ≤ G.size := by rw [← hb]; exact hE.size
  by_cases ht : t = []
  · subst ht
    have e1 : (([] : List UInt8) == []) = true := rfl
    simp only [go_sem, reduceCtorEq, Nat.reduceEqDiff, Nat.reduceAdd, c12_23, c12_22, r12_2, B_lit, B_toList, e1, c12_0]
    rw [replT_nil] at hq
    exact hfin acc G hB hE hq _ _ _
  · have e1 : (t == []) = false := by simpa using ht
    have htl := List.length_pos_iff.2 ht
    match n, h2, hq with
    | 0, h2, _ => omega
    | n + 1, h2, hq =>
    have hap := takeWhile_drop notAmp t
    have htake := length_takeWhile_le notAmp t
    have hdr := length_dropWhile_le notAmp t
    have hsum : (t.takeWhile notAmp).length + (t.dropWhile notAmp).length = t.length := by
      have := congrArg List.length (List.takeWhile_append_dropWhile (p := notAmp) (l := t))
      rwa [List.length_append] at this
    simp only [go_sem, reduceCtorEq, Nat.reduceEqDiff, Nat.reduceAdd, c12_23, c12_22, r12_2, B_lit, B_toList, e1, c12_0, c12_21, c12_20, r12_3, callA_fn0 pl25]
    refine indexByte_c t 38 ?_
    have tail : ∀ i : Int, i = (t.takeWhile notAmp).length → aw Tryd.prog 62 c12_18 (blkE 1 (seqQ Tryd.prog 62 (.keep [0, 1, 6]) (seqQ Tryd.prog 62 c12_24 (blkE 0 (seqQ Tryd.prog 62 c12_28 (retK Tryd.prog [.tmp 4, .tmp 5] K))))))
       [(0, .string (B t)), (1, v), (6, .pointer (some ⟨b, 0, none⟩)), (7, .int .i64 i)] G := by
      intro i hi
      have hin : i.toNat = (t.takeWhile notAmp).length := by omega
      simp only [go_sem, reduceCtorEq, Nat.reduceEqDiff, Nat.reduceAdd, c12_18, r12_6]
      rw [sliA_hi uStr (by omega) (by omega), hin, hap.1]
      simp only [go_sem, reduceCtorEq, Nat.reduceEqDiff, Nat.reduceAdd, callA_fn0 pl26]
      refine bWriteString _ hB (by omega) hBG fun G1 hB1 hL1 => ?_
      have hE1 : Ext H G1 := hE.belowH (by rw [hb]; exact hL1)
      have hBG1 : b ≤ G1.size := by rw [← hb]; exact hE1.size
      simp only [go_sem, reduceCtorEq, Nat.reduceEqDiff, Nat.reduceAdd, c12_17, r12_7]
      rw [sliA_lo uStr (by omega) (by omega), hin, hap.2]
      simp only [go_sem, reduceCtorEq, Nat.reduceEqDiff, Nat.reduceAdd, c12_16, r12_8, B_lit, B_toList]
      unfold replT at hq
      by_cases hr : t.dropWhile notAmp = []
      · rw [if_pos hr] at hq
        have e2 : (t.dropWhile notAmp == []) = true := by simpa using hr
        simp only [go_sem, reduceCtorEq, Nat.reduceEqDiff, Nat.reduceAdd, e2, c12_2]
        exact hfin _ G1 hB1 hE1 hq _ _ _
      · rw [if_neg hr] at hq
        have e2 : (t.dropWhile notAmp == []) = false := by simpa using hr
        have hrl := List.length_pos_iff.2 hr
        simp only [go_sem, reduceCtorEq, Nat.reduceEqDiff, Nat.reduceAdd, e2, c12_2, c12_15, r12_9, callA_fn0 pl27, B_lit]
        refine hasPrefix_c _ [38, 38] ?_
        cases hp : Lib.hasPrefix (t.dropWhile notAmp) [38, 38] with
        | true =>
          rw [if_pos hp] at hq
          have hp2 : 2 ≤ (t.dropWhile notAmp).length := by
            unfold Lib.hasPrefix at hp
            have := (List.isPrefixOf_iff_prefix.1 hp).length_le
            simpa using this
          simp only [go_sem, reduceCtorEq, Nat.reduceEqDiff, Nat.reduceAdd, c12_5, c12_4, r12_10, callA_fn0 pl28]
          refine bWriteByte 38 hB1 (by simp; omega) hBG1 fun G2 hB2 hL2 => ?_
          have hE2 : Ext H G2 := hE1.belowH (by rw [hb]; exact hL2)
          simp only [go_sem, reduceCtorEq, Nat.reduceEqDiff, Nat.reduceAdd, c12_3, r12_11]
          rw [sliA_lo uStr (by omega) (by omega)]
          simp only [go_sem, reduceCtorEq, Nat.reduceEqDiff, Nat.reduceAdd, ]
          refine ih _ _ _ ?_ ⟨n, _, _, rfl, rfl, hB2, hE2, ?_, ?_, ?_, hq⟩ <;> simp <;> omega
        | false =>
          rw [if_neg (by rw [hp]; simp)] at hq
          simp only [go_sem, reduceCtorEq, Nat.reduceEqDiff, Nat.reduceAdd, c12_5, c12_14, r12_12]
          rw [sliA_lo uStr (by omega) (by omega)]
          simp only [go_sem, reduceCtorEq, Nat.reduceEqDiff, Nat.reduceAdd, callA_fn0 pl29, B_lit]
          have hd1 : ((t.dropWhile notAmp).drop (Int.toNat 1)).length + 1 = (t.dropWhile notAmp).length := by simp; omega
          have hto : Int.toNat 1 = 1 := rfl
          rw [hto] at hd1 ⊢
          refine cut_c _ [59] (by omega) (g.ext hE1) ?_
          have hcl := cut_len ((t.dropWhile notAmp).drop 1) [59]
          revert hq hcl
          generalize Lib.cut ((t.dropWhile notAmp).drop 1) [59] = c
          obtain ⟨name, rest, ok⟩ := c
          intro hq hcl
          simp only at hq hcl
          have bad : ∀ (e : Int) (G2 : Hp), Ext H G2 → R = .error e → K (.returned (.tuple #[.string (B []), .int .i64 e])) G2 := by
            intro e G2 hE2 hq
            have := h G2 hE2
            rw [hq] at this
            exact this
          cases ok with
          | false =>
            simp only [go_sem, reduceCtorEq, Nat.reduceEqDiff, Nat.reduceAdd, c12_13, r12_13, c12_7, c12_6, r12_14, B_lit]
            rw [if_pos (by simp)] at hq
            exact bad 3 G1 hE1 hq
          | true =>
            simp only [go_sem, reduceCtorEq, Nat.reduceEqDiff, Nat.reduceAdd, c12_13, r12_13, callA_fn0 pl30]
            refine symbol_c name (by omega) (g.ext hE1) fun G2 he2 => ?_
            have hE2 := hE1.trans he2
            have hB2 := hB1.ext he2
            have hBG2 : b ≤ G2.size := by rw [← hb]; exact hE2.size
            cases hsy : symF name with
            | false =>
              simp only [go_sem, reduceCtorEq, Nat.reduceEqDiff, Nat.reduceAdd, c12_7, c12_6, r12_14, B_lit]
              rw [if_pos (by rw [hsy]; rfl)] at hq
              exact bad 3 G2 hE2 hq
            | true =>
              rw [if_neg (by rw [hsy]; simp)] at hq
              simp only [go_sem, reduceCtorEq, Nat.reduceEqDiff, Nat.reduceAdd, c12_7, c12_12, r12_15, opA_lookup]
              rw [lkp_sym (hs.ext hE2)]
              cases hlk : syms.lookup name with
              | none =>
                rw [hlk] at hq
                simp only [go_sem, reduceCtorEq, Nat.reduceEqDiff, Nat.reduceAdd, Option.isSome_none, c12_11, r12_16, c12_9, c12_8, r12_17, B_lit]
                exact bad 4 G2 hE2 hq
              | some val =>
                rw [hlk] at hq
                obtain ⟨p, hp1, hp2⟩ := lookup_mem hlk
                have hvl : val.length ≤ 100000000 := by rw [← hp2]; exact hv p hp1
                simp only [go_sem, reduceCtorEq, Nat.reduceEqDiff, Nat.reduceAdd, Option.isSome_some, Option.getD_some, c12_11, r12_16, c12_9, c12_10, r12_18, callA_fn0 pl26]
                refine bWriteString _ hB2 (by simp only [List.length_append]; omega) hBG2 fun G3 hB3 hL3 => ?_
                have hE3 : Ext H G3 := hE2.belowH (by rw [hb]; exact hL3)
                simp only [go_sem, reduceCtorEq, Nat.reduceEqDiff, Nat.reduceAdd, r12_19]
                refine ih _ _ _ ?_ ⟨n, _, _, rfl, rfl, hB3, hE3, ?_, ?_, ?_, hq⟩
                · omega
                · omega
                · omega
                · simp only [List.length_append]; omega
    rcases indexByte_amp t with ⟨k1, k2, k3⟩ | ⟨k1, k2, k3⟩
    · rw [k1]
      have e3 : decide ((-1 : Int) < 0) = true := rfl
      simp only [go_sem, reduceCtorEq, Nat.reduceEqDiff, Nat.reduceAdd, c12_19, r12_4, e3, c12_1, r12_5, len_B uStr]
      exact tail _ (by rw [k2])
    · rw [k1]
      have e3 : decide ((((t.takeWhile notAmp).length : Nat) : Int) < 0) = false := by rw [decide_eq_false_iff_not]; omega
      simp only [go_sem, reduceCtorEq, Nat.reduceEqDiff, Nat.reduceAdd, c12_19, r12_4, e3, c12_1]
      exact tail _ rfl
end Go.Proofs.YtoabcmhiaknjiaaDoor

set_option maxRecDepth 100000
namespace Go.Proofs.YtoabcmhiaknjiaaDoor
open Go.Hw
/-! ### 14 dasd/dasdref31.Texts -/
def r14_0 : List O := [⟨some 4, .assign (.const (.bool false)), 4, none⟩]
def r14_1 : List O := [⟨some 6, .move (.tmp 0), 24, none⟩,
  ⟨some 7, .call { callee := .builtin .len, args := #[.tmp 6], argTypes := #[24] }, 3, none⟩,
  ⟨some 8, .move (.tmp 1), 24, none⟩,
  ⟨some 9, .call { callee := .builtin .len, args := #[.tmp 8], argTypes := #[24] }, 3, none⟩,
  ⟨some 10, .binOp .neq 3 (.tmp 7) (.tmp 9) 3, 4, none⟩]
def r14_2 : List O := [⟨some 4, .assign (.const (.bool false)), 4, none⟩]
def r14_3 : List O := [⟨some 5, .assign (.const (.int .i64 0)), 3, none⟩]
def r14_4 : List O := [⟨some 11, .move (.tmp 5), 3, none⟩,
  ⟨some 12, .move (.tmp 0), 24, none⟩,
  ⟨some 13, .call { callee := .builtin .len, args := #[.tmp 12], argTypes := #[24] }, 3, none⟩,
  ⟨some 14, .binOp .lss 3 (.tmp 11) (.tmp 13) 3, 4, none⟩]
def r14_6 : List O := [⟨some 17, .move (.tmp 0), 24, none⟩,
  ⟨some 18, .move (.tmp 5), 3, none⟩,
  ⟨some 19, .indexAddr 24 (.tmp 17) (.tmp 18), 0, none⟩,
  ⟨some 20, .load 9 (.tmp 19), 9, none⟩,
  ⟨some 21, .move (.tmp 1), 24, none⟩,
  ⟨some 22, .move (.tmp 5), 3, none⟩,
  ⟨some 23, .indexAddr 24 (.tmp 21) (.tmp 22), 0, none⟩,
  ⟨some 24, .load 9 (.tmp 23), 9, none⟩,
  ⟨some 25, .binOp .neq 9 (.tmp 20) (.tmp 24) 9, 4, none⟩]
def r14_7 : List O := [⟨some 4, .assign (.const (.bool false)), 4, none⟩]
def r14_5 : List O := [⟨some 15, .move (.tmp 5), 3, none⟩,
  ⟨some 16, .binOp .add 3 (.tmp 15) (.const (.int .i64 1)) 3, 3, none⟩,
  ⟨some 5, .assign (.tmp 16), 3, none⟩]
def r14_8 : List O := [⟨some 4, .assign (.const (.bool true)), 4, none⟩]
def c14_0 : A := .seq (.reg r14_2 [4]) .ret
def c14_1 : A := .cond (.tmp 10) c14_0 .skip
def c14_2 : A := .cond (.tmp 14) .skip (.exit 0)
def c14_3 : A := .seq (.reg r14_7 [4]) .ret
def c14_4 : A := .cond (.tmp 25) c14_3 .skip
def c14_5 : A := .seq (.draw 8 r14_6 [0, 1, 5, 25]) c14_4
def c14_6 : A := .seq (.block 1 c14_5) (.reg r14_5 [0, 1, 5])
def c14_7 : A := .seq (.seq (.reg r14_4 [0, 1, 5, 14]) c14_2) (.seq (.keep [0, 1, 5]) c14_6)
def c14_8 : A := .seq c14_7 (.keep [0, 1, 5])
def c14_9 : A := .loop c14_8
def c14_10 : A := .block 0 c14_9
def c14_11 : A := .seq (.reg r14_8 [4]) .ret
def c14_12 : A := .seq (.seq (.reg r14_3 [0, 1, 5]) c14_10) c14_11
def c14_13 : A := .seq (.seq (.reg r14_1 [0, 1, 10]) c14_1) (.seq (.keep [0, 1]) c14_12)
def c14 : A := .seq (.reg r14_0 [0, 1]) c14_13
theorem B14 : Body Tryd.prog 14 26 [.tmp 4] c14 := ⟨by kernel_rfl, _, _, [(0, [0, 1]), (1, [0, 1, 10]), (2, [4]), (3, [0, 1, 5]), (4, [0, 1, 5, 14]), (5, [0, 1, 5]), (6, [0, 1, 5, 25]), (7, [4]), (8, [4]), (1004, [0, 1, 5]), (2003, [0, 1]), (2006, [0, 1, 5])], Tryd.func14, rfl, rfl, rfl, by kernel_rfl⟩
/-! ### 107 dasd/dasdref31.letter -/
/-! ### 106 dasd/dasdref31.digit -/
/-! ### 103 dasd/dasdref31.part -/
/-! ### 78 dasd/dasdref31.Parts -/
/-! ### 95 dasd/dasdref31.valid -/
/-! ### 77 dasd/dasdref31.Valid -/
/-! ### 56 dasd/dasdref39.Symbol -/
end Go.Proofs.YtoabcmhiaknjiaaDoor

/- The reference's names: letter, digit, part, Parts, valid, Valid; Texts. -/
set_option maxRecDepth 100000
set_option linter.unusedSimpArgs false
set_option linter.unusedVariables false
namespace Go.Proofs.YtoabcmhiaknjiaaDoor
open Go.Hw
variable {H : Hp} {K : Ending → Hp → Prop}

/-- A slice of strings that is read. -/
def StrsV (H : Hp) (v : Value) (ws : List (List UInt8)) : Prop := Src H 1 v ws.length (strs ws) ∧ ∃ a c, v = .slice a ws.length c
theorem StrsV.ext {H H' : Hp} {v : Value} {ws : List (List UInt8)} (h : StrsV H v ws) (e : Ext H H') : StrsV H' v ws := ⟨h.1.ext e, h.2⟩
theorem StrsV.own {ok : Nat → Prop} {v : Value} {ws : List (List UInt8)} (h : OwnS ok 9 1 H v ws.length (strs ws)) : StrsV H v ws := ⟨Src.of_own h, h.form⟩
theorem StrsV.cell {v : Value} {ws : List (List UInt8)} (h : StrsV H v ws) {i : Nat} {w : List UInt8} (hw : ws[i]? = some w) : ∃ a c, v = .slice (some a) ws.length c ∧ cellH H (a.add (i * 1)) = some (.string (B w)) := by
  obtain ⟨a, c, u, h1, h2, h3⟩ := src1_cell h.1 h.2 (some_lt hw)
  refine ⟨a, c, h1, ?_⟩
  unfold strs at h2
  rw [List.getElem?_map, hw] at h2
  cases h2
  exact h3

theorem texts_c (v u : Value) (a b : List (List UInt8)) (ha : StrsV H v a) (hb : StrsV H u b) (hla : a.length < 1000000000) (h : K (.returned (.bool (decide (a = b)))) H) : HCall Tryd.prog 14 #[v, u] H K := by
  refine hcall mixed B14 (args := [v, u]) (by simp) ?_
  obtain ⟨a1, c1, rfl⟩ := ha.2
  obtain ⟨a2, c2, rfl⟩ := hb.2
  by_cases hlen : a.length = b.length
  · simp only [go_sem, reduceCtorEq, Nat.reduceEqDiff, Nat.reduceAdd, c14, r14_0, c14_13, r14_1, len_slice uStrs, decide_eq_true (show ((a.length : Int) = (b.length : Int)) by omega), c14_1, c14_12, r14_3, c14_10]
    refine aw_while (L := c14_9) rfl (fun m F G => ∃ i : Nat, m = a.length - i ∧ F = [(0, .slice a1 a.length c1), (1, .slice a2 b.length c2), (5, .int .i64 i)] ∧ G = H ∧ i ≤ a.length ∧ a.take i = b.take i) (m := a.length)
      ⟨0, rfl, rfl, rfl, Nat.zero_le _, rfl⟩ ?_
    rintro m F G ih ⟨i, rfl, rfl, rfl, k1, k2⟩
    by_cases hi : i < a.length
    · have hai : a[i]? = some a[i] := List.getElem?_eq_getElem hi
      have hbi : b[i]? = some b[i] := List.getElem?_eq_getElem (by omega)
      obtain ⟨p1, q1, e1, f1⟩ := ha.cell hai
      obtain ⟨p2, q2, e2, f2⟩ := hb.cell hbi
      cases e1; cases e2
      simp only [go_sem, reduceCtorEq, Nat.reduceEqDiff, Nat.reduceAdd, c14_8, c14_7, r14_4, len_slice uStrs, dlt hi, c14_2, c14_6, c14_5, r14_6]
      rw [iadQ_slice uStrs ty9 (by omega) (by omega), Int.toNat_natCast]
      simp only [go_sem, reduceCtorEq, Nat.reduceEqDiff, Nat.reduceAdd, loadQ_cell uStr rfl f1]
      rw [iadQ_slice uStrs ty9 (by omega) (by omega), Int.toNat_natCast]
      simp only [go_sem, reduceCtorEq, Nat.reduceEqDiff, Nat.reduceAdd, loadQ_cell uStr rfl f2, B_toList]
      cases he : (a[i] == b[i]) with
      | true =>
        simp only [go_sem, reduceCtorEq, Nat.reduceEqDiff, Nat.reduceAdd, c14_4, r14_5, wrap_one (show i + 1 ≤ 9223372036854775807 by omega)]
        refine ih _ _ _ (by omega) ⟨i + 1, rfl, rfl, rfl, by omega, ?_⟩
        rw [List.take_succ_eq_append_getElem hi, List.take_succ_eq_append_getElem (show i < b.length by omega), k2, eq_of_beq he]
      | false =>
        simp only [go_sem, reduceCtorEq, Nat.reduceEqDiff, Nat.reduceAdd, c14_4, c14_3, r14_7]
        have : ¬ (a = b) := by
          intro hab
          have : a[i] = b[i] := by simp [hab]
          rw [this] at he
          simp at he
        rw [decide_eq_false this] at h
        exact h
    · simp only [go_sem, reduceCtorEq, Nat.reduceEqDiff, Nat.reduceAdd, c14_8, c14_7, r14_4, len_slice uStrs, dge (show a.length ≤ i by omega), c14_2, c14_11, r14_8]
      have : a = b := by rw [List.take_of_length_le (by omega), List.take_of_length_le (by omega)] at k2; exact k2
      rw [decide_eq_true this] at h
      exact h
  · simp only [go_sem, reduceCtorEq, Nat.reduceEqDiff, Nat.reduceAdd, c14, r14_0, c14_13, r14_1, len_slice uStrs, decide_eq_false (show ¬ ((a.length : Int) = (b.length : Int)) by omega), c14_1, c14_0, r14_2]
    rw [decide_eq_false (fun he => hlen (by rw [he]))] at h
    exact h

end Go.Proofs.YtoabcmhiaknjiaaDoor

set_option maxRecDepth 100000
namespace Go.Proofs.YtoabcmhiaknjiaaDoor
open Go.Hw
/-! ### 33 dasd/dasdref39.end -/
/-! ### 13 dasd/dasdref39.Replace -/
end Go.Proofs.YtoabcmhiaknjiaaDoor

/- The reference's end and Replace. -/
set_option maxRecDepth 100000
set_option linter.unusedSimpArgs false
set_option linter.unusedVariables false
namespace Go.Proofs.YtoabcmhiaknjiaaDoor
open Go.Hw
variable {H : Hp} {K : Ending → Hp → Prop}

theorem index_one (c : UInt8) : ∀ s : List UInt8, (Lib.index s [c] = -1 ∧ ∀ b ∈ s, b ≠ c) ∨ ∃ k : Nat, Lib.index s [c] = k ∧ s[k]? = some c ∧ ∀ b ∈ s.take k, b ≠ c
  | [] => .inl ⟨rfl, by simp⟩
  | b :: r => by
    by_cases hb : b = c
    · subst hb
      exact .inr ⟨0, by unfold Lib.index; simp, rfl, by simp⟩
    · have hidx : Lib.index (b :: r) [c] = if (Lib.index r [c] == -1) = true then -1 else Lib.index r [c] + 1 := by
        conv => lhs; unfold Lib.index
        have : ([c] : List UInt8).isPrefixOf (b :: r) = false := by
          simp [List.isPrefixOf]; exact fun h2 => absurd h2.symm hb
        rw [this]
        simp
      rcases index_one c r with ⟨h1, h2⟩ | ⟨k, h1, h2, h3⟩
      · left
        rw [hidx, h1]
        refine ⟨rfl, ?_⟩
        intro x hx
        rcases List.mem_cons.1 hx with rfl | hx
        · exact hb
        · exact h2 x hx
      · right
        refine ⟨k + 1, ?_, by simpa using h2, ?_⟩
        · rw [hidx, h1, if_neg (by simp)]; omega
        · intro x hx
          rw [List.take_succ_cons] at hx
          rcases List.mem_cons.1 hx with rfl | hx
          · exact hb
          · exact h3 x hx

theorem replT_other {sym : List UInt8 → Option (List UInt8)} {c : UInt8} (n : Nat) (r acc : List UInt8) (h : c ≠ 38) : replT sym (n + 1) (c :: r) acc = replT sym (n + 1) r (acc ++ [c]) := by
  have e : notAmp c = true := by unfold notAmp; simpa using h
  unfold replT
  rw [List.takeWhile_cons_of_pos e, List.dropWhile_cons_of_pos e]
  simp only [List.append_assoc, List.singleton_append]
end Go.Proofs.YtoabcmhiaknjiaaDoor

/- The lines that belong to a dd come back as they are. -/
set_option maxRecDepth 100000
set_option linter.unusedVariables false
set_option linter.unusedSimpArgs false
namespace Go.Proofs.YtoabcmhiaknjiaaDoor
open Go.Hw

/-- Lines, each with its end. -/
def txt (ls : List (List UInt8)) : List UInt8 := ls.flatMap (· ++ [10])
theorem txt_cons (s : List UInt8) (ls : List (List UInt8)) : txt (s :: ls) = s ++ 10 :: txt ls := by simp [txt]
theorem txt_append (a b : List (List UInt8)) : txt (a ++ b) = txt a ++ txt b := by simp [txt]
theorem takeWhile_nl {s t : List UInt8} (h : 10 ∉ s) : (s ++ 10 :: t).takeWhile notNl = s ∧ (s ++ 10 :: t).dropWhile notNl = 10 :: t := by
  have hp : ∀ a ∈ s, notNl a = true := fun a ha => by
    unfold notNl
    rw [bne_iff_ne]
    intro e; subst e; exact h ha
  constructor
  · rw [List.takeWhile_append_of_pos hp]; simp [notNl]
  · rw [List.dropWhile_append_of_pos hp]; simp [notNl]
theorem linesF_txt (t : List UInt8) : ∀ (ls : List (List UInt8)), (∀ s ∈ ls, 10 ∉ s) → linesF (txt ls ++ t) = ls ++ linesF t
  | [], _ => rfl
  | s :: ls, h => by
    have hs := takeWhile_nl (t := txt ls ++ t) (h s (List.mem_cons_self ..))
    rw [txt_cons, List.append_assoc, List.cons_append, linesF_cons (by simp), hs.1]
    unfold lineTl
    rw [hs.2, List.drop_succ_cons, List.drop_zero, linesF_txt t ls fun x hx => h x (List.mem_cons_of_mem _ hx)]
    rfl
theorem txt_len (ls : List (List UInt8)) (n : Nat) (h : ∀ s ∈ ls, s.length ≤ n) : (txt ls).length ≤ ls.length * (n + 1) := by
  induction ls with
  | nil => simp [txt]
  | cons s ls ih =>
    have h1 := ih fun x hx => h x (List.mem_cons_of_mem _ hx)
    have h2 := h s (List.mem_cons_self ..)
    rw [txt_cons, List.length_append, List.length_cons, List.length_cons, Nat.succ_mul]
    omega

/-- Lines that are statements. -/
def LF0 (s : RS) (x : Row) (rest : List Row) : RS × HR :=
  lineR s x.1 x.2 knownW fun ws => ({ s with out := (stmF s.out [] x.1 rest ws).1 }, (stmF s.out [] x.1 rest ws).2)

def w1 : List (List UInt8) := [[100, 100], [73, 78], [105, 110, 108, 105, 110, 101]]
def w2 : List (List UInt8) := [[115, 116, 101, 112], [83]]
end Go.Proofs.YtoabcmhiaknjiaaDoor

set_option maxRecDepth 100000
namespace Go.Proofs.YtoabcmhiaknjiaaDoor
open Go.Hw
/-! ### 50 dasd/jobtext.first$1 -/
def r50_0 : List O := [⟨some 2, .assign (.const (.bool false)), 4, none⟩]
def r50_1 : List O := [⟨some 3, .move (.tmp 0), 21, none⟩,
  ⟨some 4, .binOp .leq 21 (.tmp 3) (.const (.int .i32 32)) 21, 4, none⟩,
  ⟨some 5, .move (.tmp 4), 4, none⟩,
  ⟨some 6, .move (.tmp 0), 21, some (5, false)⟩,
  ⟨some 7, .binOp .gtr 21 (.tmp 6) (.const (.int .i32 126)) 21, 4, some (5, false)⟩,
  ⟨some 8, .pick (.tmp 5) (.const (.bool true)) (.tmp 7), 4, none⟩,
  ⟨some 9, .move (.tmp 8), 4, none⟩,
  ⟨some 10, .move (.tmp 0), 21, some (9, false)⟩,
  ⟨some 11, .binOp .eql 21 (.tmp 10) (.const (.int .i32 39)) 21, 4, some (9, false)⟩,
  ⟨some 12, .pick (.tmp 9) (.const (.bool true)) (.tmp 11), 4, none⟩,
  ⟨some 2, .assign (.tmp 12), 4, none⟩]
def c50_0 : A := .seq (.reg r50_1 [2]) .ret
def c50 : A := .seq (.reg r50_0 [0]) c50_0
theorem B50 : Body Tryd.prog 50 13 [.tmp 2] c50 := ⟨by kernel_rfl, _, _, [(0, [0]), (1, [2])], Tryd.func50, rfl, rfl, rfl, by kernel_rfl⟩
/-! ### 24 dasd/jobtext.first -/
def r24_0 : List O := [⟨some 2, .assign (.const (.string ⟨#[]⟩)), 9, none⟩,
  ⟨some 3, .assign (.const (.string ⟨#[]⟩)), 9, none⟩,
  ⟨some 4, .assign (.const (.bool false)), 4, none⟩]
def r24_1 : List O := [⟨some 9, .move (.tmp 0), 9, none⟩,
  ⟨some 10, .index 9 (.tmp 9) (.const (.int .i64 0)), 5, none⟩,
  ⟨some 11, .binOp .neq 5 (.tmp 10) (.const (.int .u8 39)) 5, 4, none⟩]
def r24_2 : List O := [⟨some 12, .move (.tmp 0), 9, none⟩,
  ⟨some 13, .call { callee := .value (.func 49), args := #[.tmp 12, .func 50], argTypes := #[9, 96] }, 3, none⟩,
  ⟨some 5, .assign (.tmp 13), 3, none⟩]
def r24_3 : List O := [⟨some 14, .move (.tmp 5), 3, none⟩,
  ⟨some 15, .binOp .lss 3 (.tmp 14) (.const (.int .i64 0)) 3, 4, none⟩]
def r24_4 : List O := [⟨some 16, .move (.tmp 0), 9, none⟩,
  ⟨some 17, .call { callee := .builtin .len, args := #[.tmp 16], argTypes := #[9] }, 3, none⟩,
  ⟨some 5, .assign (.tmp 17), 3, none⟩]
def r24_5 : List O := [⟨some 18, .move (.tmp 0), 9, none⟩,
  ⟨some 19, .move (.tmp 5), 3, none⟩,
  ⟨some 20, .slice 9 (.tmp 18) none (some (.tmp 19)) none, 9, none⟩,
  ⟨some 21, .move (.tmp 0), 9, none⟩,
  ⟨some 22, .move (.tmp 5), 3, none⟩,
  ⟨some 23, .slice 9 (.tmp 21) (some (.tmp 22)) none none, 9, none⟩,
  ⟨some 24, .move (.tmp 5), 3, none⟩,
  ⟨some 25, .binOp .gtr 3 (.tmp 24) (.const (.int .i64 0)) 3, 4, none⟩,
  ⟨some 2, .assign (.tmp 20), 9, none⟩,
  ⟨some 3, .assign (.tmp 23), 9, none⟩,
  ⟨some 4, .assign (.tmp 25), 4, none⟩]
def r24_6 : List O := [⟨some 6, .assign (.const (.slice none 0 0)), 52, none⟩]
def r24_7 : List O := [⟨some 7, .assign (.const (.int .i64 1)), 3, none⟩]
def r24_8 : List O := [⟨some 26, .move (.tmp 7), 3, none⟩,
  ⟨some 27, .move (.tmp 0), 9, none⟩,
  ⟨some 28, .call { callee := .builtin .len, args := #[.tmp 27], argTypes := #[9] }, 3, none⟩,
  ⟨some 29, .binOp .lss 3 (.tmp 26) (.tmp 28) 3, 4, none⟩]
def r24_10 : List O := [⟨some 32, .move (.tmp 0), 9, none⟩,
  ⟨some 33, .move (.tmp 7), 3, none⟩,
  ⟨some 34, .index 9 (.tmp 32) (.tmp 33), 5, none⟩,
  ⟨some 8, .assign (.tmp 34), 5, none⟩]
def r24_12 : List O := [⟨some 42, .move (.tmp 8), 5, none⟩,
  ⟨some 43, .binOp .lss 5 (.tmp 42) (.const (.int .u8 32)) 5, 4, none⟩,
  ⟨some 44, .move (.tmp 43), 4, none⟩,
  ⟨some 45, .move (.tmp 8), 5, some (44, false)⟩,
  ⟨some 46, .binOp .gtr 5 (.tmp 45) (.const (.int .u8 126)) 5, 4, some (44, false)⟩,
  ⟨some 47, .pick (.tmp 44) (.const (.bool true)) (.tmp 46), 4, none⟩,
  ⟨some 41, .assign (.tmp 47), 4, none⟩]
def r24_13 : List O := [⟨some 2, .assign (.const (.string ⟨#[]⟩)), 9, none⟩,
  ⟨some 3, .assign (.const (.string ⟨#[]⟩)), 9, none⟩,
  ⟨some 4, .assign (.const (.bool false)), 4, none⟩]
def r24_14 : List O := [⟨some 49, .move (.tmp 8), 5, none⟩,
  ⟨some 50, .binOp .neq 5 (.tmp 49) (.const (.int .u8 39)) 5, 4, none⟩,
  ⟨some 48, .assign (.tmp 50), 4, none⟩]
def r24_15 : List O := [⟨some 51, .move (.tmp 6), 52, none⟩,
  ⟨some 52, .move (.tmp 8), 5, none⟩,
  ⟨some 53, .buildSlice 52 1 #[(0, .tmp 52)], 52, none⟩,
  ⟨some 54, .call { callee := .builtin .append, args := #[.tmp 51, .tmp 53], argTypes := #[52, 52] }, 52, none⟩,
  ⟨some 6, .assign (.tmp 54), 52, none⟩]
def r24_16 : List O := [⟨some 56, .move (.tmp 7), 3, none⟩,
  ⟨some 57, .binOp .add 3 (.tmp 56) (.const (.int .i64 1)) 3, 3, none⟩,
  ⟨some 58, .move (.tmp 0), 9, none⟩,
  ⟨some 59, .call { callee := .builtin .len, args := #[.tmp 58], argTypes := #[9] }, 3, none⟩,
  ⟨some 60, .binOp .lss 3 (.tmp 57) (.tmp 59) 3, 4, none⟩,
  ⟨some 61, .move (.tmp 60), 4, none⟩,
  ⟨some 62, .move (.tmp 0), 9, some (61, true)⟩,
  ⟨some 63, .move (.tmp 7), 3, some (61, true)⟩,
  ⟨some 64, .binOp .add 3 (.tmp 63) (.const (.int .i64 1)) 3, 3, some (61, true)⟩,
  ⟨some 65, .index 9 (.tmp 62) (.tmp 64), 5, some (61, true)⟩,
  ⟨some 66, .binOp .eql 5 (.tmp 65) (.const (.int .u8 39)) 5, 4, some (61, true)⟩,
  ⟨some 67, .pick (.tmp 61) (.tmp 66) (.const (.bool false)), 4, none⟩,
  ⟨some 55, .assign (.tmp 67), 4, none⟩]
def r24_17 : List O := [⟨some 68, .move (.tmp 6), 52, none⟩,
  ⟨some 69, .move (.tmp 8), 5, none⟩,
  ⟨some 70, .buildSlice 52 1 #[(0, .tmp 69)], 52, none⟩,
  ⟨some 71, .call { callee := .builtin .append, args := #[.tmp 68, .tmp 70], argTypes := #[52, 52] }, 52, none⟩,
  ⟨some 6, .assign (.tmp 71), 52, none⟩]
def r24_18 : List O := [⟨some 72, .move (.tmp 7), 3, none⟩,
  ⟨some 73, .binOp .add 3 (.tmp 72) (.const (.int .i64 1)) 3, 3, none⟩,
  ⟨some 7, .assign (.tmp 73), 3, none⟩]
def r24_11 : List O := [⟨some 35, .move (.tmp 6), 52, none⟩,
  ⟨some 36, .convert 52 9 (.tmp 35), 9, none⟩,
  ⟨some 37, .move (.tmp 0), 9, none⟩,
  ⟨some 38, .move (.tmp 7), 3, none⟩,
  ⟨some 39, .binOp .add 3 (.tmp 38) (.const (.int .i64 1)) 3, 3, none⟩,
  ⟨some 40, .slice 9 (.tmp 37) (some (.tmp 39)) none none, 9, none⟩,
  ⟨some 2, .assign (.tmp 36), 9, none⟩,
  ⟨some 3, .assign (.tmp 40), 9, none⟩,
  ⟨some 4, .assign (.const (.bool true)), 4, none⟩]
def r24_9 : List O := [⟨some 30, .move (.tmp 7), 3, none⟩,
  ⟨some 31, .binOp .add 3 (.tmp 30) (.const (.int .i64 1)) 3, 3, none⟩,
  ⟨some 7, .assign (.tmp 31), 3, none⟩]
def r24_19 : List O := [⟨some 2, .assign (.const (.string ⟨#[]⟩)), 9, none⟩,
  ⟨some 3, .assign (.const (.string ⟨#[]⟩)), 9, none⟩,
  ⟨some 4, .assign (.const (.bool false)), 4, none⟩]
def c24_0 : A := .cond (.tmp 15) (.reg r24_4 [0, 5]) .skip
def c24_1 : A := .seq (.draw 10 r24_5 [2, 3, 4]) .ret
def c24_2 : A := .seq (.seq (.reg r24_3 [0, 5, 15]) c24_0) (.seq (.keep [0, 5]) c24_1)
def c24_3 : A := .seq (.reg r24_2 [0, 5]) c24_2
def c24_4 : A := .cond (.tmp 11) c24_3 .skip
def c24_5 : A := .cond (.tmp 29) .skip (.exit 0)
def c24_6 : A := .seq (.reg r24_13 [2, 3, 4]) .ret
def c24_7 : A := .seq (.reg r24_17 [0, 6, 7]) (.reg r24_18 [0, 6, 7])
def c24_8 : A := .seq (.draw 7 r24_11 [2, 3, 4]) .ret
def c24_9 : A := .cond (.tmp 55) c24_7 c24_8
def c24_10 : A := .seq (.reg r24_16 [0, 6, 7, 8, 55]) c24_9
def c24_11 : A := .cond (.tmp 48) (.reg r24_15 [0, 6, 7]) c24_10
def c24_12 : A := .seq (.reg r24_14 [0, 6, 7, 8, 48]) c24_11
def c24_13 : A := .cond (.tmp 41) c24_6 c24_12
def c24_14 : A := .seq (.reg r24_12 [0, 6, 7, 8, 41]) c24_13
def c24_15 : A := .block 2 c24_14
def c24_16 : A := .seq (.reg r24_10 [0, 6, 7, 8]) c24_15
def c24_17 : A := .seq (.block 1 c24_16) (.reg r24_9 [0, 6, 7])
def c24_18 : A := .seq (.seq (.reg r24_8 [0, 6, 7, 29]) c24_5) (.seq (.keep [0, 6, 7]) c24_17)
def c24_19 : A := .seq c24_18 (.keep [0, 6, 7])
def c24_20 : A := .loop c24_19
def c24_21 : A := .block 0 c24_20
def c24_22 : A := .seq (.reg r24_19 [2, 3, 4]) .ret
def c24_23 : A := .seq (.seq (.reg r24_7 [0, 6, 7]) c24_21) c24_22
def c24_24 : A := .seq (.reg r24_6 [0, 6]) c24_23
def c24_25 : A := .seq (.seq (.reg r24_1 [0, 11]) c24_4) (.seq (.keep [0]) c24_24)
def c24 : A := .seq (.reg r24_0 [0]) c24_25
theorem B24 : Body Tryd.prog 24 74 [.tmp 2, .tmp 3, .tmp 4] c24 := ⟨by kernel_rfl, _, _, [(0, [0]), (1, [0, 11]), (2, [0, 5]), (3, [0, 5, 15]), (4, [0, 5]), (5, [2, 3, 4]), (6, [0, 6]), (7, [0, 6, 7]), (8, [0, 6, 7, 29]), (9, [0, 6, 7]), (10, [0, 6, 7, 8]), (11, [2, 3, 4]), (12, [0, 6, 7, 8, 41]), (13, [2, 3, 4]), (14, [0, 6, 7, 8, 48]), (15, [0, 6, 7]), (16, [0, 6, 7, 8, 55]), (17, [0, 6, 7]), (18, [0, 6, 7]), (19, [2, 3, 4]), (1008, [0, 6, 7]), (2005, [0, 5]), (2006, [0]), (2010, [0, 6, 7])], Tryd.func24, rfl, rfl, rfl, by kernel_rfl⟩
/-! ### 10 dasd/jobtext.Scan -/
def r10_0 : List O := [⟨some 2, .assign (.const (.slice none 0 0)), 24, none⟩,
  ⟨some 3, .assign (.const (.int .i64 0)), 25, none⟩]
def r10_1 : List O := [⟨some 4, .assign (.const (.slice none 0 0)), 24, none⟩]
def r10_2 : List O := [⟨some 8, .move (.tmp 0), 9, none⟩,
  ⟨some 9, .call { callee := .value (.func 23), args := #[.tmp 8, .const (.string ⟨#[32]⟩)], argTypes := #[9, 9] }, 9, none⟩,
  ⟨some 0, .assign (.tmp 9), 9, none⟩]
def r10_3 : List O := [⟨some 10, .move (.tmp 0), 9, none⟩,
  ⟨some 11, .binOp .neq 9 (.tmp 10) (.const (.string ⟨#[]⟩)) 9, 4, none⟩]
def r10_5 : List O := [⟨some 15, .move (.tmp 0), 9, none⟩,
  ⟨some 16, .call { callee := .value (.func 24), args := #[.tmp 15], argTypes := #[9] }, 49, none⟩,
  ⟨some 14, .move (.tmp 16), 49, none⟩,
  ⟨some 17, .extract (.tmp 14) 0, 9, none⟩,
  ⟨some 18, .extract (.tmp 14) 1, 9, none⟩,
  ⟨some 19, .extract (.tmp 14) 2, 4, none⟩,
  ⟨some 5, .assign (.tmp 17), 9, none⟩,
  ⟨some 6, .assign (.tmp 18), 9, none⟩,
  ⟨some 7, .assign (.tmp 19), 4, none⟩]
def r10_6 : List O := [⟨some 20, .move (.tmp 7), 4, none⟩,
  ⟨some 21, .unOp .not 4 (.tmp 20), 4, none⟩,
  ⟨some 22, .move (.tmp 21), 4, none⟩,
  ⟨some 23, .move (.tmp 6), 9, some (22, false)⟩,
  ⟨some 24, .binOp .neq 9 (.tmp 23) (.const (.string ⟨#[]⟩)) 9, 4, some (22, false)⟩,
  ⟨some 25, .move (.tmp 24), 4, some (22, false)⟩,
  ⟨some 26, .move (.tmp 6), 9, some (25, true)⟩,
  ⟨some 27, .index 9 (.tmp 26) (.const (.int .i64 0)), 5, some (25, true)⟩,
  ⟨some 28, .binOp .neq 5 (.tmp 27) (.const (.int .u8 32)) 5, 4, some (25, true)⟩,
  ⟨some 29, .pick (.tmp 25) (.tmp 28) (.const (.bool false)), 4, some (22, false)⟩,
  ⟨some 30, .pick (.tmp 22) (.const (.bool true)) (.tmp 29), 4, none⟩]
def r10_7 : List O := [⟨some 2, .assign (.const (.slice none 0 0)), 24, none⟩,
  ⟨some 3, .assign (.const (.int .i64 3)), 25, none⟩]
def r10_8 : List O := [⟨some 31, .move (.tmp 4), 24, none⟩,
  ⟨some 32, .move (.tmp 5), 9, none⟩,
  ⟨some 33, .buildSlice 24 1 #[(0, .tmp 32)], 24, none⟩,
  ⟨some 34, .call { callee := .builtin .append, args := #[.tmp 31, .tmp 33], argTypes := #[24, 24] }, 24, none⟩,
  ⟨some 35, .move (.tmp 6), 9, none⟩,
  ⟨some 4, .assign (.tmp 34), 24, none⟩,
  ⟨some 0, .assign (.tmp 35), 9, none⟩]
def r10_4 : List O := [⟨some 12, .move (.tmp 0), 9, none⟩,
  ⟨some 13, .call { callee := .value (.func 23), args := #[.tmp 12, .const (.string ⟨#[32]⟩)], argTypes := #[9, 9] }, 9, none⟩,
  ⟨some 0, .assign (.tmp 13), 9, none⟩]
def r10_9 : List O := [⟨some 36, .move (.tmp 4), 24, none⟩,
  ⟨some 2, .assign (.tmp 36), 24, none⟩,
  ⟨some 3, .assign (.const (.int .i64 0)), 25, none⟩]
def c10_0 : A := .cond (.tmp 11) .skip (.exit 0)
def c10_1 : A := .seq (.reg r10_7 [2, 3]) .ret
def c10_2 : A := .cond (.tmp 30) c10_1 .skip
def c10_3 : A := .seq (.seq (.reg r10_6 [4, 5, 6, 30]) c10_2) (.seq (.keep [4, 5, 6]) (.reg r10_8 [0, 4]))
def c10_4 : A := .seq (.reg r10_5 [4, 5, 6, 7]) c10_3
def c10_5 : A := .seq (.block 1 c10_4) (.reg r10_4 [0, 4])
def c10_6 : A := .seq (.seq (.reg r10_3 [0, 4, 11]) c10_0) (.seq (.keep [0, 4]) c10_5)
def c10_7 : A := .seq c10_6 (.keep [0, 4])
def c10_8 : A := .loop c10_7
def c10_9 : A := .block 0 c10_8
def c10_10 : A := .seq (.reg r10_9 [2, 3]) .ret
def c10_11 : A := .seq (.seq (.reg r10_2 [0, 4]) c10_9) c10_10
def c10_12 : A := .seq (.reg r10_1 [0, 4]) c10_11
def c10 : A := .seq (.reg r10_0 [0]) c10_12
theorem B10 : Body Tryd.prog 10 37 [.tmp 2, .tmp 3] c10 := ⟨by kernel_rfl, _, _, [(0, [0]), (1, [0, 4]), (2, [0, 4]), (3, [0, 4, 11]), (4, [0, 4]), (5, [4, 5, 6, 7]), (6, [4, 5, 6, 30]), (7, [2, 3]), (8, [0, 4]), (9, [2, 3]), (1003, [0, 4]), (2005, [0, 4]), (2008, [4, 5, 6])], Tryd.func10, rfl, rfl, rfl, by kernel_rfl⟩
end Go.Proofs.YtoabcmhiaknjiaaDoor

set_option maxRecDepth 100000
set_option linter.unusedSimpArgs false
set_option linter.unusedVariables false
namespace Go.Proofs.YtoabcmhiaknjiaaDoor
open Go.Hw
theorem uBytes : Tryd.prog.underlying 52 = some (.slice 5) := Tryd.underlying52
theorem uU8 : Tryd.prog.underlying 5 = some (.int .u8) := Tryd.underlying5

theorem first_1 (c : Int) (H : Hp) {K : Ending → Hp → Prop} (h : K (.returned (.bool (stopP c))) H) : HCall Tryd.prog 50 #[.int .i32 c] H K := by
  refine hcall mixed B50 (args := [.int .i32 c]) (by simp) ?_
  by_cases h1 : c ≤ 32
  · have : stopP c = true := by simp [stopP, h1]
    rw [this] at h
    simp only [go_sem, reduceCtorEq, Nat.reduceEqDiff, Nat.reduceAdd, c50, r50_0, c50_0, r50_1, decide_eq_true h1]
    exact h
  · by_cases h2 : 126 < c
    · have : stopP c = true := by simp [stopP, h2]
      rw [this] at h
      simp only [go_sem, reduceCtorEq, Nat.reduceEqDiff, Nat.reduceAdd, c50, r50_0, c50_0, r50_1, decide_eq_false h1, decide_eq_true h2]
      exact h
    · have : stopP c = decide (c = 39) := by simp [stopP, h1, h2]
      rw [this] at h
      simp only [go_sem, reduceCtorEq, Nat.reduceEqDiff, Nat.reduceAdd, c50, r50_0, c50_0, r50_1, decide_eq_false h1, decide_eq_false h2]
      exact h

theorem stopP_high (c : Int) (h : 128 ≤ c) : stopP c = true := by
  have : 126 < c := by omega
  simp [stopP, this]

theorem idx_takeWhile (p : Int → Bool) : ∀ (l : List UInt8), (idxOf p l = -1 ∧ l.takeWhile (fun b => !p b.toNat) = l) ∨ (idxOf p l = ((l.takeWhile fun b => !p b.toNat).length : Int) ∧ (l.takeWhile fun b => !p b.toNat).length < l.length)
  | [] => .inl ⟨rfl, rfl⟩
  | b :: r => by
    unfold idxOf
    rw [List.findIdx?_cons]
    by_cases hb : p b.toNat = true
    · right
      simp [hb]
    · have hb' : p b.toNat = false := by simpa using hb
      simp only [hb', Bool.false_eq_true, if_false, List.takeWhile_cons, Bool.not_false, if_true]
      rcases idx_takeWhile p r with ⟨h1, h2⟩ | ⟨h1, h2⟩
      · left
        unfold idxOf at h1
        cases hf : r.findIdx? (fun b => p b.toNat) with
        | none => exact ⟨by simp, by rw [h2]⟩
        | some i => rw [hf] at h1; simp only at h1; omega
      · right
        unfold idxOf at h1
        cases hf : r.findIdx? (fun b => p b.toNat) with
        | none => rw [hf] at h1; simp only at h1; omega
        | some i => rw [hf] at h1; simp only at h1; simp only [Option.map_some, List.length_cons]; exact ⟨by omega, by omega⟩

theorem first_plain (b : UInt8) (r : List UInt8) (hb : b ≠ 39) (H : Hp) (hl : (b :: r).length < 4611686018427387904) {K : Ending → Hp → Prop}
    (h : ∀ H', Ext H H' → K (.returned (.tuple #[.string (B ((b :: r).takeWhile fun b => !stopP b.toNat)), .string (B ((b :: r).dropWhile fun b => !stopP b.toNat)), .bool (decide (0 < (((b :: r).takeWhile fun b => !stopP b.toNat).length : Int)))])) H') :
    HCall Tryd.prog 24 #[.string (B (b :: r))] H K := by
  refine hcall mixed B24 (args := [.string (B (b :: r))]) (by simp) ?_
  simp only [go_sem, reduceCtorEq, Nat.reduceEqDiff, Nat.reduceAdd, c24, r24_0, c24_25, r24_1]
  rw [idxA_B uStr (by omega) (by simp only [List.length_cons]; omega)]
  simp only [Int.toNat_zero, List.getD_cons_zero]
  have hne : decide ((b.toNat : Int) = 39) = false := by rw [decide_eq_false_iff_not]; exact fun h => hb (u8_inj.1 h)
  simp only [go_sem, reduceCtorEq, Nat.reduceEqDiff, Nat.reduceAdd, hne, c24_4, c24_3, r24_2, callA_fn0 pl49]
  refine indexFuncE 50 pl50 stopP (fun c H K h => first_1 c H h) stopP_high (b :: r) H fun H' hE => ?_
  have tail : ∀ i : Int, i = ((b :: r).takeWhile fun b => !stopP b.toNat).length → aw Tryd.prog 74 c24_1 (seqQ Tryd.prog 74 c24_24 (retK Tryd.prog [.tmp 2, .tmp 3, .tmp 4] K)) [(0, .string (B (b :: r))), (5, .int .i64 i)] H' := by
    intro i hi
    have hle : ((b :: r).takeWhile fun b => !stopP b.toNat).length ≤ (b :: r).length := length_takeWhile_le _ _
    obtain ⟨e1, e2⟩ := takeWhile_drop (fun b => !stopP b.toNat) (b :: r)
    simp only [go_sem, reduceCtorEq, Nat.reduceEqDiff, Nat.reduceAdd, c24_1, r24_5]
    rw [sliQ_hi uStr (by omega) (by omega)]
    simp only [go_sem, reduceCtorEq, Nat.reduceEqDiff, Nat.reduceAdd, ]
    rw [sliQ_lo uStr (by omega) (by omega)]
    have hn : i.toNat = ((b :: r).takeWhile fun b => !stopP b.toNat).length := by omega
    rw [hn, e1, e2]
    simp only [go_sem, reduceCtorEq, Nat.reduceEqDiff, Nat.reduceAdd, ]
    rw [hi]
    exact h H' hE
  rcases idx_takeWhile stopP (b :: r) with ⟨h1, h2⟩ | ⟨h1, h2⟩
  · have : decide ((-1 : Int) < 0) = true := rfl
    simp only [go_sem, reduceCtorEq, Nat.reduceEqDiff, Nat.reduceAdd, h1, c24_2, r24_3, this, c24_0, r24_4, len_B uStr]
    exact tail _ (by rw [h2])
  · have : decide (((((b :: r).takeWhile fun b => !stopP b.toNat).length : Nat) : Int) < 0) = false := by rw [decide_eq_false_iff_not]; omega
    simp only [go_sem, reduceCtorEq, Nat.reduceEqDiff, Nat.reduceAdd, h1, c24_2, r24_3, this, c24_0]
    exact tail _ rfl

theorem first_quote (r : List UInt8) (H : Hp) (hl : r.length < 100000000) {K : Ending → Hp → Prop}
    (h : ∀ H', Ext H H' → K (.returned (match quoteF r [] with
      | some (w, t) => .tuple #[.string (B w), .string (B t), .bool true]
      | none => .tuple #[.string (B []), .string (B []), .bool false])) H') :
    HCall Tryd.prog 24 #[.string (B (39 :: r))] H K := by
  refine hcall mixed B24 (args := [.string (B (39 :: r))]) (by simp) ?_
  simp only [go_sem, reduceCtorEq, Nat.reduceEqDiff, Nat.reduceAdd, c24, r24_0, c24_25, r24_1]
  rw [idxA_B uStr (by omega) (by simp only [List.length_cons]; omega)]
  simp only [Int.toNat_zero, List.getD_cons_zero]
  have hne : decide (((39 : UInt8).toNat : Int) = 39) = true := rfl
  simp only [go_sem, reduceCtorEq, Nat.reduceEqDiff, Nat.reduceAdd, hne, c24_4, c24_24, r24_6, c24_23, r24_7, c24_21]
  generalize hfu : (39 :: r : List UInt8) = full
  have hlen : full.length < 100000001 := by rw [← hfu]; simp only [List.length_cons]; omega
  have hone : 1 ≤ full.length := by rw [← hfu]; simp
  refine aw_while (L := c24_20) rfl (fun m F G => ∃ (i nn : Nat) (acc : List UInt8) (v : Value), m = full.length - i ∧ F = [(0, .string (B full)), (6, v), (7, .int .i64 i)] ∧ OwnS (H.size ≤ ·) 5 1 G v nn (bytesV acc) ∧ Ext H G ∧ 1 ≤ i ∧ i ≤ full.length ∧ nn ≤ i ∧ quoteF r [] = quoteF (full.drop i) acc) (m := full.length - 1)
    ⟨1, 0, [], _, rfl, rfl, OwnS.nil _ _ _ _, Ext.refl _, Nat.le_refl _, hone, by omega, by rw [← hfu]; rfl⟩ ?_
  rintro m F G ih ⟨i, nn, acc, v, rfl, rfl, own, hE, h1, h2, h3, hq⟩
  by_cases hi : i < full.length
  · have hi' : decide ((i : Int) < (full.length : Int)) = true := by rw [decide_eq_true_eq]; omega
    obtain ⟨c, hc⟩ : ∃ c, full[i]? = some c := ⟨full[i], by simp [hi]⟩
    have hgd : full.getD i 0 = c := by simp [List.getD_eq_getElem?_getD, hc]
    have hdrop : full.drop i = c :: full.drop (i + 1) := by rw [List.drop_eq_getElem_cons hi]; congr 1; have := List.getElem?_eq_getElem hi; rw [this] at hc; exact Option.some.inj hc
    rw [hdrop] at hq
    simp only [go_sem, reduceCtorEq, Nat.reduceEqDiff, Nat.reduceAdd, c24_19, c24_18, r24_8, len_B uStr, hi', c24_5, c24_17, c24_16, r24_10]
    rw [idxA_B uStr (by omega) (by omega)]
    simp only [Int.toNat_natCast, hgd]
    have bad : (c.toNat < 32 ∨ 126 < c.toNat) → K (.returned (.tuple #[.string (B []), .string (B []), .bool false])) G := by
      intro hb
      rw [quoteF_bad _ _ hb] at hq
      have := h G hE
      rw [hq] at this
      exact this
    by_cases ha : c.toNat < 32
    · have ha' : decide ((c.toNat : Int) < 32) = true := by rw [decide_eq_true_eq]; omega
      simp only [go_sem, reduceCtorEq, Nat.reduceEqDiff, Nat.reduceAdd, c24_15, c24_14, r24_12, ha', c24_13, c24_6, r24_13]
      exact bad (.inl ha)
    have ha' : decide ((c.toNat : Int) < 32) = false := by rw [decide_eq_false_iff_not]; omega
    by_cases hb : 126 < c.toNat
    · have hb' : decide ((126 : Int) < (c.toNat : Int)) = true := by rw [decide_eq_true_eq]; omega
      simp only [go_sem, reduceCtorEq, Nat.reduceEqDiff, Nat.reduceAdd, c24_15, c24_14, r24_12, ha', hb', c24_13, c24_6, r24_13]
      exact bad (.inr hb)
    have hb' : decide ((126 : Int) < (c.toNat : Int)) = false := by rw [decide_eq_false_iff_not]; omega
    by_cases h39 : c = 39
    · subst h39
      have e1 : decide (((39 : UInt8).toNat : Int) = 39) = true := rfl
      simp only [go_sem, reduceCtorEq, Nat.reduceEqDiff, Nat.reduceAdd, c24_15, c24_14, r24_12, ha', hb', c24_13, c24_12, r24_14, e1, c24_11, c24_10, r24_16]
      rw [wrap_i64 (by omega) (by omega)]
      cases hr : full.drop (i + 1) with
      | nil =>
        have hlen' : full.length = i + 1 := by have := congrArg List.length hr; simp at this; omega
        have e2 : decide ((i : Int) + 1 < (full.length : Int)) = false := by rw [decide_eq_false_iff_not]; omega
        simp only [go_sem, reduceCtorEq, Nat.reduceEqDiff, Nat.reduceAdd, len_B uStr, e2, c24_9, c24_8, r24_11]
        rw [cnvQ_bytes uBytes uU8 uStr (Src.of_own own) own.form]
        simp only [go_sem, reduceCtorEq, Nat.reduceEqDiff, Nat.reduceAdd, ]
        rw [wrap_i64 (by omega) (by omega)]
        rw [sliQ_lo uStr (by omega) (by omega)]
        simp only [go_sem, reduceCtorEq, Nat.reduceEqDiff, Nat.reduceAdd, B_lit]
        have hn2 : ((i : Int) + 1).toNat = i + 1 := by omega
        rw [hn2, hr]
        rw [hr, quoteF_end (by simp)] at hq
        have := h G hE
        rw [hq] at this
        exact this
      | cons d r' =>
        have hlen' : i + 1 < full.length := by have := congrArg List.length hr; simp at this; omega
        have e2 : decide ((i : Int) + 1 < (full.length : Int)) = true := by rw [decide_eq_true_eq]; omega
        have hgd2 : full.getD (i + 1) 0 = d := by
          rw [List.getD_eq_getElem?_getD, ← List.head?_drop, hr]; rfl
        simp only [go_sem, reduceCtorEq, Nat.reduceEqDiff, Nat.reduceAdd, len_B uStr, e2]
        rw [wrap_i64 (by omega) (by omega)]
        rw [idxA_B uStr (by omega) (by omega)]
        have hn : ((i : Int) + 1).toNat = i + 1 := by omega
        rw [hn, hgd2]
        by_cases hd : d = 39
        · subst hd
          simp only [go_sem, reduceCtorEq, Nat.reduceEqDiff, Nat.reduceAdd, e1, c24_9, c24_7, r24_17]
          rw [bslA_one uBytes ty5 rfl]
          simp only [go_sem, reduceCtorEq, Nat.reduceEqDiff, Nat.reduceAdd, ]
          refine append_byte 39 own hE uBytes ty5 (by omega) fun v' G' own' hE' => ?_
          simp only [go_sem, reduceCtorEq, Nat.reduceEqDiff, Nat.reduceAdd, r24_18]
          rw [wrap_i64 (by omega) (by omega)]
          simp only [go_sem, reduceCtorEq, Nat.reduceEqDiff, Nat.reduceAdd, r24_9]
          rw [wrap_i64 (by omega) (by omega)]
          rw [hr, quoteF_two] at hq
          refine ih _ _ _ ?_ ⟨i + 2, nn + 1, acc ++ [39], v', rfl, ?_, own', hE', by omega, by omega, by omega, ?_⟩
          · omega
          · rw [show (i : Int) + 1 + 1 = ((i + 2 : Nat) : Int) by omega]
          · rw [hq, show i + 2 = (i + 1) + 1 by omega, ← List.drop_drop, hr]; rfl
        · have e3 : decide ((d.toNat : Int) = 39) = false := by rw [decide_eq_false_iff_not]; exact fun h => hd (u8_inj.1 h)
          simp only [go_sem, reduceCtorEq, Nat.reduceEqDiff, Nat.reduceAdd, e3, c24_9, c24_8, r24_11]
          rw [cnvQ_bytes uBytes uU8 uStr (Src.of_own own) own.form]
          simp only [go_sem, reduceCtorEq, Nat.reduceEqDiff, Nat.reduceAdd, ]
          rw [wrap_i64 (by omega) (by omega)]
          rw [sliQ_lo uStr (by omega) (by omega)]
          simp only [go_sem, reduceCtorEq, Nat.reduceEqDiff, Nat.reduceAdd, B_lit]
          rw [hn, hr]
          rw [hr, quoteF_end (by simpa using hd)] at hq
          have := h G hE
          rw [hq] at this
          exact this
    · rw [quoteF_plain _ _ (by omega) h39] at hq
      have e1 : decide ((c.toNat : Int) = 39) = false := by rw [decide_eq_false_iff_not]; exact fun h => h39 (u8_inj.1 h)
      simp only [go_sem, reduceCtorEq, Nat.reduceEqDiff, Nat.reduceAdd, c24_15, c24_14, r24_12, ha', hb', c24_13, c24_12, r24_14, e1, c24_11, r24_15]
      rw [bslA_one uBytes ty5 rfl]
      simp only [go_sem, reduceCtorEq, Nat.reduceEqDiff, Nat.reduceAdd, ]
      refine append_byte c own hE uBytes ty5 (by omega) fun v' G' own' hE' => ?_
      simp only [go_sem, reduceCtorEq, Nat.reduceEqDiff, Nat.reduceAdd, r24_9]
      rw [wrap_i64 (by omega) (by omega)]
      exact ih _ _ _ (by omega) ⟨i + 1, nn + 1, acc ++ [c], v', rfl, rfl, own', hE', by omega, by omega, by omega, hq⟩
  · have hi' : decide ((i : Int) < (full.length : Int)) = false := by rw [decide_eq_false_iff_not]; omega
    simp only [go_sem, reduceCtorEq, Nat.reduceEqDiff, Nat.reduceAdd, c24_19, c24_18, r24_8, len_B uStr, hi', c24_5, c24_22, r24_19]
    have : full.drop i = [] := List.drop_eq_nil_of_le (by omega)
    rw [this, quoteF_nil] at hq
    have := h G hE
    rw [hq] at this
    exact this

theorem first_ok (l : List UInt8) (hne : l ≠ []) (H : Hp) (hl : l.length < 100000000) {K : Ending → Hp → Prop}
    (h : ∀ H', Ext H H' → K (.returned (.tuple #[.string (B (firstV l).1), .string (B (firstV l).2.1), .bool (firstV l).2.2])) H') : HCall Tryd.prog 24 #[.string (B l)] H K := by
  match l, hne with
  | b :: r, _ =>
    by_cases hb : b = 39
    · subst hb
      refine first_quote r H (by simp only [List.length_cons] at hl; omega) fun H' hE => ?_
      have := h H' hE
      rw [firstV_quote] at this
      cases hq : quoteF r [] with
      | none => rw [hq] at this; exact this
      | some p => rw [hq] at this; exact this
    · refine first_plain b r hb H (by omega) fun H' hE => ?_
      have := h H' hE
      rw [firstV_plain (by exact hb)] at this
      have e : (decide (0 < (((b :: r).takeWhile fun b => !stopP b.toNat).length : Int))) = !((b :: r).takeWhile fun b => !stopP b.toNat).isEmpty := by
        cases ((b :: r).takeWhile fun b => !stopP b.toNat) with
        | nil => rfl
        | cons a t => simp only [List.isEmpty_cons, Bool.not_false, decide_eq_true_eq, List.length_cons]; omega
      rw [e]
      exact this

/-- What Scan returns. -/
def ScanR (l : List UInt8) (ok : Nat → Prop) (H : Hp) (v : Value) (e : Int) : Prop :=
  match scanF l with
  | some ws => e = 0 ∧ OwnS ok 9 1 H v ws.length (strs ws)
  | none => e = 3 ∧ v = .slice none 0 0

theorem scan (l : List UInt8) (H : Hp) (hl : l.length < 100000000) {K : Ending → Hp → Prop}
    (h : ∀ H' v e, Ext H H' → ScanR l (H.size ≤ ·) H' v e → K (.returned (.tuple #[v, .int .i64 e])) H') : HCall Tryd.prog 10 #[.string (B l)] H K := by
  refine hcall mixed B10 (args := [.string (B l)]) (by simp) ?_
  simp only [go_sem, reduceCtorEq, Nat.reduceEqDiff, Nat.reduceAdd, c10, r10_0, c10_12, r10_1, c10_11, r10_2, callA_fn0 pl23]
  refine trimLeft_blank H l (by omega) ?_
  simp only [go_sem, reduceCtorEq, Nat.reduceEqDiff, Nat.reduceAdd, c10_9]
  have hdl := length_dropWhile_le blank l
  have hbl : (fun x : UInt8 => x == 32) = blank := rfl
  rw [hbl]
  refine aw_while (L := c10_8) rfl (fun m F G => ∃ (t : List UInt8) (nn : Nat) (acc : List (List UInt8)) (v : Value), m = t.length ∧ F = [(0, .string (B t)), (4, v)] ∧ OwnS (H.size ≤ ·) 9 1 G v nn (strs acc) ∧ Ext H G ∧ nn = acc.length ∧ nn + t.length ≤ l.length ∧ scanF l = scanT t acc) (m := (l.dropWhile blank).length)
    ⟨l.dropWhile blank, 0, [], _, rfl, rfl, OwnS.nil _ _ _ _, Ext.refl _, rfl, by omega, rfl⟩ ?_
  rintro m F G ih ⟨t, nn, acc, v, rfl, rfl, own, hE, rfl, h2, hq⟩
  by_cases ht : t = []
  · subst ht
    have e1 : (([] : List UInt8) == []) = true := rfl
    simp only [go_sem, reduceCtorEq, Nat.reduceEqDiff, Nat.reduceAdd, c10_7, c10_6, r10_3, B_lit, B_toList, e1, c10_0, c10_10, r10_9]
    refine h G v 0 hE ?_
    rw [scanT_nil] at hq
    unfold ScanR
    rw [hq]
    exact ⟨rfl, own⟩
  · have e1 : (t == []) = false := by simpa using ht
    simp only [go_sem, reduceCtorEq, Nat.reduceEqDiff, Nat.reduceAdd, c10_7, c10_6, r10_3, B_lit, B_toList, e1, c10_0, c10_5, c10_4, r10_5, callA_fn0 pl24]
    refine first_ok t ht G (by omega) fun G1 hE1 => ?_
    have hE' := hE.trans hE1
    have own' := own.ext hE1
    have bad : (firstV t).2.2 = false ∨ ((firstV t).2.1 ≠ [] ∧ (firstV t).2.1.headD 0 ≠ 32) → K (.returned (.tuple #[.slice none 0 0, .int .i64 3])) G1 := by
      intro hb
      rw [scanT_bad _ ht hb] at hq
      refine h G1 _ _ hE' ?_
      unfold ScanR
      rw [hq]
      exact ⟨rfl, rfl⟩
    have hlen : (firstV t).2.2 = true → (firstV t).2.1.length < t.length := fun h1 => firstV_len (w := (firstV t).1) (by rw [← h1])
    have hstep := @scanT_step t acc ht
    revert bad hstep hlen
    generalize (firstV t).1 = w
    generalize (firstV t).2.1 = r
    generalize (firstV t).2.2 = ok
    intro bad hlen hstep
    cases ok with
    | false =>
      simp only [go_sem, reduceCtorEq, Nat.reduceEqDiff, Nat.reduceAdd, c10_3, r10_6, c10_2, c10_1, r10_7]
      exact bad (.inl rfl)
    | true =>
      have hlen := hlen rfl
      by_cases hg : r ≠ [] ∧ r.headD 0 ≠ 32
      · match r, hg with
        | d :: r', hg =>
          have e2 : ((d :: r' : List UInt8) == []) = false := rfl
          simp only [go_sem, reduceCtorEq, Nat.reduceEqDiff, Nat.reduceAdd, c10_3, r10_6, B_lit, B_toList, e2]
          rw [idxA_B uStr (by omega) (by simp only [List.length_cons]; omega)]
          simp only [Int.toNat_zero, List.getD_cons_zero]
          have hd : d ≠ 32 := hg.2
          have e3 : decide ((d.toNat : Int) = 32) = false := by rw [decide_eq_false_iff_not]; exact fun h => hd (u8_inj.1 h)
          simp only [go_sem, reduceCtorEq, Nat.reduceEqDiff, Nat.reduceAdd, e3, c10_2, c10_1, r10_7]
          exact bad (.inr hg)
      · rcases r with _ | ⟨d, r'⟩
        focus
          have e2 : (([] : List UInt8) == []) = true := rfl
          simp only [go_sem, reduceCtorEq, Nat.reduceEqDiff, Nat.reduceAdd, c10_3, r10_6, B_lit, B_toList, e2, c10_2, r10_8]
        rotate_left
        focus
          have hd : d = 32 := by simpa using hg
          subst hd
          have e2 : ((32 :: r' : List UInt8) == []) = false := rfl
          simp only [go_sem, reduceCtorEq, Nat.reduceEqDiff, Nat.reduceAdd, c10_3, r10_6, B_lit, B_toList, e2]
          rw [idxA_B uStr (by omega) (by simp only [List.length_cons]; omega)]
          simp only [Int.toNat_zero, List.getD_cons_zero]
          have e3 : decide (((32 : UInt8).toNat : Int) = 32) = true := rfl
          simp only [go_sem, reduceCtorEq, Nat.reduceEqDiff, Nat.reduceAdd, e3, c10_2, r10_8]
        all_goals
          rw [bslA_one uStrs ty9 rfl]
          simp only [go_sem, reduceCtorEq, Nat.reduceEqDiff, Nat.reduceAdd, ]
          refine append_str w own' hE' (by omega) fun v' G2 own2 hE2 => ?_
          simp only [go_sem, reduceCtorEq, Nat.reduceEqDiff, Nat.reduceAdd, r10_4, callA_fn0 pl23]
          refine trimLeft_blank G2 _ (by omega) ?_
          rw [hbl]
          simp only [go_sem, reduceCtorEq, Nat.reduceEqDiff, Nat.reduceAdd, ]
          have hd2 := length_dropWhile_le blank
          refine ih _ _ _ ?_ ⟨_, _, acc ++ [w], v', rfl, rfl, own2, hE2, by simp, ?_, ?_⟩
          · exact Nat.lt_of_le_of_lt (hd2 _) hlen
          · exact Nat.le_trans (Nat.add_le_add_left (hd2 _) _) (by omega)
          · rw [hq]; exact hstep rfl hg

end Go.Proofs.YtoabcmhiaknjiaaDoor

set_option maxRecDepth 100000
namespace Go.Proofs.YtoabcmhiaknjiaaDoor
open Go.Hw
/-! ### 37 strings.Lines -/
def r37_0 : List O := [⟨some 1, .box 9 (.tmp 0), 0, none⟩,
  ⟨some 2, .assign (.const .nilFunc), 70, none⟩]
def r37_1 : List O := [⟨some 3, .makeFunc (.func 60) #[] #[.tmp 1], 69, none⟩,
  ⟨some 2, .assign (.tmp 3), 70, none⟩]
def c37_0 : A := .seq (.reg r37_1 [2]) .ret
def c37 : A := .seq (.reg r37_0 [1]) c37_0
theorem B37 : Body Tryd.prog 37 4 [.tmp 2] c37 := ⟨by kernel_rfl, _, _, [(0, [1]), (1, [2])], Tryd.func37, rfl, rfl, rfl, by kernel_rfl⟩
/-! ### 60 strings.Lines$1 -/
def r60_0 : List O := [⟨some 5, .load 9 (.tmp 1), 9, none⟩,
  ⟨some 6, .call { callee := .builtin .len, args := #[.tmp 5], argTypes := #[9] }, 3, none⟩,
  ⟨some 7, .binOp .gtr 3 (.tmp 6) (.const (.int .i64 0)) 3, 4, none⟩]
def r60_1 : List O := [⟨some 3, .assign (.const (.string ⟨#[]⟩)), 9, none⟩]
def r60_2 : List O := [⟨some 8, .load 9 (.tmp 1), 9, none⟩,
  ⟨some 9, .call { callee := .value (.func 25), args := #[.tmp 8, .const (.int .u8 10)], argTypes := #[9, 5] }, 3, none⟩,
  ⟨some 4, .assign (.tmp 9), 3, none⟩]
def r60_3 : List O := [⟨some 10, .move (.tmp 4), 3, none⟩,
  ⟨some 11, .binOp .geq 3 (.tmp 10) (.const (.int .i64 0)) 3, 4, none⟩]
def r60_4 : List O := [⟨some 12, .load 9 (.tmp 1), 9, none⟩,
  ⟨some 13, .move (.tmp 4), 3, none⟩,
  ⟨some 14, .binOp .add 3 (.tmp 13) (.const (.int .i64 1)) 3, 3, none⟩,
  ⟨some 15, .slice 9 (.tmp 12) none (some (.tmp 14)) none, 9, none⟩,
  ⟨some 16, .load 9 (.tmp 1), 9, none⟩,
  ⟨some 17, .move (.tmp 4), 3, none⟩,
  ⟨some 18, .binOp .add 3 (.tmp 17) (.const (.int .i64 1)) 3, 3, none⟩,
  ⟨some 19, .slice 9 (.tmp 16) (some (.tmp 18)) none none, 9, none⟩,
  ⟨some 3, .assign (.tmp 15), 9, none⟩,
  ⟨none, .store 9 (.tmp 1) (.tmp 19), 0, none⟩]
def r60_5 : List O := [⟨some 20, .load 9 (.tmp 1), 9, none⟩,
  ⟨some 3, .assign (.tmp 20), 9, none⟩,
  ⟨none, .store 9 (.tmp 1) (.const (.string ⟨#[]⟩)), 0, none⟩]
def r60_6 : List O := [⟨some 21, .move (.tmp 0), 62, none⟩,
  ⟨some 22, .move (.tmp 3), 9, none⟩,
  ⟨some 23, .call { callee := .value (.tmp 21), args := #[.tmp 22], argTypes := #[9] }, 4, none⟩,
  ⟨some 24, .unOp .not 4 (.tmp 23), 4, none⟩]
def c60_0 : A := .cond (.tmp 7) .skip (.exit 0)
def c60_1 : A := .cond (.tmp 11) (.draw 9 r60_4 [0, 1, 3]) (.reg r60_5 [0, 1, 3])
def c60_2 : A := .seq (.reg r60_3 [0, 1, 4, 11]) c60_1
def c60_3 : A := .cond (.tmp 24) .ret .skip
def c60_4 : A := .seq (.reg r60_6 [0, 1, 24]) c60_3
def c60_5 : A := .seq (.seq (.reg r60_2 [0, 1, 4]) c60_2) (.seq (.keep [0, 1, 3]) c60_4)
def c60_6 : A := .seq (.reg r60_1 [0, 1]) c60_5
def c60_7 : A := .block 1 c60_6
def c60_8 : A := .seq (.seq (.reg r60_0 [0, 1, 7]) c60_0) (.seq (.keep [0, 1]) c60_7)
def c60_9 : A := .seq c60_8 (.keep [0, 1])
def c60_10 : A := .loop c60_9
def c60 : A := .block 0 c60_10
theorem B60 : Body Tryd.prog 60 25 [] c60 := ⟨by kernel_rfl, _, _, [(0, [0, 1, 7]), (1, [0, 1]), (2, [0, 1, 4]), (3, [0, 1, 4, 11]), (4, [0, 1, 3]), (5, [0, 1, 3]), (6, [0, 1, 24]), (1000, [0, 1]), (2001, [0, 1]), (2006, [0, 1, 3])], Tryd.func60, rfl, rfl, rfl, by kernel_rfl⟩
/-! ### 19 dasd/jobtext.Expand -/
def r19_0 : List O := [⟨some 2, .assign (.const (.slice none 0 0)), 36, none⟩,
  ⟨some 3, .assign (.const (.int .i64 0)), 3, none⟩,
  ⟨some 4, .assign (.const (.int .i64 0)), 25, none⟩]
def r19_1 : List O := [⟨some 5, .alloc 68, 0, none⟩]
def r19_2 : List O := [⟨some 9, .move (.tmp 0), 9, none⟩,
  ⟨some 10, .call { callee := .value (.func 37), args := #[.tmp 9], argTypes := #[9] }, 70, none⟩]
def r19_3 : List O := [⟨some 6, .assign (.tmp 11), 9, none⟩]
def r19_4 : List (Nat × O) := [(1, ⟨some 12, .load 68 (.tmp 5), 68, none⟩),
  (1, ⟨some 13, .load 68 (.tmp 5), 68, none⟩),
  (2, ⟨some 14, .call { callee := .builtin .len, args := #[.tmp 13], argTypes := #[68] }, 3, none⟩),
  (2, ⟨some 15, .binOp .add 3 (.tmp 14) (.const (.int .i64 1)) 3, 3, none⟩),
  (2, ⟨some 16, .move (.tmp 6), 9, none⟩),
  (1, ⟨some 17, .call { callee := .value (.func 38), args := #[.tmp 16, .const (.string ⟨#[10]⟩)], argTypes := #[9, 9] }, 9, none⟩),
  (2, ⟨some 18, .build 73 #[(0, .tmp 15), (1, .tmp 17)], 73, none⟩),
  (3, ⟨some 19, .buildSlice 68 1 #[(0, .tmp 18)], 68, none⟩),
  (0, ⟨some 20, .call { callee := .builtin .append, args := #[.tmp 12, .tmp 19], argTypes := #[68, 68] }, 68, none⟩),
  (0, ⟨none, .store 68 (.tmp 5) (.tmp 20), 0, none⟩)]
def r19_5 : List O := [⟨some 21, .move (.tmp 0), 9, none⟩,
  ⟨some 22, .call { callee := .builtin .len, args := #[.tmp 21], argTypes := #[9] }, 3, none⟩,
  ⟨some 23, .binOp .gtr 3 (.tmp 22) (.const (.int .i64 16384)) 3, 4, none⟩,
  ⟨some 24, .move (.tmp 23), 4, none⟩,
  ⟨some 25, .load 68 (.tmp 5), 68, some (24, false)⟩,
  ⟨some 26, .call { callee := .builtin .len, args := #[.tmp 25], argTypes := #[68] }, 3, some (24, false)⟩,
  ⟨some 27, .binOp .gtr 3 (.tmp 26) (.const (.int .i64 512)) 3, 4, some (24, false)⟩,
  ⟨some 28, .pick (.tmp 24) (.const (.bool true)) (.tmp 27), 4, none⟩]
def r19_6 : List O := [⟨some 2, .assign (.const (.slice none 0 0)), 36, none⟩,
  ⟨some 3, .assign (.const (.int .i64 0)), 3, none⟩,
  ⟨some 4, .assign (.const (.int .i64 8)), 25, none⟩]
def r19_7 : List O := [⟨some 29, .makeMap 22 none, 22, none⟩,
  ⟨some 30, .makeMap 75 none, 75, none⟩,
  ⟨some 31, .build 77 #[(0, .tmp 29), (1, .tmp 30)], 77, none⟩,
  ⟨some 32, .box 77 (.tmp 31), 74, none⟩,
  ⟨some 7, .assign (.tmp 32), 74, none⟩]
def r19_8 : List O := [⟨some 33, .move (.tmp 7), 74, none⟩,
  ⟨some 34, .load 68 (.tmp 5), 68, none⟩,
  ⟨some 35, .build 82 #[(0, .tmp 34)], 82, none⟩,
  ⟨some 36, .call { callee := .value (.func 39), args := #[.tmp 33, .tmp 35], argTypes := #[74, 82] }, 79, none⟩,
  ⟨some 8, .alloc 79, 0, none⟩,
  ⟨none, .store 79 (.tmp 8) (.tmp 36), 0, none⟩]
def r19_9 : List O := [⟨some 37, .fieldAddr 79 (.tmp 8) 1, 0, none⟩,
  ⟨some 38, .load 25 (.tmp 37), 25, none⟩,
  ⟨some 39, .binOp .neq 25 (.tmp 38) (.const (.int .i64 0)) 25, 4, none⟩]
def r19_10 : List O := [⟨some 40, .fieldAddr 79 (.tmp 8) 0, 0, none⟩,
  ⟨some 41, .load 3 (.tmp 40), 3, none⟩,
  ⟨some 42, .fieldAddr 79 (.tmp 8) 1, 0, none⟩,
  ⟨some 43, .load 25 (.tmp 42), 25, none⟩,
  ⟨some 2, .assign (.const (.slice none 0 0)), 36, none⟩,
  ⟨some 3, .assign (.tmp 41), 3, none⟩,
  ⟨some 4, .assign (.tmp 43), 25, none⟩]
def r19_11 : List O := [⟨some 44, .move (.tmp 7), 74, none⟩,
  ⟨some 45, .nilCheck (.tmp 44), 0, none⟩,
  ⟨some 46, .fieldAddr 77 (.tmp 45) 2, 0, none⟩,
  ⟨some 47, .load 36 (.tmp 46), 36, none⟩,
  ⟨some 2, .assign (.tmp 47), 36, none⟩,
  ⟨some 3, .assign (.const (.int .i64 0)), 3, none⟩,
  ⟨some 4, .assign (.const (.int .i64 0)), 25, none⟩]
def c19_0 : A := .block 1 (.drn r19_4 [])
def c19_1 : A := .rf (.tmp 10) [11] (.reg r19_3 [5, 6]) c19_0
def c19_2 : A := .block 0 c19_1
def c19_3 : A := .seq (.reg r19_6 [2, 3, 4]) .ret
def c19_4 : A := .cond (.tmp 28) c19_3 .skip
def c19_5 : A := .seq (.draw 6 r19_10 [2, 3, 4]) .ret
def c19_6 : A := .cond (.tmp 39) c19_5 .skip
def c19_7 : A := .seq (.reg r19_9 [7, 8, 39]) c19_6
def c19_8 : A := .seq (.reg r19_11 [2, 3, 4]) .ret
def c19_9 : A := .seq (.seq (.reg r19_8 [7, 8]) c19_7) (.seq (.keep [7]) c19_8)
def c19_10 : A := .seq (.reg r19_7 [5, 7]) c19_9
def c19_11 : A := .seq (.seq (.reg r19_5 [5, 28]) c19_4) (.seq (.keep [5]) c19_10)
def c19_12 : A := .seq (.seq (.reg r19_2 [0, 5, 10]) c19_2) c19_11
def c19_13 : A := .seq (.reg r19_1 [0, 5]) c19_12
def c19 : A := .seq (.reg r19_0 [0]) c19_13
theorem B19 : BodyR Tryd.prog 19 48 [.tmp 2, .tmp 3, .tmp 4] c19 := ⟨_, _, [(0, [0]), (1, [0, 5]), (2, [0, 5, 10]), (3, [5, 6]), (4, []), (5, [5, 28]), (6, [2, 3, 4]), (7, [5, 7]), (8, [7, 8]), (9, [7, 8, 39]), (10, [2, 3, 4]), (11, [2, 3, 4]), (2007, [5]), (2011, [7]), (5004, [1, 5, 10, 14, 18, 21, 26, 31, 32, 36])], Tryd.func19, rfl, rfl, rfl, by kernel_rfl⟩
/-! ### 39 (*dasd/jobtext.reader).read -/
def r39_0 : List O := [⟨some 3, .box 82 (.tmp 1), 0, none⟩,
  ⟨some 4, .alloc 79, 0, none⟩]
def r39_1 : List O := [⟨some 8, .call { callee := .value (.func 62), args := #[], argTypes := #[] }, 100, none⟩,
  ⟨some 5, .assign (.tmp 8), 100, none⟩]
def r39_2 : List O := [⟨some 9, .fieldAddr 82 (.tmp 3) 0, 0, none⟩,
  ⟨some 10, .load 68 (.tmp 9), 68, none⟩,
  ⟨some 11, .call { callee := .builtin .len, args := #[.tmp 10], argTypes := #[68] }, 3, none⟩,
  ⟨some 12, .binOp .gtr 3 (.tmp 11) (.const (.int .i64 0)) 3, 4, none⟩]
def r39_3 : List O := [⟨some 14, .move (.tmp 0), 74, none⟩,
  ⟨some 15, .move (.tmp 5), 100, none⟩,
  ⟨some 16, .load 82 (.tmp 3), 82, none⟩,
  ⟨some 17, .call { callee := .value (.func 63), args := #[.tmp 14, .tmp 15, .tmp 16], argTypes := #[74, 100, 82] }, 102, none⟩,
  ⟨some 13, .move (.tmp 17), 102, none⟩,
  ⟨some 18, .extract (.tmp 13) 0, 3, none⟩,
  ⟨some 19, .extract (.tmp 13) 1, 79, none⟩,
  ⟨some 7, .alloc 79, 0, none⟩,
  ⟨some 6, .assign (.tmp 18), 3, none⟩,
  ⟨none, .store 79 (.tmp 7) (.tmp 19), 0, none⟩]
def r39_4 : List O := [⟨some 20, .fieldAddr 79 (.tmp 7) 1, 0, none⟩,
  ⟨some 21, .load 25 (.tmp 20), 25, none⟩,
  ⟨some 22, .binOp .neq 25 (.tmp 21) (.const (.int .i64 0)) 25, 4, none⟩]
def r39_5 : List O := [⟨some 23, .load 79 (.tmp 7), 79, none⟩,
  ⟨none, .store 79 (.tmp 4) (.tmp 23), 0, none⟩]
def r39_6 : List O := [⟨some 24, .fieldAddr 82 (.tmp 3) 0, 0, none⟩,
  ⟨some 25, .load 68 (.tmp 24), 68, none⟩,
  ⟨some 26, .move (.tmp 6), 3, none⟩,
  ⟨some 27, .binOp .add 3 (.tmp 26) (.const (.int .i64 1)) 3, 3, none⟩,
  ⟨some 28, .slice 68 (.tmp 25) (some (.tmp 27)) none none, 68, none⟩,
  ⟨some 29, .fieldAddr 82 (.tmp 3) 0, 0, none⟩,
  ⟨none, .store 68 (.tmp 29) (.tmp 28), 0, none⟩]
def r39_7 : List O := [⟨some 30, .build 79 #[], 79, none⟩,
  ⟨none, .store 79 (.tmp 4) (.tmp 30), 0, none⟩]
def c39_0 : A := .cond (.tmp 12) .skip (.exit 0)
def c39_1 : A := .seq (.reg r39_5 [4]) .ret
def c39_2 : A := .cond (.tmp 22) c39_1 .skip
def c39_3 : A := .seq (.seq (.reg r39_4 [0, 3, 4, 5, 6, 7, 22]) c39_2) (.seq (.keep [0, 3, 4, 5, 6]) (.reg r39_6 [0, 3, 4, 5]))
def c39_4 : A := .seq (.reg r39_3 [0, 3, 4, 5, 6, 7]) c39_3
def c39_5 : A := .block 1 c39_4
def c39_6 : A := .seq (.seq (.reg r39_2 [0, 3, 4, 5, 12]) c39_0) (.seq (.keep [0, 3, 4, 5]) c39_5)
def c39_7 : A := .seq c39_6 (.keep [0, 3, 4, 5])
def c39_8 : A := .loop c39_7
def c39_9 : A := .seq (.reg r39_7 [4]) .ret
def c39_10 : A := .seq (.block 0 c39_8) c39_9
def c39_11 : A := .seq (.reg r39_1 [0, 3, 4, 5]) c39_10
def c39 : A := .seq (.reg r39_0 [0, 3, 4]) c39_11
theorem B39 : Body Tryd.prog 39 31 [.cell 4 79] c39 := ⟨by kernel_rfl, _, _, [(0, [0, 3, 4]), (1, [0, 3, 4, 5]), (2, [0, 3, 4, 5, 12]), (3, [0, 3, 4, 5, 6, 7]), (4, [0, 3, 4, 5, 6, 7, 22]), (5, [4]), (6, [0, 3, 4, 5]), (7, [4]), (1002, [0, 3, 4, 5]), (2003, [0, 3, 4, 5]), (2006, [0, 3, 4, 5, 6])], Tryd.func39, rfl, rfl, rfl, by kernel_rfl⟩
/-! ### 63 (*dasd/jobtext.reader).line -/
def r63_0 : List O := [⟨some 5, .box 82 (.tmp 2), 0, none⟩,
  ⟨some 6, .assign (.const (.int .i64 0)), 3, none⟩,
  ⟨some 7, .alloc 79, 0, none⟩]
def r63_1 : List O := [⟨some 13, .fieldAddr 82 (.tmp 5) 0, 0, none⟩,
  ⟨some 14, .load 68 (.tmp 13), 68, none⟩,
  ⟨some 15, .indexAddr 68 (.tmp 14) (.const (.int .i64 0)), 0, none⟩,
  ⟨some 16, .fieldAddr 73 (.tmp 15) 1, 0, none⟩,
  ⟨some 17, .load 9 (.tmp 16), 9, none⟩,
  ⟨some 18, .call { callee := .value (.func 23), args := #[.tmp 17, .const (.string ⟨#[32]⟩)], argTypes := #[9, 9] }, 9, none⟩,
  ⟨some 8, .assign (.tmp 18), 9, none⟩]
def r63_2 : List O := [⟨some 19, .move (.tmp 8), 9, none⟩,
  ⟨some 20, .binOp .eql 9 (.tmp 19) (.const (.string ⟨#[]⟩)) 9, 4, none⟩,
  ⟨some 21, .move (.tmp 20), 4, none⟩,
  ⟨some 22, .move (.tmp 8), 9, some (21, false)⟩,
  ⟨some 23, .index 9 (.tmp 22) (.const (.int .i64 0)), 5, some (21, false)⟩,
  ⟨some 24, .binOp .eql 5 (.tmp 23) (.const (.int .u8 35)) 5, 4, some (21, false)⟩,
  ⟨some 25, .pick (.tmp 21) (.const (.bool true)) (.tmp 24), 4, none⟩]
def r63_3 : List O := [⟨some 26, .build 79 #[], 79, none⟩,
  ⟨some 6, .assign (.const (.int .i64 0)), 3, none⟩,
  ⟨none, .store 79 (.tmp 7) (.tmp 26), 0, none⟩]
def r63_4 : List (Nat × O) := [(2, ⟨some 28, .fieldAddr 82 (.tmp 5) 0, 0, none⟩),
  (1, ⟨some 29, .load 68 (.tmp 28), 68, none⟩),
  (2, ⟨some 30, .indexAddr 68 (.tmp 29) (.const (.int .i64 0)), 0, none⟩),
  (2, ⟨some 31, .fieldAddr 73 (.tmp 30) 1, 0, none⟩),
  (1, ⟨some 32, .load 9 (.tmp 31), 9, none⟩),
  (2, ⟨some 33, .move (.tmp 0), 74, none⟩),
  (2, ⟨some 34, .nilCheck (.tmp 33), 0, none⟩),
  (2, ⟨some 35, .fieldAddr 77 (.tmp 34) 0, 0, none⟩),
  (1, ⟨some 36, .load 22 (.tmp 35), 22, none⟩),
  (0, ⟨some 37, .call { callee := .value (.func 12), args := #[.tmp 32, .tmp 36], argTypes := #[9, 22] }, 28, none⟩),
  (2, ⟨some 27, .move (.tmp 37), 28, none⟩),
  (2, ⟨some 38, .extract (.tmp 27) 0, 9, none⟩),
  (2, ⟨some 39, .extract (.tmp 27) 1, 25, none⟩),
  (2, ⟨some 8, .assign (.tmp 38), 9, none⟩),
  (2, ⟨some 9, .assign (.tmp 39), 25, none⟩)]
def r63_5 : List O := [⟨some 40, .move (.tmp 9), 25, none⟩,
  ⟨some 41, .binOp .neq 25 (.tmp 40) (.const (.int .i64 0)) 25, 4, none⟩]
def r63_6 : List O := [⟨some 42, .load 82 (.tmp 5), 82, none⟩,
  ⟨some 43, .move (.tmp 9), 25, none⟩,
  ⟨some 44, .call { callee := .value (.func 91), args := #[.tmp 42, .tmp 43], argTypes := #[82, 25] }, 79, none⟩,
  ⟨some 6, .assign (.const (.int .i64 0)), 3, none⟩,
  ⟨none, .store 79 (.tmp 7) (.tmp 44), 0, none⟩]
def r63_7 : List O := [⟨some 46, .move (.tmp 8), 9, none⟩,
  ⟨some 47, .call { callee := .value (.func 10), args := #[.tmp 46], argTypes := #[9] }, 26, none⟩,
  ⟨some 45, .move (.tmp 47), 26, none⟩,
  ⟨some 48, .extract (.tmp 45) 0, 24, none⟩,
  ⟨some 49, .extract (.tmp 45) 1, 25, none⟩,
  ⟨some 10, .assign (.tmp 48), 24, none⟩,
  ⟨some 9, .assign (.tmp 49), 25, none⟩]
def r63_8 : List O := [⟨some 50, .move (.tmp 9), 25, none⟩,
  ⟨some 51, .binOp .neq 25 (.tmp 50) (.const (.int .i64 0)) 25, 4, none⟩]
def r63_9 : List O := [⟨some 52, .load 82 (.tmp 5), 82, none⟩,
  ⟨some 53, .move (.tmp 9), 25, none⟩,
  ⟨some 54, .call { callee := .value (.func 91), args := #[.tmp 52, .tmp 53], argTypes := #[82, 25] }, 79, none⟩,
  ⟨some 6, .assign (.const (.int .i64 0)), 3, none⟩,
  ⟨none, .store 79 (.tmp 7) (.tmp 54), 0, none⟩]
def r63_10 : List O := [⟨some 55, .move (.tmp 10), 24, none⟩,
  ⟨some 56, .call { callee := .builtin .len, args := #[.tmp 55], argTypes := #[24] }, 3, none⟩,
  ⟨some 57, .binOp .eql 3 (.tmp 56) (.const (.int .i64 0)) 3, 4, none⟩]
def r63_11 : List O := [⟨some 58, .build 79 #[], 79, none⟩,
  ⟨some 6, .assign (.const (.int .i64 0)), 3, none⟩,
  ⟨none, .store 79 (.tmp 7) (.tmp 58), 0, none⟩]
def r63_12 : List O := [⟨some 60, .move (.tmp 1), 100, none⟩,
  ⟨some 61, .move (.tmp 10), 24, none⟩,
  ⟨some 62, .indexAddr 24 (.tmp 61) (.const (.int .i64 0)), 0, none⟩,
  ⟨some 63, .load 9 (.tmp 62), 9, none⟩,
  ⟨some 64, .lookup 100 (.tmp 60) (.tmp 63) true, 125, none⟩,
  ⟨some 59, .move (.tmp 64), 125, none⟩,
  ⟨some 65, .extract (.tmp 59) 0, 124, none⟩,
  ⟨some 66, .extract (.tmp 59) 1, 4, none⟩,
  ⟨some 11, .assign (.tmp 65), 124, none⟩,
  ⟨some 12, .assign (.tmp 66), 4, none⟩]
def r63_13 : List O := [⟨some 67, .move (.tmp 12), 4, none⟩,
  ⟨some 68, .unOp .not 4 (.tmp 67), 4, none⟩]
def r63_14 : List O := [⟨some 69, .load 82 (.tmp 5), 82, none⟩,
  ⟨some 70, .call { callee := .value (.func 91), args := #[.tmp 69, .const (.int .i64 3)], argTypes := #[82, 25] }, 79, none⟩,
  ⟨some 6, .assign (.const (.int .i64 0)), 3, none⟩,
  ⟨none, .store 79 (.tmp 7) (.tmp 70), 0, none⟩]
def r63_15 : List O := [⟨some 71, .move (.tmp 11), 124, none⟩,
  ⟨some 72, .move (.tmp 0), 74, none⟩,
  ⟨some 73, .load 82 (.tmp 5), 82, none⟩,
  ⟨some 74, .move (.tmp 10), 24, none⟩,
  ⟨some 75, .call { callee := .value (.tmp 71), args := #[.tmp 72, .tmp 73, .tmp 74], argTypes := #[74, 82, 24] }, 102, none⟩,
  ⟨some 76, .extract (.tmp 75) 0, 3, none⟩,
  ⟨some 77, .extract (.tmp 75) 1, 79, none⟩,
  ⟨some 6, .assign (.tmp 76), 3, none⟩,
  ⟨none, .store 79 (.tmp 7) (.tmp 77), 0, none⟩]
def c63_0 : A := .seq (.reg r63_3 [6, 7]) .ret
def c63_1 : A := .cond (.tmp 25) c63_0 .skip
def c63_2 : A := .seq (.reg r63_6 [6, 7]) .ret
def c63_3 : A := .cond (.tmp 41) c63_2 .skip
def c63_4 : A := .seq (.reg r63_9 [6, 7]) .ret
def c63_5 : A := .cond (.tmp 51) c63_4 .skip
def c63_6 : A := .seq (.reg r63_11 [6, 7]) .ret
def c63_7 : A := .cond (.tmp 57) c63_6 .skip
def c63_8 : A := .seq (.reg r63_14 [6, 7]) .ret
def c63_9 : A := .cond (.tmp 68) c63_8 .skip
def c63_10 : A := .seq (.reg r63_15 [6, 7]) .ret
def c63_11 : A := .seq (.seq (.reg r63_13 [0, 5, 7, 10, 11, 68]) c63_9) (.seq (.keep [0, 5, 7, 10, 11]) c63_10)
def c63_12 : A := .seq (.reg r63_12 [0, 5, 7, 10, 11, 12]) c63_11
def c63_13 : A := .seq (.seq (.reg r63_10 [0, 1, 5, 7, 10, 57]) c63_7) (.seq (.keep [0, 1, 5, 7, 10]) c63_12)
def c63_14 : A := .seq (.seq (.reg r63_8 [0, 1, 5, 7, 9, 10, 51]) c63_5) (.seq (.keep [0, 1, 5, 7, 10]) c63_13)
def c63_15 : A := .seq (.reg r63_7 [0, 1, 5, 7, 9, 10]) c63_14
def c63_16 : A := .seq (.seq (.reg r63_5 [0, 1, 5, 7, 8, 9, 41]) c63_3) (.seq (.keep [0, 1, 5, 7, 8]) c63_15)
def c63_17 : A := .seq (.drn r63_4 [0, 1, 5, 7, 8, 9]) c63_16
def c63_18 : A := .seq (.seq (.reg r63_2 [0, 1, 5, 7, 25]) c63_1) (.seq (.keep [0, 1, 5, 7]) c63_17)
def c63_19 : A := .seq (.reg r63_1 [0, 1, 5, 7, 8]) c63_18
def c63 : A := .seq (.reg r63_0 [0, 1, 5, 7]) c63_19
theorem B63 : Body Tryd.prog 63 78 [.tmp 6, .cell 7 79] c63 := ⟨by kernel_rfl, _, _, [(0, [0, 1, 5, 7]), (1, [0, 1, 5, 7, 8]), (2, [0, 1, 5, 7, 25]), (3, [6, 7]), (4, [0, 1, 5, 7, 8, 9]), (5, [0, 1, 5, 7, 8, 9, 41]), (6, [6, 7]), (7, [0, 1, 5, 7, 9, 10]), (8, [0, 1, 5, 7, 9, 10, 51]), (9, [6, 7]), (10, [0, 1, 5, 7, 10, 57]), (11, [6, 7]), (12, [0, 5, 7, 10, 11, 12]), (13, [0, 5, 7, 10, 11, 68]), (14, [6, 7]), (15, [6, 7]), (2004, [0, 1, 5, 7]), (2007, [0, 1, 5, 7, 8]), (2010, [0, 1, 5, 7, 10]), (2012, [0, 1, 5, 7, 10]), (2015, [0, 5, 7, 10, 11]), (5004, [2, 5, 10, 14, 17, 22, 26, 30, 33, 36, 42, 46, 50, 54, 58])], Tryd.func63, rfl, rfl, rfl, by kernel_rfl⟩
/-! ### 62 dasd/jobtext.handlers -/
def r62_0 : List O := [⟨some 0, .assign (.const (.map none)), 100, none⟩]
def r62_1 : List O := [⟨some 1, .makeMap 100 none, 100, none⟩,
  ⟨none, .insert 100 (.tmp 1) (.const (.string ⟨#[115, 101, 116]⟩)) (.func 86), 0, none⟩,
  ⟨none, .insert 100 (.tmp 1) (.const (.string ⟨#[112, 114, 111, 99]⟩)) (.func 87), 0, none⟩,
  ⟨none, .insert 100 (.tmp 1) (.const (.string ⟨#[101, 110, 100]⟩)) (.func 88), 0, none⟩,
  ⟨none, .insert 100 (.tmp 1) (.const (.string ⟨#[99, 97, 108, 108]⟩)) (.func 89), 0, none⟩,
  ⟨none, .insert 100 (.tmp 1) (.const (.string ⟨#[106, 111, 98]⟩)) (.func 90), 0, none⟩,
  ⟨none, .insert 100 (.tmp 1) (.const (.string ⟨#[115, 116, 101, 112]⟩)) (.func 90), 0, none⟩,
  ⟨none, .insert 100 (.tmp 1) (.const (.string ⟨#[100, 100]⟩)) (.func 90), 0, none⟩,
  ⟨some 2, .move (.tmp 1), 100, none⟩,
  ⟨some 0, .assign (.tmp 2), 100, none⟩]
def c62_0 : A := .seq (.reg r62_1 [0]) .ret
def c62 : A := .seq (.reg r62_0 []) c62_0
theorem B62 : Body Tryd.prog 62 3 [.tmp 0] c62 := ⟨by kernel_rfl, _, _, [(0, []), (1, [0])], Tryd.func62, rfl, rfl, rfl, by kernel_rfl⟩
/-! ### 91 (dasd/jobtext.place).at -/
def r91_0 : List O := [⟨some 2, .box 82 (.tmp 0), 0, none⟩,
  ⟨some 4, .alloc 79, 0, none⟩]
def r91_1 : List O := [⟨some 5, .fieldAddr 82 (.tmp 2) 0, 0, none⟩,
  ⟨some 6, .load 68 (.tmp 5), 68, none⟩,
  ⟨some 7, .indexAddr 68 (.tmp 6) (.const (.int .i64 0)), 0, none⟩,
  ⟨some 8, .fieldAddr 73 (.tmp 7) 0, 0, none⟩,
  ⟨some 9, .load 3 (.tmp 8), 3, none⟩,
  ⟨some 10, .move (.tmp 1), 25, none⟩,
  ⟨some 11, .build 79 #[(0, .tmp 9), (1, .tmp 10)], 79, none⟩,
  ⟨none, .store 79 (.tmp 4) (.tmp 11), 0, none⟩]
def c91_0 : A := .seq (.reg r91_1 [4]) .ret
def c91 : A := .seq (.reg r91_0 [1, 2, 4]) c91_0
theorem B91 : Body Tryd.prog 91 12 [.cell 4 79] c91 := ⟨by kernel_rfl, _, _, [(0, [1, 2, 4]), (1, [4])], Tryd.func91, rfl, rfl, rfl, by kernel_rfl⟩
/-! ### 90 (*dasd/jobtext.reader).statement -/
def r90_0 : List O := [⟨some 4, .box 82 (.tmp 1), 0, none⟩,
  ⟨some 6, .assign (.const (.int .i64 0)), 3, none⟩,
  ⟨some 7, .alloc 79, 0, none⟩]
def r90_1 : List O := [⟨some 12, .move (.tmp 0), 74, none⟩,
  ⟨some 13, .nilCheck (.tmp 12), 0, none⟩,
  ⟨some 14, .fieldAddr 77 (.tmp 13) 2, 0, none⟩,
  ⟨some 15, .load 36 (.tmp 14), 36, none⟩,
  ⟨some 16, .call { callee := .builtin .len, args := #[.tmp 15], argTypes := #[36] }, 3, none⟩,
  ⟨some 17, .binOp .geq 3 (.tmp 16) (.const (.int .i64 400)) 3, 4, none⟩]
def r90_2 : List O := [⟨some 18, .load 82 (.tmp 4), 82, none⟩,
  ⟨some 19, .call { callee := .value (.func 91), args := #[.tmp 18, .const (.int .i64 8)], argTypes := #[82, 25] }, 79, none⟩,
  ⟨some 6, .assign (.const (.int .i64 0)), 3, none⟩,
  ⟨none, .store 79 (.tmp 7) (.tmp 19), 0, none⟩]
def r90_3 : List (Nat × O) := [(2, ⟨some 20, .fieldAddr 82 (.tmp 4) 0, 0, none⟩),
  (1, ⟨some 21, .load 68 (.tmp 20), 68, none⟩),
  (2, ⟨some 22, .indexAddr 68 (.tmp 21) (.const (.int .i64 0)), 0, none⟩),
  (2, ⟨some 23, .fieldAddr 73 (.tmp 22) 0, 0, none⟩),
  (1, ⟨some 24, .load 3 (.tmp 23), 3, none⟩),
  (2, ⟨some 25, .fieldAddr 82 (.tmp 4) 1, 0, none⟩),
  (1, ⟨some 26, .load 9 (.tmp 25), 9, none⟩),
  (2, ⟨some 27, .move (.tmp 2), 24, none⟩),
  (2, ⟨some 28, .build 40 #[(0, .tmp 24), (1, .tmp 26), (2, .tmp 27)], 40, none⟩),
  (3, ⟨some 8, .alloc 40, 0, none⟩),
  (0, ⟨none, .store 40 (.tmp 8) (.tmp 28), 0, none⟩)]
def r90_4 : List O := [⟨some 9, .assign (.const (.int .i64 0)), 3, none⟩]
def r90_5 : List O := [⟨some 29, .move (.tmp 2), 24, none⟩,
  ⟨some 30, .indexAddr 24 (.tmp 29) (.const (.int .i64 0)), 0, none⟩,
  ⟨some 31, .load 9 (.tmp 30), 9, none⟩,
  ⟨some 32, .binOp .eql 9 (.tmp 31) (.const (.string ⟨#[100, 100]⟩)) 9, 4, none⟩,
  ⟨some 33, .move (.tmp 32), 4, none⟩,
  ⟨some 34, .move (.tmp 2), 24, some (33, true)⟩,
  ⟨some 35, .call { callee := .builtin .len, args := #[.tmp 34], argTypes := #[24] }, 3, some (33, true)⟩,
  ⟨some 36, .binOp .eql 3 (.tmp 35) (.const (.int .i64 3)) 3, 4, some (33, true)⟩,
  ⟨some 37, .pick (.tmp 33) (.tmp 36) (.const (.bool false)), 4, none⟩,
  ⟨some 38, .move (.tmp 37), 4, none⟩,
  ⟨some 39, .move (.tmp 2), 24, some (38, true)⟩,
  ⟨some 40, .indexAddr 24 (.tmp 39) (.const (.int .i64 2)), 0, some (38, true)⟩,
  ⟨some 41, .load 9 (.tmp 40), 9, some (38, true)⟩,
  ⟨some 42, .binOp .eql 9 (.tmp 41) (.const (.string ⟨#[105, 110, 108, 105, 110, 101]⟩)) 9, 4, some (38, true)⟩,
  ⟨some 43, .pick (.tmp 38) (.tmp 42) (.const (.bool false)), 4, none⟩]
def r90_6 : List O := [⟨some 45, .load 82 (.tmp 4), 82, none⟩,
  ⟨some 46, .call { callee := .value (.func 101), args := #[.tmp 45], argTypes := #[82] }, 141, none⟩,
  ⟨some 44, .move (.tmp 46), 141, none⟩,
  ⟨some 47, .extract (.tmp 44) 0, 24, none⟩,
  ⟨some 48, .extract (.tmp 44) 1, 79, none⟩,
  ⟨some 11, .alloc 79, 0, none⟩,
  ⟨some 10, .assign (.tmp 47), 24, none⟩,
  ⟨none, .store 79 (.tmp 11) (.tmp 48), 0, none⟩]
def r90_7 : List O := [⟨some 49, .fieldAddr 79 (.tmp 11) 1, 0, none⟩,
  ⟨some 50, .load 25 (.tmp 49), 25, none⟩,
  ⟨some 51, .binOp .neq 25 (.tmp 50) (.const (.int .i64 0)) 25, 4, none⟩]
def r90_8 : List O := [⟨some 52, .load 79 (.tmp 11), 79, none⟩,
  ⟨some 6, .assign (.const (.int .i64 0)), 3, none⟩,
  ⟨none, .store 79 (.tmp 7) (.tmp 52), 0, none⟩]
def r90_9 : List O := [⟨some 53, .move (.tmp 10), 24, none⟩,
  ⟨some 54, .move (.tmp 10), 24, none⟩,
  ⟨some 55, .call { callee := .builtin .len, args := #[.tmp 54], argTypes := #[24] }, 3, none⟩,
  ⟨some 56, .binOp .add 3 (.tmp 55) (.const (.int .i64 1)) 3, 3, none⟩,
  ⟨some 57, .fieldAddr 40 (.tmp 8) 3, 0, none⟩,
  ⟨none, .store 24 (.tmp 57) (.tmp 53), 0, none⟩,
  ⟨some 9, .assign (.tmp 56), 3, none⟩]
def r90_10 : List (Nat × O) := [(2, ⟨some 58, .move (.tmp 0), 74, none⟩),
  (2, ⟨some 59, .move (.tmp 0), 74, none⟩),
  (2, ⟨some 60, .nilCheck (.tmp 59), 0, none⟩),
  (2, ⟨some 61, .fieldAddr 77 (.tmp 60) 2, 0, none⟩),
  (1, ⟨some 62, .load 36 (.tmp 61), 36, none⟩),
  (1, ⟨some 63, .load 40 (.tmp 8), 40, none⟩),
  (3, ⟨some 64, .buildSlice 36 1 #[(0, .tmp 63)], 36, none⟩),
  (0, ⟨some 65, .call { callee := .builtin .append, args := #[.tmp 62, .tmp 64], argTypes := #[36, 36] }, 36, none⟩),
  (2, ⟨some 66, .nilCheck (.tmp 58), 0, none⟩),
  (2, ⟨some 67, .fieldAddr 77 (.tmp 66) 2, 0, none⟩),
  (0, ⟨none, .store 36 (.tmp 67) (.tmp 65), 0, none⟩)]
def r90_11 : List O := [⟨some 68, .move (.tmp 9), 3, none⟩,
  ⟨some 69, .build 79 #[], 79, none⟩,
  ⟨some 6, .assign (.tmp 68), 3, none⟩,
  ⟨none, .store 79 (.tmp 7) (.tmp 69), 0, none⟩]
def c90_0 : A := .seq (.reg r90_2 [6, 7]) .ret
def c90_1 : A := .cond (.tmp 17) c90_0 .skip
def c90_2 : A := .seq (.draw 2 r90_8 [6, 7]) .ret
def c90_3 : A := .cond (.tmp 51) c90_2 .skip
def c90_4 : A := .seq (.seq (.reg r90_7 [0, 7, 8, 10, 11, 51]) c90_3) (.seq (.keep [0, 7, 8, 10]) (.reg r90_9 [0, 7, 8, 9]))
def c90_5 : A := .seq (.reg r90_6 [0, 7, 8, 10, 11]) c90_4
def c90_6 : A := .cond (.tmp 43) c90_5 .skip
def c90_7 : A := .seq (.reg r90_11 [6, 7]) .ret
def c90_8 : A := .seq (.drn r90_10 [7, 9]) c90_7
def c90_9 : A := .seq (.seq (.reg r90_5 [0, 4, 7, 8, 9, 43]) c90_6) (.seq (.keep [0, 7, 8, 9]) c90_8)
def c90_10 : A := .seq (.reg r90_4 [0, 2, 4, 7, 8, 9]) c90_9
def c90_11 : A := .seq (.drn r90_3 [0, 2, 4, 7, 8]) c90_10
def c90_12 : A := .seq (.seq (.reg r90_1 [0, 2, 4, 7, 17]) c90_1) (.seq (.keep [0, 2, 4, 7]) c90_11)
def c90 : A := .seq (.reg r90_0 [0, 2, 4, 7]) c90_12
theorem B90 : Body Tryd.prog 90 70 [.tmp 6, .cell 7 79] c90 := ⟨by kernel_rfl, _, _, [(0, [0, 2, 4, 7]), (1, [0, 2, 4, 7, 17]), (2, [6, 7]), (3, [0, 2, 4, 7, 8]), (4, [0, 2, 4, 7, 8, 9]), (5, [0, 4, 7, 8, 9, 43]), (6, [0, 7, 8, 10, 11]), (7, [0, 7, 8, 10, 11, 51]), (8, [6, 7]), (9, [0, 7, 8, 9]), (10, [7, 9]), (11, [6, 7]), (2003, [0, 2, 4, 7]), (2009, [0, 7, 8, 10]), (2010, [0, 7, 8, 9]), (5003, [2, 5, 10, 14, 17, 22, 25, 30, 34, 39, 40]), (5010, [2, 6, 10, 14, 17, 21, 27, 28, 34, 38, 40])], Tryd.func90, rfl, rfl, rfl, by kernel_rfl⟩
/-! ### 101 dasd/jobtext.inline -/
def r101_0 : List O := [⟨some 1, .box 82 (.tmp 0), 0, none⟩,
  ⟨some 2, .assign (.const (.slice none 0 0)), 24, none⟩,
  ⟨some 3, .alloc 79, 0, none⟩]
def r101_1 : List O := [⟨some 4, .assign (.const (.slice none 0 0)), 24, none⟩]
def r101_2 : List O := [⟨some 7, .fieldAddr 82 (.tmp 1) 0, 0, none⟩,
  ⟨some 8, .load 68 (.tmp 7), 68, none⟩,
  ⟨some 9, .slice 68 (.tmp 8) (some (.const (.int .i64 1))) none none, 68, none⟩,
  ⟨some 10, .call { callee := .builtin .len, args := #[.tmp 9], argTypes := #[68] }, 3, none⟩,
  ⟨some 11, .move (.const (.int .i64 0)), 3, none⟩]
def r101_3 : List O := [⟨some 12, .binOp .lss 3 (.tmp 11) (.tmp 10) 3, 0, none⟩]
def r101_4 : List O := [⟨some 13, .indexAddr 68 (.tmp 9) (.tmp 11), 0, none⟩,
  ⟨some 14, .load 73 (.tmp 13), 73, none⟩,
  ⟨some 6, .alloc 73, 0, none⟩,
  ⟨none, .store 73 (.tmp 6) (.tmp 14), 0, none⟩]
def r101_5 : List O := [⟨some 16, .fieldAddr 73 (.tmp 6) 1, 0, none⟩,
  ⟨some 17, .load 9 (.tmp 16), 9, none⟩,
  ⟨some 18, .binOp .eql 9 (.tmp 17) (.const (.string ⟨#[47, 42]⟩)) 9, 4, none⟩,
  ⟨some 15, .assign (.tmp 18), 4, none⟩]
def r101_6 : List O := [⟨some 19, .move (.tmp 4), 24, none⟩,
  ⟨some 20, .build 79 #[], 79, none⟩,
  ⟨some 2, .assign (.tmp 19), 24, none⟩,
  ⟨none, .store 79 (.tmp 3) (.tmp 20), 0, none⟩]
def r101_7 : List O := [⟨some 22, .move (.tmp 4), 24, none⟩,
  ⟨some 23, .call { callee := .builtin .len, args := #[.tmp 22], argTypes := #[24] }, 3, none⟩,
  ⟨some 24, .binOp .geq 3 (.tmp 23) (.const (.int .i64 64)) 3, 4, none⟩,
  ⟨some 25, .move (.tmp 24), 4, none⟩,
  ⟨some 26, .fieldAddr 73 (.tmp 6) 1, 0, some (25, false)⟩,
  ⟨some 27, .load 9 (.tmp 26), 9, some (25, false)⟩,
  ⟨some 28, .call { callee := .builtin .len, args := #[.tmp 27], argTypes := #[9] }, 3, some (25, false)⟩,
  ⟨some 29, .binOp .gtr 3 (.tmp 28) (.const (.int .i64 200)) 3, 4, some (25, false)⟩,
  ⟨some 30, .pick (.tmp 25) (.const (.bool true)) (.tmp 29), 4, none⟩,
  ⟨some 21, .assign (.tmp 30), 4, none⟩]
def r101_8 : List O := [⟨some 31, .fieldAddr 73 (.tmp 6) 0, 0, none⟩,
  ⟨some 32, .load 3 (.tmp 31), 3, none⟩,
  ⟨some 33, .build 79 #[(0, .tmp 32), (1, .const (.int .i64 8))], 79, none⟩,
  ⟨some 2, .assign (.const (.slice none 0 0)), 24, none⟩,
  ⟨none, .store 79 (.tmp 3) (.tmp 33), 0, none⟩]
def r101_9 : List O := [⟨some 34, .move (.tmp 4), 24, none⟩,
  ⟨some 35, .fieldAddr 73 (.tmp 6) 1, 0, none⟩,
  ⟨some 36, .load 9 (.tmp 35), 9, none⟩,
  ⟨some 37, .buildSlice 24 1 #[(0, .tmp 36)], 24, none⟩,
  ⟨some 38, .call { callee := .builtin .append, args := #[.tmp 34, .tmp 37], argTypes := #[24, 24] }, 24, none⟩,
  ⟨some 4, .assign (.tmp 38), 24, none⟩]
def r101_10 : List O := [⟨some 39, .binOp .add 3 (.tmp 11) (.const (.int .i64 1)) 3, 3, none⟩,
  ⟨some 11, .move (.tmp 39), 3, none⟩]
def r101_11 : List O := [⟨some 40, .load 82 (.tmp 1), 82, none⟩,
  ⟨some 41, .call { callee := .value (.func 91), args := #[.tmp 40, .const (.int .i64 3)], argTypes := #[82, 25] }, 79, none⟩,
  ⟨some 2, .assign (.const (.slice none 0 0)), 24, none⟩,
  ⟨none, .store 79 (.tmp 3) (.tmp 41), 0, none⟩]
def c101_0 : A := .seq (.reg r101_6 [2, 3]) .ret
def c101_1 : A := .seq (.draw 4 r101_8 [2, 3]) .ret
def c101_2 : A := .cond (.tmp 21) c101_1 .skip
def c101_3 : A := .seq (.reg r101_7 [1, 3, 4, 6, 9, 10, 11, 21]) c101_2
def c101_4 : A := .cond (.tmp 15) c101_0 c101_3
def c101_5 : A := .seq (.reg r101_5 [1, 3, 4, 6, 9, 10, 11, 15]) c101_4
def c101_6 : A := .seq (.block 2 c101_5) (.reg r101_9 [1, 3, 4, 9, 10, 11])
def c101_7 : A := .seq (.reg r101_4 [1, 3, 4, 6, 9, 10, 11]) c101_6
def c101_8 : A := .seq (.block 1 c101_7) (.reg r101_10 [1, 3, 4, 9, 10, 11])
def c101_9 : A := .seq (.cond (.tmp 12) .skip (.exit 0)) (.seq (.keep [1, 3, 4, 9, 10, 11]) c101_8)
def c101_10 : A := .seq (.reg r101_3 [1, 3, 4, 9, 10, 11, 12]) c101_9
def c101_11 : A := .seq c101_10 (.keep [1, 3, 4, 9, 10, 11])
def c101_12 : A := .loop c101_11
def c101_13 : A := .block 0 c101_12
def c101_14 : A := .seq (.reg r101_11 [2, 3]) .ret
def c101_15 : A := .seq (.seq (.reg r101_2 [1, 3, 4, 9, 10, 11]) c101_13) c101_14
def c101_16 : A := .seq (.reg r101_1 [1, 3, 4]) c101_15
def c101 : A := .seq (.reg r101_0 [1, 3]) c101_16
theorem B101 : Body Tryd.prog 101 42 [.tmp 2, .cell 3 79] c101 := ⟨by kernel_rfl, _, _, [(0, [1, 3]), (1, [1, 3, 4]), (2, [1, 3, 4, 9, 10, 11]), (3, [1, 3, 4, 9, 10, 11, 12]), (4, [1, 3, 4, 6, 9, 10, 11]), (5, [1, 3, 4, 6, 9, 10, 11, 15]), (6, [2, 3]), (7, [1, 3, 4, 6, 9, 10, 11, 21]), (8, [2, 3]), (9, [1, 3, 4, 9, 10, 11]), (10, [1, 3, 4, 9, 10, 11]), (11, [2, 3]), (1003, [1, 3, 4, 9, 10, 11]), (2004, [1, 3, 4, 9, 10, 11])], Tryd.func101, rfl, rfl, rfl, by kernel_rfl⟩
end Go.Proofs.YtoabcmhiaknjiaaDoor

/- Contracts of jobtext: strings.Lines, handlers, at, inline, statement. -/
set_option maxRecDepth 100000
set_option linter.unusedSimpArgs false
set_option linter.unusedVariables false
namespace Go.Proofs.YtoabcmhiaknjiaaDoor
open Go.Hw

theorem indexByte_nl : ∀ (l : List UInt8), (Lib.indexByte l 10 = -1 ∧ l.takeWhile notNl = l ∧ l.dropWhile notNl = []) ∨ (Lib.indexByte l 10 = ((l.takeWhile notNl).length : Int) ∧ l.dropWhile notNl ≠ [] ∧ (l.dropWhile notNl).head? = some 10)
  | [] => .inl ⟨rfl, rfl, rfl⟩
  | b :: r => by
    unfold Lib.indexByte
    by_cases hb : b = 10
    · subst hb
      refine .inr ⟨?_, ?_, ?_⟩ <;> simp [notNl]
    · have e1 : (b == 10) = false := by simpa using hb
      have e2 : notNl b = true := by simp [notNl, hb]
      rw [List.takeWhile_cons_of_pos e2, List.dropWhile_cons_of_pos e2]
      rw [e1]
      rcases indexByte_nl r with ⟨h1, h2, h3⟩ | ⟨h1, h2, h3⟩
      · refine .inl ⟨?_, by rw [h2], h3⟩
        simp [h1]
      · refine .inr ⟨?_, h2, h3⟩
        have hne : ¬ (Lib.indexByte r 10 == -1) = true := by rw [h1]; simp
        simp only [Bool.false_eq_true, if_false]
        rw [if_neg hne, h1]
        simp

theorem lineHd_take {l : List UInt8} {i : Nat} (hi : i = (l.takeWhile notNl).length) : l.take (i + 1) = lineHd l ∧ l.drop (i + 1) = lineTl l := by
  subst hi
  have h := List.takeWhile_append_dropWhile (p := notNl) (l := l)
  unfold lineHd lineTl
  constructor
  · conv => lhs; arg 2; rw [← h]
    rw [List.take_append, List.take_of_length_le (by omega)]
    congr 1
    congr 1
    omega
  · conv => lhs; arg 2; rw [← h]
    rw [List.drop_append, List.drop_of_length_le (by omega), List.nil_append]
    congr 1
    omega

/-- The iterator of strings.Lines. -/
theorem lines1_c {l b : Nat} {lp : Loop} (hps : lp.params.size = 1) (J : List UInt8 → Hp → Prop)
    (hJ : ∀ t G, J t G → G[b]? = some (.cells #[.string (B t)] 9 (0, 0)) ∧ G[l]? = some (.loop lp) ∧ l ≠ b)
    (hy : ∀ (t : List UInt8) (G G1 : Hp) (K : Ending → Hp → Prop), t ≠ [] → J t G → G1[b]? = some (.cells #[.string (B (lineTl t))] 9 (0, 0)) → Keep (· = b) G G1 → (∀ G', J (lineTl t) G' → K (.returned (.bool true)) G') → HYield Tryd.prog l lp [.string (B (lineHd t))] G1 K)
    (s : List UInt8) (H : Hp) (h0 : J s H) (hs : s.length < 1000000000000) {K : Ending → Hp → Prop} (k : ∀ G, J [] G → K (.returned (.tuple #[])) G) : HCall Tryd.prog 60 #[.func (.yield l) #[] #[], .pointer (some ⟨b, 0, none⟩)] H K := by
  refine hcall mixed B60 (args := [.func (.yield l) #[] #[], .pointer (some ⟨b, 0, none⟩)]) (by simp) ?_
  simp only [go_sem, reduceCtorEq, Nat.reduceEqDiff, Nat.reduceAdd, c60]
  refine aw_while (L := c60_10) rfl (fun m F G => ∃ t : List UInt8, m = t.length ∧ F = [(0, .func (.yield l) #[] #[]), (1, .pointer (some ⟨b, 0, none⟩))] ∧ J t G ∧ t.length ≤ s.length) (m := s.length)
    ⟨s, rfl, rfl, h0, Nat.le_refl _⟩ ?_
  rintro m F G ih ⟨t, rfl, rfl, hj, hts⟩
  obtain ⟨hb, hl, hne⟩ := hJ t G hj
  have hc := cell_of_blk (off := 0) hb
  by_cases ht : t = []
  · subst ht
    simp only [go_sem, reduceCtorEq, Nat.reduceEqDiff, Nat.reduceAdd, withc_some, withcs_some, cells_0, cells_s, Option.bind_some, Option.map_some, List.getElem?_toArray, List.getElem?_cons_zero, List.getElem?_cons_succ, Nat.add_zero, Nat.zero_add, Value.cells, splice, List.setIfInBounds_toArray, List.set_cons_zero, List.set_cons_succ, bfill_nil, bfill_cons, bstep_some, withO_some, List.take_zero, List.take_succ_cons, List.drop_zero, List.drop_succ_cons, List.cons_append, List.nil_append, List.append_nil, List.length_cons, List.length_nil, Nat.reduceLeDiff, Nat.le_refl, and_true, true_and, and_self, decide_true, decide_false, Bool.not_true, Bool.not_false, c60_9, c60_8, r60_0, hc, c60_0, List.length_nil, ld9, len_B Tryd.underlying9]
    have e1 : decide ((0 : Int) < ((0 : Nat) : Int)) = false := by decide
    simp only [go_sem, reduceCtorEq, Nat.reduceEqDiff, Nat.reduceAdd, withc_some, withcs_some, cells_0, cells_s, Option.bind_some, Option.map_some, List.getElem?_toArray, List.getElem?_cons_zero, List.getElem?_cons_succ, Nat.add_zero, Nat.zero_add, Value.cells, splice, List.setIfInBounds_toArray, List.set_cons_zero, List.set_cons_succ, bfill_nil, bfill_cons, bstep_some, withO_some, List.take_zero, List.take_succ_cons, List.drop_zero, List.drop_succ_cons, List.cons_append, List.nil_append, List.append_nil, List.length_cons, List.length_nil, Nat.reduceLeDiff, Nat.le_refl, and_true, true_and, and_self, decide_true, decide_false, Bool.not_true, Bool.not_false, e1, ld9, len_B Tryd.underlying9]
    exact k G hj
  · have hlen := List.length_pos_iff.2 ht
    have hltl := lineTl_len ht
    have e1 : decide ((0 : Int) < (t.length : Int)) = true := by rw [decide_eq_true_eq]; omega
    simp only [go_sem, reduceCtorEq, Nat.reduceEqDiff, Nat.reduceAdd, withc_some, withcs_some, cells_0, cells_s, Option.bind_some, Option.map_some, List.getElem?_toArray, List.getElem?_cons_zero, List.getElem?_cons_succ, Nat.add_zero, Nat.zero_add, Value.cells, splice, List.setIfInBounds_toArray, List.set_cons_zero, List.set_cons_succ, bfill_nil, bfill_cons, bstep_some, withO_some, List.take_zero, List.take_succ_cons, List.drop_zero, List.drop_succ_cons, List.cons_append, List.nil_append, List.append_nil, List.length_cons, List.length_nil, Nat.reduceLeDiff, Nat.le_refl, and_true, true_and, and_self, decide_true, decide_false, Bool.not_true, Bool.not_false, c60_9, c60_8, r60_0, hc, c60_0, e1, c60_7, c60_6, r60_1, c60_5, r60_2, callA_fn0 pl25, ld9, len_B Tryd.underlying9]
    refine indexByte_c t 10 ?_
    simp only [go_sem, reduceCtorEq, Nat.reduceEqDiff, Nat.reduceAdd, withc_some, withcs_some, cells_0, cells_s, Option.bind_some, Option.map_some, List.getElem?_toArray, List.getElem?_cons_zero, List.getElem?_cons_succ, Nat.add_zero, Nat.zero_add, Value.cells, splice, List.setIfInBounds_toArray, List.set_cons_zero, List.set_cons_succ, bfill_nil, bfill_cons, bstep_some, withO_some, List.take_zero, List.take_succ_cons, List.drop_zero, List.drop_succ_cons, List.cons_append, List.nil_append, List.append_nil, List.length_cons, List.length_nil, Nat.reduceLeDiff, Nat.le_refl, and_true, true_and, and_self, decide_true, decide_false, Bool.not_true, Bool.not_false, c60_2, r60_3, callA_fn0 pl25, ld9, len_B Tryd.underlying9]
    have tail : ∀ G1 : Hp, G1[b]? = some (.cells #[.string (B (lineTl t))] 9 (0, 0)) → Keep (· = b) G G1 → aw Tryd.prog 25 c60_4 (blkE 1 (seqQ Tryd.prog 25 (.keep [0, 1]) (seqQ Tryd.prog 25 c60_10 (blkE 0 (retK Tryd.prog [] K))))) [(0, .func (.yield l) #[] #[]), (1, .pointer (some ⟨b, 0, none⟩)), (3, .string (B (lineHd t)))] G1 := by
      intro G1 h1 h2
      simp only [go_sem, reduceCtorEq, Nat.reduceEqDiff, Nat.reduceAdd, withc_some, withcs_some, cells_0, cells_s, Option.bind_some, Option.map_some, List.getElem?_toArray, List.getElem?_cons_zero, List.getElem?_cons_succ, Nat.add_zero, Nat.zero_add, Value.cells, splice, List.setIfInBounds_toArray, List.set_cons_zero, List.set_cons_succ, bfill_nil, bfill_cons, bstep_some, withO_some, List.take_zero, List.take_succ_cons, List.drop_zero, List.drop_succ_cons, List.cons_append, List.nil_append, List.append_nil, List.length_cons, List.length_nil, Nat.reduceLeDiff, Nat.le_refl, and_true, true_and, and_self, decide_true, decide_false, Bool.not_true, Bool.not_false, c60_4, r60_6, callA_fn0 pl25, ld9, len_B Tryd.underlying9]
      rw [callA_yield (vs := [.string (B (lineHd t))]) (h2.get hl hne) (by rw [hps]; rfl)]
      refine hy t G G1 _ ht hj h1 h2 fun G' hj' => ?_
      simp only [go_sem, reduceCtorEq, Nat.reduceEqDiff, Nat.reduceAdd, withc_some, withcs_some, cells_0, cells_s, Option.bind_some, Option.map_some, List.getElem?_toArray, List.getElem?_cons_zero, List.getElem?_cons_succ, Nat.add_zero, Nat.zero_add, Value.cells, splice, List.setIfInBounds_toArray, List.set_cons_zero, List.set_cons_succ, bfill_nil, bfill_cons, bstep_some, withO_some, List.take_zero, List.take_succ_cons, List.drop_zero, List.drop_succ_cons, List.cons_append, List.nil_append, List.append_nil, List.length_cons, List.length_nil, Nat.reduceLeDiff, Nat.le_refl, and_true, true_and, and_self, decide_true, decide_false, Bool.not_true, Bool.not_false, c60_3, callA_fn0 pl25, ld9, len_B Tryd.underlying9]
      exact ih _ _ _ (by omega) ⟨lineTl t, rfl, rfl, hj', by omega⟩
    rcases indexByte_nl t with ⟨g1, g2, g3⟩ | ⟨g1, g2, g3⟩
    · rw [g1]
      have e2 : decide ((0 : Int) ≤ -1) = false := by decide
      simp only [go_sem, reduceCtorEq, Nat.reduceEqDiff, Nat.reduceAdd, withc_some, withcs_some, cells_0, cells_s, Option.bind_some, Option.map_some, List.getElem?_toArray, List.getElem?_cons_zero, List.getElem?_cons_succ, Nat.add_zero, Nat.zero_add, Value.cells, splice, List.setIfInBounds_toArray, List.set_cons_zero, List.set_cons_succ, bfill_nil, bfill_cons, bstep_some, withO_some, List.take_zero, List.take_succ_cons, List.drop_zero, List.drop_succ_cons, List.cons_append, List.nil_append, List.append_nil, List.length_cons, List.length_nil, Nat.reduceLeDiff, Nat.le_refl, and_true, true_and, and_self, decide_true, decide_false, Bool.not_true, Bool.not_false, e2, c60_1, r60_5, hc, callA_fn0 pl25, ld9, len_B Tryd.underlying9]
      refine store_k (t := 9) hb ty9 rfl rfl (by simp) fun G1 h1 h2 _ => ?_
      simp only [go_sem, reduceCtorEq, Nat.reduceEqDiff, Nat.reduceAdd, withc_some, withcs_some, cells_0, cells_s, Option.bind_some, Option.map_some, List.getElem?_toArray, List.getElem?_cons_zero, List.getElem?_cons_succ, Nat.add_zero, Nat.zero_add, Value.cells, splice, List.setIfInBounds_toArray, List.set_cons_zero, List.set_cons_succ, bfill_nil, bfill_cons, bstep_some, withO_some, List.take_zero, List.take_succ_cons, List.drop_zero, List.drop_succ_cons, List.cons_append, List.nil_append, List.append_nil, List.length_cons, List.length_nil, Nat.reduceLeDiff, Nat.le_refl, and_true, true_and, and_self, decide_true, decide_false, Bool.not_true, Bool.not_false, callA_fn0 pl25, ld9, len_B Tryd.underlying9]
      have h3 := tail G1 (by rw [h1]; simp [Value.cells, splice, lineTl, g3]; rfl) h2
      have h4 : lineHd t = t := by unfold lineHd; rw [g2, g3]; simp
      rw [h4] at h3
      exact h3
    · rw [g1]
      have e2 : decide ((0 : Int) ≤ ((t.takeWhile notNl).length : Int)) = true := by rw [decide_eq_true_eq]; omega
      have hd := List.length_pos_iff.2 g2
      have hsum : (t.takeWhile notNl).length + (t.dropWhile notNl).length = t.length := by
        have := congrArg List.length (List.takeWhile_append_dropWhile (p := notNl) (l := t))
        rwa [List.length_append] at this
      have ht1 := lineHd_take (l := t) rfl
      simp only [go_sem, reduceCtorEq, Nat.reduceEqDiff, Nat.reduceAdd, withc_some, withcs_some, cells_0, cells_s, Option.bind_some, Option.map_some, List.getElem?_toArray, List.getElem?_cons_zero, List.getElem?_cons_succ, Nat.add_zero, Nat.zero_add, Value.cells, splice, List.setIfInBounds_toArray, List.set_cons_zero, List.set_cons_succ, bfill_nil, bfill_cons, bstep_some, withO_some, List.take_zero, List.take_succ_cons, List.drop_zero, List.drop_succ_cons, List.cons_append, List.nil_append, List.append_nil, List.length_cons, List.length_nil, Nat.reduceLeDiff, Nat.le_refl, and_true, true_and, and_self, decide_true, decide_false, Bool.not_true, Bool.not_false, e2, c60_1, r60_4, hc, wrap_one (show (t.takeWhile notNl).length + 1 ≤ 9223372036854775807 by omega), callA_fn0 pl25, ld9, len_B Tryd.underlying9, lq9]
      rw [sliQ_hi uStr (by omega) (by omega), Int.toNat_natCast, ht1.1]
      simp only [go_sem, reduceCtorEq, Nat.reduceEqDiff, Nat.reduceAdd, withc_some, withcs_some, cells_0, cells_s, Option.bind_some, Option.map_some, List.getElem?_toArray, List.getElem?_cons_zero, List.getElem?_cons_succ, Nat.add_zero, Nat.zero_add, Value.cells, splice, List.setIfInBounds_toArray, List.set_cons_zero, List.set_cons_succ, bfill_nil, bfill_cons, bstep_some, withO_some, List.take_zero, List.take_succ_cons, List.drop_zero, List.drop_succ_cons, List.cons_append, List.nil_append, List.append_nil, List.length_cons, List.length_nil, Nat.reduceLeDiff, Nat.le_refl, and_true, true_and, and_self, decide_true, decide_false, Bool.not_true, Bool.not_false, hc, wrap_one (show (t.takeWhile notNl).length + 1 ≤ 9223372036854775807 by omega), callA_fn0 pl25, ld9, len_B Tryd.underlying9, lq9]
      rw [sliQ_lo uStr (by omega) (by omega), Int.toNat_natCast, ht1.2]
      simp only [go_sem, reduceCtorEq, Nat.reduceEqDiff, Nat.reduceAdd, withc_some, withcs_some, cells_0, cells_s, Option.bind_some, Option.map_some, List.getElem?_toArray, List.getElem?_cons_zero, List.getElem?_cons_succ, Nat.add_zero, Nat.zero_add, Value.cells, splice, List.setIfInBounds_toArray, List.set_cons_zero, List.set_cons_succ, bfill_nil, bfill_cons, bstep_some, withO_some, List.take_zero, List.take_succ_cons, List.drop_zero, List.drop_succ_cons, List.cons_append, List.nil_append, List.append_nil, List.length_cons, List.length_nil, Nat.reduceLeDiff, Nat.le_refl, and_true, true_and, and_self, decide_true, decide_false, Bool.not_true, Bool.not_false, callA_fn0 pl25, ld9, len_B Tryd.underlying9, lq9]
      refine store_k (t := 9) hb ty9 rfl rfl (by simp) fun G1 h1 h2 _ => ?_
      simp only [go_sem, reduceCtorEq, Nat.reduceEqDiff, Nat.reduceAdd, withc_some, withcs_some, cells_0, cells_s, Option.bind_some, Option.map_some, List.getElem?_toArray, List.getElem?_cons_zero, List.getElem?_cons_succ, Nat.add_zero, Nat.zero_add, Value.cells, splice, List.setIfInBounds_toArray, List.set_cons_zero, List.set_cons_succ, bfill_nil, bfill_cons, bstep_some, withO_some, List.take_zero, List.take_succ_cons, List.drop_zero, List.drop_succ_cons, List.cons_append, List.nil_append, List.append_nil, List.length_cons, List.length_nil, Nat.reduceLeDiff, Nat.le_refl, and_true, true_and, and_self, decide_true, decide_false, Bool.not_true, Bool.not_false, callA_fn0 pl25, ld9, len_B Tryd.underlying9, lq9]
      exact tail G1 (by rw [h1]; rfl) h2

/-! ### Rows and places -/

def RowsV (H : Hp) (v : Value) (rows : List Row) : Prop := SlE 73 2 H v rows.length (rowsC rows)
theorem RowsV.ext {H H' : Hp} {v : Value} {rows : List Row} (h : RowsV H v rows) (e : Ext H H') : RowsV H' v rows := SlE.ext h e
theorem RowsV.at0 {H : Hp} {v : Value} {k : Nat} {t : List UInt8} {r : List Row} (h : RowsV H v ((k, t) :: r)) :
    ∃ b off c, v = .slice (some ⟨b, off, none⟩) (r.length + 1) c ∧ cellH H ⟨b, off, none⟩ = some (.int .i64 k) ∧ cellH H ⟨b, off + 1, none⟩ = some (.string (B t)) := by
  obtain ⟨b, off, c, h1, h2⟩ := SlE.cell h (i := 0) (by simp)
  refine ⟨b, off, c, h1, ?_, ?_⟩
  · obtain ⟨u, h3, h4⟩ := h2 0 (by omega)
    simp [rowsC, rowC] at h3
    rw [h3]; simpa using h4
  · obtain ⟨u, h3, h4⟩ := h2 1 (by omega)
    simp [rowsC, rowC] at h3
    rw [h3]; simpa using h4
theorem uRows : Tryd.prog.underlying 68 = some (.slice 73) := Tryd.underlying68

theorem at_c {rv : Value} {call : List UInt8} {inn : Bool} {k : Nat} {t : List UInt8} {r : List Row} {code : Int} {H : Hp} {K : Ending → Hp → Prop} (hr : RowsV H rv ((k, t) :: r))
    (h : ∀ G, Ext H G → K (.returned (.agg #[.int .i64 k, .int .i64 code])) G) : HCall Tryd.prog 91 #[.agg #[rv, .string (B call), .bool inn], .int .i64 code] H K := by
  refine hcall mixed B91 (args := [.agg #[rv, .string (B call), .bool inn], .int .i64 code]) (by simp) ?_
  obtain ⟨b, off, c, rfl, c0, c1⟩ := hr.at0
  simp only [go_sem, reduceCtorEq, Nat.reduceEqDiff, Nat.reduceAdd, withc_some, withcs_some, cells_0, cells_s, Option.bind_some, Option.map_some, List.getElem?_toArray, List.getElem?_cons_zero, List.getElem?_cons_succ, Nat.add_zero, Nat.zero_add, Value.cells, splice, List.setIfInBounds_toArray, List.set_cons_zero, List.set_cons_succ, bfill_nil, bfill_cons, bstep_some, withO_some, List.take_zero, List.take_succ_cons, List.drop_zero, List.drop_succ_cons, List.cons_append, List.nil_append, List.append_nil, List.length_cons, List.length_nil, Nat.reduceLeDiff, Nat.le_refl, and_true, true_and, and_self, decide_true, decide_false, Bool.not_true, Bool.not_false, c91, r91_0, opA_alloc 79 ty79]
  refine box_kA fun b1 G1 e1 s1 h1 E1 => ?_
  simp only [go_sem, reduceCtorEq, Nat.reduceEqDiff, Nat.reduceAdd, withc_some, withcs_some, cells_0, cells_s, Option.bind_some, Option.map_some, List.getElem?_toArray, List.getElem?_cons_zero, List.getElem?_cons_succ, Nat.add_zero, Nat.zero_add, Value.cells, splice, List.setIfInBounds_toArray, List.set_cons_zero, List.set_cons_succ, bfill_nil, bfill_cons, bstep_some, withO_some, List.take_zero, List.take_succ_cons, List.drop_zero, List.drop_succ_cons, List.cons_append, List.nil_append, List.append_nil, List.length_cons, List.length_nil, Nat.reduceLeDiff, Nat.le_refl, and_true, true_and, and_self, decide_true, decide_false, Bool.not_true, Bool.not_false, opA_alloc 79 ty79]
  refine box_kA fun b2 G2 e2 s2 h2 E2 => ?_
  simp only [go_sem, reduceCtorEq, Nat.reduceEqDiff, Nat.reduceAdd, withc_some, withcs_some, cells_0, cells_s, Option.bind_some, Option.map_some, List.getElem?_toArray, List.getElem?_cons_zero, List.getElem?_cons_succ, Nat.add_zero, Nat.zero_add, Value.cells, splice, List.setIfInBounds_toArray, List.set_cons_zero, List.set_cons_succ, bfill_nil, bfill_cons, bstep_some, withO_some, List.take_zero, List.take_succ_cons, List.drop_zero, List.drop_succ_cons, List.cons_append, List.nil_append, List.append_nil, List.length_cons, List.length_nil, Nat.reduceLeDiff, Nat.le_refl, and_true, true_and, and_self, decide_true, decide_false, Bool.not_true, Bool.not_false, c91_0, r91_1, cell_of_blk (E2.get h1), bl79, fa73_0, fa82_0, ld3, ld68, opA_alloc 79 ty79]
  rw [iadA_slice uRows ty73 (by omega) (by omega)]
  simp only [go_sem, reduceCtorEq, Nat.reduceEqDiff, Nat.reduceAdd, withc_some, withcs_some, cells_0, cells_s, Option.bind_some, Option.map_some, List.getElem?_toArray, List.getElem?_cons_zero, List.getElem?_cons_succ, Nat.add_zero, Nat.zero_add, Value.cells, splice, List.setIfInBounds_toArray, List.set_cons_zero, List.set_cons_succ, bfill_nil, bfill_cons, bstep_some, withO_some, List.take_zero, List.take_succ_cons, List.drop_zero, List.drop_succ_cons, List.cons_append, List.nil_append, List.append_nil, List.length_cons, List.length_nil, Nat.reduceLeDiff, Nat.le_refl, and_true, true_and, and_self, decide_true, decide_false, Bool.not_true, Bool.not_false, add_none, cell_ext (E1.trans E2) c0, Int.toNat_zero, Nat.zero_mul, bl79, fa73_0, fa82_0, ld3, ld68, opA_alloc 79 ty79]
  refine store_kA h2 ty79 (k := fun G3 h3 k3 _ => ?_)
  simp only [go_sem, reduceCtorEq, Nat.reduceEqDiff, Nat.reduceAdd, withc_some, withcs_some, cells_0, cells_s, Option.bind_some, Option.map_some, List.getElem?_toArray, List.getElem?_cons_zero, List.getElem?_cons_succ, Nat.add_zero, Nat.zero_add, Value.cells, splice, List.setIfInBounds_toArray, List.set_cons_zero, List.set_cons_succ, bfill_nil, bfill_cons, bstep_some, withO_some, List.take_zero, List.take_succ_cons, List.drop_zero, List.drop_succ_cons, List.cons_append, List.nil_append, List.append_nil, List.length_cons, List.length_nil, Nat.reduceLeDiff, Nat.le_refl, and_true, true_and, and_self, decide_true, decide_false, Bool.not_true, Bool.not_false, resW_cell, bl79, fa73_0, fa82_0, ld3, ld68, opA_alloc 79 ty79]
  rw [rc79 (l := [.int .i64 k, .int .i64 code]) (by simp only [go_sem, reduceCtorEq, Nat.reduceEqDiff, Nat.reduceAdd, withc_some, withcs_some, cells_0, cells_s, Option.bind_some, Option.map_some, List.getElem?_toArray, List.getElem?_cons_zero, List.getElem?_cons_succ, Nat.add_zero, Nat.zero_add, Value.cells, splice, List.setIfInBounds_toArray, List.set_cons_zero, List.set_cons_succ, bfill_nil, bfill_cons, bstep_some, withO_some, List.take_zero, List.take_succ_cons, List.drop_zero, List.drop_succ_cons, List.cons_append, List.nil_append, List.append_nil, List.length_cons, List.length_nil, Nat.reduceLeDiff, Nat.le_refl, and_true, true_and, and_self, decide_true, decide_false, Bool.not_true, Bool.not_false, cell_of_blk h3, bl79, fa73_0, fa82_0, ld3, ld68, opA_alloc 79 ty79])]
  exact h G3 (k3.two (E1.trans E2) (by omega))

/-! ### The handlers -/

def fnV (f : Nat) : Value := .func (.func f) #[] #[]
def hndL : List (List UInt8 × Value) := [([115, 101, 116], fnV 86), ([112, 114, 111, 99], fnV 87), ([101, 110, 100], fnV 88), ([99, 97, 108, 108], fnV 89), ([106, 111, 98], fnV 90), ([115, 116, 101, 112], fnV 90), ([100, 100], fnV 90)]
theorem uHM : Tryd.prog.underlying 100 = some (.map 9 124) := Tryd.underlying100

theorem handlers_c {H : Hp} {K : Ending → Hp → Prop} (h : ∀ (m : Nat) (G : Hp), H.size ≤ m → Ext H G → MapC G m hndL → K (.returned (.map (some m))) G) : HCall Tryd.prog 62 #[] H K := by
  refine hcall mixed B62 (args := []) (by simp) ?_
  simp only [go_sem, reduceCtorEq, Nat.reduceEqDiff, Nat.reduceAdd, withc_some, withcs_some, cells_0, cells_s, Option.bind_some, Option.map_some, List.getElem?_toArray, List.getElem?_cons_zero, List.getElem?_cons_succ, Nat.add_zero, Nat.zero_add, Value.cells, splice, List.setIfInBounds_toArray, List.set_cons_zero, List.set_cons_succ, bfill_nil, bfill_cons, bstep_some, withO_some, List.take_zero, List.take_succ_cons, List.drop_zero, List.drop_succ_cons, List.cons_append, List.nil_append, List.append_nil, List.length_cons, List.length_nil, Nat.reduceLeDiff, Nat.le_refl, and_true, true_and, and_self, decide_true, decide_false, Bool.not_true, Bool.not_false, c62, r62_0, c62_0, r62_1, opA_makeMap, opA_insert, B_lit]
  have m0 : MapC (H.push (.map #[] 0)) H.size [] := MapC.new
  have e0 : Ext H (H.push (.map #[] 0)) := Ext.push _ _
  generalize H.push (.map #[] 0) = G0 at *
  generalize hm : H.size = m at *
  refine mupA_ok uHM uStr m0 fun G1 m1 k1 => ?_
  simp only [go_sem, reduceCtorEq, Nat.reduceEqDiff, Nat.reduceAdd, withc_some, withcs_some, cells_0, cells_s, Option.bind_some, Option.map_some, List.getElem?_toArray, List.getElem?_cons_zero, List.getElem?_cons_succ, Nat.add_zero, Nat.zero_add, Value.cells, splice, List.setIfInBounds_toArray, List.set_cons_zero, List.set_cons_succ, bfill_nil, bfill_cons, bstep_some, withO_some, List.take_zero, List.take_succ_cons, List.drop_zero, List.drop_succ_cons, List.cons_append, List.nil_append, List.append_nil, List.length_cons, List.length_nil, Nat.reduceLeDiff, Nat.le_refl, and_true, true_and, and_self, decide_true, decide_false, Bool.not_true, Bool.not_false, opA_insert, B_lit]
  refine mupA_ok uHM uStr m1 fun G2 m2 k2 => ?_
  simp only [go_sem, reduceCtorEq, Nat.reduceEqDiff, Nat.reduceAdd, withc_some, withcs_some, cells_0, cells_s, Option.bind_some, Option.map_some, List.getElem?_toArray, List.getElem?_cons_zero, List.getElem?_cons_succ, Nat.add_zero, Nat.zero_add, Value.cells, splice, List.setIfInBounds_toArray, List.set_cons_zero, List.set_cons_succ, bfill_nil, bfill_cons, bstep_some, withO_some, List.take_zero, List.take_succ_cons, List.drop_zero, List.drop_succ_cons, List.cons_append, List.nil_append, List.append_nil, List.length_cons, List.length_nil, Nat.reduceLeDiff, Nat.le_refl, and_true, true_and, and_self, decide_true, decide_false, Bool.not_true, Bool.not_false, opA_insert, B_lit]
  refine mupA_ok uHM uStr m2 fun G3 m3 k3 => ?_
  simp only [go_sem, reduceCtorEq, Nat.reduceEqDiff, Nat.reduceAdd, withc_some, withcs_some, cells_0, cells_s, Option.bind_some, Option.map_some, List.getElem?_toArray, List.getElem?_cons_zero, List.getElem?_cons_succ, Nat.add_zero, Nat.zero_add, Value.cells, splice, List.setIfInBounds_toArray, List.set_cons_zero, List.set_cons_succ, bfill_nil, bfill_cons, bstep_some, withO_some, List.take_zero, List.take_succ_cons, List.drop_zero, List.drop_succ_cons, List.cons_append, List.nil_append, List.append_nil, List.length_cons, List.length_nil, Nat.reduceLeDiff, Nat.le_refl, and_true, true_and, and_self, decide_true, decide_false, Bool.not_true, Bool.not_false, opA_insert, B_lit]
  refine mupA_ok uHM uStr m3 fun G4 m4 k4 => ?_
  simp only [go_sem, reduceCtorEq, Nat.reduceEqDiff, Nat.reduceAdd, withc_some, withcs_some, cells_0, cells_s, Option.bind_some, Option.map_some, List.getElem?_toArray, List.getElem?_cons_zero, List.getElem?_cons_succ, Nat.add_zero, Nat.zero_add, Value.cells, splice, List.setIfInBounds_toArray, List.set_cons_zero, List.set_cons_succ, bfill_nil, bfill_cons, bstep_some, withO_some, List.take_zero, List.take_succ_cons, List.drop_zero, List.drop_succ_cons, List.cons_append, List.nil_append, List.append_nil, List.length_cons, List.length_nil, Nat.reduceLeDiff, Nat.le_refl, and_true, true_and, and_self, decide_true, decide_false, Bool.not_true, Bool.not_false, opA_insert, B_lit]
  refine mupA_ok uHM uStr m4 fun G5 m5 k5 => ?_
  simp only [go_sem, reduceCtorEq, Nat.reduceEqDiff, Nat.reduceAdd, withc_some, withcs_some, cells_0, cells_s, Option.bind_some, Option.map_some, List.getElem?_toArray, List.getElem?_cons_zero, List.getElem?_cons_succ, Nat.add_zero, Nat.zero_add, Value.cells, splice, List.setIfInBounds_toArray, List.set_cons_zero, List.set_cons_succ, bfill_nil, bfill_cons, bstep_some, withO_some, List.take_zero, List.take_succ_cons, List.drop_zero, List.drop_succ_cons, List.cons_append, List.nil_append, List.append_nil, List.length_cons, List.length_nil, Nat.reduceLeDiff, Nat.le_refl, and_true, true_and, and_self, decide_true, decide_false, Bool.not_true, Bool.not_false, opA_insert, B_lit]
  refine mupA_ok uHM uStr m5 fun G6 m6 k6 => ?_
  simp only [go_sem, reduceCtorEq, Nat.reduceEqDiff, Nat.reduceAdd, withc_some, withcs_some, cells_0, cells_s, Option.bind_some, Option.map_some, List.getElem?_toArray, List.getElem?_cons_zero, List.getElem?_cons_succ, Nat.add_zero, Nat.zero_add, Value.cells, splice, List.setIfInBounds_toArray, List.set_cons_zero, List.set_cons_succ, bfill_nil, bfill_cons, bstep_some, withO_some, List.take_zero, List.take_succ_cons, List.drop_zero, List.drop_succ_cons, List.cons_append, List.nil_append, List.append_nil, List.length_cons, List.length_nil, Nat.reduceLeDiff, Nat.le_refl, and_true, true_and, and_self, decide_true, decide_false, Bool.not_true, Bool.not_false, opA_insert, B_lit]
  refine mupA_ok uHM uStr m6 fun G7 m7 k7 => ?_
  simp only [go_sem, reduceCtorEq, Nat.reduceEqDiff, Nat.reduceAdd, withc_some, withcs_some, cells_0, cells_s, Option.bind_some, Option.map_some, List.getElem?_toArray, List.getElem?_cons_zero, List.getElem?_cons_succ, Nat.add_zero, Nat.zero_add, Value.cells, splice, List.setIfInBounds_toArray, List.set_cons_zero, List.set_cons_succ, bfill_nil, bfill_cons, bstep_some, withO_some, List.take_zero, List.take_succ_cons, List.drop_zero, List.drop_succ_cons, List.cons_append, List.nil_append, List.append_nil, List.length_cons, List.length_nil, Nat.reduceLeDiff, Nat.le_refl, and_true, true_and, and_self, decide_true, decide_false, Bool.not_true, Bool.not_false]
  refine h m G7 (by omega) ?_ m7
  exact (((((((k1.two e0 (by omega)) |> fun e => k2.two e (by omega)) |> fun e => k3.two e (by omega)) |> fun e => k4.two e (by omega)) |> fun e => k5.two e (by omega)) |> fun e => k6.two e (by omega)) |> fun e => k7.two e (by omega))

/-! ### inline -/

theorem own_ne {ok : Nat → Prop} {E sz : Nat} {H : Hp} {v : Value} {n : Nat} {l : List Value} (own : OwnS ok E sz H v n l) {b : Nat} {o : Obj} (hb : H[b]? = some o) (ho : ∀ c f, o ≠ .cells c E f) : ¬ blkOf v b := by
  intro hg
  rcases own with ⟨h, _, _⟩ | ⟨b', cap, c', f', o1, _, o3, _⟩
  · rw [h] at hg; obtain ⟨_, _, _, hh⟩ := hg; cases hh
  · rw [o1] at hg; obtain ⟨_, _, _, hh⟩ := hg; cases hh; rw [o3] at hb; cases hb; exact ho _ _ rfl
theorem own_set_ne {ok : Nat → Prop} {E sz : Nat} {H H' : Hp} {v : Value} {n : Nat} {l : List Value} (own : OwnS ok E sz H v n l) {b : Nat} {o : Obj} (hb : H[b]? = some o) (ho : ∀ c f, o ≠ .cells c E f) (k : Keep (· = b) H H') : OwnS ok E sz H' v n l :=
  own.keep k fun g hg hgb => own_ne own hb ho (by subst hgb; exact hg)
theorem append_strK {G : Hp} {K : Value → Hp → Prop} {X : List PanicEntry → Hp → Prop} {ty : TypeId} {cs : Array Bool} {v : Value} {n B0 : Nat} {l : List (List UInt8)} (c : List UInt8)
    (own : OwnS (B0 ≤ ·) 9 1 G v n (strs l)) (hB : B0 ≤ G.size) (hlen : n ≤ 1000000000)
    (k : ∀ v' G', OwnS (B0 ≤ ·) 9 1 G' v' (n + 1) (strs (l ++ [c])) → Keep (blkOf v) G G' → K v' G') :
    callA Tryd.prog (.builtin .append) #[24, 24] ty cs [v, .slice (some ⟨G.size, 0, none⟩) 1 1] K X (G.push (.cells #[.string (B c)] 9)) := by
  refine append_lit (ok := (B0 ≤ ·)) (m := 1) own uStrs ty9 rfl rfl (by intro u hu; simp at hu; subst hu; rfl) (fun b hb => Nat.le_trans hB hb) (by omega) (by omega) fun v' G' h1 h2 h3 => k v' G' ?_ h2
  have : strs (l ++ [c]) = strs l ++ [.string (B c)] := by simp [strs]
  rw [this]; exact h1

theorem lit_bound {k : IntKind} {d : Nat} (n : Nat) (i : Int) (h : i = n := by rfl) : BoundIs (some (.int k i)) d n := .inr ⟨k, i, rfl, h⟩

theorem RowsV.atI {H : Hp} {v : Value} {rows : List Row} (h : RowsV H v rows) {i k : Nat} {t : List UInt8} (hi : rows[i]? = some (k, t)) :
    ∃ b off c, v = .slice (some ⟨b, off, none⟩) rows.length c ∧ cellH H ⟨b, off + i * 2, none⟩ = some (.int .i64 k) ∧ cellH H ⟨b, off + i * 2 + 1, none⟩ = some (.string (B t)) := by
  have hlt := some_lt hi
  have hC : ∀ (rows : List Row) (i : Nat), rows[i]? = some (k, t) → (rowsC rows)[i * 2]? = some (.int .i64 k) ∧ (rowsC rows)[i * 2 + 1]? = some (.string (B t)) := by
    intro rows
    induction rows with
    | nil => intro i h; simp at h
    | cons a r ih =>
      intro i h
      rw [rowsC_cons]
      cases i with
      | zero => simp at h; subst h; simp [rowC]
      | succ i =>
        have := ih i (by simpa using h)
        constructor
        · rw [List.getElem?_append_right (by simp [rowC]; omega)]; simpa [rowC, Nat.succ_mul] using this.1
        · rw [List.getElem?_append_right (by simp [rowC]; omega)]; simpa [rowC, Nat.succ_mul] using this.2
  obtain ⟨b, off, c, h1, h2⟩ := SlE.cell h hlt
  obtain ⟨hc0, hc1⟩ := hC rows i hi
  refine ⟨b, off, c, h1, ?_, ?_⟩
  · obtain ⟨u, h3, h4⟩ := h2 0 (by omega)
    rw [Nat.add_zero] at h3 h4
    rw [hc0] at h3
    cases h3; exact h4
  · obtain ⟨u, h3, h4⟩ := h2 1 (by omega)
    rw [hc1] at h3
    cases h3
    rw [Nat.add_assoc]; exact h4
theorem RowsV.tail {H : Hp} {a : Option Addr} {n c : Nat} {x : Row} {r : List Row} (h : RowsV H (.slice a n c) (x :: r)) : n = r.length + 1 ∧ n ≤ c ∧ RowsV H (.slice (subAddr a 2 1 c) (n - 1) (c - 1)) r := by
  obtain ⟨a', c', h1⟩ := SlE.form h
  cases h1
  have h2 := SlE.drop h (lo := 1) (by simp)
  refine ⟨by simp, ?_, ?_⟩
  · rcases SlE.part h (lo := 0) (hi := 0) (by omega) (by omega) with h3 | h3
    · exact h3
    · simp at h3
  · unfold RowsV
    rw [rowsC_cons] at h2
    simpa [rowC] using h2

theorem inline_c {rv : Value} {call : List UInt8} {inn : Bool} {k : Nat} {t : List UInt8} {rest : List Row} {H : Hp} {K : Ending → Hp → Prop} (hr : RowsV H rv ((k, t) :: rest)) (hl : rest.length ≤ 1000000) (hlt : ∀ x ∈ rest, x.2.length ≤ 1000000000)
    (hok : ∀ G dv l, inlineT k rest [] = .ok l → Ext H G → OwnS (H.size ≤ ·) 9 1 G dv l.length (strs l) → K (.returned (.tuple #[dv, .agg #[.int .i64 0, .int .i64 0]])) G)
    (her : ∀ G m c, inlineT k rest [] = .error (m, c) → Ext H G → K (.returned (.tuple #[.slice none 0 0, .agg #[.int .i64 m, .int .i64 c]])) G) :
    HCall Tryd.prog 101 #[.agg #[rv, .string (B call), .bool inn]] H K := by
  refine hcall mixed B101 (args := [.agg #[rv, .string (B call), .bool inn]]) (by simp) ?_
  obtain ⟨a, c, rfl⟩ := SlE.form hr
  obtain ⟨hn, hnc, ht⟩ := hr.tail
  generalize hnn : ((k, t) :: rest).length = n at *
  subst hn
  simp only [go_sem, reduceCtorEq, Nat.reduceEqDiff, Nat.reduceAdd, withc_some, withcs_some, cells_0, cells_s, Option.bind_some, Option.map_some, List.getElem?_toArray, List.getElem?_cons_zero, List.getElem?_cons_succ, Nat.add_zero, Nat.zero_add, Value.cells, splice, List.setIfInBounds_toArray, List.set_cons_zero, List.set_cons_succ, bfill_nil, bfill_cons, bstep_some, withO_some, List.take_zero, List.take_succ_cons, List.drop_zero, List.drop_succ_cons, List.cons_append, List.nil_append, List.append_nil, List.length_cons, List.length_nil, Nat.reduceLeDiff, Nat.le_refl, and_true, true_and, and_self, decide_true, decide_false, Bool.not_true, Bool.not_false, c101, r101_0, opA_alloc 79 ty79]
  refine box_kA fun b1 G1 e1 s1 h1 E1 => ?_
  simp only [go_sem, reduceCtorEq, Nat.reduceEqDiff, Nat.reduceAdd, withc_some, withcs_some, cells_0, cells_s, Option.bind_some, Option.map_some, List.getElem?_toArray, List.getElem?_cons_zero, List.getElem?_cons_succ, Nat.add_zero, Nat.zero_add, Value.cells, splice, List.setIfInBounds_toArray, List.set_cons_zero, List.set_cons_succ, bfill_nil, bfill_cons, bstep_some, withO_some, List.take_zero, List.take_succ_cons, List.drop_zero, List.drop_succ_cons, List.cons_append, List.nil_append, List.append_nil, List.length_cons, List.length_nil, Nat.reduceLeDiff, Nat.le_refl, and_true, true_and, and_self, decide_true, decide_false, Bool.not_true, Bool.not_false, opA_alloc 79 ty79]
  refine box_kA fun b3 G2 e3 s2 h3 E2 => ?_
  simp only [go_sem, reduceCtorEq, Nat.reduceEqDiff, Nat.reduceAdd, withc_some, withcs_some, cells_0, cells_s, Option.bind_some, Option.map_some, List.getElem?_toArray, List.getElem?_cons_zero, List.getElem?_cons_succ, Nat.add_zero, Nat.zero_add, Value.cells, splice, List.setIfInBounds_toArray, List.set_cons_zero, List.set_cons_succ, bfill_nil, bfill_cons, bstep_some, withO_some, List.take_zero, List.take_succ_cons, List.drop_zero, List.drop_succ_cons, List.cons_append, List.nil_append, List.append_nil, List.length_cons, List.length_nil, Nat.reduceLeDiff, Nat.le_refl, and_true, true_and, and_self, decide_true, decide_false, Bool.not_true, Bool.not_false, c101_16, r101_1, c101_15, r101_2, cell_of_blk (E2.get h1), fa82_0, ld68, len_slice Tryd.underlying68, opA_alloc 79 ty79]
  rw [sliA_slice uRows ty73 (l := 1) (r := rest.length + 1) (lit_bound 1 1) (.no _) (by omega) hnc]
  simp only [go_sem, reduceCtorEq, Nat.reduceEqDiff, Nat.reduceAdd, withc_some, withcs_some, cells_0, cells_s, Option.bind_some, Option.map_some, List.getElem?_toArray, List.getElem?_cons_zero, List.getElem?_cons_succ, Nat.add_zero, Nat.zero_add, Value.cells, splice, List.setIfInBounds_toArray, List.set_cons_zero, List.set_cons_succ, bfill_nil, bfill_cons, bstep_some, withO_some, List.take_zero, List.take_succ_cons, List.drop_zero, List.drop_succ_cons, List.cons_append, List.nil_append, List.append_nil, List.length_cons, List.length_nil, Nat.reduceLeDiff, Nat.le_refl, and_true, true_and, and_self, decide_true, decide_false, Bool.not_true, Bool.not_false, c101_13, fa82_0, ld68, len_slice Tryd.underlying68, opA_alloc 79 ty79]
  simp only [Nat.add_sub_cancel] at ht ⊢
  refine aw_while (L := c101_12) rfl (fun m F G => ∃ (i : Nat) (acc : List (List UInt8)) (v : Value), m = rest.length - i ∧ F = [(1, .pointer (some ⟨b1, 0, none⟩)), (3, .pointer (some ⟨b3, 0, none⟩)), (4, v), (9, .slice (subAddr a 2 1 c) rest.length (c - 1)), (10, .int .i64 rest.length), (11, .int .i64 i)] ∧ Ext H G ∧ G[b1]? = some (.cells #[.slice a (rest.length + 1) c, .string (B call), .bool inn] 82 (0, 0)) ∧ G[b3]? = some (.cells #[.int .i64 0, .int .i64 0] 79 (0, 0)) ∧ OwnS (H.size ≤ ·) 9 1 G v acc.length (strs acc) ∧ i ≤ rest.length ∧ acc.length ≤ 64 ∧ inlineT k rest [] = inlineT k (rest.drop i) acc) (m := rest.length)
    ⟨0, [], _, rfl, rfl, E1.trans E2, E2.get h1, h3, OwnS.nil _ _ _ _, by omega, by simp, by simp⟩ ?_
  rintro m F G ih ⟨i, acc, v, rfl, rfl, hE, g1, g3, own, hi, hacc, hq⟩
  obtain ⟨va, vc, rfl⟩ := own.form
  by_cases hlt2 : i < rest.length
  · obtain ⟨⟨m, x⟩, hx⟩ : ∃ y, rest[i]? = some y := ⟨rest[i], List.getElem?_eq_getElem hlt2⟩
    rw [drop_some hx] at hq
    have hxl := hlt (m, x) (List.mem_of_getElem? hx)
    obtain ⟨rb, roff, rc, er, r0, r1⟩ := (ht.ext hE).atI hx
    simp only [go_sem, reduceCtorEq, Nat.reduceEqDiff, Nat.reduceAdd, withc_some, withcs_some, cells_0, cells_s, Option.bind_some, Option.map_some, List.getElem?_toArray, List.getElem?_cons_zero, List.getElem?_cons_succ, Nat.add_zero, Nat.zero_add, Value.cells, splice, List.setIfInBounds_toArray, List.set_cons_zero, List.set_cons_succ, bfill_nil, bfill_cons, bstep_some, withO_some, List.take_zero, List.take_succ_cons, List.drop_zero, List.drop_succ_cons, List.cons_append, List.nil_append, List.append_nil, List.length_cons, List.length_nil, Nat.reduceLeDiff, Nat.le_refl, and_true, true_and, and_self, decide_true, decide_false, Bool.not_true, Bool.not_false, c101_11, c101_10, r101_3, dlt hlt2, c101_9, c101_8, c101_7, r101_4, fa82_0, ld68, ld73, len_slice Tryd.underlying68, opA_alloc 73 ty73, opA_alloc 79 ty79]
    rw [er, iadA_slice uRows ty73 (by omega) (by omega), Int.toNat_natCast]
    simp only [go_sem, reduceCtorEq, Nat.reduceEqDiff, Nat.reduceAdd, withc_some, withcs_some, cells_0, cells_s, Option.bind_some, Option.map_some, List.getElem?_toArray, List.getElem?_cons_zero, List.getElem?_cons_succ, Nat.add_zero, Nat.zero_add, Value.cells, splice, List.setIfInBounds_toArray, List.set_cons_zero, List.set_cons_succ, bfill_nil, bfill_cons, bstep_some, withO_some, List.take_zero, List.take_succ_cons, List.drop_zero, List.drop_succ_cons, List.cons_append, List.nil_append, List.append_nil, List.length_cons, List.length_nil, Nat.reduceLeDiff, Nat.le_refl, and_true, true_and, and_self, decide_true, decide_false, Bool.not_true, Bool.not_false, add_none, r0, r1, fa82_0, ld68, ld73, len_slice Tryd.underlying68, opA_alloc 73 ty73, opA_alloc 79 ty79]
    refine box_kA fun b6 G3 e6 s3 h6 E3 => ?_
    simp only [go_sem, reduceCtorEq, Nat.reduceEqDiff, Nat.reduceAdd, withc_some, withcs_some, cells_0, cells_s, Option.bind_some, Option.map_some, List.getElem?_toArray, List.getElem?_cons_zero, List.getElem?_cons_succ, Nat.add_zero, Nat.zero_add, Value.cells, splice, List.setIfInBounds_toArray, List.set_cons_zero, List.set_cons_succ, bfill_nil, bfill_cons, bstep_some, withO_some, List.take_zero, List.take_succ_cons, List.drop_zero, List.drop_succ_cons, List.cons_append, List.nil_append, List.append_nil, List.length_cons, List.length_nil, Nat.reduceLeDiff, Nat.le_refl, and_true, true_and, and_self, decide_true, decide_false, Bool.not_true, Bool.not_false, fa82_0, ld68, ld73, len_slice Tryd.underlying68, opA_alloc 73 ty73, opA_alloc 79 ty79]
    refine store_kA h6 ty73 (k := fun G4 h4 k4 s4 => ?_)
    have E4 : Ext G G4 := k4.two E3 (by omega)
    simp only [go_sem, reduceCtorEq, Nat.reduceEqDiff, Nat.reduceAdd, withc_some, withcs_some, cells_0, cells_s, Option.bind_some, Option.map_some, List.getElem?_toArray, List.getElem?_cons_zero, List.getElem?_cons_succ, Nat.add_zero, Nat.zero_add, Value.cells, splice, List.setIfInBounds_toArray, List.set_cons_zero, List.set_cons_succ, bfill_nil, bfill_cons, bstep_some, withO_some, List.take_zero, List.take_succ_cons, List.drop_zero, List.drop_succ_cons, List.cons_append, List.nil_append, List.append_nil, List.length_cons, List.length_nil, Nat.reduceLeDiff, Nat.le_refl, and_true, true_and, and_self, decide_true, decide_false, Bool.not_true, Bool.not_false, c101_6, c101_5, r101_5, cell_of_blk h4, B_lit, B_toList, fa73_1, fa82_0, ld68, ld73, ld9, len_slice Tryd.underlying68, opA_alloc 73 ty73, opA_alloc 79 ty79]
    have h4' : G4[b6]? = some (.cells #[.int .i64 m, .string (B x)] 73 (0, 0)) := h4
    have g34 := E4.get g3
    by_cases hx2 : x = [47, 42]
    · subst hx2
      have e2 : (([47, 42] : List UInt8) == [47, 42]) = true := rfl
      simp only [go_sem, reduceCtorEq, Nat.reduceEqDiff, Nat.reduceAdd, withc_some, withcs_some, cells_0, cells_s, Option.bind_some, Option.map_some, List.getElem?_toArray, List.getElem?_cons_zero, List.getElem?_cons_succ, Nat.add_zero, Nat.zero_add, Value.cells, splice, List.setIfInBounds_toArray, List.set_cons_zero, List.set_cons_succ, bfill_nil, bfill_cons, bstep_some, withO_some, List.take_zero, List.take_succ_cons, List.drop_zero, List.drop_succ_cons, List.cons_append, List.nil_append, List.append_nil, List.length_cons, List.length_nil, Nat.reduceLeDiff, Nat.le_refl, and_true, true_and, and_self, decide_true, decide_false, Bool.not_true, Bool.not_false, e2, c101_4, c101_0, r101_6, bl79, fa73_1, fa82_0, ld68, ld73, ld9, len_slice Tryd.underlying68, opA_alloc 73 ty73, opA_alloc 79 ty79]
      refine store_kA g34 ty79 (k := fun G5 h5 k5 s5 => ?_)
      simp only [go_sem, reduceCtorEq, Nat.reduceEqDiff, Nat.reduceAdd, withc_some, withcs_some, cells_0, cells_s, Option.bind_some, Option.map_some, List.getElem?_toArray, List.getElem?_cons_zero, List.getElem?_cons_succ, Nat.add_zero, Nat.zero_add, Value.cells, splice, List.setIfInBounds_toArray, List.set_cons_zero, List.set_cons_succ, bfill_nil, bfill_cons, bstep_some, withO_some, List.take_zero, List.take_succ_cons, List.drop_zero, List.drop_succ_cons, List.cons_append, List.nil_append, List.append_nil, List.length_cons, List.length_nil, Nat.reduceLeDiff, Nat.le_refl, and_true, true_and, and_self, decide_true, decide_false, Bool.not_true, Bool.not_false, resW_cell, bl79, fa73_1, fa82_0, ld68, ld73, ld9, len_slice Tryd.underlying68, opA_alloc 73 ty73, opA_alloc 79 ty79]
      rw [rc79 (l := [.int .i64 0, .int .i64 0]) (by simp only [go_sem, reduceCtorEq, Nat.reduceEqDiff, Nat.reduceAdd, withc_some, withcs_some, cells_0, cells_s, Option.bind_some, Option.map_some, List.getElem?_toArray, List.getElem?_cons_zero, List.getElem?_cons_succ, Nat.add_zero, Nat.zero_add, Value.cells, splice, List.setIfInBounds_toArray, List.set_cons_zero, List.set_cons_succ, bfill_nil, bfill_cons, bstep_some, withO_some, List.take_zero, List.take_succ_cons, List.drop_zero, List.drop_succ_cons, List.cons_append, List.nil_append, List.append_nil, List.length_cons, List.length_nil, Nat.reduceLeDiff, Nat.le_refl, and_true, true_and, and_self, decide_true, decide_false, Bool.not_true, Bool.not_false, cell_of_blk h5, bl79, fa73_1, fa82_0, ld68, ld73, ld9, len_slice Tryd.underlying68, opA_alloc 73 ty73, opA_alloc 79 ty79])]
      have hq' : inlineT k rest [] = .ok acc := by rw [hq]; simp [inlineT]
      refine hok G5 _ acc hq' (k5.two (hE.trans E4) (by omega)) ?_
      exact own_set_ne (own.ext E4) g34 (by simp) k5
    · have e2 : (x == [47, 42]) = false := by simpa using hx2
      have hq2 : inlineT k ((m, x) :: rest.drop (i + 1)) acc = if 64 ≤ acc.length ∨ 200 < x.length then .error (m, 8) else inlineT k (rest.drop (i + 1)) (acc ++ [x]) := by
        show (if x = [47, 42] then _ else _) = _
        rw [if_neg hx2]
      rw [hq2] at hq
      have herr : 64 ≤ acc.length ∨ 200 < x.length → ∀ (Q : E → Fr → Hp → Prop) (y z : Value) (F0 : Fr), (∀ F G, Q .ret F G = retK Tryd.prog [.tmp 2, .cell 3 79] K .ret F G) → aw Tryd.prog 42 c101_1 Q ((1, y) :: (3, .pointer (some ⟨b3, 0, none⟩)) :: (4, z) :: (6, .pointer (some ⟨b6, 0, none⟩)) :: F0) G4 := by
        intro hor Q y z F0 hQ
        rw [if_pos hor] at hq
        simp only [go_sem, reduceCtorEq, Nat.reduceEqDiff, Nat.reduceAdd, withc_some, withcs_some, cells_0, cells_s, Option.bind_some, Option.map_some, List.getElem?_toArray, List.getElem?_cons_zero, List.getElem?_cons_succ, Nat.add_zero, Nat.zero_add, Value.cells, splice, List.setIfInBounds_toArray, List.set_cons_zero, List.set_cons_succ, bfill_nil, bfill_cons, bstep_some, withO_some, List.take_zero, List.take_succ_cons, List.drop_zero, List.drop_succ_cons, List.cons_append, List.nil_append, List.append_nil, List.length_cons, List.length_nil, Nat.reduceLeDiff, Nat.le_refl, and_true, true_and, and_self, decide_true, decide_false, Bool.not_true, Bool.not_false, c101_1, r101_8, cell_of_blk h4', bl79, bq79, fa73_0, fa73_1, fa82_0, fq73_0, ld3, ld68, ld73, ld9, len_slice Tryd.underlying68, lq3, opA_alloc 73 ty73, opA_alloc 79 ty79]
        refine store_kA g34 ty79 (k := fun G5 h5 k5 s5 => ?_)
        simp only [go_sem, reduceCtorEq, Nat.reduceEqDiff, Nat.reduceAdd, withc_some, withcs_some, cells_0, cells_s, Option.bind_some, Option.map_some, List.getElem?_toArray, List.getElem?_cons_zero, List.getElem?_cons_succ, Nat.add_zero, Nat.zero_add, Value.cells, splice, List.setIfInBounds_toArray, List.set_cons_zero, List.set_cons_succ, bfill_nil, bfill_cons, bstep_some, withO_some, List.take_zero, List.take_succ_cons, List.drop_zero, List.drop_succ_cons, List.cons_append, List.nil_append, List.append_nil, List.length_cons, List.length_nil, Nat.reduceLeDiff, Nat.le_refl, and_true, true_and, and_self, decide_true, decide_false, Bool.not_true, Bool.not_false, hQ, resW_cell, bl79, bq79, fa73_0, fa73_1, fa82_0, fq73_0, ld3, ld68, ld73, ld9, len_slice Tryd.underlying68, lq3, opA_alloc 73 ty73, opA_alloc 79 ty79]
        rw [rc79 (l := [.int .i64 m, .int .i64 8]) (by simp only [go_sem, reduceCtorEq, Nat.reduceEqDiff, Nat.reduceAdd, withc_some, withcs_some, cells_0, cells_s, Option.bind_some, Option.map_some, List.getElem?_toArray, List.getElem?_cons_zero, List.getElem?_cons_succ, Nat.add_zero, Nat.zero_add, Value.cells, splice, List.setIfInBounds_toArray, List.set_cons_zero, List.set_cons_succ, bfill_nil, bfill_cons, bstep_some, withO_some, List.take_zero, List.take_succ_cons, List.drop_zero, List.drop_succ_cons, List.cons_append, List.nil_append, List.append_nil, List.length_cons, List.length_nil, Nat.reduceLeDiff, Nat.le_refl, and_true, true_and, and_self, decide_true, decide_false, Bool.not_true, Bool.not_false, cell_of_blk h5, bl79, bq79, fa73_0, fa73_1, fa82_0, fq73_0, ld3, ld68, ld73, ld9, len_slice Tryd.underlying68, lq3, opA_alloc 73 ty73, opA_alloc 79 ty79])]
        exact her G5 m 8 hq (k5.two (hE.trans E4) (by omega))
      by_cases h64 : 64 ≤ acc.length
      · have e3 : decide ((64 : Int) ≤ (acc.length : Int)) = true := by rw [decide_eq_true_eq]; omega
        simp only [go_sem, reduceCtorEq, Nat.reduceEqDiff, Nat.reduceAdd, withc_some, withcs_some, cells_0, cells_s, Option.bind_some, Option.map_some, List.getElem?_toArray, List.getElem?_cons_zero, List.getElem?_cons_succ, Nat.add_zero, Nat.zero_add, Value.cells, splice, List.setIfInBounds_toArray, List.set_cons_zero, List.set_cons_succ, bfill_nil, bfill_cons, bstep_some, withO_some, List.take_zero, List.take_succ_cons, List.drop_zero, List.drop_succ_cons, List.cons_append, List.nil_append, List.append_nil, List.length_cons, List.length_nil, Nat.reduceLeDiff, Nat.le_refl, and_true, true_and, and_self, decide_true, decide_false, Bool.not_true, Bool.not_false, e2, c101_4, c101_3, r101_7, cell_of_blk h4', e3, c101_2, bl79, bq79, fa73_0, fa73_1, fa82_0, fq73_0, ld3, ld68, ld73, ld9, len_B Tryd.underlying9, len_slice Tryd.underlying24, len_slice Tryd.underlying68, lq3, opA_alloc 73 ty73, opA_alloc 79 ty79]
        exact herr (.inl h64) _ _ _ _ (fun F G => by simp only [seqQ_ret, blkE_ret])
      · have e3 : decide ((64 : Int) ≤ (acc.length : Int)) = false := by rw [decide_eq_false_iff_not]; omega
        by_cases h200 : 200 < x.length
        · have e4 : decide ((200 : Int) < (x.length : Int)) = true := by rw [decide_eq_true_eq]; omega
          simp only [go_sem, reduceCtorEq, Nat.reduceEqDiff, Nat.reduceAdd, withc_some, withcs_some, cells_0, cells_s, Option.bind_some, Option.map_some, List.getElem?_toArray, List.getElem?_cons_zero, List.getElem?_cons_succ, Nat.add_zero, Nat.zero_add, Value.cells, splice, List.setIfInBounds_toArray, List.set_cons_zero, List.set_cons_succ, bfill_nil, bfill_cons, bstep_some, withO_some, List.take_zero, List.take_succ_cons, List.drop_zero, List.drop_succ_cons, List.cons_append, List.nil_append, List.append_nil, List.length_cons, List.length_nil, Nat.reduceLeDiff, Nat.le_refl, and_true, true_and, and_self, decide_true, decide_false, Bool.not_true, Bool.not_false, e2, c101_4, c101_3, r101_7, cell_of_blk h4', e3, e4, c101_2, bl79, bq79, fa73_0, fa73_1, fa82_0, fq73_0, ld3, ld68, ld73, ld9, len_B Tryd.underlying9, len_slice Tryd.underlying24, len_slice Tryd.underlying68, lq3, opA_alloc 73 ty73, opA_alloc 79 ty79]
          exact herr (.inr h200) _ _ _ _ (fun F G => by simp only [seqQ_ret, blkE_ret])
        · have e4 : decide ((200 : Int) < (x.length : Int)) = false := by rw [decide_eq_false_iff_not]; omega
          rw [if_neg (by omega)] at hq
          simp only [go_sem, reduceCtorEq, Nat.reduceEqDiff, Nat.reduceAdd, withc_some, withcs_some, cells_0, cells_s, Option.bind_some, Option.map_some, List.getElem?_toArray, List.getElem?_cons_zero, List.getElem?_cons_succ, Nat.add_zero, Nat.zero_add, Value.cells, splice, List.setIfInBounds_toArray, List.set_cons_zero, List.set_cons_succ, bfill_nil, bfill_cons, bstep_some, withO_some, List.take_zero, List.take_succ_cons, List.drop_zero, List.drop_succ_cons, List.cons_append, List.nil_append, List.append_nil, List.length_cons, List.length_nil, Nat.reduceLeDiff, Nat.le_refl, and_true, true_and, and_self, decide_true, decide_false, Bool.not_true, Bool.not_false, e2, c101_4, c101_3, r101_7, cell_of_blk h4', e3, e4, c101_2, r101_9, bl79, bq79, fa73_0, fa73_1, fa82_0, fq73_0, ld3, ld68, ld73, ld9, len_B Tryd.underlying9, len_slice Tryd.underlying24, len_slice Tryd.underlying68, lq3, opA_alloc 73 ty73, opA_alloc 79 ty79]
          rw [bslA_one uStrs ty9 rfl]
          simp only [go_sem, reduceCtorEq, Nat.reduceEqDiff, Nat.reduceAdd, withc_some, withcs_some, cells_0, cells_s, Option.bind_some, Option.map_some, List.getElem?_toArray, List.getElem?_cons_zero, List.getElem?_cons_succ, Nat.add_zero, Nat.zero_add, Value.cells, splice, List.setIfInBounds_toArray, List.set_cons_zero, List.set_cons_succ, bfill_nil, bfill_cons, bstep_some, withO_some, List.take_zero, List.take_succ_cons, List.drop_zero, List.drop_succ_cons, List.cons_append, List.nil_append, List.append_nil, List.length_cons, List.length_nil, Nat.reduceLeDiff, Nat.le_refl, and_true, true_and, and_self, decide_true, decide_false, Bool.not_true, Bool.not_false, bl79, bq79, fa73_0, fa73_1, fa82_0, fq73_0, ld3, ld68, ld73, ld9, len_B Tryd.underlying9, len_slice Tryd.underlying24, len_slice Tryd.underlying68, lq3, opA_alloc 73 ty73, opA_alloc 79 ty79]
          refine append_strK x (own.ext E4) (hE.trans E4).size (by omega) fun v' G5 own5 k5 => ?_
          simp only [go_sem, reduceCtorEq, Nat.reduceEqDiff, Nat.reduceAdd, withc_some, withcs_some, cells_0, cells_s, Option.bind_some, Option.map_some, List.getElem?_toArray, List.getElem?_cons_zero, List.getElem?_cons_succ, Nat.add_zero, Nat.zero_add, Value.cells, splice, List.setIfInBounds_toArray, List.set_cons_zero, List.set_cons_succ, bfill_nil, bfill_cons, bstep_some, withO_some, List.take_zero, List.take_succ_cons, List.drop_zero, List.drop_succ_cons, List.cons_append, List.nil_append, List.append_nil, List.length_cons, List.length_nil, Nat.reduceLeDiff, Nat.le_refl, and_true, true_and, and_self, decide_true, decide_false, Bool.not_true, Bool.not_false, r101_10, wrap_one (show i + 1 ≤ 9223372036854775807 by omega), bl79, bq79, fa73_0, fa73_1, fa82_0, fq73_0, ld3, ld68, ld73, ld9, len_B Tryd.underlying9, len_slice Tryd.underlying24, len_slice Tryd.underlying68, lq3, opA_alloc 73 ty73, opA_alloc 79 ty79]
          have n1 := own_ne (own.ext E4) (E4.get g1) (by simp)
          have n3 := own_ne (own.ext E4) g34 (by simp)
          exact ih _ _ _ (by omega) ⟨i + 1, acc ++ [x], v', rfl, by rw [er], (hE.trans E4).own (own.ext E4) (fun b hb => hb) k5, k5.get (E4.get g1) n1, k5.get g34 n3, by simpa using own5, by omega, by simp; omega, hq⟩
  · have hil : i = rest.length := by omega
    subst hil
    rw [List.drop_of_length_le (Nat.le_refl _)] at hq
    simp only [go_sem, reduceCtorEq, Nat.reduceEqDiff, Nat.reduceAdd, withc_some, withcs_some, cells_0, cells_s, Option.bind_some, Option.map_some, List.getElem?_toArray, List.getElem?_cons_zero, List.getElem?_cons_succ, Nat.add_zero, Nat.zero_add, Value.cells, splice, List.setIfInBounds_toArray, List.set_cons_zero, List.set_cons_succ, bfill_nil, bfill_cons, bstep_some, withO_some, List.take_zero, List.take_succ_cons, List.drop_zero, List.drop_succ_cons, List.cons_append, List.nil_append, List.append_nil, List.length_cons, List.length_nil, Nat.reduceLeDiff, Nat.le_refl, and_true, true_and, and_self, decide_true, decide_false, Bool.not_true, Bool.not_false, c101_11, c101_10, r101_3, dge (Nat.le_refl rest.length), c101_9, c101_14, r101_11, cell_of_blk g1, bl79, bq79, callA_fn0 pl91, fa73_0, fa73_1, fa82_0, fq73_0, ld3, ld68, ld73, ld82, ld9, len_B Tryd.underlying9, len_slice Tryd.underlying24, len_slice Tryd.underlying68, lq3, opA_alloc 73 ty73, opA_alloc 79 ty79]
    refine at_c (hr.ext hE) fun G5 E5 => ?_
    simp only [go_sem, reduceCtorEq, Nat.reduceEqDiff, Nat.reduceAdd, withc_some, withcs_some, cells_0, cells_s, Option.bind_some, Option.map_some, List.getElem?_toArray, List.getElem?_cons_zero, List.getElem?_cons_succ, Nat.add_zero, Nat.zero_add, Value.cells, splice, List.setIfInBounds_toArray, List.set_cons_zero, List.set_cons_succ, bfill_nil, bfill_cons, bstep_some, withO_some, List.take_zero, List.take_succ_cons, List.drop_zero, List.drop_succ_cons, List.cons_append, List.nil_append, List.append_nil, List.length_cons, List.length_nil, Nat.reduceLeDiff, Nat.le_refl, and_true, true_and, and_self, decide_true, decide_false, Bool.not_true, Bool.not_false, bl79, bq79, callA_fn0 pl91, fa73_0, fa73_1, fa82_0, fq73_0, ld3, ld68, ld73, ld82, ld9, len_B Tryd.underlying9, len_slice Tryd.underlying24, len_slice Tryd.underlying68, lq3, opA_alloc 73 ty73, opA_alloc 79 ty79]
    refine store_kA (E5.get g3) ty79 (k := fun G6 h6 k6 s6 => ?_)
    simp only [go_sem, reduceCtorEq, Nat.reduceEqDiff, Nat.reduceAdd, withc_some, withcs_some, cells_0, cells_s, Option.bind_some, Option.map_some, List.getElem?_toArray, List.getElem?_cons_zero, List.getElem?_cons_succ, Nat.add_zero, Nat.zero_add, Value.cells, splice, List.setIfInBounds_toArray, List.set_cons_zero, List.set_cons_succ, bfill_nil, bfill_cons, bstep_some, withO_some, List.take_zero, List.take_succ_cons, List.drop_zero, List.drop_succ_cons, List.cons_append, List.nil_append, List.append_nil, List.length_cons, List.length_nil, Nat.reduceLeDiff, Nat.le_refl, and_true, true_and, and_self, decide_true, decide_false, Bool.not_true, Bool.not_false, resW_cell, bl79, bq79, callA_fn0 pl91, fa73_0, fa73_1, fa82_0, fq73_0, ld3, ld68, ld73, ld82, ld9, len_B Tryd.underlying9, len_slice Tryd.underlying24, len_slice Tryd.underlying68, lq3, opA_alloc 73 ty73, opA_alloc 79 ty79]
    rw [rc79 (l := [.int .i64 k, .int .i64 3]) (by simp only [go_sem, reduceCtorEq, Nat.reduceEqDiff, Nat.reduceAdd, withc_some, withcs_some, cells_0, cells_s, Option.bind_some, Option.map_some, List.getElem?_toArray, List.getElem?_cons_zero, List.getElem?_cons_succ, Nat.add_zero, Nat.zero_add, Value.cells, splice, List.setIfInBounds_toArray, List.set_cons_zero, List.set_cons_succ, bfill_nil, bfill_cons, bstep_some, withO_some, List.take_zero, List.take_succ_cons, List.drop_zero, List.drop_succ_cons, List.cons_append, List.nil_append, List.append_nil, List.length_cons, List.length_nil, Nat.reduceLeDiff, Nat.le_refl, and_true, true_and, and_self, decide_true, decide_false, Bool.not_true, Bool.not_false, cell_of_blk h6, bl79, bq79, callA_fn0 pl91, fa73_0, fa73_1, fa82_0, fq73_0, ld3, ld68, ld73, ld82, ld9, len_B Tryd.underlying9, len_slice Tryd.underlying24, len_slice Tryd.underlying68, lq3, opA_alloc 73 ty73, opA_alloc 79 ty79])]
    exact her G6 k 3 hq (k6.two (hE.trans E5) (by omega))
end Go.Proofs.YtoabcmhiaknjiaaDoor

/- Contracts of jobtext: the reader's state; statement. -/
set_option maxRecDepth 100000
set_option linter.unusedSimpArgs false
set_option linter.unusedVariables false
namespace Go.Proofs.YtoabcmhiaknjiaaDoor
open Go.Hw

/-! ### What a reader's work leaves as it was -/

structure KeepO (M : Nat → Obj → Prop) (H H' : Hp) : Prop where
  size : H.size ≤ H'.size
  blk : ∀ b o, H[b]? = some o → ¬ M b o → H'[b]? = some o
theorem KeepO.refl (M : Nat → Obj → Prop) (H : Hp) : KeepO M H H := ⟨Nat.le_refl _, fun _ _ h _ => h⟩
theorem KeepO.trans {M : Nat → Obj → Prop} {a b c : Hp} (h : KeepO M a b) (k : KeepO M b c) : KeepO M a c := ⟨Nat.le_trans h.size k.size, fun x o ho hm => k.blk x o (h.blk x o ho hm) hm⟩
theorem KeepO.mono {M M' : Nat → Obj → Prop} {a b : Hp} (h : KeepO M a b) (hm : ∀ x o, M x o → M' x o) : KeepO M' a b := ⟨h.size, fun x o ho hn => h.blk x o ho fun h1 => hn (hm x o h1)⟩
theorem _root_.Go.Hw.Ext.ko {M : Nat → Obj → Prop} {a b : Hp} (h : Ext a b) : KeepO M a b := ⟨h.size, fun x o ho _ => h.get ho⟩
theorem _root_.Go.Hw.Keep.ko {S : Nat → Prop} {M : Nat → Obj → Prop} {a b : Hp} (h : Keep S a b) (hm : ∀ x o, S x → a[x]? = some o → M x o) : KeepO M a b :=
  ⟨h.size, fun x o ho hn => h.get ho fun hs => hn (hm x o hs ho)⟩

/-- What may turn: from B0 on: readers, rows of statements, the maps of M. -/
def mutJ (B0 : Nat) (M : Nat → Prop) (b : Nat) (o : Obj) : Prop := B0 ≤ b ∧ ((∃ c f, o = .cells c 77 f ∨ o = .cells c 40 f) ∨ (M b ∧ ∃ es k, o = .map es k))
abbrev FrJ (B0 : Nat) (M : Nat → Prop) (H H' : Hp) : Prop := KeepO (mutJ B0 M) H H'
theorem FrJ.ext {B0 : Nat} {M : Nat → Prop} {H0 H G : Hp} (h : Ext H0 H) (k : FrJ B0 M H G) (hB : H0.size ≤ B0) : Ext H0 G :=
  ⟨Nat.le_trans h.size k.size, fun b hb => by
    have h1 := h.blk b hb
    obtain ⟨o, ho⟩ : ∃ o, H0[b]? = some o := ⟨H0[b], Array.getElem?_eq_getElem hb⟩
    rw [ho] at h1 ⊢
    exact k.blk b o h1 fun hm => by have := hm.1; omega⟩
theorem sl_frJ {B0 E sz : Nat} {M : Nat → Prop} {H H' : Hp} {v : Value} {n : Nat} {l : List Value} (h : SlE E sz H v n l) (k : FrJ B0 M H H') (h1 : E ≠ 77) (h2 : E ≠ 40) : SlE E sz H' v n l :=
  h.mono fun b c f hb => k.blk b _ hb fun hm => by
    rcases hm.2 with ⟨c', f', h3 | h3⟩ | ⟨_, es, kk, h3⟩ <;> cases h3
    · exact h1 rfl
    · exact h2 rfl
theorem RowsV.frJ {B0 : Nat} {M : Nat → Prop} {H H' : Hp} {v : Value} {rows : List Row} (h : RowsV H v rows) (k : FrJ B0 M H H') : RowsV H' v rows := sl_frJ h k (by decide) (by decide)
theorem cells_frJ {B0 : Nat} {M : Nat → Prop} {H H' : Hp} (k : FrJ B0 M H H') {b E : Nat} {c : Array Value} {f : Nat × Nat} (hb : H[b]? = some (.cells c E f)) (h1 : E ≠ 77) (h2 : E ≠ 40) : H'[b]? = some (.cells c E f) :=
  k.blk b _ hb fun hm => by
    rcases hm.2 with ⟨c', f', h3 | h3⟩ | ⟨_, es, kk, h3⟩ <;> cases h3
    · exact h1 rfl
    · exact h2 rfl

/-- A slice of words. -/
def SlV (H : Hp) (v : Value) (ws : List (List UInt8)) : Prop := SlE 9 1 H v ws.length (strs ws)
theorem SlV.ext {H H' : Hp} {v : Value} {ws : List (List UInt8)} (h : SlV H v ws) (e : Ext H H') : SlV H' v ws := SlE.ext h e
theorem SlV.frJ {B0 : Nat} {M : Nat → Prop} {H H' : Hp} {v : Value} {ws : List (List UInt8)} (h : SlV H v ws) (k : FrJ B0 M H H') : SlV H' v ws := sl_frJ h k (by decide) (by decide)
theorem SlV.at {H : Hp} {v : Value} {ws : List (List UInt8)} (h : SlV H v ws) {i : Nat} {w : List UInt8} (hi : ws[i]? = some w) :
    ∃ b off c, v = .slice (some ⟨b, off, none⟩) ws.length c ∧ cellH H ⟨b, off + i, none⟩ = some (.string (B w)) := by
  obtain ⟨b, off, c, h1, h2⟩ := SlE.cell h (some_lt hi)
  obtain ⟨u, h3, h4⟩ := h2 0 (by omega)
  refine ⟨b, off, c, h1, ?_⟩
  simp only [Nat.mul_one, Nat.add_zero] at h3 h4
  unfold strs at h3
  rw [List.getElem?_map, hi] at h3
  cases h3; exact h4

/-- Statements and their cells. -/
def stmC (H : Hp) : List Stm → List Value → Prop
  | [], cs => cs = []
  | s :: r, cs => ∃ wv dv rest, cs = [.int .i64 s.line, .string (B s.call), wv, dv] ++ rest ∧ SlV H wv s.words ∧ SlV H dv s.data ∧ stmC H r rest
theorem stmC.mono {H H' : Hp} (hk : ∀ v ws, SlV H v ws → SlV H' v ws) : ∀ (l : List Stm) (cs : List Value), stmC H l cs → stmC H' l cs
  | [], cs, h => h
  | s :: r, cs, ⟨wv, dv, rest, h1, h2, h3, h4⟩ => ⟨wv, dv, rest, h1, hk _ _ h2, hk _ _ h3, stmC.mono hk r rest h4⟩
theorem stmC.snoc {H : Hp} {s : Stm} {wv dv : Value} (hw : SlV H wv s.words) (hd : SlV H dv s.data) : ∀ (l : List Stm) (cs : List Value), stmC H l cs → stmC H (l ++ [s]) (cs ++ [.int .i64 s.line, .string (B s.call), wv, dv])
  | [], cs, h => by
    have : cs = [] := h
    subst this
    exact ⟨wv, dv, [], by simp, hw, hd, rfl⟩
  | x :: r, cs, ⟨wv', dv', rest, h1, h2, h3, h4⟩ => ⟨wv', dv', _, by rw [h1, List.append_assoc], h2, h3, stmC.snoc hw hd r rest h4⟩

/-- A reader at R: what it has read. -/
def RdrO (B0 R ms mp : Nat) (H : Hp) (out : List Stm) : Prop :=
  B0 ≤ R ∧ ∃ ov cells, H[R]? = some (.cells #[.map (some ms), .map (some mp), ov] 77 (0, 0)) ∧ OwnS (B0 ≤ ·) 40 4 H ov out.length cells ∧ stmC H out cells
theorem RdrO.ext {B0 R ms mp : Nat} {H H' : Hp} {out : List Stm} (h : RdrO B0 R ms mp H out) (e : Ext H H') : RdrO B0 R ms mp H' out := by
  obtain ⟨h0, ov, cells, h1, h2, h3⟩ := h
  exact ⟨h0, ov, cells, e.get h1, h2.ext e, stmC.mono (fun v ws h => h.ext e) _ _ h3⟩

/-- A slice literal of one element of several cells. -/
theorem bslA_oneA {P : Program} {H : Hp} {K : Value → Hp → Prop} {X : List PanicEntry → Hp → Prop} {T E : TypeId} {z : Value} {sz by_ : Nat} {v : Value} (hT : P.underlying T = some (.slice E)) (hE : TyOK P E (some z) sz by_) (hz : z.cells.size = sz) (hv : v.cells.size = sz) (h0 : sz ≠ 0 := by decide) (h1 : sz ≤ 16777216 := by decide) :
    bslA P T 1 [(0, v)] K X H = K (.slice (some ⟨H.size, 0, none⟩) 1 1) (H.push (.cells v.cells E)) := by
  refine bslA_lit hT hE (by omega) h0 ?_ (by decide)
  unfold Instr.fill
  simp only [Nat.one_mul, Nat.zero_mul]
  have hc : ¬ ((decide (v.cells.size ≠ sz) || decide (0 + v.cells.size > (Array.map (fun x => z.cells[x % z.cells.size]!) (Array.range sz)).size)) = true) := by
    simp [hv]
  rw [if_neg hc]
  unfold Instr.fill
  have := put_zip 0 v.cells.toList 0 (Array.map (fun x => z.cells[x % z.cells.size]!) (Array.range sz)) (by simp [hv])
  simp only [Nat.zero_add, List.take_zero, List.nil_append, Array.length_toList, hv] at this
  have e : v.cells.toList.toArray = v.cells := by simp
  rw [e] at this
  have e2 : List.drop sz (Array.map (fun x => z.cells[x % z.cells.size]!) (Array.range sz)).toList = [] := by simp
  rw [e2, List.append_nil, e] at this
  simpa using this

theorem uStms : Tryd.prog.underlying 36 = some (.slice 40) := Tryd.underlying36
set_option maxHeartbeats 2000000 in
theorem statement_c {B0 R ms mp : Nat} {rv wv : Value} {call : List UInt8} {inn : Bool} {k : Nat} {t : List UInt8} {rest : List Row} {words : List (List UInt8)} {out : List Stm} {H : Hp} {K : Ending → Hp → Prop}
    (hR : RdrO B0 R ms mp H out) (hB : B0 ≤ H.size) (hr : RowsV H rv ((k, t) :: rest)) (hl : rest.length ≤ 1000000) (hlt : ∀ x ∈ rest, x.2.length ≤ 1000000000) (hw : SlV H wv words) (hw0 : words ≠ []) (hwl : words.length ≤ 1000000) (hout : out.length ≤ 1000000)
    (h : ∀ G, FrJ B0 (fun _ => False) H G → RdrO B0 R ms mp G (stmF out call k rest words).1 → K (.returned (.tuple #[.int .i64 (stmF out call k rest words).2.n, .agg #[.int .i64 (stmF out call k rest words).2.line, .int .i64 (stmF out call k rest words).2.code]])) G) :
    HCall Tryd.prog 90 #[.pointer (some ⟨R, 0, none⟩), .agg #[rv, .string (B call), .bool inn], wv] H K := by
  refine hcall mixed B90 (args := [.pointer (some ⟨R, 0, none⟩), .agg #[rv, .string (B call), .bool inn], wv]) (by simp) ?_
  obtain ⟨hR0, ov, cells, hRb, hown, hst⟩ := hR
  obtain ⟨oa, oc, rfl⟩ := hown.form
  obtain ⟨wa, wc, rfl⟩ := SlE.form hw
  simp only [go_sem, reduceCtorEq, Nat.reduceEqDiff, Nat.reduceAdd, withc_some, withcs_some, cells_0, cells_s, Option.bind_some, Option.map_some, List.getElem?_toArray, List.getElem?_cons_zero, List.getElem?_cons_succ, Nat.add_zero, Nat.zero_add, Value.cells, splice, List.setIfInBounds_toArray, List.set_cons_zero, List.set_cons_succ, bfill_nil, bfill_cons, bstep_some, withO_some, List.take_zero, List.take_succ_cons, List.drop_zero, List.drop_succ_cons, List.cons_append, List.nil_append, List.append_nil, List.length_cons, List.length_nil, Nat.reduceLeDiff, Nat.le_refl, and_true, true_and, and_self, decide_true, decide_false, Bool.not_true, Bool.not_false, c90, r90_0, opA_alloc 79 ty79]
  refine box_kA fun b4 G1 e4 s1 h4 E1 => ?_
  simp only [go_sem, reduceCtorEq, Nat.reduceEqDiff, Nat.reduceAdd, withc_some, withcs_some, cells_0, cells_s, Option.bind_some, Option.map_some, List.getElem?_toArray, List.getElem?_cons_zero, List.getElem?_cons_succ, Nat.add_zero, Nat.zero_add, Value.cells, splice, List.setIfInBounds_toArray, List.set_cons_zero, List.set_cons_succ, bfill_nil, bfill_cons, bstep_some, withO_some, List.take_zero, List.take_succ_cons, List.drop_zero, List.drop_succ_cons, List.cons_append, List.nil_append, List.append_nil, List.length_cons, List.length_nil, Nat.reduceLeDiff, Nat.le_refl, and_true, true_and, and_self, decide_true, decide_false, Bool.not_true, Bool.not_false, opA_alloc 79 ty79]
  refine box_kA fun b7 G2 e7 s2 h7 E2 => ?_
  have E12 := E1.trans E2
  simp only [go_sem, reduceCtorEq, Nat.reduceEqDiff, Nat.reduceAdd, withc_some, withcs_some, cells_0, cells_s, Option.bind_some, Option.map_some, List.getElem?_toArray, List.getElem?_cons_zero, List.getElem?_cons_succ, Nat.add_zero, Nat.zero_add, Value.cells, splice, List.setIfInBounds_toArray, List.set_cons_zero, List.set_cons_succ, bfill_nil, bfill_cons, bstep_some, withO_some, List.take_zero, List.take_succ_cons, List.drop_zero, List.drop_succ_cons, List.cons_append, List.nil_append, List.append_nil, List.length_cons, List.length_nil, Nat.reduceLeDiff, Nat.le_refl, and_true, true_and, and_self, decide_true, decide_false, Bool.not_true, Bool.not_false, c90_12, r90_1, cell_of_blk (E12.get hRb), fa77_2, ld36, len_slice Tryd.underlying36, opA_alloc 79 ty79]
  by_cases h400 : 400 ≤ out.length
  · have e1 : decide ((400 : Int) ≤ (out.length : Int)) = true := by rw [decide_eq_true_eq]; omega
    have hs : stmF out call k rest words = (out, ⟨0, k, 8⟩) := by unfold stmF; rw [if_pos h400]
    rw [hs] at h
    simp only [go_sem, reduceCtorEq, Nat.reduceEqDiff, Nat.reduceAdd, withc_some, withcs_some, cells_0, cells_s, Option.bind_some, Option.map_some, List.getElem?_toArray, List.getElem?_cons_zero, List.getElem?_cons_succ, Nat.add_zero, Nat.zero_add, Value.cells, splice, List.setIfInBounds_toArray, List.set_cons_zero, List.set_cons_succ, bfill_nil, bfill_cons, bstep_some, withO_some, List.take_zero, List.take_succ_cons, List.drop_zero, List.drop_succ_cons, List.cons_append, List.nil_append, List.append_nil, List.length_cons, List.length_nil, Nat.reduceLeDiff, Nat.le_refl, and_true, true_and, and_self, decide_true, decide_false, Bool.not_true, Bool.not_false, e1, c90_1, c90_0, r90_2, cell_of_blk (E2.get h4), callA_fn0 pl91, fa77_2, ld36, ld82, len_slice Tryd.underlying36, opA_alloc 79 ty79]
    refine at_c (hr.ext E12) fun G3 E3 => ?_
    simp only [go_sem, reduceCtorEq, Nat.reduceEqDiff, Nat.reduceAdd, withc_some, withcs_some, cells_0, cells_s, Option.bind_some, Option.map_some, List.getElem?_toArray, List.getElem?_cons_zero, List.getElem?_cons_succ, Nat.add_zero, Nat.zero_add, Value.cells, splice, List.setIfInBounds_toArray, List.set_cons_zero, List.set_cons_succ, bfill_nil, bfill_cons, bstep_some, withO_some, List.take_zero, List.take_succ_cons, List.drop_zero, List.drop_succ_cons, List.cons_append, List.nil_append, List.append_nil, List.length_cons, List.length_nil, Nat.reduceLeDiff, Nat.le_refl, and_true, true_and, and_self, decide_true, decide_false, Bool.not_true, Bool.not_false, callA_fn0 pl91, fa77_2, ld36, ld82, len_slice Tryd.underlying36, opA_alloc 79 ty79]
    refine store_kA (E3.get h7) ty79 (k := fun G4 h8 k4 s4 => ?_)
    simp only [go_sem, reduceCtorEq, Nat.reduceEqDiff, Nat.reduceAdd, withc_some, withcs_some, cells_0, cells_s, Option.bind_some, Option.map_some, List.getElem?_toArray, List.getElem?_cons_zero, List.getElem?_cons_succ, Nat.add_zero, Nat.zero_add, Value.cells, splice, List.setIfInBounds_toArray, List.set_cons_zero, List.set_cons_succ, bfill_nil, bfill_cons, bstep_some, withO_some, List.take_zero, List.take_succ_cons, List.drop_zero, List.drop_succ_cons, List.cons_append, List.nil_append, List.append_nil, List.length_cons, List.length_nil, Nat.reduceLeDiff, Nat.le_refl, and_true, true_and, and_self, decide_true, decide_false, Bool.not_true, Bool.not_false, resW_cell, callA_fn0 pl91, fa77_2, ld36, ld82, len_slice Tryd.underlying36, opA_alloc 79 ty79]
    rw [rc79 (l := [.int .i64 k, .int .i64 8]) (by simp only [go_sem, reduceCtorEq, Nat.reduceEqDiff, Nat.reduceAdd, withc_some, withcs_some, cells_0, cells_s, Option.bind_some, Option.map_some, List.getElem?_toArray, List.getElem?_cons_zero, List.getElem?_cons_succ, Nat.add_zero, Nat.zero_add, Value.cells, splice, List.setIfInBounds_toArray, List.set_cons_zero, List.set_cons_succ, bfill_nil, bfill_cons, bstep_some, withO_some, List.take_zero, List.take_succ_cons, List.drop_zero, List.drop_succ_cons, List.cons_append, List.nil_append, List.append_nil, List.length_cons, List.length_nil, Nat.reduceLeDiff, Nat.le_refl, and_true, true_and, and_self, decide_true, decide_false, Bool.not_true, Bool.not_false, cell_of_blk h8, callA_fn0 pl91, fa77_2, ld36, ld82, len_slice Tryd.underlying36, opA_alloc 79 ty79])]
    have E4 : Ext H G4 := k4.two (E12.trans E3) (by omega)
    exact h G4 E4.ko (RdrO.ext ⟨hR0, _, cells, hRb, hown, hst⟩ E4)
  · have e1 : decide ((400 : Int) ≤ (out.length : Int)) = false := by rw [decide_eq_false_iff_not]; omega
    obtain ⟨rb, roff, rc, rfl, r0, r1⟩ := hr.at0
    simp only [go_sem, reduceCtorEq, Nat.reduceEqDiff, Nat.reduceAdd, withc_some, withcs_some, cells_0, cells_s, Option.bind_some, Option.map_some, List.getElem?_toArray, List.getElem?_cons_zero, List.getElem?_cons_succ, Nat.add_zero, Nat.zero_add, Value.cells, splice, List.setIfInBounds_toArray, List.set_cons_zero, List.set_cons_succ, bfill_nil, bfill_cons, bstep_some, withO_some, List.take_zero, List.take_succ_cons, List.drop_zero, List.drop_succ_cons, List.cons_append, List.nil_append, List.append_nil, List.length_cons, List.length_nil, Nat.reduceLeDiff, Nat.le_refl, and_true, true_and, and_self, decide_true, decide_false, Bool.not_true, Bool.not_false, e1, c90_1, c90_11, r90_3, cell_of_blk (E2.get h4), bl40, bq40, callA_fn0 pl91, fa73_0, fa77_2, fa82_0, fa82_1, fq73_0, fq82_0, fq82_1, ld3, ld36, ld68, ld82, ld9, len_slice Tryd.underlying36, lq3, lq68, lq9, opA_alloc 40 ty40, opA_alloc 79 ty79]
    rw [iadQ_slice uRows ty73 (by omega) (by omega)]
    simp only [go_sem, reduceCtorEq, Nat.reduceEqDiff, Nat.reduceAdd, withc_some, withcs_some, cells_0, cells_s, Option.bind_some, Option.map_some, List.getElem?_toArray, List.getElem?_cons_zero, List.getElem?_cons_succ, Nat.add_zero, Nat.zero_add, Value.cells, splice, List.setIfInBounds_toArray, List.set_cons_zero, List.set_cons_succ, bfill_nil, bfill_cons, bstep_some, withO_some, List.take_zero, List.take_succ_cons, List.drop_zero, List.drop_succ_cons, List.cons_append, List.nil_append, List.append_nil, List.length_cons, List.length_nil, Nat.reduceLeDiff, Nat.le_refl, and_true, true_and, and_self, decide_true, decide_false, Bool.not_true, Bool.not_false, add_none, cell_ext E12 r0, Int.toNat_zero, Nat.zero_mul, cell_of_blk (E2.get h4), if_true, bl40, bq40, callA_fn0 pl91, fa73_0, fa77_2, fa82_0, fa82_1, fq73_0, fq82_0, fq82_1, ld3, ld36, ld68, ld82, ld9, len_slice Tryd.underlying36, lq3, lq68, lq9, opA_alloc 40 ty40, opA_alloc 79 ty79]
    refine box_kA fun b8 G3 e8 s3 h8 E3 => ?_
    simp only [go_sem, reduceCtorEq, Nat.reduceEqDiff, Nat.reduceAdd, withc_some, withcs_some, cells_0, cells_s, Option.bind_some, Option.map_some, List.getElem?_toArray, List.getElem?_cons_zero, List.getElem?_cons_succ, Nat.add_zero, Nat.zero_add, Value.cells, splice, List.setIfInBounds_toArray, List.set_cons_zero, List.set_cons_succ, bfill_nil, bfill_cons, bstep_some, withO_some, List.take_zero, List.take_succ_cons, List.drop_zero, List.drop_succ_cons, List.cons_append, List.nil_append, List.append_nil, List.length_cons, List.length_nil, Nat.reduceLeDiff, Nat.le_refl, and_true, true_and, and_self, decide_true, decide_false, Bool.not_true, Bool.not_false, bl40, bq40, callA_fn0 pl91, fa73_0, fa77_2, fa82_0, fa82_1, fq73_0, fq82_0, fq82_1, ld3, ld36, ld68, ld82, ld9, len_slice Tryd.underlying36, lq3, lq68, lq9, opA_alloc 40 ty40, opA_alloc 79 ty79]
    refine ⟨E3, ?_⟩
    refine store_kA h8 ty40 (k := fun G4 h9 k4 s4 => ?_)
    have h9' : G4[b8]? = some (.cells #[.int .i64 k, .string (B call), .slice wa words.length wc, .slice none 0 0] 40 (0, 0)) := h9
    have E4 : Ext G2 G4 := k4.two E3 (by omega)
    obtain ⟨w0, hw00⟩ : ∃ w, words[0]? = some w := ⟨words[0]'(List.length_pos_iff.2 hw0), List.getElem?_eq_getElem _⟩
    obtain ⟨wb, woff, wc', ew, w1⟩ := (hw.ext (E12.trans E4)).at hw00
    cases ew
    rw [Nat.add_zero] at w1
    have hwpos := List.length_pos_iff.2 hw0
    simp only [go_sem, reduceCtorEq, Nat.reduceEqDiff, Nat.reduceAdd, withc_some, withcs_some, cells_0, cells_s, Option.bind_some, Option.map_some, List.getElem?_toArray, List.getElem?_cons_zero, List.getElem?_cons_succ, Nat.add_zero, Nat.zero_add, Value.cells, splice, List.setIfInBounds_toArray, List.set_cons_zero, List.set_cons_succ, bfill_nil, bfill_cons, bstep_some, withO_some, List.take_zero, List.take_succ_cons, List.drop_zero, List.drop_succ_cons, List.cons_append, List.nil_append, List.append_nil, List.length_cons, List.length_nil, Nat.reduceLeDiff, Nat.le_refl, and_true, true_and, and_self, decide_true, decide_false, Bool.not_true, Bool.not_false, c90_10, r90_4, c90_9, r90_5, bl40, bq40, callA_fn0 pl91, fa73_0, fa77_2, fa82_0, fa82_1, fq73_0, fq82_0, fq82_1, ld3, ld36, ld68, ld82, ld9, len_slice Tryd.underlying24, len_slice Tryd.underlying36, lq3, lq68, lq9, opA_alloc 40 ty40, opA_alloc 79 ty79]
    rw [iadA_slice uStrs ty9 (by omega) (by omega)]
    simp only [go_sem, reduceCtorEq, Nat.reduceEqDiff, Nat.reduceAdd, withc_some, withcs_some, cells_0, cells_s, Option.bind_some, Option.map_some, List.getElem?_toArray, List.getElem?_cons_zero, List.getElem?_cons_succ, Nat.add_zero, Nat.zero_add, Value.cells, splice, List.setIfInBounds_toArray, List.set_cons_zero, List.set_cons_succ, bfill_nil, bfill_cons, bstep_some, withO_some, List.take_zero, List.take_succ_cons, List.drop_zero, List.drop_succ_cons, List.cons_append, List.nil_append, List.append_nil, List.length_cons, List.length_nil, Nat.reduceLeDiff, Nat.le_refl, and_true, true_and, and_self, decide_true, decide_false, Bool.not_true, Bool.not_false, add_none, Int.toNat_zero, Nat.zero_mul, w1, B_lit, B_toList, bl40, bq40, callA_fn0 pl91, fa73_0, fa77_2, fa82_0, fa82_1, fq73_0, fq82_0, fq82_1, ld3, ld36, ld68, ld82, ld9, len_slice Tryd.underlying24, len_slice Tryd.underlying36, lq3, lq68, lq9, opA_alloc 40 ty40, opA_alloc 79 ty79]
    -- behind the test
    have fin : ∀ (G : Hp) (dv : Value) (data : List (List UInt8)) (n : Nat), Ext G2 G → G[b8]? = some (.cells #[.int .i64 k, .string (B call), .slice (some ⟨wb, woff, none⟩) words.length wc, dv] 40 (0, 0)) → SlV G dv data →
        stmF out call k rest words = (out ++ [⟨k, call, words, data⟩], ⟨n, 0, 0⟩) → aw Tryd.prog 70 c90_8 (retK Tryd.prog [.tmp 6, .cell 7 79] K) [(0, .pointer (some ⟨R, 0, none⟩)), (7, .pointer (some ⟨b7, 0, none⟩)), (8, .pointer (some ⟨b8, 0, none⟩)), (9, .int .i64 n)] G := by
      intro G dv data n hE g8 hd hs
      rw [hs] at h
      obtain ⟨da, dc, rfl⟩ := SlE.form hd
      have E := E12.trans hE
      have hRg := E.get hRb
      simp only [go_sem, reduceCtorEq, Nat.reduceEqDiff, Nat.reduceAdd, withc_some, withcs_some, cells_0, cells_s, Option.bind_some, Option.map_some, List.getElem?_toArray, List.getElem?_cons_zero, List.getElem?_cons_succ, Nat.add_zero, Nat.zero_add, Value.cells, splice, List.setIfInBounds_toArray, List.set_cons_zero, List.set_cons_succ, bfill_nil, bfill_cons, bstep_some, withO_some, List.take_zero, List.take_succ_cons, List.drop_zero, List.drop_succ_cons, List.cons_append, List.nil_append, List.append_nil, List.length_cons, List.length_nil, Nat.reduceLeDiff, Nat.le_refl, and_true, true_and, and_self, decide_true, decide_false, Bool.not_true, Bool.not_false, c90_8, r90_10, cell_of_blk hRg, bl40, bq40, callA_fn0 pl91, fa73_0, fa77_2, fa82_0, fa82_1, fq73_0, fq77_2, fq82_0, fq82_1, ld3, ld36, ld40, ld68, ld82, ld9, len_slice Tryd.underlying24, len_slice Tryd.underlying36, lq3, lq36, lq68, lq9, opA_alloc 40 ty40, opA_alloc 79 ty79]
      rw [loadQ_agg Tryd.underlying40 rfl ty40 (show cellsH G ⟨b8, 0, none⟩ 0 4 = some [.int .i64 k, .string (B call), .slice (some ⟨wb, woff, none⟩) words.length wc, .slice da data.length dc] by rw [cellsH_of_blk g8 4 0 (by simp)]; rfl)]
      simp only [go_sem, reduceCtorEq, Nat.reduceEqDiff, Nat.reduceAdd, withc_some, withcs_some, cells_0, cells_s, Option.bind_some, Option.map_some, List.getElem?_toArray, List.getElem?_cons_zero, List.getElem?_cons_succ, Nat.add_zero, Nat.zero_add, Value.cells, splice, List.setIfInBounds_toArray, List.set_cons_zero, List.set_cons_succ, bfill_nil, bfill_cons, bstep_some, withO_some, List.take_zero, List.take_succ_cons, List.drop_zero, List.drop_succ_cons, List.cons_append, List.nil_append, List.append_nil, List.length_cons, List.length_nil, Nat.reduceLeDiff, Nat.le_refl, and_true, true_and, and_self, decide_true, decide_false, Bool.not_true, Bool.not_false, bl40, bq40, callA_fn0 pl91, fa73_0, fa77_2, fa82_0, fa82_1, fq73_0, fq77_2, fq82_0, fq82_1, ld3, ld36, ld40, ld68, ld82, ld9, len_slice Tryd.underlying24, len_slice Tryd.underlying36, lq3, lq36, lq68, lq9, opA_alloc 40 ty40, opA_alloc 79 ty79]
      rw [bslA_oneA uStms ty40 rfl rfl]
      simp only [go_sem, reduceCtorEq, Nat.reduceEqDiff, Nat.reduceAdd, withc_some, withcs_some, cells_0, cells_s, Option.bind_some, Option.map_some, List.getElem?_toArray, List.getElem?_cons_zero, List.getElem?_cons_succ, Nat.add_zero, Nat.zero_add, Value.cells, splice, List.setIfInBounds_toArray, List.set_cons_zero, List.set_cons_succ, bfill_nil, bfill_cons, bstep_some, withO_some, List.take_zero, List.take_succ_cons, List.drop_zero, List.drop_succ_cons, List.cons_append, List.nil_append, List.append_nil, List.length_cons, List.length_nil, Nat.reduceLeDiff, Nat.le_refl, and_true, true_and, and_self, decide_true, decide_false, Bool.not_true, Bool.not_false, bl40, bq40, callA_fn0 pl91, fa73_0, fa77_2, fa82_0, fa82_1, fq73_0, fq77_2, fq82_0, fq82_1, ld3, ld36, ld40, ld68, ld82, ld9, len_slice Tryd.underlying24, len_slice Tryd.underlying36, lq3, lq36, lq68, lq9, opA_alloc 40 ty40, opA_alloc 79 ty79]
      refine ⟨Ext.push _ _, ?_⟩
      refine append_lit (ok := (B0 ≤ ·)) (m := 1) (hown.ext E) uStms ty40 rfl rfl (by intro u hu; simp at hu; rcases hu with rfl | rfl | rfl | rfl <;> rfl) (fun b hb => by have := E.size; omega) (by omega) (by omega) fun v' G5 own5 k5 f5 => ?_
      have nR := own_ne (hown.ext E) hRg (by simp)
      have n7 := own_ne (hown.ext E) (hE.get h7) (by simp)
      have hR5 := k5.get hRg nR
      have h75 := k5.get (hE.get h7) n7
      obtain ⟨va, vc, rfl⟩ := own5.form
      simp only [go_sem, reduceCtorEq, Nat.reduceEqDiff, Nat.reduceAdd, withc_some, withcs_some, cells_0, cells_s, Option.bind_some, Option.map_some, List.getElem?_toArray, List.getElem?_cons_zero, List.getElem?_cons_succ, Nat.add_zero, Nat.zero_add, Value.cells, splice, List.setIfInBounds_toArray, List.set_cons_zero, List.set_cons_succ, bfill_nil, bfill_cons, bstep_some, withO_some, List.take_zero, List.take_succ_cons, List.drop_zero, List.drop_succ_cons, List.cons_append, List.nil_append, List.append_nil, List.length_cons, List.length_nil, Nat.reduceLeDiff, Nat.le_refl, and_true, true_and, and_self, decide_true, decide_false, Bool.not_true, Bool.not_false, bl40, bq40, callA_fn0 pl91, fa73_0, fa77_2, fa82_0, fa82_1, fq73_0, fq77_2, fq82_0, fq82_1, ld3, ld36, ld40, ld68, ld82, ld9, len_slice Tryd.underlying24, len_slice Tryd.underlying36, lq3, lq36, lq68, lq9, opA_alloc 40 ty40, opA_alloc 79 ty79]
      refine store_k1 hR5 ty36 (k := fun G6 hR6 k6 s6 => ?_)
      have h76 := k6.get h75 (by intro e; subst e; rw [h75] at hR5; cases hR5)
      simp only [go_sem, reduceCtorEq, Nat.reduceEqDiff, Nat.reduceAdd, withc_some, withcs_some, cells_0, cells_s, Option.bind_some, Option.map_some, List.getElem?_toArray, List.getElem?_cons_zero, List.getElem?_cons_succ, Nat.add_zero, Nat.zero_add, Value.cells, splice, List.setIfInBounds_toArray, List.set_cons_zero, List.set_cons_succ, bfill_nil, bfill_cons, bstep_some, withO_some, List.take_zero, List.take_succ_cons, List.drop_zero, List.drop_succ_cons, List.cons_append, List.nil_append, List.append_nil, List.length_cons, List.length_nil, Nat.reduceLeDiff, Nat.le_refl, and_true, true_and, and_self, decide_true, decide_false, Bool.not_true, Bool.not_false, c90_7, r90_11, bl40, bl79, bq40, callA_fn0 pl91, fa73_0, fa77_2, fa82_0, fa82_1, fq73_0, fq77_2, fq82_0, fq82_1, ld3, ld36, ld40, ld68, ld82, ld9, len_slice Tryd.underlying24, len_slice Tryd.underlying36, lq3, lq36, lq68, lq9, opA_alloc 40 ty40, opA_alloc 79 ty79]
      refine store_kA h76 ty79 (k := fun G7 h77 k7 s7 => ?_)
      simp only [go_sem, reduceCtorEq, Nat.reduceEqDiff, Nat.reduceAdd, withc_some, withcs_some, cells_0, cells_s, Option.bind_some, Option.map_some, List.getElem?_toArray, List.getElem?_cons_zero, List.getElem?_cons_succ, Nat.add_zero, Nat.zero_add, Value.cells, splice, List.setIfInBounds_toArray, List.set_cons_zero, List.set_cons_succ, bfill_nil, bfill_cons, bstep_some, withO_some, List.take_zero, List.take_succ_cons, List.drop_zero, List.drop_succ_cons, List.cons_append, List.nil_append, List.append_nil, List.length_cons, List.length_nil, Nat.reduceLeDiff, Nat.le_refl, and_true, true_and, and_self, decide_true, decide_false, Bool.not_true, Bool.not_false, resW_cell, bl40, bl79, bq40, callA_fn0 pl91, fa73_0, fa77_2, fa82_0, fa82_1, fq73_0, fq77_2, fq82_0, fq82_1, ld3, ld36, ld40, ld68, ld82, ld9, len_slice Tryd.underlying24, len_slice Tryd.underlying36, lq3, lq36, lq68, lq9, opA_alloc 40 ty40, opA_alloc 79 ty79]
      rw [rc79 (l := [.int .i64 0, .int .i64 0]) (by simp only [go_sem, reduceCtorEq, Nat.reduceEqDiff, Nat.reduceAdd, withc_some, withcs_some, cells_0, cells_s, Option.bind_some, Option.map_some, List.getElem?_toArray, List.getElem?_cons_zero, List.getElem?_cons_succ, Nat.add_zero, Nat.zero_add, Value.cells, splice, List.setIfInBounds_toArray, List.set_cons_zero, List.set_cons_succ, bfill_nil, bfill_cons, bstep_some, withO_some, List.take_zero, List.take_succ_cons, List.drop_zero, List.drop_succ_cons, List.cons_append, List.nil_append, List.append_nil, List.length_cons, List.length_nil, Nat.reduceLeDiff, Nat.le_refl, and_true, true_and, and_self, decide_true, decide_false, Bool.not_true, Bool.not_false, cell_of_blk h77, bl40, bl79, bq40, callA_fn0 pl91, fa73_0, fa77_2, fa82_0, fa82_1, fq73_0, fq77_2, fq82_0, fq82_1, ld3, ld36, ld40, ld68, ld82, ld9, len_slice Tryd.underlying24, len_slice Tryd.underlying36, lq3, lq36, lq68, lq9, opA_alloc 40 ty40, opA_alloc 79 ty79])]
      have hR7 := k7.get hR6 (by intro e; subst e; rw [h76] at hR6; cases hR6)
      have keepS : ∀ (b : Nat) (c : Array Value) (f : Nat × Nat), G[b]? = some (Obj.cells c 9 f) → G7[b]? = some (Obj.cells c 9 f) := by
        intro b c f hb
        have b5 := k5.get hb (own_ne (hown.ext E) hb (by simp))
        have b6 := k6.get b5 (by intro e; subst e; rw [b5] at hR5; cases hR5)
        exact k7.get b6 (by intro e; subst e; rw [b6] at h76; cases h76)
      have hfr : FrJ B0 (fun _ => False) H G7 := by
        refine ⟨by have := E.size; have := k5.size; omega, fun b o hb hm => ?_⟩
        have b1 := E.get hb
        have n5 : ¬ blkOf (.slice oa out.length oc) b := by
          intro hbl
          refine hm ⟨hown.ok b hbl, .inl ?_⟩
          by_cases hkd : ∃ c f, o = .cells c 40 f
          · obtain ⟨c, f, e⟩ := hkd; exact ⟨c, f, .inr e⟩
          · exact absurd hbl (own_ne (hown.ext E) b1 (fun c f e => hkd ⟨c, f, e⟩))
        have b5 := k5.get b1 n5
        have b6 := k6.get b5 (by intro e; subst e; rw [hRb] at hb; cases hb; exact hm ⟨hR0, .inl ⟨_, _, .inl rfl⟩⟩)
        exact k7.get b6 (by have := get_lt hb; have := E1.size; intro e; omega)
      refine h G7 hfr ⟨hR0, _, cells ++ [.int .i64 k, .string (B call), .slice (some ⟨wb, woff, none⟩) words.length wc, .slice da data.length dc], hR7, ?_, ?_⟩
      · have := own_set_ne (own_set_ne own5 hR5 (by simp) k6) h76 (by simp) k7
        simpa using this
      · refine stmC.snoc (s := ⟨k, call, words, data⟩) (SlE.mono (hw.ext E) keepS) (SlE.mono hd keepS) _ _ ?_
        exact stmC.mono (fun v ws hv => SlE.mono (hv.ext E) keepS) _ _ hst
    have hsimple : ¬ (words[0]? = some [100, 100] ∧ words.length = 3 ∧ words[2]? = some [105, 110, 108, 105, 110, 101]) → stmF out call k rest words = (out ++ [⟨k, call, words, []⟩], ⟨0, 0, 0⟩) := by
      intro hn; unfold stmF; rw [if_neg h400, if_neg hn]
    by_cases hdd : w0 = [100, 100]
    · subst hdd
      have e2 : (([100, 100] : List UInt8) == [100, 100]) = true := rfl
      by_cases h3 : words.length = 3
      · have e3 : decide ((words.length : Int) = 3) = true := by rw [decide_eq_true_eq]; omega
        obtain ⟨w2, hw22⟩ : ∃ w, words[2]? = some w := ⟨words[2], List.getElem?_eq_getElem (by omega)⟩
        obtain ⟨wb', woff', wc', ew, wv2⟩ := (hw.ext (E12.trans E4)).at hw22
        cases ew
        simp only [go_sem, reduceCtorEq, Nat.reduceEqDiff, Nat.reduceAdd, withc_some, withcs_some, cells_0, cells_s, Option.bind_some, Option.map_some, List.getElem?_toArray, List.getElem?_cons_zero, List.getElem?_cons_succ, Nat.add_zero, Nat.zero_add, Value.cells, splice, List.setIfInBounds_toArray, List.set_cons_zero, List.set_cons_succ, bfill_nil, bfill_cons, bstep_some, withO_some, List.take_zero, List.take_succ_cons, List.drop_zero, List.drop_succ_cons, List.cons_append, List.nil_append, List.append_nil, List.length_cons, List.length_nil, Nat.reduceLeDiff, Nat.le_refl, and_true, true_and, and_self, decide_true, decide_false, Bool.not_true, Bool.not_false, e2, e3, bl40, bl79, bq40, callA_fn0 pl91, fa73_0, fa77_2, fa82_0, fa82_1, fq73_0, fq77_2, fq82_0, fq82_1, ld3, ld36, ld40, ld68, ld82, ld9, len_slice Tryd.underlying24, len_slice Tryd.underlying36, lq3, lq36, lq68, lq9, opA_alloc 40 ty40, opA_alloc 79 ty79]
        rw [iadA_slice uStrs ty9 (by omega) (by omega)]
        simp only [go_sem, reduceCtorEq, Nat.reduceEqDiff, Nat.reduceAdd, withc_some, withcs_some, cells_0, cells_s, Option.bind_some, Option.map_some, List.getElem?_toArray, List.getElem?_cons_zero, List.getElem?_cons_succ, Nat.add_zero, Nat.zero_add, Value.cells, splice, List.setIfInBounds_toArray, List.set_cons_zero, List.set_cons_succ, bfill_nil, bfill_cons, bstep_some, withO_some, List.take_zero, List.take_succ_cons, List.drop_zero, List.drop_succ_cons, List.cons_append, List.nil_append, List.append_nil, List.length_cons, List.length_nil, Nat.reduceLeDiff, Nat.le_refl, and_true, true_and, and_self, decide_true, decide_false, Bool.not_true, Bool.not_false, add_none, show Int.toNat 2 = 2 from rfl, Nat.mul_one, wv2, B_lit, B_toList, bl40, bl79, bq40, callA_fn0 pl91, fa73_0, fa77_2, fa82_0, fa82_1, fq73_0, fq77_2, fq82_0, fq82_1, ld3, ld36, ld40, ld68, ld82, ld9, len_slice Tryd.underlying24, len_slice Tryd.underlying36, lq3, lq36, lq68, lq9, opA_alloc 40 ty40, opA_alloc 79 ty79]
        by_cases hin : w2 = [105, 110, 108, 105, 110, 101]
        · subst hin
          have e4 : (([105, 110, 108, 105, 110, 101] : List UInt8) == [105, 110, 108, 105, 110, 101]) = true := rfl
          have hcond : words[0]? = some [100, 100] ∧ words.length = 3 ∧ words[2]? = some [105, 110, 108, 105, 110, 101] := ⟨hw00, h3, hw22⟩
          simp only [go_sem, reduceCtorEq, Nat.reduceEqDiff, Nat.reduceAdd, withc_some, withcs_some, cells_0, cells_s, Option.bind_some, Option.map_some, List.getElem?_toArray, List.getElem?_cons_zero, List.getElem?_cons_succ, Nat.add_zero, Nat.zero_add, Value.cells, splice, List.setIfInBounds_toArray, List.set_cons_zero, List.set_cons_succ, bfill_nil, bfill_cons, bstep_some, withO_some, List.take_zero, List.take_succ_cons, List.drop_zero, List.drop_succ_cons, List.cons_append, List.nil_append, List.append_nil, List.length_cons, List.length_nil, Nat.reduceLeDiff, Nat.le_refl, and_true, true_and, and_self, decide_true, decide_false, Bool.not_true, Bool.not_false, e4, c90_6, c90_5, r90_6, cell_of_blk (E4.get (E2.get h4)), bl40, bl79, bq40, callA_fn0 pl101, callA_fn0 pl91, fa73_0, fa77_2, fa82_0, fa82_1, fq73_0, fq77_2, fq82_0, fq82_1, ld3, ld36, ld40, ld68, ld82, ld9, len_slice Tryd.underlying24, len_slice Tryd.underlying36, lq3, lq36, lq68, lq9, opA_alloc 40 ty40, opA_alloc 79 ty79]
          have hrx := hr.ext (E12.trans E4)
          refine inline_c hrx hl hlt (fun G dv l hi hE hdv => ?_) (fun G m c hi hE => ?_)
          · have hst2 : stmF out call k rest words = (out ++ [⟨k, call, words, l⟩], ⟨l.length + 1, 0, 0⟩) := by
              unfold stmF; rw [if_neg h400, if_pos hcond]; simp only [hi]
            obtain ⟨da, dc, rfl⟩ := hdv.form
            have hl64 := inlineT_len _ _ _ _ (by simp) hi
            simp only [go_sem, reduceCtorEq, Nat.reduceEqDiff, Nat.reduceAdd, withc_some, withcs_some, cells_0, cells_s, Option.bind_some, Option.map_some, List.getElem?_toArray, List.getElem?_cons_zero, List.getElem?_cons_succ, Nat.add_zero, Nat.zero_add, Value.cells, splice, List.setIfInBounds_toArray, List.set_cons_zero, List.set_cons_succ, bfill_nil, bfill_cons, bstep_some, withO_some, List.take_zero, List.take_succ_cons, List.drop_zero, List.drop_succ_cons, List.cons_append, List.nil_append, List.append_nil, List.length_cons, List.length_nil, Nat.reduceLeDiff, Nat.le_refl, and_true, true_and, and_self, decide_true, decide_false, Bool.not_true, Bool.not_false, bl40, bl79, bq40, callA_fn0 pl101, callA_fn0 pl91, fa73_0, fa77_2, fa82_0, fa82_1, fq73_0, fq77_2, fq82_0, fq82_1, ld3, ld36, ld40, ld68, ld82, ld9, len_slice Tryd.underlying24, len_slice Tryd.underlying36, lq3, lq36, lq68, lq9, opA_alloc 40 ty40, opA_alloc 79 ty79]
            refine box_kA fun b11 G5 e11 s5 h11 E5 => ?_
            simp only [go_sem, reduceCtorEq, Nat.reduceEqDiff, Nat.reduceAdd, withc_some, withcs_some, cells_0, cells_s, Option.bind_some, Option.map_some, List.getElem?_toArray, List.getElem?_cons_zero, List.getElem?_cons_succ, Nat.add_zero, Nat.zero_add, Value.cells, splice, List.setIfInBounds_toArray, List.set_cons_zero, List.set_cons_succ, bfill_nil, bfill_cons, bstep_some, withO_some, List.take_zero, List.take_succ_cons, List.drop_zero, List.drop_succ_cons, List.cons_append, List.nil_append, List.append_nil, List.length_cons, List.length_nil, Nat.reduceLeDiff, Nat.le_refl, and_true, true_and, and_self, decide_true, decide_false, Bool.not_true, Bool.not_false, bl40, bl79, bq40, callA_fn0 pl101, callA_fn0 pl91, fa73_0, fa77_2, fa82_0, fa82_1, fq73_0, fq77_2, fq82_0, fq82_1, ld3, ld36, ld40, ld68, ld82, ld9, len_slice Tryd.underlying24, len_slice Tryd.underlying36, lq3, lq36, lq68, lq9, opA_alloc 40 ty40, opA_alloc 79 ty79]
            refine store_kA h11 ty79 (k := fun G6 h12 k6 s6 => ?_)
            have h12' : G6[b11]? = some (.cells #[.int .i64 0, .int .i64 0] 79 (0, 0)) := h12
            have E6 : Ext G G6 := k6.two E5 (by omega)
            simp only [go_sem, reduceCtorEq, Nat.reduceEqDiff, Nat.reduceAdd, withc_some, withcs_some, cells_0, cells_s, Option.bind_some, Option.map_some, List.getElem?_toArray, List.getElem?_cons_zero, List.getElem?_cons_succ, Nat.add_zero, Nat.zero_add, Value.cells, splice, List.setIfInBounds_toArray, List.set_cons_zero, List.set_cons_succ, bfill_nil, bfill_cons, bstep_some, withO_some, List.take_zero, List.take_succ_cons, List.drop_zero, List.drop_succ_cons, List.cons_append, List.nil_append, List.append_nil, List.length_cons, List.length_nil, Nat.reduceLeDiff, Nat.le_refl, and_true, true_and, and_self, decide_true, decide_false, Bool.not_true, Bool.not_false, c90_4, r90_7, cell_of_blk h12', c90_3, r90_9, show decide ((0 : Int) = 0) = true from rfl, bl40, bl79, bq40, callA_fn0 pl101, callA_fn0 pl91, fa40_3, fa73_0, fa77_2, fa79_1, fa82_0, fa82_1, fq73_0, fq77_2, fq82_0, fq82_1, ld25, ld3, ld36, ld40, ld68, ld82, ld9, len_slice Tryd.underlying24, len_slice Tryd.underlying36, lq3, lq36, lq68, lq9, opA_alloc 40 ty40, opA_alloc 79 ty79]
            have g8 := (hE.trans E6).get h9'
            have h76 := (hE.trans E6).get (E4.get h7)
            refine store_k1 g8 ty24 (k := fun G7 h13 k7 s7 => ?_)
            simp only [go_sem, reduceCtorEq, Nat.reduceEqDiff, Nat.reduceAdd, withc_some, withcs_some, cells_0, cells_s, Option.bind_some, Option.map_some, List.getElem?_toArray, List.getElem?_cons_zero, List.getElem?_cons_succ, Nat.add_zero, Nat.zero_add, Value.cells, splice, List.setIfInBounds_toArray, List.set_cons_zero, List.set_cons_succ, bfill_nil, bfill_cons, bstep_some, withO_some, List.take_zero, List.take_succ_cons, List.drop_zero, List.drop_succ_cons, List.cons_append, List.nil_append, List.append_nil, List.length_cons, List.length_nil, Nat.reduceLeDiff, Nat.le_refl, and_true, true_and, and_self, decide_true, decide_false, Bool.not_true, Bool.not_false, wrap_one (show l.length + 1 ≤ 9223372036854775807 by omega), bl40, bl79, bq40, callA_fn0 pl101, callA_fn0 pl91, fa40_3, fa73_0, fa77_2, fa79_1, fa82_0, fa82_1, fq73_0, fq77_2, fq82_0, fq82_1, ld25, ld3, ld36, ld40, ld68, ld82, ld9, len_slice Tryd.underlying24, len_slice Tryd.underlying36, lq3, lq36, lq68, lq9, opA_alloc 40 ty40, opA_alloc 79 ty79]
            have h13' : G7[b8]? = some (.cells #[.int .i64 k, .string (B call), .slice (some ⟨wb, woff, none⟩) words.length wc, .slice da l.length dc] 40 (0, 0)) := h13
            have E7 : Ext G2 G7 := k7.two (E4.trans (hE.trans E6)) (by omega)
            refine fin G7 _ l _ E7 h13' ?_ hst2
            refine SlE.mono (SlE.own (hdv.ext E6)) fun b c f hb => k7.get hb (by intro e; subst e; rw [hb] at g8; cases g8)
          · have hst2 : stmF out call k rest words = (out, ⟨0, m, c⟩) := by
              unfold stmF; rw [if_neg h400, if_pos hcond]; simp only [hi]
            rw [hst2] at h
            simp only [go_sem, reduceCtorEq, Nat.reduceEqDiff, Nat.reduceAdd, withc_some, withcs_some, cells_0, cells_s, Option.bind_some, Option.map_some, List.getElem?_toArray, List.getElem?_cons_zero, List.getElem?_cons_succ, Nat.add_zero, Nat.zero_add, Value.cells, splice, List.setIfInBounds_toArray, List.set_cons_zero, List.set_cons_succ, bfill_nil, bfill_cons, bstep_some, withO_some, List.take_zero, List.take_succ_cons, List.drop_zero, List.drop_succ_cons, List.cons_append, List.nil_append, List.append_nil, List.length_cons, List.length_nil, Nat.reduceLeDiff, Nat.le_refl, and_true, true_and, and_self, decide_true, decide_false, Bool.not_true, Bool.not_false, bl40, bl79, bq40, callA_fn0 pl101, callA_fn0 pl91, fa40_3, fa73_0, fa77_2, fa79_1, fa82_0, fa82_1, fq73_0, fq77_2, fq82_0, fq82_1, ld25, ld3, ld36, ld40, ld68, ld82, ld9, len_slice Tryd.underlying24, len_slice Tryd.underlying36, lq3, lq36, lq68, lq9, opA_alloc 40 ty40, opA_alloc 79 ty79]
            refine box_kA fun b11 G5 e11 s5 h11 E5 => ?_
            simp only [go_sem, reduceCtorEq, Nat.reduceEqDiff, Nat.reduceAdd, withc_some, withcs_some, cells_0, cells_s, Option.bind_some, Option.map_some, List.getElem?_toArray, List.getElem?_cons_zero, List.getElem?_cons_succ, Nat.add_zero, Nat.zero_add, Value.cells, splice, List.setIfInBounds_toArray, List.set_cons_zero, List.set_cons_succ, bfill_nil, bfill_cons, bstep_some, withO_some, List.take_zero, List.take_succ_cons, List.drop_zero, List.drop_succ_cons, List.cons_append, List.nil_append, List.append_nil, List.length_cons, List.length_nil, Nat.reduceLeDiff, Nat.le_refl, and_true, true_and, and_self, decide_true, decide_false, Bool.not_true, Bool.not_false, bl40, bl79, bq40, callA_fn0 pl101, callA_fn0 pl91, fa40_3, fa73_0, fa77_2, fa79_1, fa82_0, fa82_1, fq73_0, fq77_2, fq82_0, fq82_1, ld25, ld3, ld36, ld40, ld68, ld82, ld9, len_slice Tryd.underlying24, len_slice Tryd.underlying36, lq3, lq36, lq68, lq9, opA_alloc 40 ty40, opA_alloc 79 ty79]
            refine store_kA h11 ty79 (k := fun G6 h12 k6 s6 => ?_)
            have h12' : G6[b11]? = some (.cells #[.int .i64 m, .int .i64 c] 79 (0, 0)) := h12
            have E6 : Ext G G6 := k6.two E5 (by omega)
            have h76 := (hE.trans E6).get (E4.get h7)
            have hc0 : decide (c = 0) = false := by
              have := inlineT_err _ _ _ _ _ hi
              simpa using this
            simp only [go_sem, reduceCtorEq, Nat.reduceEqDiff, Nat.reduceAdd, withc_some, withcs_some, cells_0, cells_s, Option.bind_some, Option.map_some, List.getElem?_toArray, List.getElem?_cons_zero, List.getElem?_cons_succ, Nat.add_zero, Nat.zero_add, Value.cells, splice, List.setIfInBounds_toArray, List.set_cons_zero, List.set_cons_succ, bfill_nil, bfill_cons, bstep_some, withO_some, List.take_zero, List.take_succ_cons, List.drop_zero, List.drop_succ_cons, List.cons_append, List.nil_append, List.append_nil, List.length_cons, List.length_nil, Nat.reduceLeDiff, Nat.le_refl, and_true, true_and, and_self, decide_true, decide_false, Bool.not_true, Bool.not_false, c90_4, r90_7, cell_of_blk h12', c90_3, c90_2, r90_8, hc0, bl40, bl79, bq40, callA_fn0 pl101, callA_fn0 pl91, fa40_3, fa73_0, fa77_2, fa79_1, fa82_0, fa82_1, fq73_0, fq77_2, fq82_0, fq82_1, ld25, ld3, ld36, ld40, ld68, ld79, ld82, ld9, len_slice Tryd.underlying24, len_slice Tryd.underlying36, lq3, lq36, lq68, lq9, opA_alloc 40 ty40, opA_alloc 79 ty79]
            rw [loadQ_agg Tryd.underlying79 rfl ty79 (show cellsH G6 ⟨b11, 0, none⟩ 0 2 = some [.int .i64 m, .int .i64 c] by rw [cellsH_of_blk h12' 2 0 (by simp)]; rfl)]
            simp only [go_sem, reduceCtorEq, Nat.reduceEqDiff, Nat.reduceAdd, withc_some, withcs_some, cells_0, cells_s, Option.bind_some, Option.map_some, List.getElem?_toArray, List.getElem?_cons_zero, List.getElem?_cons_succ, Nat.add_zero, Nat.zero_add, Value.cells, splice, List.setIfInBounds_toArray, List.set_cons_zero, List.set_cons_succ, bfill_nil, bfill_cons, bstep_some, withO_some, List.take_zero, List.take_succ_cons, List.drop_zero, List.drop_succ_cons, List.cons_append, List.nil_append, List.append_nil, List.length_cons, List.length_nil, Nat.reduceLeDiff, Nat.le_refl, and_true, true_and, and_self, decide_true, decide_false, Bool.not_true, Bool.not_false, bl40, bl79, bq40, callA_fn0 pl101, callA_fn0 pl91, fa40_3, fa73_0, fa77_2, fa79_1, fa82_0, fa82_1, fq73_0, fq77_2, fq82_0, fq82_1, ld25, ld3, ld36, ld40, ld68, ld79, ld82, ld9, len_slice Tryd.underlying24, len_slice Tryd.underlying36, lq3, lq36, lq68, lq9, opA_alloc 40 ty40, opA_alloc 79 ty79]
            refine store_kA h76 ty79 (k := fun G7 h13 k7 s7 => ?_)
            simp only [go_sem, reduceCtorEq, Nat.reduceEqDiff, Nat.reduceAdd, withc_some, withcs_some, cells_0, cells_s, Option.bind_some, Option.map_some, List.getElem?_toArray, List.getElem?_cons_zero, List.getElem?_cons_succ, Nat.add_zero, Nat.zero_add, Value.cells, splice, List.setIfInBounds_toArray, List.set_cons_zero, List.set_cons_succ, bfill_nil, bfill_cons, bstep_some, withO_some, List.take_zero, List.take_succ_cons, List.drop_zero, List.drop_succ_cons, List.cons_append, List.nil_append, List.append_nil, List.length_cons, List.length_nil, Nat.reduceLeDiff, Nat.le_refl, and_true, true_and, and_self, decide_true, decide_false, Bool.not_true, Bool.not_false, resW_cell, bl40, bl79, bq40, callA_fn0 pl101, callA_fn0 pl91, fa40_3, fa73_0, fa77_2, fa79_1, fa82_0, fa82_1, fq73_0, fq77_2, fq82_0, fq82_1, ld25, ld3, ld36, ld40, ld68, ld79, ld82, ld9, len_slice Tryd.underlying24, len_slice Tryd.underlying36, lq3, lq36, lq68, lq9, opA_alloc 40 ty40, opA_alloc 79 ty79]
            rw [rc79 (l := [.int .i64 m, .int .i64 c]) (by simp only [go_sem, reduceCtorEq, Nat.reduceEqDiff, Nat.reduceAdd, withc_some, withcs_some, cells_0, cells_s, Option.bind_some, Option.map_some, List.getElem?_toArray, List.getElem?_cons_zero, List.getElem?_cons_succ, Nat.add_zero, Nat.zero_add, Value.cells, splice, List.setIfInBounds_toArray, List.set_cons_zero, List.set_cons_succ, bfill_nil, bfill_cons, bstep_some, withO_some, List.take_zero, List.take_succ_cons, List.drop_zero, List.drop_succ_cons, List.cons_append, List.nil_append, List.append_nil, List.length_cons, List.length_nil, Nat.reduceLeDiff, Nat.le_refl, and_true, true_and, and_self, decide_true, decide_false, Bool.not_true, Bool.not_false, cell_of_blk h13, bl40, bl79, bq40, callA_fn0 pl101, callA_fn0 pl91, fa40_3, fa73_0, fa77_2, fa79_1, fa82_0, fa82_1, fq73_0, fq77_2, fq82_0, fq82_1, ld25, ld3, ld36, ld40, ld68, ld79, ld82, ld9, len_slice Tryd.underlying24, len_slice Tryd.underlying36, lq3, lq36, lq68, lq9, opA_alloc 40 ty40, opA_alloc 79 ty79])]
            have E7 : Ext H G7 := k7.two (E12.trans (E4.trans (hE.trans E6))) (by omega)
            exact h G7 E7.ko (RdrO.ext ⟨hR0, _, cells, hRb, hown, hst⟩ E7)
        · have e4 : (w2 == [105, 110, 108, 105, 110, 101]) = false := by simpa using hin
          simp only [go_sem, reduceCtorEq, Nat.reduceEqDiff, Nat.reduceAdd, withc_some, withcs_some, cells_0, cells_s, Option.bind_some, Option.map_some, List.getElem?_toArray, List.getElem?_cons_zero, List.getElem?_cons_succ, Nat.add_zero, Nat.zero_add, Value.cells, splice, List.setIfInBounds_toArray, List.set_cons_zero, List.set_cons_succ, bfill_nil, bfill_cons, bstep_some, withO_some, List.take_zero, List.take_succ_cons, List.drop_zero, List.drop_succ_cons, List.cons_append, List.nil_append, List.append_nil, List.length_cons, List.length_nil, Nat.reduceLeDiff, Nat.le_refl, and_true, true_and, and_self, decide_true, decide_false, Bool.not_true, Bool.not_false, e4, c90_6, bl40, bl79, bq40, callA_fn0 pl101, callA_fn0 pl91, fa40_3, fa73_0, fa77_2, fa79_1, fa82_0, fa82_1, fq73_0, fq77_2, fq82_0, fq82_1, ld25, ld3, ld36, ld40, ld68, ld79, ld82, ld9, len_slice Tryd.underlying24, len_slice Tryd.underlying36, lq3, lq36, lq68, lq9, opA_alloc 40 ty40, opA_alloc 79 ty79]
          exact fin G4 _ [] 0 E4 h9' SlE.nil (hsimple (fun hh => hin (by rw [hw22] at hh; exact Option.some.inj hh.2.2)))
      · have e3 : decide ((words.length : Int) = 3) = false := by rw [decide_eq_false_iff_not]; omega
        simp only [go_sem, reduceCtorEq, Nat.reduceEqDiff, Nat.reduceAdd, withc_some, withcs_some, cells_0, cells_s, Option.bind_some, Option.map_some, List.getElem?_toArray, List.getElem?_cons_zero, List.getElem?_cons_succ, Nat.add_zero, Nat.zero_add, Value.cells, splice, List.setIfInBounds_toArray, List.set_cons_zero, List.set_cons_succ, bfill_nil, bfill_cons, bstep_some, withO_some, List.take_zero, List.take_succ_cons, List.drop_zero, List.drop_succ_cons, List.cons_append, List.nil_append, List.append_nil, List.length_cons, List.length_nil, Nat.reduceLeDiff, Nat.le_refl, and_true, true_and, and_self, decide_true, decide_false, Bool.not_true, Bool.not_false, e2, e3, c90_6, bl40, bl79, bq40, callA_fn0 pl101, callA_fn0 pl91, fa40_3, fa73_0, fa77_2, fa79_1, fa82_0, fa82_1, fq73_0, fq77_2, fq82_0, fq82_1, ld25, ld3, ld36, ld40, ld68, ld79, ld82, ld9, len_slice Tryd.underlying24, len_slice Tryd.underlying36, lq3, lq36, lq68, lq9, opA_alloc 40 ty40, opA_alloc 79 ty79]
        exact fin G4 _ [] 0 E4 h9' SlE.nil (hsimple (fun hh => h3 hh.2.1))
    · have e2 : (w0 == [100, 100]) = false := by simpa using hdd
      simp only [go_sem, reduceCtorEq, Nat.reduceEqDiff, Nat.reduceAdd, withc_some, withcs_some, cells_0, cells_s, Option.bind_some, Option.map_some, List.getElem?_toArray, List.getElem?_cons_zero, List.getElem?_cons_succ, Nat.add_zero, Nat.zero_add, Value.cells, splice, List.setIfInBounds_toArray, List.set_cons_zero, List.set_cons_succ, bfill_nil, bfill_cons, bstep_some, withO_some, List.take_zero, List.take_succ_cons, List.drop_zero, List.drop_succ_cons, List.cons_append, List.nil_append, List.append_nil, List.length_cons, List.length_nil, Nat.reduceLeDiff, Nat.le_refl, and_true, true_and, and_self, decide_true, decide_false, Bool.not_true, Bool.not_false, e2, c90_6, bl40, bl79, bq40, callA_fn0 pl101, callA_fn0 pl91, fa40_3, fa73_0, fa77_2, fa79_1, fa82_0, fa82_1, fq73_0, fq77_2, fq82_0, fq82_1, ld25, ld3, ld36, ld40, ld68, ld79, ld82, ld9, len_slice Tryd.underlying24, len_slice Tryd.underlying36, lq3, lq36, lq68, lq9, opA_alloc 40 ty40, opA_alloc 79 ty79]
      exact fin G4 _ [] 0 E4 h9' SlE.nil (hsimple (fun hh => hdd (by rw [hw00] at hh; exact Option.some.inj hh.1)))
end Go.Proofs.YtoabcmhiaknjiaaDoor

/- Contracts of jobtext: line, read. -/
set_option maxRecDepth 100000
set_option linter.unusedSimpArgs false
set_option linter.unusedVariables false
namespace Go.Proofs.YtoabcmhiaknjiaaDoor
open Go.Hw

def symV (l : Sym) : List (List UInt8 × Value) := l.map fun p => (p.1, .string (B p.2))
/-- A map of symbols, up to the order of its entries. -/
def SymsV (H : Hp) (m : Nat) (s : Sym) : Prop := ∃ l : Sym, MapC H m (symV l) ∧ (∀ k, l.lookup k = s.lookup k) ∧ ∀ p ∈ l, p.2.length ≤ 1000
theorem SymsV.turn {H H' : Hp} {m : Nat} {s : Sym} (h : SymsV H m s) (f : ∀ l, MapC H m l → MapC H' m l) : SymsV H' m s := by
  obtain ⟨l, h1, h2⟩ := h
  exact ⟨l, f _ h1, h2⟩
theorem SymsV.ext {H H' : Hp} {m : Nat} {s : Sym} (h : SymsV H m s) (e : Ext H H') : SymsV H' m s := h.turn fun _ hl => MapC.ext hl e
theorem MapC.lt {H : Hp} {m : Nat} {l : List (List UInt8 × Value)} (h : MapC H m l) : m < H.size := by
  obtain ⟨es, clk, q, _⟩ := h
  exact get_lt q
theorem SymsV.lt {H : Hp} {m : Nat} {s : Sym} (h : SymsV H m s) : m < H.size := by
  obtain ⟨l, h1, _⟩ := h
  exact MapC.lt h1
/-- A procedure's value. -/
def PrV (B0 R ms mp : Nat) (H : Hp) (p : List UInt8 × Sym × List Row) (x : List UInt8 × Value) : Prop :=
  x.1 = p.1 ∧ ∃ mv rv, x.2 = .agg #[.map (some mv), rv] ∧ MapC H mv (symV p.2.1) ∧ goodS p.2.1 ∧ mv ≠ ms ∧ mv ≠ mp ∧ (B0 ≤ mv ∧ R < mv) ∧ RowsV H rv p.2.2
inductive All2 {α β : Type} (R : α → β → Prop) : List α → List β → Prop
  | nil : All2 R [] []
  | cons {a : α} {b : β} {l : List α} {m : List β} : R a b → All2 R l m → All2 R (a :: l) (b :: m)
theorem All2.imp {α β : Type} {R S : α → β → Prop} (h : ∀ a b, R a b → S a b) : ∀ {l : List α} {m : List β}, All2 R l m → All2 S l m
  | _, _, .nil => .nil
  | _, _, .cons h1 h2 => .cons (h _ _ h1) (h2.imp h)
def ProcsV (B0 R ms mp : Nat) (H : Hp) (procs : List (List UInt8 × Sym × List Row)) : Prop := ∃ l, MapC H mp l ∧ All2 (PrV B0 R ms mp H) procs l

structure Rdr (B0 R ms mp : Nat) (H : Hp) (s : RS) : Prop where
  out : RdrO B0 R ms mp H s.out
  syms : SymsV H ms s.syms
  procs : ProcsV B0 R ms mp H s.procs
  bms : B0 ≤ ms
  bmp : B0 ≤ mp
  ne : ms ≠ mp

/-- All but one kind's blocks are as they were. -/
def KeepK (E : Nat) (H H' : Hp) : Prop := ∀ (b : Nat) (o : Obj), H[b]? = some o → (∀ c f, o ≠ .cells c E f) → H'[b]? = some o
theorem MapC.kk {E : Nat} {H H' : Hp} {r : Nat} {l : List (List UInt8 × Value)} (h : MapC H r l) (k : KeepK E H H') : MapC H' r l := by
  obtain ⟨es, clk, h1, h2, h3⟩ := h
  exact ⟨es, clk, k r _ h1 (by simp), h2, h3⟩
theorem sl_kk {E E' sz : Nat} {H H' : Hp} {v : Value} {n : Nat} {l : List Value} (h : SlE E' sz H v n l) (k : KeepK E H H') (hne : E' ≠ E) : SlE E' sz H' v n l :=
  h.mono fun b c f hb => k b _ hb (fun c' f' e => by cases e; exact hne rfl)
theorem Rdr.kkE {E B0 R ms mp : Nat} {H H' : Hp} {s : RS} (h : Rdr B0 R ms mp H s) (k : KeepK E H H') (n1 : 77 ≠ E) (n2 : 40 ≠ E) (n3 : 9 ≠ E) (n4 : 73 ≠ E) : Rdr B0 R ms mp H' s := by
  obtain ⟨⟨h0, ov, cells, h1, h2, h3⟩, hs, ⟨l, hl, hf⟩, b1, b2, b3⟩ := h
  refine ⟨⟨h0, ov, cells, k _ _ h1 (fun c f e => by cases e; exact n1 rfl), ?_, stmC.mono (fun v ws hv => sl_kk hv k n3) _ _ h3⟩, hs.turn (fun _ h => MapC.kk h k), ⟨l, MapC.kk hl k, ?_⟩, b1, b2, b3⟩
  · rcases h2 with h | ⟨b, cap, c, f, o1, o2, o3, o4⟩
    · exact .inl h
    · exact .inr ⟨b, cap, c, f, o1, o2, k _ _ o3 (fun c f e => by cases e; exact n2 rfl), o4⟩
  · exact hf.imp fun p x ⟨e, mv, rv, h1, h2, hg, h3, h4, h5, h6⟩ => ⟨e, mv, rv, h1, MapC.kk h2 k, hg, h3, h4, h5, sl_kk h6 k n4⟩
theorem Rdr.kk {B0 R ms mp : Nat} {H H' : Hp} {s : RS} (h : Rdr B0 R ms mp H s) (k : KeepK 79 H H') : Rdr B0 R ms mp H' s := h.kkE k (by decide) (by decide) (by decide) (by decide)
/-- A store into a block of another kind. -/
theorem keepK_of {x E : Nat} {c : Array Value} {f : Nat × Nat} {G G' : Hp} (hx : G[x]? = some (.cells c E f)) (k : Keep (· = x) G G') : KeepK E G G' := fun b o hb ho => k.get hb (by intro e; subst e; rw [hx] at hb; cases hb; exact ho _ _ rfl)
theorem FrJ.new {B0 x : Nat} {M : Nat → Prop} {H G G' : Hp} (h : FrJ B0 M H G) (k : Keep (· = x) G G') (hx : H.size ≤ x) : FrJ B0 M H G' :=
  ⟨Nat.le_trans h.size k.size, fun b o hb hm => k.get (h.blk b o hb hm) (by have := get_lt hb; intro e; omega)⟩
theorem MapC.ko {M : Nat → Obj → Prop} {H H' : Hp} {r : Nat} {l : List (List UInt8 × Value)} (h : MapC H r l) (k : KeepO M H H') (hm : ∀ es kk, ¬ M r (.map es kk)) : MapC H' r l := by
  obtain ⟨es, clk, h1, h2, h3⟩ := h
  exact ⟨es, clk, k.blk r _ h1 (hm _ _), h2, h3⟩
theorem Rdr.ext {B0 R ms mp : Nat} {H H' : Hp} {s : RS} (h : Rdr B0 R ms mp H s) (e : Ext H H') : Rdr B0 R ms mp H' s := h.kk fun b o hb _ => e.get hb
theorem G0.frJ {B0 : Nat} {M : Nat → Prop} {H H' : Hp} (g : G0 H) (k : FrJ B0 M H H') (hB : 0 < B0) : G0 H' := by
  obtain ⟨m, hm⟩ := g
  refine ⟨m, ?_⟩
  unfold cellH at hm ⊢
  cases hb : H[0]? with
  | none => simp only [hb] at hm; cases hm
  | some o =>
    have := k.blk 0 o hb (fun h => by have := h.1; omega)
    simp only [hb] at hm
    simp only [this]
    exact hm

theorem hnd_plain {w : List UInt8} {v : Value} (h : hndL.lookup w = some v) : ∃ f, v = fnV f ∧ Plain Tryd.prog f := by
  obtain ⟨p, hp, rfl⟩ := lookup_mem h
  simp only [hndL, List.mem_cons, List.mem_nil_iff, or_false] at hp
  rcases hp with rfl | rfl | rfl | rfl | rfl | rfl | rfl
  · exact ⟨_, rfl, pl86⟩
  · exact ⟨_, rfl, pl87⟩
  · exact ⟨_, rfl, pl88⟩
  · exact ⟨_, rfl, pl89⟩
  · exact ⟨_, rfl, pl90⟩
  · exact ⟨_, rfl, pl90⟩
  · exact ⟨_, rfl, pl90⟩

abbrev MM (ms mp : Nat) : Nat → Prop := fun b => b = ms ∨ b = mp

set_option maxHeartbeats 2000000 in
theorem line_c {B0 R ms mp kn : Nat} {rv : Value} {call : List UInt8} {inn : Bool} {k : Nat} {t : List UInt8} {rest : List Row} {s : RS} {H : Hp} {K : Ending → Hp → Prop} (hf : List (List UInt8) → RS × HR)
    (hR : Rdr B0 R ms mp H s) (hB0 : 0 < B0) (g : G0 H) (hkn : MapC H kn hndL) (hr : RowsV H rv ((k, t) :: rest)) (ht : t.length ≤ 1000000)
    (hdo : ∀ w ws f, lineW (s.syms.lookup ·) t = .ok (w :: ws) → hndL.lookup w = some (fnV f) → ∀ (G : Hp) (wv : Value) (K2 : Ending → Hp → Prop), Ext H G → SlV G wv (w :: ws) → (w :: ws).length ≤ 1000000 →
      (∀ G', FrJ B0 (MM ms mp) G G' → Rdr B0 R ms mp G' (hf (w :: ws)).1 → K2 (.returned (.tuple #[.int .i64 (hf (w :: ws)).2.n, .agg #[.int .i64 (hf (w :: ws)).2.line, .int .i64 (hf (w :: ws)).2.code]])) G') →
      HCall Tryd.prog f #[.pointer (some ⟨R, 0, none⟩), .agg #[rv, .string (B call), .bool inn], wv] G K2)
    (h : ∀ G, FrJ B0 (MM ms mp) H G → Rdr B0 R ms mp G (lineR s k t (fun w => (hndL.lookup w).isSome) hf).1 → K (.returned (.tuple #[.int .i64 (lineR s k t (fun w => (hndL.lookup w).isSome) hf).2.n, .agg #[.int .i64 (lineR s k t (fun w => (hndL.lookup w).isSome) hf).2.line, .int .i64 (lineR s k t (fun w => (hndL.lookup w).isSome) hf).2.code]])) G) :
    HCall Tryd.prog 63 #[.pointer (some ⟨R, 0, none⟩), .map (some kn), .agg #[rv, .string (B call), .bool inn]] H K := by
  refine hcall mixed B63 (args := [.pointer (some ⟨R, 0, none⟩), .map (some kn), .agg #[rv, .string (B call), .bool inn]]) (by simp) ?_
  obtain ⟨rb, roff, rc, rfl, r0, r1⟩ := hr.at0
  obtain ⟨⟨hR0, ov, cells, hRb, hown, hst⟩, hsym, hprocs, hbms, hbmp, hne⟩ := id hR
  simp only [go_sem, reduceCtorEq, Nat.reduceEqDiff, Nat.reduceAdd, withc_some, withcs_some, cells_0, cells_s, Option.bind_some, Option.map_some, List.getElem?_toArray, List.getElem?_cons_zero, List.getElem?_cons_succ, Nat.add_zero, Nat.zero_add, Value.cells, splice, List.setIfInBounds_toArray, List.set_cons_zero, List.set_cons_succ, bfill_nil, bfill_cons, bstep_some, withO_some, List.take_zero, List.take_succ_cons, List.drop_zero, List.drop_succ_cons, List.cons_append, List.nil_append, List.append_nil, List.length_cons, List.length_nil, Nat.reduceLeDiff, Nat.le_refl, and_true, true_and, and_self, decide_true, decide_false, Bool.not_true, Bool.not_false, c63, r63_0, opA_alloc 79 ty79]
  refine box_kA fun b5 G1 e5 s1 h5 E1 => ?_
  simp only [go_sem, reduceCtorEq, Nat.reduceEqDiff, Nat.reduceAdd, withc_some, withcs_some, cells_0, cells_s, Option.bind_some, Option.map_some, List.getElem?_toArray, List.getElem?_cons_zero, List.getElem?_cons_succ, Nat.add_zero, Nat.zero_add, Value.cells, splice, List.setIfInBounds_toArray, List.set_cons_zero, List.set_cons_succ, bfill_nil, bfill_cons, bstep_some, withO_some, List.take_zero, List.take_succ_cons, List.drop_zero, List.drop_succ_cons, List.cons_append, List.nil_append, List.append_nil, List.length_cons, List.length_nil, Nat.reduceLeDiff, Nat.le_refl, and_true, true_and, and_self, decide_true, decide_false, Bool.not_true, Bool.not_false, opA_alloc 79 ty79]
  refine box_kA fun b7 G2 e7 s2 h7 E2 => ?_
  have E12 := E1.trans E2
  have h52 := E2.get h5
  simp only [go_sem, reduceCtorEq, Nat.reduceEqDiff, Nat.reduceAdd, withc_some, withcs_some, cells_0, cells_s, Option.bind_some, Option.map_some, List.getElem?_toArray, List.getElem?_cons_zero, List.getElem?_cons_succ, Nat.add_zero, Nat.zero_add, Value.cells, splice, List.setIfInBounds_toArray, List.set_cons_zero, List.set_cons_succ, bfill_nil, bfill_cons, bstep_some, withO_some, List.take_zero, List.take_succ_cons, List.drop_zero, List.drop_succ_cons, List.cons_append, List.nil_append, List.append_nil, List.length_cons, List.length_nil, Nat.reduceLeDiff, Nat.le_refl, and_true, true_and, and_self, decide_true, decide_false, Bool.not_true, Bool.not_false, c63_19, r63_1, cell_of_blk h52, callA_fn0 pl23, fa73_1, fa82_0, ld68, ld9, opA_alloc 79 ty79]
  rw [iadA_slice uRows ty73 (by omega) (by omega)]
  simp only [go_sem, reduceCtorEq, Nat.reduceEqDiff, Nat.reduceAdd, withc_some, withcs_some, cells_0, cells_s, Option.bind_some, Option.map_some, List.getElem?_toArray, List.getElem?_cons_zero, List.getElem?_cons_succ, Nat.add_zero, Nat.zero_add, Value.cells, splice, List.setIfInBounds_toArray, List.set_cons_zero, List.set_cons_succ, bfill_nil, bfill_cons, bstep_some, withO_some, List.take_zero, List.take_succ_cons, List.drop_zero, List.drop_succ_cons, List.cons_append, List.nil_append, List.append_nil, List.length_cons, List.length_nil, Nat.reduceLeDiff, Nat.le_refl, and_true, true_and, and_self, decide_true, decide_false, Bool.not_true, Bool.not_false, add_none, cell_ext E12 r1, Int.toNat_zero, Nat.zero_mul, callA_fn0 pl23, fa73_1, fa82_0, ld68, ld9, opA_alloc 79 ty79]
  refine trimLeft_blank G2 t (by omega) ?_
  have hdone : ∀ (G G' : Hp) (s' : RS), FrJ B0 (MM ms mp) H G → Rdr B0 R ms mp G s' → (∃ c, G[b7]? = some (.cells c 79 (0, 0))) → Keep (· = b7) G G' → FrJ B0 (MM ms mp) H G' ∧ Rdr B0 R ms mp G' s' := by
    rintro G G' s' hfr hrd ⟨c, hc⟩ hk
    refine ⟨⟨Nat.le_trans hfr.size hk.size, fun b o hb hm => hk.get (hfr.blk b o hb hm) (by have := get_lt hb; have := E1.size; intro e; omega)⟩, hrd.kk fun b o hb ho => hk.get hb ?_⟩
    intro e; subst e; rw [hc] at hb; cases hb; exact ho _ _ rfl
  have hlw : lineW (s.syms.lookup ·) t = if t.dropWhile blank = [] ∨ (t.dropWhile blank).head? = some 35 then .ok []
      else if (replR (s.syms.lookup ·) t).2 = 0 then
        match scanF (replR (s.syms.lookup ·) t).1 with
        | none => .error 3
        | some ws => .ok ws
      else .error (replR (s.syms.lookup ·) t).2 := rfl
  have hbl : (fun x : UInt8 => x == 32) = blank := rfl
  rw [hbl]
  have hfin0 : ∀ (G : Hp) (Q : E → Fr → Hp → Prop) (F0 : Fr), lineW (s.syms.lookup ·) t = .ok [] → Ext G2 G → (∀ F G, Q .ret F G = retK Tryd.prog [.tmp 6, .cell 7 79] K .ret F G) → aw Tryd.prog 78 c63_0 Q ((0, .pointer (some ⟨R, 0, none⟩)) :: (1, .map (some kn)) :: (5, .pointer (some ⟨b5, 0, none⟩)) :: (7, .pointer (some ⟨b7, 0, none⟩)) :: F0) G := by
    intro G Q F0 hl hE hQ
    have hres : lineR s k t (fun w => (hndL.lookup w).isSome) hf = (s, ⟨0, 0, 0⟩) := by unfold lineR; rw [hl]
    rw [hres] at h
    simp only [go_sem, reduceCtorEq, Nat.reduceEqDiff, Nat.reduceAdd, withc_some, withcs_some, cells_0, cells_s, Option.bind_some, Option.map_some, List.getElem?_toArray, List.getElem?_cons_zero, List.getElem?_cons_succ, Nat.add_zero, Nat.zero_add, Value.cells, splice, List.setIfInBounds_toArray, List.set_cons_zero, List.set_cons_succ, bfill_nil, bfill_cons, bstep_some, withO_some, List.take_zero, List.take_succ_cons, List.drop_zero, List.drop_succ_cons, List.cons_append, List.nil_append, List.append_nil, List.length_cons, List.length_nil, Nat.reduceLeDiff, Nat.le_refl, and_true, true_and, and_self, decide_true, decide_false, Bool.not_true, Bool.not_false, c63_0, r63_3, bl79, callA_fn0 pl23, fa73_1, fa82_0, ld68, ld9, opA_alloc 79 ty79]
    refine store_kA (hE.get h7) ty79 (k := fun G4 h8 k4 s4 => ?_)
    simp only [go_sem, reduceCtorEq, Nat.reduceEqDiff, Nat.reduceAdd, withc_some, withcs_some, cells_0, cells_s, Option.bind_some, Option.map_some, List.getElem?_toArray, List.getElem?_cons_zero, List.getElem?_cons_succ, Nat.add_zero, Nat.zero_add, Value.cells, splice, List.setIfInBounds_toArray, List.set_cons_zero, List.set_cons_succ, bfill_nil, bfill_cons, bstep_some, withO_some, List.take_zero, List.take_succ_cons, List.drop_zero, List.drop_succ_cons, List.cons_append, List.nil_append, List.append_nil, List.length_cons, List.length_nil, Nat.reduceLeDiff, Nat.le_refl, and_true, true_and, and_self, decide_true, decide_false, Bool.not_true, Bool.not_false, hQ, resW_cell, bl79, callA_fn0 pl23, fa73_1, fa82_0, ld68, ld9, opA_alloc 79 ty79]
    rw [rc79 (l := [.int .i64 0, .int .i64 0]) (by simp only [go_sem, reduceCtorEq, Nat.reduceEqDiff, Nat.reduceAdd, withc_some, withcs_some, cells_0, cells_s, Option.bind_some, Option.map_some, List.getElem?_toArray, List.getElem?_cons_zero, List.getElem?_cons_succ, Nat.add_zero, Nat.zero_add, Value.cells, splice, List.setIfInBounds_toArray, List.set_cons_zero, List.set_cons_succ, bfill_nil, bfill_cons, bstep_some, withO_some, List.take_zero, List.take_succ_cons, List.drop_zero, List.drop_succ_cons, List.cons_append, List.nil_append, List.append_nil, List.length_cons, List.length_nil, Nat.reduceLeDiff, Nat.le_refl, and_true, true_and, and_self, decide_true, decide_false, Bool.not_true, Bool.not_false, cell_of_blk h8, bl79, callA_fn0 pl23, fa73_1, fa82_0, ld68, ld9, opA_alloc 79 ty79])]
    obtain ⟨f1, f2⟩ := hdone G G4 s (E12.trans hE).ko (hR.ext (E12.trans hE)) ⟨_, hE.get h7⟩ k4
    exact h G4 f1 f2
  have hdl := length_dropWhile_le blank t
  by_cases hid : t.dropWhile blank = []
  · have e1 : (t.dropWhile blank == []) = true := by simp [hid]
    simp only [go_sem, reduceCtorEq, Nat.reduceEqDiff, Nat.reduceAdd, withc_some, withcs_some, cells_0, cells_s, Option.bind_some, Option.map_some, List.getElem?_toArray, List.getElem?_cons_zero, List.getElem?_cons_succ, Nat.add_zero, Nat.zero_add, Value.cells, splice, List.setIfInBounds_toArray, List.set_cons_zero, List.set_cons_succ, bfill_nil, bfill_cons, bstep_some, withO_some, List.take_zero, List.take_succ_cons, List.drop_zero, List.drop_succ_cons, List.cons_append, List.nil_append, List.append_nil, List.length_cons, List.length_nil, Nat.reduceLeDiff, Nat.le_refl, and_true, true_and, and_self, decide_true, decide_false, Bool.not_true, Bool.not_false, c63_18, r63_2, B_lit, B_toList, e1, c63_1, bl79, callA_fn0 pl23, fa73_1, fa82_0, ld68, ld9, opA_alloc 79 ty79]
    exact hfin0 G2 _ _ (by rw [hlw, if_pos (.inl hid)]) (Ext.refl _) (fun F G => by simp only [seqQ_ret, blkE_ret])
  · have e1 : (t.dropWhile blank == []) = false := by simpa using hid
    obtain ⟨c0, tr, hct⟩ : ∃ c0 tr, t.dropWhile blank = c0 :: tr := List.exists_cons_of_ne_nil hid
    have hc0 : (t.dropWhile blank)[0]? = some c0 := by rw [hct]; rfl
    simp only [go_sem, reduceCtorEq, Nat.reduceEqDiff, Nat.reduceAdd, withc_some, withcs_some, cells_0, cells_s, Option.bind_some, Option.map_some, List.getElem?_toArray, List.getElem?_cons_zero, List.getElem?_cons_succ, Nat.add_zero, Nat.zero_add, Value.cells, splice, List.setIfInBounds_toArray, List.set_cons_zero, List.set_cons_succ, bfill_nil, bfill_cons, bstep_some, withO_some, List.take_zero, List.take_succ_cons, List.drop_zero, List.drop_succ_cons, List.cons_append, List.nil_append, List.append_nil, List.length_cons, List.length_nil, Nat.reduceLeDiff, Nat.le_refl, and_true, true_and, and_self, decide_true, decide_false, Bool.not_true, Bool.not_false, c63_18, r63_2, B_lit, B_toList, e1, c63_1, bl79, callA_fn0 pl23, fa73_1, fa82_0, ld68, ld9, opA_alloc 79 ty79]
    rw [show (Value.int .i64 0) = .int .i64 ((0 : Nat) : Int) from rfl, idxA_at uStr hc0]
    by_cases h35 : c0 = 35
    · subst h35
      have e2 : decide (((35 : UInt8).toNat : Int) = 35) = true := rfl
      simp only [go_sem, reduceCtorEq, Nat.reduceEqDiff, Nat.reduceAdd, withc_some, withcs_some, cells_0, cells_s, Option.bind_some, Option.map_some, List.getElem?_toArray, List.getElem?_cons_zero, List.getElem?_cons_succ, Nat.add_zero, Nat.zero_add, Value.cells, splice, List.setIfInBounds_toArray, List.set_cons_zero, List.set_cons_succ, bfill_nil, bfill_cons, bstep_some, withO_some, List.take_zero, List.take_succ_cons, List.drop_zero, List.drop_succ_cons, List.cons_append, List.nil_append, List.append_nil, List.length_cons, List.length_nil, Nat.reduceLeDiff, Nat.le_refl, and_true, true_and, and_self, decide_true, decide_false, Bool.not_true, Bool.not_false, e2, bl79, callA_fn0 pl23, fa73_1, fa82_0, ld68, ld9, opA_alloc 79 ty79]
      exact hfin0 G2 _ _ (by rw [hlw, if_pos (.inr (by rw [hct]; rfl))]) (Ext.refl _) (fun F G => by simp only [seqQ_ret, blkE_ret])
    · have e2 : decide ((c0.toNat : Int) = 35) = false := u8_ne (b := 35) h35
      have hnid : ¬ (t.dropWhile blank = [] ∨ (t.dropWhile blank).head? = some 35) := by
        rw [hct]; simp; exact h35
      rw [if_neg hnid] at hlw
      simp only [go_sem, reduceCtorEq, Nat.reduceEqDiff, Nat.reduceAdd, withc_some, withcs_some, cells_0, cells_s, Option.bind_some, Option.map_some, List.getElem?_toArray, List.getElem?_cons_zero, List.getElem?_cons_succ, Nat.add_zero, Nat.zero_add, Value.cells, splice, List.setIfInBounds_toArray, List.set_cons_zero, List.set_cons_succ, bfill_nil, bfill_cons, bstep_some, withO_some, List.take_zero, List.take_succ_cons, List.drop_zero, List.drop_succ_cons, List.cons_append, List.nil_append, List.append_nil, List.length_cons, List.length_nil, Nat.reduceLeDiff, Nat.le_refl, and_true, true_and, and_self, decide_true, decide_false, Bool.not_true, Bool.not_false, e2, c63_17, r63_4, cell_of_blk h52, bl79, callA_fn0 pl12, callA_fn0 pl23, callQ_fn0 pl12, fa73_1, fa77_0, fa82_0, fq73_1, fq77_0, fq82_0, ld22, ld68, ld9, lq22, lq68, lq9, opA_alloc 79 ty79]
      rw [iadQ_slice uRows ty73 (by omega) (by omega)]
      simp only [go_sem, reduceCtorEq, Nat.reduceEqDiff, Nat.reduceAdd, withc_some, withcs_some, cells_0, cells_s, Option.bind_some, Option.map_some, List.getElem?_toArray, List.getElem?_cons_zero, List.getElem?_cons_succ, Nat.add_zero, Nat.zero_add, Value.cells, splice, List.setIfInBounds_toArray, List.set_cons_zero, List.set_cons_succ, bfill_nil, bfill_cons, bstep_some, withO_some, List.take_zero, List.take_succ_cons, List.drop_zero, List.drop_succ_cons, List.cons_append, List.nil_append, List.append_nil, List.length_cons, List.length_nil, Nat.reduceLeDiff, Nat.le_refl, and_true, true_and, and_self, decide_true, decide_false, Bool.not_true, Bool.not_false, add_none, cell_ext E12 r1, Int.toNat_zero, Nat.zero_mul, cell_of_blk (E12.get hRb), cell_of_blk h52, bl79, callA_fn0 pl12, callA_fn0 pl23, callQ_fn0 pl12, fa73_1, fa77_0, fa82_0, fq73_1, fq77_0, fq82_0, ld22, ld68, ld9, lq22, lq68, lq9, opA_alloc 79 ty79]
      obtain ⟨lsy, hsy1, hsy2, hsy3⟩ := hsym
      have hsv2 : SymV G2 (.map (some ms)) lsy := .inr ⟨ms, rfl, (MapC.ext hsy1 E12).o⟩
      refine replace_c t (.map (some ms)) lsy G2 (by omega) (fun p hp => by have := hsy3 p hp; omega) (g.ext E12) hsv2 fun G3 E3 => ?_
      rw [show (fun x => List.lookup x lsy) = (fun x => List.lookup x s.syms) from funext hsy2]
      have E13 := E12.trans E3
      -- an error in the line
      have hfinE2 : ∀ (G : Hp) (Q : E → Fr → Hp → Prop) (F0 : Fr) (e : Int) (y : Value), lineW (s.syms.lookup ·) t = .error e → Ext G2 G → (∀ F G, Q .ret F G = retK Tryd.prog [.tmp 6, .cell 7 79] K .ret F G) → aw Tryd.prog 78 c63_2 Q ((0, .pointer (some ⟨R, 0, none⟩)) :: (1, .map (some kn)) :: (5, .pointer (some ⟨b5, 0, none⟩)) :: (7, .pointer (some ⟨b7, 0, none⟩)) :: (8, y) :: (9, .int .i64 e) :: F0) G := by
        intro G Q F0 e y hl hE hQ
        have hres : lineR s k t (fun w => (hndL.lookup w).isSome) hf = (s, ⟨0, k, e⟩) := by unfold lineR; rw [hl]
        rw [hres] at h
        simp only [go_sem, reduceCtorEq, Nat.reduceEqDiff, Nat.reduceAdd, withc_some, withcs_some, cells_0, cells_s, Option.bind_some, Option.map_some, List.getElem?_toArray, List.getElem?_cons_zero, List.getElem?_cons_succ, Nat.add_zero, Nat.zero_add, Value.cells, splice, List.setIfInBounds_toArray, List.set_cons_zero, List.set_cons_succ, bfill_nil, bfill_cons, bstep_some, withO_some, List.take_zero, List.take_succ_cons, List.drop_zero, List.drop_succ_cons, List.cons_append, List.nil_append, List.append_nil, List.length_cons, List.length_nil, Nat.reduceLeDiff, Nat.le_refl, and_true, true_and, and_self, decide_true, decide_false, Bool.not_true, Bool.not_false, c63_2, r63_6, cell_of_blk (hE.get h52), bl79, callA_fn0 pl12, callA_fn0 pl23, callA_fn0 pl91, callQ_fn0 pl12, fa73_1, fa77_0, fa82_0, fq73_1, fq77_0, fq82_0, ld22, ld68, ld82, ld9, lq22, lq68, lq9, opA_alloc 79 ty79]
        refine at_c (hr.ext (E12.trans hE)) fun G4 E4 => ?_
        simp only [go_sem, reduceCtorEq, Nat.reduceEqDiff, Nat.reduceAdd, withc_some, withcs_some, cells_0, cells_s, Option.bind_some, Option.map_some, List.getElem?_toArray, List.getElem?_cons_zero, List.getElem?_cons_succ, Nat.add_zero, Nat.zero_add, Value.cells, splice, List.setIfInBounds_toArray, List.set_cons_zero, List.set_cons_succ, bfill_nil, bfill_cons, bstep_some, withO_some, List.take_zero, List.take_succ_cons, List.drop_zero, List.drop_succ_cons, List.cons_append, List.nil_append, List.append_nil, List.length_cons, List.length_nil, Nat.reduceLeDiff, Nat.le_refl, and_true, true_and, and_self, decide_true, decide_false, Bool.not_true, Bool.not_false, bl79, callA_fn0 pl12, callA_fn0 pl23, callA_fn0 pl91, callQ_fn0 pl12, fa73_1, fa77_0, fa82_0, fq73_1, fq77_0, fq82_0, ld22, ld68, ld82, ld9, lq22, lq68, lq9, opA_alloc 79 ty79]
        refine store_kA ((hE.trans E4).get h7) ty79 (k := fun G5 h8 k4 s4 => ?_)
        simp only [go_sem, reduceCtorEq, Nat.reduceEqDiff, Nat.reduceAdd, withc_some, withcs_some, cells_0, cells_s, Option.bind_some, Option.map_some, List.getElem?_toArray, List.getElem?_cons_zero, List.getElem?_cons_succ, Nat.add_zero, Nat.zero_add, Value.cells, splice, List.setIfInBounds_toArray, List.set_cons_zero, List.set_cons_succ, bfill_nil, bfill_cons, bstep_some, withO_some, List.take_zero, List.take_succ_cons, List.drop_zero, List.drop_succ_cons, List.cons_append, List.nil_append, List.append_nil, List.length_cons, List.length_nil, Nat.reduceLeDiff, Nat.le_refl, and_true, true_and, and_self, decide_true, decide_false, Bool.not_true, Bool.not_false, hQ, resW_cell, bl79, callA_fn0 pl12, callA_fn0 pl23, callA_fn0 pl91, callQ_fn0 pl12, fa73_1, fa77_0, fa82_0, fq73_1, fq77_0, fq82_0, ld22, ld68, ld82, ld9, lq22, lq68, lq9, opA_alloc 79 ty79]
        rw [rc79 (l := [.int .i64 k, .int .i64 e]) (by simp only [go_sem, reduceCtorEq, Nat.reduceEqDiff, Nat.reduceAdd, withc_some, withcs_some, cells_0, cells_s, Option.bind_some, Option.map_some, List.getElem?_toArray, List.getElem?_cons_zero, List.getElem?_cons_succ, Nat.add_zero, Nat.zero_add, Value.cells, splice, List.setIfInBounds_toArray, List.set_cons_zero, List.set_cons_succ, bfill_nil, bfill_cons, bstep_some, withO_some, List.take_zero, List.take_succ_cons, List.drop_zero, List.drop_succ_cons, List.cons_append, List.nil_append, List.append_nil, List.length_cons, List.length_nil, Nat.reduceLeDiff, Nat.le_refl, and_true, true_and, and_self, decide_true, decide_false, Bool.not_true, Bool.not_false, cell_of_blk h8, bl79, callA_fn0 pl12, callA_fn0 pl23, callA_fn0 pl91, callQ_fn0 pl12, fa73_1, fa77_0, fa82_0, fq73_1, fq77_0, fq82_0, ld22, ld68, ld82, ld9, lq22, lq68, lq9, opA_alloc 79 ty79])]
        obtain ⟨f1, f2⟩ := hdone G4 G5 s (E12.trans (hE.trans E4)).ko (hR.ext (E12.trans (hE.trans E4))) ⟨_, (hE.trans E4).get h7⟩ k4
        exact h G5 f1 f2
      have hfinE4 : ∀ (G : Hp) (Q : E → Fr → Hp → Prop) (F0 : Fr) (e : Int), lineW (s.syms.lookup ·) t = .error e → Ext G2 G → (∀ F G, Q .ret F G = retK Tryd.prog [.tmp 6, .cell 7 79] K .ret F G) → aw Tryd.prog 78 c63_4 Q ((0, .pointer (some ⟨R, 0, none⟩)) :: (1, .map (some kn)) :: (5, .pointer (some ⟨b5, 0, none⟩)) :: (7, .pointer (some ⟨b7, 0, none⟩)) :: (9, .int .i64 e) :: F0) G := by
        intro G Q F0 e hl hE hQ
        have hres : lineR s k t (fun w => (hndL.lookup w).isSome) hf = (s, ⟨0, k, e⟩) := by unfold lineR; rw [hl]
        rw [hres] at h
        simp only [go_sem, reduceCtorEq, Nat.reduceEqDiff, Nat.reduceAdd, withc_some, withcs_some, cells_0, cells_s, Option.bind_some, Option.map_some, List.getElem?_toArray, List.getElem?_cons_zero, List.getElem?_cons_succ, Nat.add_zero, Nat.zero_add, Value.cells, splice, List.setIfInBounds_toArray, List.set_cons_zero, List.set_cons_succ, bfill_nil, bfill_cons, bstep_some, withO_some, List.take_zero, List.take_succ_cons, List.drop_zero, List.drop_succ_cons, List.cons_append, List.nil_append, List.append_nil, List.length_cons, List.length_nil, Nat.reduceLeDiff, Nat.le_refl, and_true, true_and, and_self, decide_true, decide_false, Bool.not_true, Bool.not_false, c63_4, r63_9, cell_of_blk (hE.get h52), bl79, callA_fn0 pl12, callA_fn0 pl23, callA_fn0 pl91, callQ_fn0 pl12, fa73_1, fa77_0, fa82_0, fq73_1, fq77_0, fq82_0, ld22, ld68, ld82, ld9, lq22, lq68, lq9, opA_alloc 79 ty79]
        refine at_c (hr.ext (E12.trans hE)) fun G4 E4 => ?_
        simp only [go_sem, reduceCtorEq, Nat.reduceEqDiff, Nat.reduceAdd, withc_some, withcs_some, cells_0, cells_s, Option.bind_some, Option.map_some, List.getElem?_toArray, List.getElem?_cons_zero, List.getElem?_cons_succ, Nat.add_zero, Nat.zero_add, Value.cells, splice, List.setIfInBounds_toArray, List.set_cons_zero, List.set_cons_succ, bfill_nil, bfill_cons, bstep_some, withO_some, List.take_zero, List.take_succ_cons, List.drop_zero, List.drop_succ_cons, List.cons_append, List.nil_append, List.append_nil, List.length_cons, List.length_nil, Nat.reduceLeDiff, Nat.le_refl, and_true, true_and, and_self, decide_true, decide_false, Bool.not_true, Bool.not_false, bl79, callA_fn0 pl12, callA_fn0 pl23, callA_fn0 pl91, callQ_fn0 pl12, fa73_1, fa77_0, fa82_0, fq73_1, fq77_0, fq82_0, ld22, ld68, ld82, ld9, lq22, lq68, lq9, opA_alloc 79 ty79]
        refine store_kA ((hE.trans E4).get h7) ty79 (k := fun G5 h8 k4 s4 => ?_)
        simp only [go_sem, reduceCtorEq, Nat.reduceEqDiff, Nat.reduceAdd, withc_some, withcs_some, cells_0, cells_s, Option.bind_some, Option.map_some, List.getElem?_toArray, List.getElem?_cons_zero, List.getElem?_cons_succ, Nat.add_zero, Nat.zero_add, Value.cells, splice, List.setIfInBounds_toArray, List.set_cons_zero, List.set_cons_succ, bfill_nil, bfill_cons, bstep_some, withO_some, List.take_zero, List.take_succ_cons, List.drop_zero, List.drop_succ_cons, List.cons_append, List.nil_append, List.append_nil, List.length_cons, List.length_nil, Nat.reduceLeDiff, Nat.le_refl, and_true, true_and, and_self, decide_true, decide_false, Bool.not_true, Bool.not_false, hQ, resW_cell, bl79, callA_fn0 pl12, callA_fn0 pl23, callA_fn0 pl91, callQ_fn0 pl12, fa73_1, fa77_0, fa82_0, fq73_1, fq77_0, fq82_0, ld22, ld68, ld82, ld9, lq22, lq68, lq9, opA_alloc 79 ty79]
        rw [rc79 (l := [.int .i64 k, .int .i64 e]) (by simp only [go_sem, reduceCtorEq, Nat.reduceEqDiff, Nat.reduceAdd, withc_some, withcs_some, cells_0, cells_s, Option.bind_some, Option.map_some, List.getElem?_toArray, List.getElem?_cons_zero, List.getElem?_cons_succ, Nat.add_zero, Nat.zero_add, Value.cells, splice, List.setIfInBounds_toArray, List.set_cons_zero, List.set_cons_succ, bfill_nil, bfill_cons, bstep_some, withO_some, List.take_zero, List.take_succ_cons, List.drop_zero, List.drop_succ_cons, List.cons_append, List.nil_append, List.append_nil, List.length_cons, List.length_nil, Nat.reduceLeDiff, Nat.le_refl, and_true, true_and, and_self, decide_true, decide_false, Bool.not_true, Bool.not_false, cell_of_blk h8, bl79, callA_fn0 pl12, callA_fn0 pl23, callA_fn0 pl91, callQ_fn0 pl12, fa73_1, fa77_0, fa82_0, fq73_1, fq77_0, fq82_0, ld22, ld68, ld82, ld9, lq22, lq68, lq9, opA_alloc 79 ty79])]
        obtain ⟨f1, f2⟩ := hdone G4 G5 s (E12.trans (hE.trans E4)).ko (hR.ext (E12.trans (hE.trans E4))) ⟨_, (hE.trans E4).get h7⟩ k4
        exact h G5 f1 f2
      have hbnd : (replR (s.syms.lookup ·) t).1.length ≤ 1000 := by
        unfold replR
        split
        · split
          · simp
          · simp; omega
        · simp
      simp only [go_sem, reduceCtorEq, Nat.reduceEqDiff, Nat.reduceAdd, withc_some, withcs_some, cells_0, cells_s, Option.bind_some, Option.map_some, List.getElem?_toArray, List.getElem?_cons_zero, List.getElem?_cons_succ, Nat.add_zero, Nat.zero_add, Value.cells, splice, List.setIfInBounds_toArray, List.set_cons_zero, List.set_cons_succ, bfill_nil, bfill_cons, bstep_some, withO_some, List.take_zero, List.take_succ_cons, List.drop_zero, List.drop_succ_cons, List.cons_append, List.nil_append, List.append_nil, List.length_cons, List.length_nil, Nat.reduceLeDiff, Nat.le_refl, and_true, true_and, and_self, decide_true, decide_false, Bool.not_true, Bool.not_false, c63_16, r63_5, bl79, callA_fn0 pl12, callA_fn0 pl23, callA_fn0 pl91, callQ_fn0 pl12, fa73_1, fa77_0, fa82_0, fq73_1, fq77_0, fq82_0, ld22, ld68, ld82, ld9, lq22, lq68, lq9, opA_alloc 79 ty79]
      by_cases he0 : (replR (s.syms.lookup ·) t).2 = 0
      · rw [if_pos he0] at hlw
        have e3 : decide ((replR (s.syms.lookup ·) t).2 = 0) = true := by simpa using he0
        simp only [go_sem, reduceCtorEq, Nat.reduceEqDiff, Nat.reduceAdd, withc_some, withcs_some, cells_0, cells_s, Option.bind_some, Option.map_some, List.getElem?_toArray, List.getElem?_cons_zero, List.getElem?_cons_succ, Nat.add_zero, Nat.zero_add, Value.cells, splice, List.setIfInBounds_toArray, List.set_cons_zero, List.set_cons_succ, bfill_nil, bfill_cons, bstep_some, withO_some, List.take_zero, List.take_succ_cons, List.drop_zero, List.drop_succ_cons, List.cons_append, List.nil_append, List.append_nil, List.length_cons, List.length_nil, Nat.reduceLeDiff, Nat.le_refl, and_true, true_and, and_self, decide_true, decide_false, Bool.not_true, Bool.not_false, e3, c63_3, c63_15, r63_7, bl79, callA_fn0 pl10, callA_fn0 pl12, callA_fn0 pl23, callA_fn0 pl91, callQ_fn0 pl12, fa73_1, fa77_0, fa82_0, fq73_1, fq77_0, fq82_0, ld22, ld68, ld82, ld9, lq22, lq68, lq9, opA_alloc 79 ty79]
        refine Proofs.YtoabcmhiaknjiaaDoor.scan _ G3 (by omega) fun G4 v e E4 hsc => ?_
        unfold ScanR at hsc
        have E24 := E3.trans E4
        simp only [go_sem, reduceCtorEq, Nat.reduceEqDiff, Nat.reduceAdd, withc_some, withcs_some, cells_0, cells_s, Option.bind_some, Option.map_some, List.getElem?_toArray, List.getElem?_cons_zero, List.getElem?_cons_succ, Nat.add_zero, Nat.zero_add, Value.cells, splice, List.setIfInBounds_toArray, List.set_cons_zero, List.set_cons_succ, bfill_nil, bfill_cons, bstep_some, withO_some, List.take_zero, List.take_succ_cons, List.drop_zero, List.drop_succ_cons, List.cons_append, List.nil_append, List.append_nil, List.length_cons, List.length_nil, Nat.reduceLeDiff, Nat.le_refl, and_true, true_and, and_self, decide_true, decide_false, Bool.not_true, Bool.not_false, c63_14, r63_8, bl79, callA_fn0 pl10, callA_fn0 pl12, callA_fn0 pl23, callA_fn0 pl91, callQ_fn0 pl12, fa73_1, fa77_0, fa82_0, fq73_1, fq77_0, fq82_0, ld22, ld68, ld82, ld9, lq22, lq68, lq9, opA_alloc 79 ty79]
        cases hsf : scanF (replR (s.syms.lookup ·) t).1 with
        | none =>
          rw [hsf] at hsc hlw
          obtain ⟨rfl, rfl⟩ := hsc
          simp only [go_sem, reduceCtorEq, Nat.reduceEqDiff, Nat.reduceAdd, withc_some, withcs_some, cells_0, cells_s, Option.bind_some, Option.map_some, List.getElem?_toArray, List.getElem?_cons_zero, List.getElem?_cons_succ, Nat.add_zero, Nat.zero_add, Value.cells, splice, List.setIfInBounds_toArray, List.set_cons_zero, List.set_cons_succ, bfill_nil, bfill_cons, bstep_some, withO_some, List.take_zero, List.take_succ_cons, List.drop_zero, List.drop_succ_cons, List.cons_append, List.nil_append, List.append_nil, List.length_cons, List.length_nil, Nat.reduceLeDiff, Nat.le_refl, and_true, true_and, and_self, decide_true, decide_false, Bool.not_true, Bool.not_false, show decide ((3 : Int) = 0) = false from rfl, c63_5, bl79, callA_fn0 pl10, callA_fn0 pl12, callA_fn0 pl23, callA_fn0 pl91, callQ_fn0 pl12, fa73_1, fa77_0, fa82_0, fq73_1, fq77_0, fq82_0, ld22, ld68, ld82, ld9, lq22, lq68, lq9, opA_alloc 79 ty79]
          exact hfinE4 G4 _ _ 3 hlw E24 (fun F G => by simp only [seqQ_ret])
        | some ws =>
          rw [hsf] at hsc hlw
          obtain ⟨rfl, own⟩ := hsc
          obtain ⟨va, vc, rfl⟩ := own.form
          have hwl : ws.length ≤ 1000 := by
            have := scanF_len hsf
            omega
          simp only [go_sem, reduceCtorEq, Nat.reduceEqDiff, Nat.reduceAdd, withc_some, withcs_some, cells_0, cells_s, Option.bind_some, Option.map_some, List.getElem?_toArray, List.getElem?_cons_zero, List.getElem?_cons_succ, Nat.add_zero, Nat.zero_add, Value.cells, splice, List.setIfInBounds_toArray, List.set_cons_zero, List.set_cons_succ, bfill_nil, bfill_cons, bstep_some, withO_some, List.take_zero, List.take_succ_cons, List.drop_zero, List.drop_succ_cons, List.cons_append, List.nil_append, List.append_nil, List.length_cons, List.length_nil, Nat.reduceLeDiff, Nat.le_refl, and_true, true_and, and_self, decide_true, decide_false, Bool.not_true, Bool.not_false, show decide ((0 : Int) = 0) = true from rfl, c63_5, c63_13, r63_10, bl79, callA_fn0 pl10, callA_fn0 pl12, callA_fn0 pl23, callA_fn0 pl91, callQ_fn0 pl12, fa73_1, fa77_0, fa82_0, fq73_1, fq77_0, fq82_0, ld22, ld68, ld82, ld9, len_slice Tryd.underlying24, lq22, lq68, lq9, opA_alloc 79 ty79]
          match ws, hlw, own, hwl with
          | [], hlw, own, hwl =>
            simp only [go_sem, reduceCtorEq, Nat.reduceEqDiff, Nat.reduceAdd, withc_some, withcs_some, cells_0, cells_s, Option.bind_some, Option.map_some, List.getElem?_toArray, List.getElem?_cons_zero, List.getElem?_cons_succ, Nat.add_zero, Nat.zero_add, Value.cells, splice, List.setIfInBounds_toArray, List.set_cons_zero, List.set_cons_succ, bfill_nil, bfill_cons, bstep_some, withO_some, List.take_zero, List.take_succ_cons, List.drop_zero, List.drop_succ_cons, List.cons_append, List.nil_append, List.append_nil, List.length_cons, List.length_nil, Nat.reduceLeDiff, Nat.le_refl, and_true, true_and, and_self, decide_true, decide_false, Bool.not_true, Bool.not_false, List.length_nil, Int.natCast_zero, show decide ((0 : Int) = 0) = true from rfl, c63_7, c63_6, r63_11, bl79, callA_fn0 pl10, callA_fn0 pl12, callA_fn0 pl23, callA_fn0 pl91, callQ_fn0 pl12, fa73_1, fa77_0, fa82_0, fq73_1, fq77_0, fq82_0, ld22, ld68, ld82, ld9, len_slice Tryd.underlying24, lq22, lq68, lq9, opA_alloc 79 ty79]
            have hres : lineR s k t (fun w => (hndL.lookup w).isSome) hf = (s, ⟨0, 0, 0⟩) := by unfold lineR; rw [hlw]
            rw [hres] at h
            refine store_kA (E24.get h7) ty79 (k := fun G5 h8 k4 s4 => ?_)
            simp only [go_sem, reduceCtorEq, Nat.reduceEqDiff, Nat.reduceAdd, withc_some, withcs_some, cells_0, cells_s, Option.bind_some, Option.map_some, List.getElem?_toArray, List.getElem?_cons_zero, List.getElem?_cons_succ, Nat.add_zero, Nat.zero_add, Value.cells, splice, List.setIfInBounds_toArray, List.set_cons_zero, List.set_cons_succ, bfill_nil, bfill_cons, bstep_some, withO_some, List.take_zero, List.take_succ_cons, List.drop_zero, List.drop_succ_cons, List.cons_append, List.nil_append, List.append_nil, List.length_cons, List.length_nil, Nat.reduceLeDiff, Nat.le_refl, and_true, true_and, and_self, decide_true, decide_false, Bool.not_true, Bool.not_false, resW_cell, bl79, callA_fn0 pl10, callA_fn0 pl12, callA_fn0 pl23, callA_fn0 pl91, callQ_fn0 pl12, fa73_1, fa77_0, fa82_0, fq73_1, fq77_0, fq82_0, ld22, ld68, ld82, ld9, len_slice Tryd.underlying24, lq22, lq68, lq9, opA_alloc 79 ty79]
            rw [rc79 (l := [.int .i64 0, .int .i64 0]) (by simp only [go_sem, reduceCtorEq, Nat.reduceEqDiff, Nat.reduceAdd, withc_some, withcs_some, cells_0, cells_s, Option.bind_some, Option.map_some, List.getElem?_toArray, List.getElem?_cons_zero, List.getElem?_cons_succ, Nat.add_zero, Nat.zero_add, Value.cells, splice, List.setIfInBounds_toArray, List.set_cons_zero, List.set_cons_succ, bfill_nil, bfill_cons, bstep_some, withO_some, List.take_zero, List.take_succ_cons, List.drop_zero, List.drop_succ_cons, List.cons_append, List.nil_append, List.append_nil, List.length_cons, List.length_nil, Nat.reduceLeDiff, Nat.le_refl, and_true, true_and, and_self, decide_true, decide_false, Bool.not_true, Bool.not_false, cell_of_blk h8, bl79, callA_fn0 pl10, callA_fn0 pl12, callA_fn0 pl23, callA_fn0 pl91, callQ_fn0 pl12, fa73_1, fa77_0, fa82_0, fq73_1, fq77_0, fq82_0, ld22, ld68, ld82, ld9, len_slice Tryd.underlying24, lq22, lq68, lq9, opA_alloc 79 ty79])]
            obtain ⟨f1, f2⟩ := hdone G4 G5 s (E12.trans E24).ko (hR.ext (E12.trans E24)) ⟨_, E24.get h7⟩ k4
            exact h G5 f1 f2
          | w :: ws, hlw, own, hwl =>
            have hsl : SlV G4 (.slice va (w :: ws).length vc) (w :: ws) := SlE.own own
            have e5 : decide (((w :: ws).length : Int) = 0) = false := by rw [decide_eq_false_iff_not, List.length_cons]; omega
            obtain ⟨wb, woff, wc', ew, w1⟩ := hsl.at (i := 0) (w := w) rfl
            cases ew
            rw [Nat.add_zero] at w1
            simp only [List.length_cons] at e5
            simp only [go_sem, reduceCtorEq, Nat.reduceEqDiff, Nat.reduceAdd, withc_some, withcs_some, cells_0, cells_s, Option.bind_some, Option.map_some, List.getElem?_toArray, List.getElem?_cons_zero, List.getElem?_cons_succ, Nat.add_zero, Nat.zero_add, Value.cells, splice, List.setIfInBounds_toArray, List.set_cons_zero, List.set_cons_succ, bfill_nil, bfill_cons, bstep_some, withO_some, List.take_zero, List.take_succ_cons, List.drop_zero, List.drop_succ_cons, List.cons_append, List.nil_append, List.append_nil, List.length_cons, List.length_nil, Nat.reduceLeDiff, Nat.le_refl, and_true, true_and, and_self, decide_true, decide_false, Bool.not_true, Bool.not_false, e5, c63_7, c63_12, r63_12, bl79, callA_fn0 pl10, callA_fn0 pl12, callA_fn0 pl23, callA_fn0 pl91, callQ_fn0 pl12, fa73_1, fa77_0, fa82_0, fq73_1, fq77_0, fq82_0, ld22, ld68, ld82, ld9, len_slice Tryd.underlying24, lq22, lq68, lq9, opA_alloc 79 ty79]
            rw [iadA_slice uStrs ty9 (by omega) (by simp)]
            simp only [go_sem, reduceCtorEq, Nat.reduceEqDiff, Nat.reduceAdd, withc_some, withcs_some, cells_0, cells_s, Option.bind_some, Option.map_some, List.getElem?_toArray, List.getElem?_cons_zero, List.getElem?_cons_succ, Nat.add_zero, Nat.zero_add, Value.cells, splice, List.setIfInBounds_toArray, List.set_cons_zero, List.set_cons_succ, bfill_nil, bfill_cons, bstep_some, withO_some, List.take_zero, List.take_succ_cons, List.drop_zero, List.drop_succ_cons, List.cons_append, List.nil_append, List.append_nil, List.length_cons, List.length_nil, Nat.reduceLeDiff, Nat.le_refl, and_true, true_and, and_self, decide_true, decide_false, Bool.not_true, Bool.not_false, add_none, Int.toNat_zero, Nat.zero_mul, w1, opA_lookup, bl79, callA_fn0 pl10, callA_fn0 pl12, callA_fn0 pl23, callA_fn0 pl91, callQ_fn0 pl12, fa73_1, fa77_0, fa82_0, fq73_1, fq77_0, fq82_0, ld22, ld68, ld82, ld9, len_slice Tryd.underlying24, lq22, lq68, lq9, opA_alloc 79 ty79]
            rw [lkpA_ok uHM uStr ty124 (MapC.ext hkn (E12.trans E24)).o]
            cases hlk : hndL.lookup w with
            | none =>
              simp only [go_sem, reduceCtorEq, Nat.reduceEqDiff, Nat.reduceAdd, withc_some, withcs_some, cells_0, cells_s, Option.bind_some, Option.map_some, List.getElem?_toArray, List.getElem?_cons_zero, List.getElem?_cons_succ, Nat.add_zero, Nat.zero_add, Value.cells, splice, List.setIfInBounds_toArray, List.set_cons_zero, List.set_cons_succ, bfill_nil, bfill_cons, bstep_some, withO_some, List.take_zero, List.take_succ_cons, List.drop_zero, List.drop_succ_cons, List.cons_append, List.nil_append, List.append_nil, List.length_cons, List.length_nil, Nat.reduceLeDiff, Nat.le_refl, and_true, true_and, and_self, decide_true, decide_false, Bool.not_true, Bool.not_false, Option.isSome_none, c63_11, r63_13, c63_9, c63_8, r63_14, cell_of_blk (E24.get h52), bl79, callA_fn0 pl10, callA_fn0 pl12, callA_fn0 pl23, callA_fn0 pl91, callQ_fn0 pl12, fa73_1, fa77_0, fa82_0, fq73_1, fq77_0, fq82_0, ld22, ld68, ld82, ld9, len_slice Tryd.underlying24, lq22, lq68, lq9, opA_alloc 79 ty79]
              have hres : lineR s k t (fun w => (hndL.lookup w).isSome) hf = (s, ⟨0, k, 3⟩) := by unfold lineR; rw [hlw]; simp [hlk]
              rw [hres] at h
              refine at_c (hr.ext (E12.trans E24)) fun G5 E5 => ?_
              simp only [go_sem, reduceCtorEq, Nat.reduceEqDiff, Nat.reduceAdd, withc_some, withcs_some, cells_0, cells_s, Option.bind_some, Option.map_some, List.getElem?_toArray, List.getElem?_cons_zero, List.getElem?_cons_succ, Nat.add_zero, Nat.zero_add, Value.cells, splice, List.setIfInBounds_toArray, List.set_cons_zero, List.set_cons_succ, bfill_nil, bfill_cons, bstep_some, withO_some, List.take_zero, List.take_succ_cons, List.drop_zero, List.drop_succ_cons, List.cons_append, List.nil_append, List.append_nil, List.length_cons, List.length_nil, Nat.reduceLeDiff, Nat.le_refl, and_true, true_and, and_self, decide_true, decide_false, Bool.not_true, Bool.not_false, bl79, callA_fn0 pl10, callA_fn0 pl12, callA_fn0 pl23, callA_fn0 pl91, callQ_fn0 pl12, fa73_1, fa77_0, fa82_0, fq73_1, fq77_0, fq82_0, ld22, ld68, ld82, ld9, len_slice Tryd.underlying24, lq22, lq68, lq9, opA_alloc 79 ty79]
              refine store_kA ((E24.trans E5).get h7) ty79 (k := fun G6 h8 k4 s4 => ?_)
              simp only [go_sem, reduceCtorEq, Nat.reduceEqDiff, Nat.reduceAdd, withc_some, withcs_some, cells_0, cells_s, Option.bind_some, Option.map_some, List.getElem?_toArray, List.getElem?_cons_zero, List.getElem?_cons_succ, Nat.add_zero, Nat.zero_add, Value.cells, splice, List.setIfInBounds_toArray, List.set_cons_zero, List.set_cons_succ, bfill_nil, bfill_cons, bstep_some, withO_some, List.take_zero, List.take_succ_cons, List.drop_zero, List.drop_succ_cons, List.cons_append, List.nil_append, List.append_nil, List.length_cons, List.length_nil, Nat.reduceLeDiff, Nat.le_refl, and_true, true_and, and_self, decide_true, decide_false, Bool.not_true, Bool.not_false, resW_cell, bl79, callA_fn0 pl10, callA_fn0 pl12, callA_fn0 pl23, callA_fn0 pl91, callQ_fn0 pl12, fa73_1, fa77_0, fa82_0, fq73_1, fq77_0, fq82_0, ld22, ld68, ld82, ld9, len_slice Tryd.underlying24, lq22, lq68, lq9, opA_alloc 79 ty79]
              rw [rc79 (l := [.int .i64 k, .int .i64 3]) (by simp only [go_sem, reduceCtorEq, Nat.reduceEqDiff, Nat.reduceAdd, withc_some, withcs_some, cells_0, cells_s, Option.bind_some, Option.map_some, List.getElem?_toArray, List.getElem?_cons_zero, List.getElem?_cons_succ, Nat.add_zero, Nat.zero_add, Value.cells, splice, List.setIfInBounds_toArray, List.set_cons_zero, List.set_cons_succ, bfill_nil, bfill_cons, bstep_some, withO_some, List.take_zero, List.take_succ_cons, List.drop_zero, List.drop_succ_cons, List.cons_append, List.nil_append, List.append_nil, List.length_cons, List.length_nil, Nat.reduceLeDiff, Nat.le_refl, and_true, true_and, and_self, decide_true, decide_false, Bool.not_true, Bool.not_false, cell_of_blk h8, bl79, callA_fn0 pl10, callA_fn0 pl12, callA_fn0 pl23, callA_fn0 pl91, callQ_fn0 pl12, fa73_1, fa77_0, fa82_0, fq73_1, fq77_0, fq82_0, ld22, ld68, ld82, ld9, len_slice Tryd.underlying24, lq22, lq68, lq9, opA_alloc 79 ty79])]
              obtain ⟨f1, f2⟩ := hdone G5 G6 s (E12.trans (E24.trans E5)).ko (hR.ext (E12.trans (E24.trans E5))) ⟨_, (E24.trans E5).get h7⟩ k4
              exact h G6 f1 f2
            | some v =>
              obtain ⟨f, rfl, hpl⟩ := hnd_plain hlk
              have hres : lineR s k t (fun w => (hndL.lookup w).isSome) hf = hf (w :: ws) := by unfold lineR; rw [hlw]; simp [hlk]
              rw [hres] at h
              simp only [go_sem, reduceCtorEq, Nat.reduceEqDiff, Nat.reduceAdd, withc_some, withcs_some, cells_0, cells_s, Option.bind_some, Option.map_some, List.getElem?_toArray, List.getElem?_cons_zero, List.getElem?_cons_succ, Nat.add_zero, Nat.zero_add, Value.cells, splice, List.setIfInBounds_toArray, List.set_cons_zero, List.set_cons_succ, bfill_nil, bfill_cons, bstep_some, withO_some, List.take_zero, List.take_succ_cons, List.drop_zero, List.drop_succ_cons, List.cons_append, List.nil_append, List.append_nil, List.length_cons, List.length_nil, Nat.reduceLeDiff, Nat.le_refl, and_true, true_and, and_self, decide_true, decide_false, Bool.not_true, Bool.not_false, Option.isSome_some, Option.getD_some, c63_11, r63_13, c63_9, c63_10, r63_15, cell_of_blk (E24.get h52), bl79, callA_fn0 pl10, callA_fn0 pl12, callA_fn0 pl23, callA_fn0 pl91, callQ_fn0 pl12, fa73_1, fa77_0, fa82_0, fq73_1, fq77_0, fq82_0, ld22, ld68, ld82, ld9, len_slice Tryd.underlying24, lq22, lq68, lq9, opA_alloc 79 ty79]
              unfold fnV
              rw [callA_fn0 hpl]
              refine hdo w ws f hlw hlk G4 _ _ (E12.trans E24) hsl (by omega) fun G5 hfr hrd => ?_
              simp only [go_sem, reduceCtorEq, Nat.reduceEqDiff, Nat.reduceAdd, withc_some, withcs_some, cells_0, cells_s, Option.bind_some, Option.map_some, List.getElem?_toArray, List.getElem?_cons_zero, List.getElem?_cons_succ, Nat.add_zero, Nat.zero_add, Value.cells, splice, List.setIfInBounds_toArray, List.set_cons_zero, List.set_cons_succ, bfill_nil, bfill_cons, bstep_some, withO_some, List.take_zero, List.take_succ_cons, List.drop_zero, List.drop_succ_cons, List.cons_append, List.nil_append, List.append_nil, List.length_cons, List.length_nil, Nat.reduceLeDiff, Nat.le_refl, and_true, true_and, and_self, decide_true, decide_false, Bool.not_true, Bool.not_false, bl79, callA_fn0 pl10, callA_fn0 pl12, callA_fn0 pl23, callA_fn0 pl91, callQ_fn0 pl12, fa73_1, fa77_0, fa82_0, fq73_1, fq77_0, fq82_0, ld22, ld68, ld82, ld9, len_slice Tryd.underlying24, lq22, lq68, lq9, opA_alloc 79 ty79]
              have h75 := cells_frJ hfr (E24.get h7) (by decide) (by decide)
              refine store_kA h75 ty79 (k := fun G6 h8 k4 s4 => ?_)
              simp only [go_sem, reduceCtorEq, Nat.reduceEqDiff, Nat.reduceAdd, withc_some, withcs_some, cells_0, cells_s, Option.bind_some, Option.map_some, List.getElem?_toArray, List.getElem?_cons_zero, List.getElem?_cons_succ, Nat.add_zero, Nat.zero_add, Value.cells, splice, List.setIfInBounds_toArray, List.set_cons_zero, List.set_cons_succ, bfill_nil, bfill_cons, bstep_some, withO_some, List.take_zero, List.take_succ_cons, List.drop_zero, List.drop_succ_cons, List.cons_append, List.nil_append, List.append_nil, List.length_cons, List.length_nil, Nat.reduceLeDiff, Nat.le_refl, and_true, true_and, and_self, decide_true, decide_false, Bool.not_true, Bool.not_false, resW_cell, bl79, callA_fn0 pl10, callA_fn0 pl12, callA_fn0 pl23, callA_fn0 pl91, callQ_fn0 pl12, fa73_1, fa77_0, fa82_0, fq73_1, fq77_0, fq82_0, ld22, ld68, ld82, ld9, len_slice Tryd.underlying24, lq22, lq68, lq9, opA_alloc 79 ty79]
              rw [rc79 (l := [.int .i64 (hf (w :: ws)).2.line, .int .i64 (hf (w :: ws)).2.code]) (by simp only [go_sem, reduceCtorEq, Nat.reduceEqDiff, Nat.reduceAdd, withc_some, withcs_some, cells_0, cells_s, Option.bind_some, Option.map_some, List.getElem?_toArray, List.getElem?_cons_zero, List.getElem?_cons_succ, Nat.add_zero, Nat.zero_add, Value.cells, splice, List.setIfInBounds_toArray, List.set_cons_zero, List.set_cons_succ, bfill_nil, bfill_cons, bstep_some, withO_some, List.take_zero, List.take_succ_cons, List.drop_zero, List.drop_succ_cons, List.cons_append, List.nil_append, List.append_nil, List.length_cons, List.length_nil, Nat.reduceLeDiff, Nat.le_refl, and_true, true_and, and_self, decide_true, decide_false, Bool.not_true, Bool.not_false, cell_of_blk h8, bl79, callA_fn0 pl10, callA_fn0 pl12, callA_fn0 pl23, callA_fn0 pl91, callQ_fn0 pl12, fa73_1, fa77_0, fa82_0, fq73_1, fq77_0, fq82_0, ld22, ld68, ld82, ld9, len_slice Tryd.underlying24, lq22, lq68, lq9, opA_alloc 79 ty79])]
              obtain ⟨f1, f2⟩ := hdone G5 G6 _ ((E12.trans E24).ko.trans hfr) hrd ⟨_, h75⟩ k4
              exact h G6 f1 f2
      · rw [if_neg he0] at hlw
        have e3 : decide ((replR (s.syms.lookup ·) t).2 = 0) = false := by simpa using he0
        simp only [go_sem, reduceCtorEq, Nat.reduceEqDiff, Nat.reduceAdd, withc_some, withcs_some, cells_0, cells_s, Option.bind_some, Option.map_some, List.getElem?_toArray, List.getElem?_cons_zero, List.getElem?_cons_succ, Nat.add_zero, Nat.zero_add, Value.cells, splice, List.setIfInBounds_toArray, List.set_cons_zero, List.set_cons_succ, bfill_nil, bfill_cons, bstep_some, withO_some, List.take_zero, List.take_succ_cons, List.drop_zero, List.drop_succ_cons, List.cons_append, List.nil_append, List.append_nil, List.length_cons, List.length_nil, Nat.reduceLeDiff, Nat.le_refl, and_true, true_and, and_self, decide_true, decide_false, Bool.not_true, Bool.not_false, e3, c63_3, bl79, callA_fn0 pl10, callA_fn0 pl12, callA_fn0 pl23, callA_fn0 pl91, callQ_fn0 pl12, fa73_1, fa77_0, fa82_0, fq73_1, fq77_0, fq82_0, ld22, ld68, ld82, ld9, len_slice Tryd.underlying24, lq22, lq68, lq9, opA_alloc 79 ty79]
        exact hfinE2 G3 _ _ _ _ hlw E3 (fun F G => by simp only [seqQ_ret])
end Go.Proofs.YtoabcmhiaknjiaaDoor
