/- Contracts and laws that the claim leans on, part 2. -/
import Derived.Test.YtoabcmhiaknjiaaDoorS39P1
import Derived.Lib.UnsafeStr
import Derived.Below
import Derived.Carry
import Derived.ChangeMaps5
import Derived.ChangeShapes
import Derived.Deep.DeepHandedRow
import Derived.Deep.Quiet
import Derived.Handed
import Derived.IntWalk
import Derived.JoinedOf
import Derived.KernelRfl
import Derived.LaidLaws
import Derived.Laws.Sem
import Derived.Lay
import Derived.MakeChecks
import Derived.Maps.StringElems
import Derived.OrdersIn
import Derived.ProofKit
import Derived.RangeFuncCalls
import Derived.RangeFuncLeaves
import Derived.RangeFuncRecord
import Derived.SevenTiedAt
import Derived.Shelf.Bits.Mul64
import Derived.Shelf.LaysM
import Derived.Shelf.Small.Strs
import Derived.Shelf.Small.Utf8
import Derived.Shelf.Strings.AsciiSet
import Derived.Shelf.Strings.Builder1
import Derived.Shelf.Strings.Builder2
import Derived.Shelf.Strings.Builder2Cap
import Derived.Shelf.Strings.BuilderF
import Derived.Shelf.Strings.BuilderK
import Derived.Shelf.Strings.Count
import Derived.Shelf.Strings.Cut
import Derived.Shelf.Strings.Explode
import Derived.Shelf.Strings.IndexAny
import Derived.Shelf.Strings.IndexAnyAll
import Derived.Shelf.Strings.Prefix
import Derived.Shelf.Strings.Repeat
import Derived.Shelf.Strings.Replace
import Derived.Shelf.Strings.RuneCount
import Derived.Shelf.Strings.Runes
import Derived.Shelf.Strings.Search1
import Derived.Shelf.Strings.Search2
import Derived.Shelf.Strings.Search3
import Derived.Shelf.Strings.Shaped
import Derived.Shelf.Strings.Split
import Derived.Shelf.Strings.SplitShaped
import Derived.Shelf.Strings.Trim
import Derived.Shelf.Unicode.Decode
import Derived.Shelf.Unicode.DecodeAny
import Derived.Shelf.Unicode.DecodeSlow
import Derived.Shelf.Utf8.RuneCount
import Derived.Shelf.Vars
import Derived.SliceStrings
import Derived.StillTail
import Derived.Stop.Joined
import Derived.StringKeys
import Derived.Tactics
import Derived.TacticsIn
import Derived.WideKeyElems2
import Derived.Test.YtoabcmhiaknjiaaDoorProg
/- Maps with string keys. -/
set_option linter.unusedSimpArgs false
set_option linter.unusedVariables false
namespace Go.Hw
open Go.Instr

section
variable {P : Program} {F : Fr} {H : Hp} {K : Value → Hp → Prop} {X : List PanicEntry → Hp → Prop} {KQ : Value → Prop} {d : Option Nat} {ty : TypeId} {g : Option (Nat × Bool)}

theorem binA_cat {t : TypeId} {x y : Operand} {a b : List UInt8} (h : a.length + b.length ≤ 9223372036854775807) : binA P .add t x y (.string (B a)) (.string (B b)) K X H = K (.string (B (a ++ b))) H := by
  rw [binA_sadd, B_size, B_size, B_append]
  have : ((a.length + b.length : Nat) : Int) ≤ IntKind.i64.max := by
    have : IntKind.i64.max = 9223372036854775807 := by decide
    omega
  exact propext ⟨fun h => h.2, fun h => ⟨this, h⟩⟩
def lkpA (P : Program) (t : TypeId) (m k : Value) (ok : Bool) (K : Value → Hp → Prop) (X : List PanicEntry → Hp → Prop) (H : Hp) : Prop := hv P (Instr.lookup t m k ok) K X H
theorem opA_lookup (t : TypeId) (x y : Operand) (ok : Bool) : opA P ⟨d, .lookup t x y ok, ty, g⟩ F H K X = withv F x fun m => withv F y fun k => lkpA P t m k ok K X H := by
  rw [opA_2 rfl (f := fun m k => do pure (.value (← Instr.lookup t m k ok))) fun _ => rfl]
  exact congrArg (withv F x) (funext fun v => congrArg (withv F y) (funext fun j => hv_next _))

/-- A map's entries: keys and values. -/
def MapO (H : Hp) (r : Nat) (l : List (List UInt8 × Value)) : Prop :=
  ∃ es clk, H[r]? = some (.map es clk) ∧ es.toList.map (fun e => (e.key, e.val)) = l.map fun p => (.string (B p.1), p.2)

theorem MapO.ext {H H' : Hp} {r : Nat} {l : List (List UInt8 × Value)} (h : MapO H r l) (e : Ext H H') : MapO H' r l := by
  obtain ⟨es, clk, h1, h2⟩ := h
  exact ⟨es, clk, e.get h1, h2⟩

theorem BA_beq (a b : List UInt8) : (B a == B b) = (a == b) := by
  show ((B a).data == (B b).data) = (a == b)
  rw [Bool.eq_iff_iff, beq_iff_eq, beq_iff_eq]
  simp [B]

/-- Where a key first stands, and its value. -/
def findM (k : List UInt8) : List (List UInt8 × Value) → Nat → Option (Nat × Value)
  | [], _ => none
  | p :: r, i => if k = p.1 then some (i, p.2) else findM k r (i + 1)

theorem findNow_str (k : List UInt8) : ∀ (es : List MapEntry) (l : List (List UInt8 × Value)) (i : Nat), es.map (fun e => (e.key, e.val)) = l.map (fun p => (.string (B p.1), p.2)) →
    findNow .string (.string (B k)) es i = some (findM k l i)
  | [], [], _, _ => rfl
  | [], p :: r, _, h => by simp at h
  | e :: es, [], _, h => by simp at h
  | e :: es, p :: r, i, h => by
    simp only [List.map_cons, List.cons.injEq, Prod.mk.injEq] at h
    obtain ⟨⟨h1, h2⟩, h3⟩ := h
    unfold findNow findM
    rw [h1]
    simp only [sameNow, BA_beq]
    by_cases hk : k = p.1
    · simp [hk, h2]
    · have : (k == p.1) = false := by simpa using hk
      rw [this, if_neg hk]
      exact findNow_str k es r (i + 1) h3

theorem findM_lookup (k : List UInt8) : ∀ (l : List (List UInt8 × Value)) (i : Nat), (findM k l i).map (·.2) = l.lookup k
  | [], _ => rfl
  | p :: r, i => by
    unfold findM
    rw [List.lookup_cons]
    by_cases hk : k = p.1
    · simp [hk]
    · have : (k == p.1) = false := by simpa using hk
      rw [if_neg hk, this]
      exact findM_lookup k r (i + 1)

theorem findKey_str {kt : TypeId} (hk : P.underlying kt = some .string) (k : List UInt8) {es : List MapEntry} {l : List (List UInt8 × Value)} (h : es.map (fun e => (e.key, e.val)) = l.map fun p => (.string (B p.1), p.2)) {α : Type} {KK : α → Hp → Prop} {XX : Value → Hp → Prop} (f : Option (Nat × Value) → Sem α) :
    hwx P ((findKey kt (.string (B k)) es).bind f) KK XX H = hwx P (f (findM k l 0)) KK XX H := by
  unfold findKey
  show hwx P (((underlying kt).bind _).bind f) _ _ H = _
  rw [hwx_bind, hw_und hk]
  rw [findNow_str k es l 0 h]
  rfl

theorem checkKey_str {kt : TypeId} (hk : P.underlying kt = some .string) (b : Bool) (k : ByteArray) {α : Type} {KK : α → Hp → Prop} {XX : Value → Hp → Prop} (f : Unit → Sem α) :
    hwx P ((checkKey b 10000 kt (.string k)).bind f) KK XX H = hwx P (f ()) KK XX H := by
  show hwx P (((underlying kt).bind _).bind f) _ _ H = _
  rw [hwx_bind, hw_und hk]
  rfl

theorem lkpA_ok {t kt et : TypeId} {z : Value} {sz by_ r : Nat} {k : List UInt8} {l : List (List UInt8 × Value)} (ht : P.underlying t = some (.map kt et)) (hk : P.underlying kt = some .string) (he : TyOK P et (some z) sz by_) (hm : MapO H r l) :
    lkpA P t (.map (some r)) (.string (B k)) true K X H = K (.tuple #[((l.lookup k).getD z), .bool (l.lookup k).isSome]) H := by
  obtain ⟨es, clk, h1, h2⟩ := hm
  unfold lkpA hv Instr.lookup
  show hwx P ((underlying t).bind _) _ _ H = _
  rw [hw_und ht]
  show hwx P (((getObj r).bind _).bind _) _ _ H = _
  rw [hwx_bind, hwx_bind]
  simp only [getObj, hwx, h1, isCells, true_and, Bool.false_eq_true, not_false_eq_true]
  show hwx P ((checkKey _ _ kt _).bind _) _ _ H = _
  rw [checkKey_str hk]
  show hwx P ((findKey kt _ _).bind _) _ _ H = _
  rw [findKey_str hk k h2]
  rw [← findM_lookup k l 0]
  cases hf : findM k l 0 with
  | none =>
    show hwx P ((zeroValue et).bind _) _ _ H = _
    rw [zeroValue_eq he]
    rfl
  | some p => rfl
theorem lkpA_nil {t kt et : TypeId} {z : Value} {sz by_ : Nat} {k : List UInt8} (ht : P.underlying t = some (.map kt et)) (hk : P.underlying kt = some .string) (he : TyOK P et (some z) sz by_) :
    lkpA P t (.map none) (.string (B k)) true K X H = K (.tuple #[z, .bool false]) H := by
  unfold lkpA hv Instr.lookup
  show hwx P ((underlying t).bind _) _ _ H = _
  rw [hw_und ht]
  show hwx P ((checkKey _ _ kt _).bind _) _ _ H = _
  rw [checkKey_str hk]
  show hwx P ((findKey kt _ _).bind _) _ _ H = _
  rw [findKey_str (l := []) hk k rfl]
  show hwx P ((zeroValue et).bind _) _ _ H = _
  rw [zeroValue_eq he]
  rfl
end
end Go.Hw

/- Strings at places that are known: lemmas without side goals, to be handed to the walk. -/
set_option linter.unusedSimpArgs false
set_option linter.unusedVariables false
namespace Go.Hw
section
variable {P : Program} {H : Hp} {K : Value → Hp → Prop} {X : List PanicEntry → Hp → Prop} {KQ : Value → Prop} {t : TypeId} {l : List UInt8} {c : UInt8} {k k2 : IntKind} {i j : Nat}

theorem some_lt {α : Type} {l : List α} {i : Nat} {c : α} (h : l[i]? = some c) : i < l.length := by
  rcases Nat.lt_or_ge i l.length with h1 | h1
  · exact h1
  · rw [List.getElem?_eq_none h1] at h; cases h
theorem getD_some {α : Type} {l : List α} {i : Nat} {c d : α} (h : l[i]? = some c) : l.getD i d = c := by
  rw [List.getD_eq_getElem?_getD, h]; rfl
theorem drop_some {α : Type} {l : List α} {i : Nat} {c : α} (h : l[i]? = some c) : l.drop i = c :: l.drop (i + 1) := by
  have hi := some_lt h
  rw [List.drop_eq_getElem_cons hi]
  rw [List.getElem?_eq_getElem hi] at h
  rw [Option.some.inj h]
theorem idxA_at (h : P.underlying t = some .string) (hc : l[i]? = some c) : idxA P t (.string (B l)) (.int k i) K X H = K (.int .u8 c.toNat) H := by
  rw [idxA_B h (by omega) (by have := some_lt hc; omega), Int.toNat_natCast, getD_some hc]
theorem wrap_one (h : i + 1 ≤ 9223372036854775807) : IntKind.wrap .i64 ((i : Int) + 1) = ((i + 1 : Nat) : Int) := by
  rw [wrap_i64 (by omega) (by omega)]; omega
theorem dlt (h : i < j) : decide ((i : Int) < (j : Int)) = true := by rw [decide_eq_true_eq]; omega
theorem dge (h : j ≤ i) : decide ((i : Int) < (j : Int)) = false := by rw [decide_eq_false_iff_not]; omega
theorem u8_ne {a b : UInt8} (h : a ≠ b) : decide ((a.toNat : Int) = (b.toNat : Int)) = false := by
  rw [decide_eq_false_iff_not]; intro he; exact h (UInt8.toNat_inj.1 (by omega))

end
end Go.Hw

/- Ranging over a map. -/
set_option linter.unusedSimpArgs false
set_option linter.unusedVariables false
namespace Go.Hw
section
variable {P : Program} {H : Hp} {K : Value → Hp → Prop} {X : List PanicEntry → Hp → Prop} {t : TypeId}

theorem rngA_map {m clk : Nat} {es : Array MapEntry} {kt et : TypeId} (h : P.underlying t = some (.map kt et)) (hm : H[m]? = some (.map es clk)) :
    rngA P t (.map (some m)) K X H = K (.pointer (some ⟨H.size, 0, none⟩)) (H.push (.mapIter (some m) clk #[] clk)) := by
  unfold rngA hv Instr.range
  show hwx P ((underlying t).bind _) _ _ H = _
  rw [hw_und h]
  show hwx P ((getObj m).bind _) _ _ H = _
  simp only [getObj, Sem.bind, hwx, hm, isCells, true_and]
  rfl
theorem nxtA_map {r m clk : Nat} {seen : Array Nat} {es : Array MapEntry} (hit : H[r]? = some (.mapIter (some m) clk seen clk)) (hm : H[m]? = some (.map es clk)) (hborn : ∀ e ∈ es, e.born < clk)
    (hnext : ∀ e ∈ es, e.born ∉ seen → K (.tuple #[.bool true, e.key, e.val]) (H.setIfInBounds r (.mapIter (some m) clk (seen.push e.born) clk)))
    (hover : (∀ e ∈ es, e.born ∈ seen) → K (.tuple #[.bool false]) H) : nxtA P (.pointer (some ⟨r, 0, none⟩)) false t K X H := by
  unfold nxtA hv Instr.next
  show hwx P ((getObj r).bind _) _ _ H
  simp only [getObj, Sem.bind, hwx, hit, isCells, true_and]
  show hwx P ((getObj m).bind _) _ _ H
  simp only [getObj, Sem.bind, hwx, hm, isCells, true_and]
  have hc : (!seen.isEmpty && !es.isEmpty && es.all fun e => decide (e.born ≥ clk)) = false := by
    cases hE : es.isEmpty with
    | true => simp
    | false =>
      have hne : es ≠ #[] := by intro h0; rw [h0] at hE; cases hE
      obtain ⟨e, he⟩ : ∃ e, e ∈ es := by
        cases hl : es.toList with
        | nil => exact absurd (by cases es; simp at hl; rw [hl]) hne
        | cons a l => exact ⟨a, by rw [← Array.mem_toList_iff, hl]; simp⟩
      have : (es.all fun e => decide (e.born ≥ clk)) = false := by
        rw [Bool.eq_false_iff]
        intro hall
        rw [Array.all_eq_true_iff_forall_mem] at hall
        have h1 := hall e he
        have h2 := hborn e he
        simp at h1
        omega
      rw [this]; simp
  rw [hc, if_neg (by simp)]
  have hold : ((es.filter fun e => !seen.contains e.born).filter fun x => decide (x.born < clk)) = es.filter fun e => !seen.contains e.born := by
    rw [Array.filter_eq_self]
    intro e he
    exact decide_eq_true (hborn e (Array.mem_filter.1 he).1)
  have hnew : ((es.filter fun e => !seen.contains e.born).filter fun x => decide (x.born ≥ clk)) = #[] := by
    rw [Array.filter_eq_empty_iff]
    intro e he
    have := hborn e (Array.mem_filter.1 he).1
    simp; omega
  rw [hold, hnew]
  obtain ⟨cs, hcs⟩ : ∃ cs, ((if (es.filter fun e => !seen.contains e.born).isEmpty = true then #[none] else #[]) ++ Array.map some ((es.filter fun e => !seen.contains e.born) ++ #[])) = cs := ⟨_, rfl⟩
  rw [hcs]
  have key : 0 < cs.size ∧ ∀ i, i < cs.size → (∃ e ∈ es, e.born ∉ seen ∧ cs[i]? = some (some e)) ∨ ((∀ e ∈ es, e.born ∈ seen) ∧ cs[i]? = some none) := by
    cases hE : (es.filter fun e => !seen.contains e.born).isEmpty with
    | true =>
      have h0 : (es.filter fun e => !seen.contains e.born) = #[] := by simpa using hE
      rw [h0] at hcs
      simp at hcs
      subst hcs
      refine ⟨by simp, fun i hi => .inr ⟨fun e he => ?_, by simp at hi; subst hi; rfl⟩⟩
      have := (Array.filter_eq_empty_iff.1 h0) e he
      simpa using this
    | false =>
      rw [hE] at hcs
      simp only [Bool.false_eq_true, if_false, Array.append_empty, Array.empty_append] at hcs
      subst hcs
      have hpos : 0 < (es.filter fun e => !seen.contains e.born).size := by
        rcases Nat.eq_zero_or_pos (es.filter fun e => !seen.contains e.born).size with h0 | h0
        · rw [Array.isEmpty, h0] at hE; cases hE
        · exact h0
      refine ⟨by simpa using hpos, fun i hi => .inl ?_⟩
      have hi' : i < (es.filter fun e => !seen.contains e.born).size := by simpa using hi
      have hm' := Array.getElem_mem hi'
      obtain ⟨m1, m2⟩ := Array.mem_filter.1 hm'
      exact ⟨_, m1, by simpa using m2, by rw [Array.getElem?_map, Array.getElem?_eq_getElem hi']; rfl⟩
  obtain ⟨hpos, key⟩ := key
  show hwx P ((choose (.mapNext cs.size)).bind _) _ _ H
  simp only [choose, Sem.bind, hwx]
  have fin : ∀ i, i < cs.size → hwx P (match cs[i]? with
      | some (some e) => (setObj r (.mapIter (some m) clk (seen.push e.born) clk)).bind fun _ => pure (.tuple #[.bool true, e.key, e.val])
      | some none => (pure (.tuple #[.bool false]) : Sem Value)
      | none => stuck "Next: no such candidate") K (fun v H' => X [{ v, recovered := false }] H') H := by
    intro i hi
    rcases key i hi with ⟨e, h1, h2, h3⟩ | ⟨h1, h3⟩
    · rw [h3]
      simp only [setObj, Sem.bind, hwx, hit, isCells, true_and]
      exact hnext e h1 h2
    · rw [h3]
      exact hover h1
  split
  · exact fin 0 hpos
  · intro t
    exact fin _ (Nat.mod_lt _ hpos)

/-- Making a map. -/
theorem opA_makeMap {F : Fr} {d : Option Nat} {ty tt : TypeId} {g : Option (Nat × Bool)} : opA P ⟨d, .makeMap tt none, ty, g⟩ F H K X = K (.map (some H.size)) (H.push (.map #[] 0)) := by
  rw [opA_0 rfl (f := do pure (.value (← Instr.makeMap tt none))) fun _ => rfl, hv_next]
  rfl

/-- A map of the call's own: its entries, older than its clock. -/
def MapC (H : Hp) (r : Nat) (l : List (List UInt8 × Value)) : Prop :=
  ∃ es clk, H[r]? = some (.map es clk) ∧ es.toList.map (fun e => (e.key, e.val)) = (l.map fun p => (.string (B p.1), p.2)) ∧ (∀ e ∈ es, e.born < clk) ∧ (es.toList.map (·.born)).Nodup
theorem MapC.o {r : Nat} {l : List (List UInt8 × Value)} (h : MapC H r l) : MapO H r l := by
  obtain ⟨es, clk, h1, h2, _⟩ := h
  exact ⟨es, clk, h1, h2⟩
theorem MapC.new : MapC (H.push (.map #[] 0)) H.size [] := ⟨#[], 0, by simp, rfl, by simp, by simp⟩
theorem MapC.ext {H' : Hp} {r : Nat} {l : List (List UInt8 × Value)} (h : MapC H r l) (e : Ext H H') : MapC H' r l := by
  obtain ⟨es, clk, h1, h2⟩ := h
  exact ⟨es, clk, e.get h1, h2⟩

def putM (k : List UInt8) (v : Value) : List (List UInt8 × Value) → List (List UInt8 × Value)
  | [] => [(k, v)]
  | p :: r => if k = p.1 then (k, v) :: r else p :: putM k v r

theorem findM_put (k : List UInt8) (v : Value) : ∀ (l : List (List UInt8 × Value)) (i : Nat), match findM k l i with
    | some (j, _) => i ≤ j ∧ j < i + l.length ∧ putM k v l = l.set (j - i) (k, v)
    | none => putM k v l = l ++ [(k, v)]
  | [], i => by unfold findM; rfl
  | p :: r, i => by
    unfold findM putM
    by_cases hk : k = p.1
    · rw [if_pos hk, if_pos hk]; simp
    · rw [if_neg hk, if_neg hk]
      have := findM_put k v r (i + 1)
      cases hf : findM k r (i + 1) with
      | none => rw [hf] at this; simp only at this ⊢; rw [this]; rfl
      | some q =>
        obtain ⟨j, u⟩ := q
        rw [hf] at this
        simp only at this ⊢
        obtain ⟨h1, h2, h3⟩ := this
        refine ⟨by omega, by simp only [List.length_cons]; omega, ?_⟩
        rw [h3, show j - i = (j - (i + 1)) + 1 by omega]
        rfl

theorem findM_key (k : List UInt8) : ∀ (l : List (List UInt8 × Value)) (i j : Nat) (u : Value), findM k l i = some (j, u) → i ≤ j ∧ l[j - i]? = some (k, u)
  | [], i, j, u, h => by unfold findM at h; cases h
  | p :: r, i, j, u, h => by
    unfold findM at h
    by_cases hk : k = p.1
    · rw [if_pos hk] at h
      cases h
      exact ⟨Nat.le_refl _, by simp [hk]⟩
    · rw [if_neg hk] at h
      obtain ⟨h1, h2⟩ := findM_key k r (i + 1) j u h
      refine ⟨by omega, ?_⟩
      rw [show j - i = (j - (i + 1)) + 1 by omega, List.getElem?_cons_succ]
      exact h2
def mupA (P : Program) (t : TypeId) (m k v : Value) (K : Value → Hp → Prop) (X : List PanicEntry → Hp → Prop) (H : Hp) : Prop := hwx P (Instr.mapUpdate t m k v) (fun _ H' => K undef H') (fun v H' => X [{ v, recovered := false }] H') H
theorem opA_mapUpdate {F : Fr} {d : Option Nat} {ty : TypeId} {g : Option (Nat × Bool)} (t : TypeId) (x y z : Operand) : opA P ⟨d, .mapUpdate t x y z, ty, g⟩ F H K X = withv F x fun m => withv F y fun k => withv F z fun v => mupA P t m k v K X H := by
  rw [opA_3 rfl (f := fun m k v => do Instr.mapUpdate t m k v; pure .skip) fun _ => rfl]
  congr; funext a; congr; funext b; congr; funext v; exact hu_next _
theorem opA_insert {F : Fr} {d : Option Nat} {ty : TypeId} {g : Option (Nat × Bool)} (t : TypeId) (x y z : Operand) : opA P ⟨d, .insert t x y z, ty, g⟩ F H K X = withv F x fun m => withv F y fun k => withv F z fun v => mupA P t m k v K X H := by
  rw [opA_3 rfl (f := fun m k v => do Instr.mapUpdate t m k v; pure .skip) fun _ => rfl]
  congr; funext a; congr; funext b; congr; funext v; exact hu_next _

theorem mupA_ok {kt et : TypeId} {r : Nat} {k : List UInt8} {v : Value} {l : List (List UInt8 × Value)} (ht : P.underlying t = some (.map kt et)) (hk : P.underlying kt = some .string) (hm : MapC H r l)
    (kk : ∀ H', MapC H' r (putM k v l) → Keep (· = r) H H' → K undef H') : mupA P t (.map (some r)) (.string (B k)) v K X H := by
  obtain ⟨es, clk, h1, h2, h3, h4⟩ := hm
  unfold mupA Instr.mapUpdate
  show hwx P ((underlying t).bind _) _ _ H
  rw [hw_und ht]
  show hwx P ((getObj r).bind _) _ _ H
  simp only [getObj, Sem.bind, hwx, h1, isCells, true_and]
  show hwx P ((Instr.checkKey _ _ kt _).bind _) _ _ H
  rw [checkKey_str hk]
  show hwx P ((Instr.findKey kt _ _).bind _) _ _ H
  rw [findKey_str hk k h2]
  have hr := get_lt h1
  have hput := findM_put k v l 0
  cases hf : findM k l 0 with
  | none =>
    rw [hf] at hput
    simp only at hput ⊢
    simp only [setObj, hwx, h1, isCells, true_and]
    refine kk _ ⟨_, _, get_set h1, ?_, ?_, ?_⟩ ⟨by simp, fun b hb hn => get_set_ne (fun h => hn h.symm)⟩
    · rw [hput]; simp [h2]
    · intro e he
      rcases Array.mem_push.1 he with he | he
      · have := h3 e he; omega
      · subst he; simp
    · rw [Array.toList_push, List.map_append, List.nodup_append]
      refine ⟨h4, by simp, ?_⟩
      intro a ha b hb
      obtain ⟨e, he, rfl⟩ := List.mem_map.1 ha
      have := h3 e (Array.mem_toList_iff.1 he)
      simp at hb
      omega
  | some q =>
    obtain ⟨j, u⟩ := q
    rw [hf] at hput
    simp only at hput ⊢
    obtain ⟨_, hj⟩ := findM_key k l 0 j u hf
    rw [Nat.sub_zero] at hj hput
    have hpair : (es[j]?).map (fun e => (e.key, e.val)) = some (.string (B k), u) := by
      have := congrArg (fun x => x[j]?) h2
      simp only [List.getElem?_map, Array.getElem?_toList, hj, Option.map_some] at this
      exact this
    have hkey : ((es[j]?).map (fun e => e.key)).getD (.string (B k)) = .string (B k) := by
      cases he : es[j]? with
      | none => rfl
      | some e => rw [he] at hpair; simp at hpair; simp [hpair.1]
    rw [hkey]
    have hsame : Instr.sameBits 10000 (.string (B k)) (.string (B k)) = true := by
      show (B k == B k) = true
      rw [BA_beq]; simp
    unfold Instr.keyThatStays
    rw [if_pos hsame]
    show hwx P (setObj r _) _ _ H
    simp only [setObj, hwx, h1, isCells, true_and]
    refine kk _ ⟨_, _, get_set h1, ?_, ?_, ?_⟩ ⟨by simp, fun b hb hn => get_set_ne (fun h => hn h.symm)⟩
    rotate_left 2
    · have e : (es.modify j fun e => { key := .string (B k), val := v, born := e.born }).toList.map (·.born) = es.toList.map (·.born) := by
        apply List.ext_getElem?
        intro n
        simp only [List.getElem?_map, Array.getElem?_toList, Array.getElem?_modify]
        by_cases hn : j = n
        · rw [if_pos hn]; cases es[n]? <;> rfl
        · rw [if_neg hn]
      first | exact e ▸ h4 | (rw [e]; exact h4)
    · rw [hput.2.2]
      apply List.ext_getElem?
      intro n
      have h2n := congrArg (fun x => x[n]?) h2
      simp only [List.getElem?_map, Array.getElem?_toList] at h2n ⊢
      rw [Array.getElem?_modify, List.getElem?_set]
      by_cases hn : j = n
      · subst hn
        rw [if_pos rfl, if_pos rfl, if_pos (by omega)]
        cases he : es[j]? with
        | none => rw [he] at hpair; simp at hpair
        | some e => rfl
      · rw [if_neg hn, if_neg hn]; exact h2n
    · intro e he
      obtain ⟨n, hn, hen⟩ := Array.getElem_of_mem he
      rw [Array.getElem_modify] at hen
      have hn' : n < es.size := by simpa using hn
      have := h3 es[n] (Array.getElem_mem hn')
      split at hen <;> (subst hen; exact this)
end
end Go.Hw

/- What a strings.Builder needs: appending nothing; unsafe.SliceData, unsafe.String over a row of bytes. -/
set_option linter.unusedSimpArgs false
set_option linter.unusedVariables false
namespace Go.Hw

section
variable {P : Program} {H : Hp} {K : Value → Hp → Prop} {X : List PanicEntry → Hp → Prop} {KQ : Value → Prop} {ty : TypeId}

theorem append_empty {T T2 E : TypeId} {d2 : TypeDesc} {z : Option Value} {by_ : Nat} {cs : Array Bool} {a : Option Addr} {n c : Nat} (hn : n ≤ c)
    (hT : P.underlying T = some (.slice E)) (hE : TyOK P E z 1 by_) (hT2 : P.underlying T2 = some d2) (hd2 : notInt d2 = true) :
    callA P (.builtin .append) #[T, T2] ty cs [.slice a n c, .string (B [])] K X H = K (.slice a n c) H := by
  show hwx P (do let v ← Builtin.append_ #[T, T2] ty #[.slice a n c, .string (B [])]; pure (Next.value v)) _ _ H = _
  rw [hv_next]
  unfold hv Builtin.append_
  show hwx P ((underlying T).bind _) _ _ H = _
  rw [hw_und hT]
  show hwx P ((sizeOf E).bind _) _ _ H = _
  rw [sizeOf_eq hE]
  show hwx P ((underlying T2).bind _) _ _ H = _
  rw [hw_und hT2]
  have hzb : isIntB d2 = false := by cases d2 <;> first | rfl | cases hd2
  show hwx P ((Sem.pure (isIntB d2)).bind _) _ _ H = _
  rw [hzb]
  simp only [Sem.bind, Bool.false_eq_true, if_false, Bool.not_false, if_true]
  have e0 : (B []).size = 0 := rfl
  show hwx P ((Sem.pure (B []).size).bind _) _ _ H = _
  simp only [Sem.bind, e0, Nat.add_zero, hn, if_true]
  show hwx P ((Builtin.firstCells 1 0 (.string (B []))).bind _) _ _ H = _
  have hsrc : Src H 1 (.string (B [])) 0 [] := .inr (.inr ⟨B [], rfl, rfl, rfl⟩)
  rw [hw_firstCells hsrc (fun _ => rfl)]
  cases a <;> rfl

theorem callQ_usd {ats : Array TypeId} {cs : Array Bool} {a : Addr} {n c : Nat} (hc : c ≠ 0) : callQ P (.builtin .unsafeSliceData) ats ty cs [.slice (some a) n c] KQ H = KQ (.pointer (some a)) := by
  obtain ⟨k, rfl⟩ : ∃ k, c = k + 1 := ⟨c - 1, by omega⟩
  rfl
theorem callQ_usd0 {ats : Array TypeId} {cs : Array Bool} {n c : Nat} : callQ P (.builtin .unsafeSliceData) ats ty cs [.slice none n c] KQ H = KQ (.pointer none) := (rfl)

theorem callA_ustr0 {pt it : TypeId} {cs : Array Bool} {p : Option Addr} : callA P (.builtin .unsafeString) #[pt, it] ty cs [.pointer p, .int .i64 0] K X H = K (.string (B [])) H := by
  cases p <;> rfl

theorem hw_loadBytes {a : Addr} {K : ByteArray → Hp → Prop} {X : Value → Hp → Prop} : ∀ (l : List UInt8) (i : Nat) (acc : ByteArray), cellsH H a i l.length = some (bytesV l) → hwx P (loadBytes (a.add i) acc l.length) K X H = K ⟨acc.data ++ l.toArray⟩ H
  | [], i, acc, h => by
    show K acc H = _
    simp
  | c :: l, i, acc, h => by
    simp only [List.length_cons, cellsH] at h
    cases hc : cellH H (a.add i) with
    | none => rw [hc] at h; cases h
    | some v =>
      rw [hc] at h
      simp only [Option.map_eq_some_iff] at h
      obtain ⟨m, hm, hm2⟩ := h
      have hv : v = .int .u8 c.toNat ∧ m = bytesV l := by simpa [bytesV] using hm2
      obtain ⟨rfl, rfl⟩ := hv
      simp only [List.length_cons, loadBytes]
      show hwx P ((load (a.add i)).bind _) K X H = _
      simp only [load, Sem.bind, hwx, hc]
      have hadd : (a.add i).add 1 = a.add (i + 1) := by
        unfold Addr.add
        by_cases hi : i = 0
        · subst hi; simp
        · simp [hi]; omega
      have hx : ((c.toNat : Int).toNat).toUInt8 = c := by simp
      show hwx P (loadBytes ((a.add i).add 1) (acc.push ((c.toNat : Int).toNat).toUInt8) l.length) K X H = _
      rw [hadd, hx, hw_loadBytes l (i + 1) _ hm]
      congr 1
      apply ByteArray.ext
      simp [ByteArray.push]

theorem callA_ustr {pt it E : TypeId} {cs : Array Bool} {g : Nat} {c : Array Value} {f : Nat × Nat} {l : List UInt8} (hpt : P.underlying pt = some (.pointer E)) (hE : P.cellsOf E = 1) (hg : H[g]? = some (.cells c E f)) (h0 : l ≠ []) (hl : l.length ≤ c.size) (hc : c.toList.take l.length = bytesV l) (hmax : l.length ≤ 9223372036854775807) :
    callA P (.builtin .unsafeString) #[pt, it] ty cs [.pointer (some ⟨g, 0, none⟩), .int .i64 l.length] K X H = K (.string (B l)) (freezeH H ⟨g, 0, none⟩ l.length) := by
  have hlen := List.length_pos_iff.2 h0
  show hwx P (do let v ← Builtin.unsafeString_ #[pt, it] ty #[.pointer (some ⟨g, 0, none⟩), .int .i64 l.length]; pure (Next.value v)) _ _ H = _
  rw [hv_next]
  have hdef : ∀ n : Int, Builtin.unsafeString_ #[pt, it] ty #[.pointer (some ⟨g, 0, none⟩), .int .i64 n] =
      (do
        let n ← asInt (.int .i64 n)
        if n < 0 then runtimePanic (.error "unsafe.String: len out of range")
        if n > IntKind.i64.max then unsupported (.unsafePointer "String: a length above the largest int")
        if n = 0 then pure (.string .empty)
        else if ← variablesAt ⟨g, 0, none⟩ (← elemOf pt) n.toNat then do
          let s ← loadBytes ⟨g, 0, none⟩ .empty n.toNat
          freeze ⟨g, 0, none⟩ n.toNat
          pure (.string s)
        else unsupported (.unsafePointer "String: not so many bytes at ptr")) := fun n => rfl
  rw [hdef]
  unfold hv
  have hm : IntKind.i64.max = 9223372036854775807 := rfl
  have e1 : ¬ ((l.length : Int) < 0) := by omega
  have e2 : ¬ ((l.length : Int) > IntKind.i64.max) := by rw [hm]; omega
  have e3 : ¬ ((l.length : Int) = 0) := by omega
  have hasInt : asInt (.int .i64 (l.length : Int)) = (pure (l.length : Int) : Sem Int) := rfl
  simp only [hasInt, pure_bind, e1, e2, e3, if_false]
  have hel : ∀ (k : TypeId → Sem Value), hwx P ((elemOf pt).bind k) K (fun v H' => X [{ v, recovered := false }] H') H = hwx P (k E) K (fun v H' => X [{ v, recovered := false }] H') H := by
    intro k
    unfold elemOf
    show hwx P (((underlying pt).bind _).bind _) _ _ H = _
    rw [hwx_bind, hw_und hpt]
    rfl
  show hwx P ((elemOf pt).bind _) _ _ H = _
  rw [hel]
  show hwx P ((variablesAt ⟨g, 0, none⟩ E (l.length : Int).toNat).bind _) _ _ H = _
  have hva : ∀ (k : Bool → Sem Value), hwx P ((variablesAt ⟨g, 0, none⟩ E l.length).bind k) K (fun v H' => X [{ v, recovered := false }] H') H = hwx P (k true) K (fun v H' => X [{ v, recovered := false }] H') H := by
    intro k
    unfold variablesAt
    show hwx P ((Sem.program fun p => (shape g).bind _).bind k) _ _ H = _
    simp only [Sem.bind, hwx, shape, shapeH, hg]
    rw [Lib.liesAt_bytes hE _ _ (by rw [hE]; simpa using hl)]
    rfl
  rw [Int.toNat_natCast, hva]
  simp only [if_true]
  show hwx P ((loadBytes ⟨g, 0, none⟩ .empty l.length).bind _) _ _ H = _
  rw [hwx_bind]
  have hcs : cellsH H ⟨g, 0, none⟩ 0 l.length = some (bytesV l) := by rw [cellsH_of_blk hg _ _ (by omega)]; simpa using hc
  have := hw_loadBytes (P := P) (K := fun a H' => hwx P ((freeze ⟨g, 0, none⟩ l.length).bind fun _ => Sem.pure (Value.string a)) K (fun v H' => X [{ v, recovered := false }] H') H') (X := fun v H' => X [{ v, recovered := false }] H') l 0 .empty hcs
  rw [add_none] at this
  refine Eq.trans this ?_
  show K (.string ⟨ByteArray.empty.data ++ l.toArray⟩) (freezeH H ⟨g, 0, none⟩ l.length) = _
  have : (⟨ByteArray.empty.data ++ l.toArray⟩ : ByteArray) = B l := by
    have e : ByteArray.empty.data = #[] := rfl
    rw [e, Array.empty_append]
    rfl
  rw [this]

/-! ### nilCheck, as an equation -/

def nckA (P : Program) (v : Value) (K : Value → Hp → Prop) (X : List PanicEntry → Hp → Prop) (H : Hp) : Prop :=
  hwx P (execOp (fun _ => v) (O.oper ⟨none, .nilCheck (.const v), 0, none⟩)) (nextK P K X) (fun v H' => X [{ v, recovered := false }] H') H
theorem opA_nck {F : Fr} {d : Option Nat} {g : Option (Nat × Bool)} (x : Operand) : opA P ⟨d, .nilCheck x, ty, g⟩ F H K X = withv F x fun v => nckA P v K X H :=
  opA_1 rfl (f := fun v => execOp (fun _ => v) (O.oper ⟨none, .nilCheck (.const v), 0, none⟩)) fun _ => rfl
theorem nckA_ptr {a : Addr} : nckA P (.pointer (some a)) K X H = K (.pointer (some a)) H := (rfl)
theorem nckA_fn {f : FuncId} {a b : Array Value} : nckA P (.func (.func f) a b) K X H = K (.func (.func f) a b) H := (rfl)
theorem nckA_y {l : Nat} {a b : Array Value} : nckA P (.func (.yield l) a b) K X H = K (.func (.yield l) a b) H := (rfl)
theorem nckA_iface {t : TypeId} {v : Value} : nckA P (.iface t v) K X H = K (.iface t v) H := (rfl)

def nckQ (P : Program) (v : Value) (K : Value → Prop) (H : Hp) : Prop := nextQ P K H (rd P (execOp (fun _ => v) (O.oper ⟨none, .nilCheck (.const v), 0, none⟩)) H)
theorem qA_nck {F : Fr} {d : Option Nat} {g : Option (Nat × Bool)} (x : Operand) : qA P ⟨d, .nilCheck x, ty, g⟩ F H KQ = withv F x fun v => nckQ P v KQ H :=
  qA_1 rfl (f := fun v => execOp (fun _ => v) (O.oper ⟨none, .nilCheck (.const v), 0, none⟩)) fun _ => rfl
theorem nckQ_ptr {a : Addr} : nckQ P (.pointer (some a)) KQ H = KQ (.pointer (some a)) := (rfl)
theorem nckQ_fn {f : FuncId} {a b : Array Value} : nckQ P (.func (.func f) a b) KQ H = KQ (.func (.func f) a b) := (rfl)
end
end Go.Hw

/- Calls of yield, loops over functions; loads, stores, results by facts on the blocks at hand. -/
set_option linter.unusedSimpArgs false
set_option linter.unusedVariables false
namespace Go.Hw

section
variable {P : Program} {H : Hp} {K : Value → Hp → Prop} {X : List PanicEntry → Hp → Prop} {KQ : Value → Prop} {ty : TypeId} {F : Fr}

/-- A call of yield is a round. -/
theorem callA_yield {l : Nat} {lp : Loop} {o : Operand} {ats : Array TypeId} {cs : Array Bool} {vs : List Value} (h : H[l]? = some (.loop lp)) (hn : vs.length = lp.params.size) :
    callA P (.value o) ats ty cs (.func (.yield l) #[] #[] :: vs) K X H = HYield P l lp vs H (callK K X) := by
  unfold callA callSem
  simp only [List.headD_cons, List.tail_cons]
  show hwx P (Instr.yield l (#[] ++ vs.toArray)) _ _ H = _
  have e : (#[] ++ vs.toArray : Array Value) = vs.toArray := by simp
  rw [e]
  unfold Instr.yield Instr.getLoop
  show hwx P (((getObj l).bind _).bind _) _ _ H = _
  simp only [getObj, Sem.bind, hwx, h, isCells, true_and]
  have hs : ¬ (vs.toArray.size ≠ lp.params.size) := by simpa using hn
  show hwx P ((Sem.pure lp).bind _) _ _ H = _
  simp only [Sem.bind, hs, if_false]
  rfl

theorem aw_rf {n : Nat} {g : Operand} {ps : List Nat} {a b : A} {Q : E → Fr → Hp → Prop} {it : FuncId} {first cap : Array Value} (hg : evo F g = some (.func (.func it) first cap)) (hpl : Plain P it) (hf : (flat a && flat b && ps.all fun p => decide (p < n)) = true)
    (h : ∀ lp : Loop, LoopR ps H.size lp →
          (∀ (vs : List Value) (H' : Hp) (K : Ending → Hp → Prop), vs.length = ps.length → H'[H.size + 1]? = some (.loop lp) →
            aw P n a (noE fun F1 H1 => H1[H.size + 1]? = some (.loop lp) ∧ aw P n b (rndK (H.size + 1) lp K) F1 (H1.setIfInBounds (H.size + 1) (.loop { lp with state := .busy }))) (bindF ps vs F) H' →
            HYield P (H.size + 1) lp vs H' K) →
          HCall P it (first ++ #[.func (.yield (H.size + 1)) #[] #[]] ++ cap) ((H.push (.deferred (some []))).push (.loop lp)) (rfK (H.size + 1) Q F)) : aw P n (.rf g ps a b) Q F H := by
  simp only [aw, withv, hg]
  exact ⟨⟨hpl, hf⟩, h⟩

theorem noE_normal {K : Fr → Hp → Prop} : noE K .normal F H = K F H := (rfl)

/-! ### Loads as equations -/

def withc (o : Option Value) (K : Value → Prop) : Prop :=
  match o with
  | some v => K v
  | none => False
theorem withc_some {v : Value} {K : Value → Prop} : withc (some v) K = K v := (rfl)

def withcs (o : Option (List Value)) (K : List Value → Prop) : Prop :=
  match o with
  | some v => K v
  | none => False
theorem withcs_some {v : List Value} {K : List Value → Prop} : withcs (some v) K = K v := (rfl)

theorem loadA_1 {t : TypeId} {dd : TypeDesc} (h : P.underlying t = some dd) (hd : aggD dd = false) {a : Addr} : loadA P t (.pointer (some a)) K X H = withc (cellH H a) fun v => K v H := by
  unfold loadA hv Instr.loadAt
  show hwx P (loadVar t a) _ _ H = _
  unfold loadVar
  show hwx P ((isAgg t).bind _) _ _ H = _
  rw [isAgg_eq h, hd]
  simp only [Bool.false_eq_true, if_false, load, hwx]
  cases cellH H a <;> rfl

theorem hw_loadCellsFrom_none {a : Addr} {α : Type} {k : Array Value → Sem α} {K : α → Hp → Prop} {X : Value → Hp → Prop} : ∀ (n i : Nat) (acc : Array Value), cellsH H a i n = none → ¬ hwx P ((loadCellsFrom a i n acc).bind k) K X H
  | 0, i, acc, h => by simp [cellsH] at h
  | n + 1, i, acc, h => by
    simp only [cellsH] at h
    intro hh
    have hh' : hwx P (((load (a.add i)).bind fun v => loadCellsFrom a (i + 1) n (acc.push v)).bind k) K X H := hh
    cases hc : cellH H (a.add i) with
    | none => simp [load, Sem.bind, hwx, hc] at hh'
    | some v =>
      rw [hc] at h
      simp only [load, Sem.bind, hwx, hc] at hh'
      refine hw_loadCellsFrom_none n (i + 1) (acc.push v) ?_ hh'
      simpa using h

theorem loadA_n {t : TypeId} {dd : TypeDesc} {z : Option Value} {sz by_ : Nat} (h : P.underlying t = some dd) (hd : aggD dd = true) (ht : TyOK P t z sz by_) {a : Addr} : loadA P t (.pointer (some a)) K X H = withcs (cellsH H a 0 sz) fun l => K (.agg l.toArray) H := by
  cases hc : cellsH H a 0 sz with
  | some l => exact loadA_agg h hd ht hc
  | none =>
    refine propext ⟨fun hh => ?_, fun hh => hh.elim⟩
    unfold loadA hv Instr.loadAt at hh
    have h1 : hwx P ((isAgg t).bind fun b => if b = true then (sizeOf t).bind fun n => (loadCells a n).bind fun cs => Sem.pure (Value.agg cs) else load a) K (fun v H' => X [{ v, recovered := false }] H') H := hh
    rw [isAgg_eq h, hd] at h1
    simp only [if_true] at h1
    rw [sizeOf_eq ht] at h1
    exact hw_loadCellsFrom_none _ _ _ hc h1

theorem loadQ_e {t : TypeId} {dd : TypeDesc} (h : P.underlying t = some dd) (hd : aggD dd = false) {a : Addr} : loadQ P t (.pointer (some a)) KQ H = withc (cellH H a) KQ := by
  cases hc : cellH H a with
  | some v => exact loadQ_cell h hd hc
  | none =>
    refine propext ⟨fun hh => ?_, fun hh => hh.elim⟩
    unfold loadQ qv at hh
    have : rd P (Instr.loadAt t (.pointer (some a))) H = none := by
      show rd P (loadVar t a) H = none
      unfold loadVar
      show rd P ((isAgg t).bind _) H = none
      rw [rd_bind]
      have hi : rd P (isAgg t) H = some false := by
        show rd P ((underlying t).bind fun d => match d with | .struct _ | .array _ _ => Sem.pure true | _ => Sem.pure false) H = _
        rw [rd_bind]
        have hu : rd P (underlying t) H = some dd := by
          show rd P (match P.underlying t with | some d => Sem.pure d | none => stuck _) H = _
          rw [h]; rfl
        rw [hu]
        cases dd <;> first | rfl | cases hd
      rw [hi]
      simp only [Option.bind_some, Bool.false_eq_true, if_false, load, rd, hc]
    rw [this] at hh
    exact hh

theorem cells_0 {a : Addr} {i : Nat} : cellsH H a i 0 = some [] := (rfl)
theorem cells_s {b off i n : Nat} : cellsH H ⟨b, off, none⟩ i (n + 1) = (cellH H ⟨b, off + i, none⟩).bind fun v => (cellsH H ⟨b, off, none⟩ (i + 1) n).map (v :: ·) := by
  simp only [cellsH, add_none]
  cases cellH H ⟨b, off + i, none⟩ <;> rfl
/-! ### Boxes and stores -/

theorem box_k {t : TypeId} {v : Value} {K : Value → Hp → Prop} (k : ∀ (b : Nat) (G : Hp), b = H.size → G.size = H.size + 1 → G[b]? = some (.cells v.cells t (0, 0)) → Ext H G → K (.pointer (some ⟨b, 0, none⟩)) G) : boxA P t v K H :=
  k H.size _ rfl (by simp) get_push_eq (Ext.push _ _)

theorem store_k {t : TypeId} {z : Option Value} {sz by_ b off : Nat} {v : Value} {c : Array Value} {e : TypeId} (hb : H[b]? = some (.cells c e (0, 0))) (ht : TyOK P t z sz by_) (hv : v.cells.size = sz) (h1 : (v.cells.toList.all oneC) = true) (hoff : off + sz ≤ c.size)
    (k : ∀ G : Hp, G[b]? = some (.cells (splice c off v.cells.toList) e (0, 0)) → Keep (· = b) H G → G.size = H.size → K undef G) : storeA P t (.pointer (some ⟨b, off, none⟩)) v K X H := by
  have hp := putH_blk (b := b) (off := off) (e := e) (f := (0, 0)) v.cells.toList 0 H c hb (fun u hu => List.all_eq_true.1 h1 u hu) (by simp [hv]; omega) (by simp)
  rw [storeA_put ht hv hp]
  have hlt := get_lt hb
  refine k _ ?_ ⟨by simp, fun i hi hn => ?_⟩ (by simp)
  · rw [Array.getElem?_setIfInBounds]; simp [hlt]
  · rw [Array.getElem?_setIfInBounds_ne (fun e => hn e.symm)]

theorem Keep.two {b : Nat} {H0 H G : Hp} (h : Ext H0 H) (k : Keep (· = b) H G) (hb : H0.size ≤ b) : Ext H0 G := h.then k fun x hx => by omega

/-! ### Results in variables -/

def rcA (P : Program) (t : TypeId) (v : Value) (H : Hp) (K : Value → Prop) : Prop :=
  match v with
  | .pointer (some ad) => match rd P (loadVar t ad) H with
    | some u => K u
    | none => False
  | _ => False
theorem resW_cell {K : List Value → Prop} {a : Nat} {t : TypeId} {r : List ResultVar} : resW P F H K (.cell a t :: r) = withv F (.tmp a) fun v => rcA P t v H fun u => resW P F H (fun vs => K (u :: vs)) r := by
  simp only [resW]
  unfold rcA
  rfl
theorem rcA_n {t : TypeId} {dd : TypeDesc} {z : Option Value} {sz by_ : Nat} (h : P.underlying t = some dd) (hd : aggD dd = true) (ht : TyOK P t z sz by_) {a : Addr} {K : Value → Prop} {l : List Value} (hc : cellsH H a 0 sz = some l) : rcA P t (.pointer (some a)) H K = K (.agg l.toArray) := by
  unfold rcA; simp only [rd_loadVar_agg h hd ht hc]

end
end Go.Hw

/- Literals of structs as equations; slices with their blocks. -/
set_option linter.unusedSimpArgs false
set_option linter.unusedVariables false
namespace Go.Hw

def bfill (pl : List (Nat × Nat)) (cells : List Value) : List (Nat × Value) → Option (List Value)
  | [] => some cells
  | (i, v) :: rest => match pl[i]? with
    | none => none
    | some (off, size) => if v.cells.toList.length = size ∧ off + size ≤ cells.length then bfill pl (cells.take off ++ (v.cells.toList ++ cells.drop (off + size))) rest else none

theorem bfill_nil {pl : List (Nat × Nat)} {cells : List Value} : bfill pl cells [] = some cells := (rfl)
def bstep (pl : List (Nat × Nat)) (cells : List Value) (v : Value) (rest : List (Nat × Value)) (p : Option (Nat × Nat)) : Option (List Value) :=
  match p with
  | none => none
  | some (off, size) => if v.cells.toList.length = size ∧ off + size ≤ cells.length then bfill pl (cells.take off ++ (v.cells.toList ++ cells.drop (off + size))) rest else none
theorem bfill_cons {pl : List (Nat × Nat)} {cells : List Value} {i : Nat} {v : Value} {rest : List (Nat × Value)} : bfill pl cells ((i, v) :: rest) = bstep pl cells v rest pl[i]? := (rfl)
theorem bstep_some {pl : List (Nat × Nat)} {cells : List Value} {v : Value} {rest : List (Nat × Value)} {off size : Nat} : bstep pl cells v rest (some (off, size)) = if v.cells.toList.length = size ∧ off + size ≤ cells.length then bfill pl (cells.take off ++ (v.cells.toList ++ cells.drop (off + size))) rest else none := (rfl)

theorem put_zip (off : Nat) : ∀ (l : List Value) (k : Nat) (cells : Array Value), off + k + l.length ≤ cells.size →
    (l.toArray.zipIdx k).foldl (fun cs x => cs.setIfInBounds (off + x.2) x.1) cells = (cells.toList.take (off + k) ++ (l ++ cells.toList.drop (off + k + l.length))).toArray
  | [], k, cells, h => by
    have e : (#[] : Array Value).zipIdx k = #[] := by apply Array.ext'; simp
    rw [e]
    apply Array.ext'
    simp
  | v :: r, k, cells, h => by
    simp only [List.length_cons] at h
    have e : ((v :: r).toArray.zipIdx k) = #[(v, k)] ++ (r.toArray.zipIdx (k + 1)) := by
      apply Array.ext'
      simp [List.zipIdx_cons]
    rw [e, Array.foldl_append]
    show (r.toArray.zipIdx (k + 1)).foldl _ (cells.setIfInBounds (off + k) v) = _
    rw [put_zip off r (k + 1) (cells.setIfInBounds (off + k) v) (by simp; omega)]
    apply Array.ext'
    simp only [List.length_cons]
    apply List.ext_getElem?
    intro i
    have hlt : off + k < cells.toList.length := by simp; omega
    simp only [Array.toList_setIfInBounds]
    rw [show off + (k + 1) = off + k + 1 by omega, List.take_succ_eq_append_getElem (by simpa using hlt)]
    simp only [List.getElem_set_self, List.take_set_of_le (Nat.le_refl _), List.append_assoc, List.cons_append, List.nil_append]
    rw [List.drop_set_of_lt (by omega)]
    rw [show off + k + 1 + r.length = off + k + (r.length + 1) by omega]

theorem fill_eq (pl : List (Nat × Nat)) : ∀ (ps : List (Nat × Value)) (cells : List Value), Instr.fill (pl.toArray[·]?) cells.toArray ps = (bfill pl cells ps).map List.toArray
  | [], cells => rfl
  | (i, v) :: rest, cells => by
    unfold Instr.fill bfill
    have e : pl.toArray[i]? = pl[i]? := by simp
    rw [e]
    cases hp : pl[i]? with
    | none => rfl
    | some p =>
      obtain ⟨off, size⟩ := p
      simp only []
      by_cases hc : v.cells.toList.length = size ∧ off + size ≤ cells.length
      · have h1 : ¬ ((decide (v.cells.size ≠ size) || decide (off + v.cells.size > cells.toArray.size)) = true) := by
          have := hc.1
          simp only [Array.length_toList] at this
          simp [this]; exact hc.2
        rw [if_neg h1, if_pos hc]
        have hz := put_zip off v.cells.toList 0 cells.toArray (by simpa [hc.1] using hc.2)
        simp only [Nat.add_zero] at hz
        have hz2 : Array.foldl (fun cs (x : Value × Nat) => match x with | (c, j) => cs.setIfInBounds (off + j) c) cells.toArray v.cells.zipIdx = (cells.take off ++ (v.cells.toList ++ cells.drop (off + size))).toArray := by
          have : v.cells.toList.toArray = v.cells := by simp
          rw [this] at hz
          rw [← hc.1]
          simpa using hz
        rw [hz2]
        exact fill_eq pl rest _
      · have h1 : (decide (v.cells.size ≠ size) || decide (off + v.cells.size > cells.toArray.size)) = true := by
          simp only [Array.length_toList] at hc
          simp only [Bool.or_eq_true, decide_eq_true_eq, List.size_toArray]
          omega
        rw [if_pos h1, if_neg hc]
        rfl

def placesO (P : Program) : List Field → Option (List (Nat × Nat))
  | [] => some []
  | f :: r => match P.info? f.type, placesO P r with
    | some i, some l => some ((f.offset, i.size) :: l)
    | _, _ => none

def fldG (f : Field) : Sem (Nat × Nat) := (sizeOf f.type).bind fun s => Sem.pure (f.offset, s)

theorem places_rd {P : Program} {H : Hp} : ∀ (fs : List Field) {l : List (Nat × Nat)}, placesO P fs = some l → rd P (fs.mapM fldG) H = some l
  | [], l, h => by simp only [placesO, Option.some.injEq] at h; subst h; rfl
  | f :: r, l, h => by
    simp only [placesO] at h
    cases hi : P.info? f.type with
    | none => rw [hi] at h; cases h
    | some i =>
      cases hr : placesO P r with
      | none => rw [hi, hr] at h; cases h
      | some l' =>
        rw [hi, hr] at h
        simp only [Option.some.injEq] at h
        subst h
        have hs : rd P (fldG f) H = some (f.offset, i.size) := by
          show rd P (((match P.info? f.type with | some i => Sem.pure i | none => stuck "no such type").bind fun i => Sem.pure i.size).bind fun s => Sem.pure (f.offset, s)) H = _
          rw [hi]; rfl
        rw [List.mapM_cons]
        show rd P ((fldG f).bind fun b => (r.mapM fldG).bind fun bs => Sem.pure (b :: bs)) H = _
        rw [rd_bind, hs]
        show rd P ((r.mapM fldG).bind fun bs => Sem.pure ((f.offset, i.size) :: bs)) H = _
        rw [rd_bind, places_rd r hr]
        rfl

theorem rd_zero {P : Program} {H : Hp} {t : TypeId} {z : Value} {sz by_ : Nat} (ht : TyOK P t (some z) sz by_) : rd P (zeroValue t) H = some z := by
  obtain ⟨i, hi, h1, _, _⟩ := ht.info
  show rd P ((match P.info? t with | some i => Sem.pure i | none => stuck "no such type").bind fun i => match i.zero with | some v => Sem.pure v | none => unsupported _) H = _
  rw [hi]
  simp only [Sem.bind, h1]
  rfl
theorem rd_und0 {P : Program} {H : Hp} {t : TypeId} {d : TypeDesc} (h : P.underlying t = some d) : rd P (underlying t) H = some d := by
  show rd P (match P.underlying t with | some d => Sem.pure d | none => stuck _) H = _
  rw [h]; rfl

def withO (o : Option (List Value)) (K : Value → Prop) : Prop :=
  match o with
  | some c => K (.agg c.toArray)
  | none => False
theorem withO_some {c : List Value} {K : Value → Prop} : withO (some c) K = K (.agg c.toArray) := (rfl)

section
variable {P : Program} {H : Hp} {K : Value → Hp → Prop} {X : List PanicEntry → Hp → Prop} {KQ : Value → Prop}

theorem hwx_rd {α : Type} : ∀ (s : Sem α) (H : Hp) (v : α) {K : α → Hp → Prop} {X : Value → Hp → Prop}, rd P s H = some v → hwx P s K X H = K v H := by
  intro s
  induction s with
  | pure a => intro H v K X h; simp only [rd, Option.some.injEq] at h; subst h; rfl
  | load m a k ih =>
    intro H v K X h
    simp only [rd, hwx] at h ⊢
    cases hc : cellH H a with
    | none => rw [hc] at h; cases h
    | some u => rw [hc] at h; exact ih u H v h
  | shape r k ih => intro H v K X h; simp only [rd] at h; split at h; exact ih _ H v h; cases h
  | frozen a k ih => intro H v K X h; simp only [rd] at h; split at h; exact ih _ H v h; cases h
  | getObj r k ih =>
    intro H v K X h
    simp only [rd, hwx] at h ⊢
    cases ho : H[r]? with
    | none => rw [ho] at h; cases h
    | some o =>
      rw [ho] at h
      simp only at h
      split at h
      · cases h
      · rename_i hc
        have hc' : isCells o = false := by simpa using hc
        simp only [hc', true_and]
        exact ih o H v h
  | program k ih => intro H v K X h; exact ih _ H v h
  | mark m k ih => intro H v K X h; exact ih H v h
  | store m a u k ih => intro H v K X h; cases h
  | new o k ih => intro H v K X h; cases h
  | freeze a n k ih => intro H v K X h; cases h
  | setObj r o k ih => intro H v K X h; cases h
  | choose q k ih => intro H v K X h; cases h
  | sys c k ih => intro H v K X h; cases h
  | halt x => intro H v K X h; cases h

theorem rd_places {fs : Array Field} {pl : List (Nat × Nat)} (hp : placesO P fs.toList = some pl) : rd P (fs.mapM fldG) H = some pl.toArray := by
  have e2 : (fs.mapM fldG : Sem (Array (Nat × Nat))) = (fs.toList.mapM fldG).bind fun l => Sem.pure l.toArray := by
    rw [Array.mapM_eq_mapM_toList]
    exact map_eq_pure_bind _ _
  rw [e2, rd_bind, places_rd _ hp]
  rfl

theorem rd_build {t : TypeId} {fs : Array Field} {zc : Array Value} {sz by_ : Nat} {pl : List (Nat × Nat)} (h : P.underlying t = some (.struct fs)) (ht : TyOK P t (some (.agg zc)) sz by_) (hp : placesO P fs.toList = some pl) (ps : List (Nat × Value)) :
    rd P (Instr.build t ps.toArray) H = (bfill pl zc.toList ps).map fun c => .agg c.toArray := by
  unfold Instr.build
  show rd P ((zeroValue t).bind _) H = _
  rw [rd_bind, rd_zero ht, Option.bind_some]
  show rd P ((underlying t).bind _) H = _
  rw [rd_bind, rd_und0 h, Option.bind_some]
  show rd P ((fs.mapM fldG).bind _) H = _
  rw [rd_bind, rd_places hp, Option.bind_some]
  have e3 : (Value.agg zc).cells = zc.toList.toArray := by simp [Value.cells]
  rw [e3, fill_eq]
  cases bfill pl zc.toList ps <;> rfl

theorem bldA_e {t : TypeId} {fs : Array Field} {zc : Array Value} {sz by_ : Nat} {pl : List (Nat × Nat)} (h : P.underlying t = some (.struct fs)) (ht : TyOK P t (some (.agg zc)) sz by_) (hp : placesO P fs.toList = some pl) {ps : List (Nat × Value)} :
    bldA P t ps K X H = withO (bfill pl zc.toList ps) fun v => K v H := by
  unfold bldA hv Instr.build
  show hwx P ((zeroValue t).bind _) _ _ H = _
  rw [hwx_bind, hwx_rd _ _ _ (rd_zero ht)]
  show hwx P ((underlying t).bind _) _ _ H = _
  rw [hwx_bind, hwx_rd _ _ _ (rd_und0 h)]
  show hwx P ((fs.mapM fldG).bind _) _ _ H = _
  rw [hwx_bind, hwx_rd _ _ _ (rd_places hp)]
  have e3 : (Value.agg zc).cells = zc.toList.toArray := by simp [Value.cells]
  rw [e3, fill_eq]
  cases bfill pl zc.toList ps <;> rfl

theorem bldQ_e {t : TypeId} {fs : Array Field} {zc : Array Value} {sz by_ : Nat} {pl : List (Nat × Nat)} (h : P.underlying t = some (.struct fs)) (ht : TyOK P t (some (.agg zc)) sz by_) (hp : placesO P fs.toList = some pl) {ps : List (Nat × Value)} :
    bldQ P t ps KQ H = withO (bfill pl zc.toList ps) KQ := by
  unfold bldQ qv
  rw [rd_build h ht hp]
  cases bfill pl zc.toList ps <;> rfl

end

theorem box_kA {P : Program} {H : Hp} {t : TypeId} {cs : Array Value} {K : Value → Hp → Prop} (k : ∀ (b : Nat) (G : Hp), b = H.size → G.size = H.size + 1 → G[b]? = some (.cells cs t (0, 0)) → Ext H G → K (.pointer (some ⟨b, 0, none⟩)) G) : boxA P t (.agg cs) K H := box_k k
theorem box_k1 {P : Program} {H : Hp} {t : TypeId} {v : Value} {K : Value → Hp → Prop} (k : ∀ (b : Nat) (G : Hp), b = H.size → G.size = H.size + 1 → G[b]? = some (.cells #[v] t (0, 0)) → Ext H G → K (.pointer (some ⟨b, 0, none⟩)) G) (hv : v.cells = #[v] := by rfl) : boxA P t v K H :=
  box_k (by rw [hv]; exact k)
/-- A store of a struct. -/
theorem store_kA {P : Program} {H : Hp} {K : Value → Hp → Prop} {X : List PanicEntry → Hp → Prop} {t : TypeId} {z : Option Value} {sz by_ b off : Nat} {l : List Value} {c : Array Value} {e : TypeId} (hb : H[b]? = some (.cells c e (0, 0))) (ht : TyOK P t z sz by_) (hv : l.length = sz := by rfl) (h1 : (l.all oneC) = true := by rfl) (hoff : off + sz ≤ c.size := by simp)
    (k : ∀ G : Hp, G[b]? = some (.cells (splice c off l) e (0, 0)) → Keep (· = b) H G → G.size = H.size → K undef G) : storeA P t (.pointer (some ⟨b, off, none⟩)) (.agg ⟨l⟩) K X H :=
  store_k hb ht (by simpa [Value.cells] using hv) (by simpa [Value.cells] using h1) hoff (by simpa [Value.cells] using k)
/-- A store of a value of one cell. -/
theorem store_k1 {P : Program} {H : Hp} {K : Value → Hp → Prop} {X : List PanicEntry → Hp → Prop} {t : TypeId} {z : Option Value} {by_ b off : Nat} {v : Value} {c : Array Value} {e : TypeId} (hb : H[b]? = some (.cells c e (0, 0))) (ht : TyOK P t z 1 by_) (hv : v.cells = #[v] := by rfl) (h1 : oneC v = true := by rfl) (hoff : off + 1 ≤ c.size := by simp)
    (k : ∀ G : Hp, G[b]? = some (.cells (c.setIfInBounds off v) e (0, 0)) → Keep (· = b) H G → G.size = H.size → K undef G) : storeA P t (.pointer (some ⟨b, off, none⟩)) v K X H :=
  store_k hb ht (by rw [hv]; rfl) (by rw [hv]; simp [h1]) hoff (by rw [hv]; exact k)

/-! ### A slice with the kind of its block -/

/-- v: n elements of type E (sz cells each), their cells l. -/
def SlE (E sz : Nat) (H : Hp) (v : Value) (n : Nat) (l : List Value) : Prop :=
  (∃ c, v = .slice none n c ∧ n = 0 ∧ l = []) ∨
  ∃ b off cap c f, v = .slice (some ⟨b, off, none⟩) n cap ∧ H[b]? = some (.cells c E f) ∧ l.length = n * sz ∧ off + n * sz ≤ c.size ∧ n ≤ cap ∧ (c.toList.drop off).take (n * sz) = l

theorem SlE.own {ok : Nat → Prop} {E sz : Nat} {H : Hp} {v : Value} {n : Nat} {l : List Value} (h : OwnS ok E sz H v n l) : SlE E sz H v n l := by
  rcases h with ⟨h1, h2, h3⟩ | ⟨b, cap, c, f, h1, h2, h3, h4, h5, h6, h7, h8⟩
  · subst h2; exact .inl ⟨0, h1, rfl, h3⟩
  · have : n * sz ≤ cap * sz := Nat.mul_le_mul_right _ h5
    exact .inr ⟨b, 0, cap, c, f, h1, h3, h6, by omega, h5, by simpa using h7⟩
theorem SlE.nil {E sz : Nat} {H : Hp} {c : Nat} : SlE E sz H (.slice none 0 c) 0 [] := .inl ⟨c, rfl, rfl, rfl⟩
theorem SlE.form {E sz : Nat} {H : Hp} {v : Value} {n : Nat} {l : List Value} (h : SlE E sz H v n l) : ∃ a c, v = .slice a n c := by
  rcases h with ⟨c, h1, _⟩ | ⟨b, off, cap, c, f, h1, _⟩
  · exact ⟨_, _, h1⟩
  · exact ⟨_, _, h1⟩
theorem SlE.length {E sz : Nat} {H : Hp} {v : Value} {n : Nat} {l : List Value} (h : SlE E sz H v n l) : l.length = n * sz := by
  rcases h with ⟨c, _, h1, h2⟩ | ⟨b, off, cap, c, f, _, _, h1, _⟩
  · subst h1 h2; simp
  · exact h1
theorem SlE.src {E sz : Nat} {H : Hp} {v : Value} {n : Nat} {l : List Value} (h : SlE E sz H v n l) : Src H sz v n l := by
  rcases h with ⟨c, rfl, rfl, rfl⟩ | ⟨b, off, cap, c, f, rfl, h2, h3, h4, h5, h6⟩
  · exact .inr (.inl ⟨c, rfl, by simp, rfl⟩)
  · refine .inl ⟨⟨b, off, none⟩, cap, rfl, ?_⟩
    rw [cellsH_of_blk h2 _ _ (by omega)]
    simp [h6]
theorem SlE.mono {E sz : Nat} {H H' : Hp} {v : Value} {n : Nat} {l : List Value} (h : SlE E sz H v n l) (hk : ∀ (b : Nat) (c : Array Value) (f : Nat × Nat), H[b]? = some (Obj.cells c E f) → H'[b]? = some (Obj.cells c E f)) : SlE E sz H' v n l := by
  rcases h with h | ⟨b, off, cap, c, f, h1, h2, h3⟩
  · exact .inl h
  · exact .inr ⟨b, off, cap, c, f, h1, hk b c f h2, h3⟩
theorem SlE.ext {E sz : Nat} {H H' : Hp} {v : Value} {n : Nat} {l : List Value} (h : SlE E sz H v n l) (e : Ext H H') : SlE E sz H' v n l := h.mono fun _ _ _ hb => e.get hb

/-- Element i, its cell j. -/
theorem SlE.cell {E sz : Nat} {H : Hp} {v : Value} {n : Nat} {l : List Value} (h : SlE E sz H v n l) {i : Nat} (hi : i < n) :
    ∃ b off c, v = .slice (some ⟨b, off, none⟩) n c ∧ ∀ j, j < sz → ∃ u, l[i * sz + j]? = some u ∧ cellH H ⟨b, off + (i * sz + j), none⟩ = some u := by
  rcases h with ⟨c, _, h1, _⟩ | ⟨b, off, cap, c, f, h1, h2, h3, h4, h5, h6⟩
  · omega
  · refine ⟨b, off, cap, h1, fun j hj => ?_⟩
    have hlt : i * sz + j < n * sz := by
      have : (i + 1) * sz ≤ n * sz := Nat.mul_le_mul_right _ hi
      rw [Nat.succ_mul] at this
      omega
    have hl : i * sz + j < l.length := by omega
    refine ⟨l[i * sz + j], List.getElem?_eq_getElem hl, ?_⟩
    rw [cell_of_blk h2]
    have : l[i * sz + j]? = c.toList[off + (i * sz + j)]? := by rw [← h6, List.getElem?_take_of_lt hlt, List.getElem?_drop]
    rw [List.getElem?_eq_getElem hl] at this
    rw [this]; simp

/-- A part of it. -/
theorem SlE.part {E sz : Nat} {H : Hp} {a : Option Addr} {n c : Nat} {l : List Value} (h : SlE E sz H (.slice a n c) n l) {lo hi : Nat} (h1 : lo ≤ hi) (h2 : hi ≤ n) :
    n ≤ c ∨ n = 0 := by
  rcases h with ⟨c', h1, h3, _⟩ | ⟨b, off, cap, c', f, h1, _, _, _, h5, _⟩
  · exact .inr h3
  · cases h1; exact .inl h5
theorem SlE.drop {E sz : Nat} {H : Hp} {a : Option Addr} {n c : Nat} {l : List Value} (h : SlE E sz H (.slice a n c) n l) {lo : Nat} (h2 : lo ≤ n) :
    SlE E sz H (.slice (subAddr a sz lo c) (n - lo) (c - lo)) (n - lo) (l.drop (lo * sz)) := by
  rcases h with ⟨c', h1, h3, h4⟩ | ⟨b, off, cap, cs, f, h1, h3, h4, h5, h6, h7⟩
  · cases h1
    subst h3 h4
    have : lo = 0 := by omega
    subst this
    refine .inl ⟨c, ?_, by omega, by simp⟩
    simp [subAddr]
  · cases h1
    have hls : lo * sz ≤ n * sz := Nat.mul_le_mul_right _ h2
    by_cases hc : c = lo
    · have hn : n = lo := by omega
      subst hc hn
      refine .inr ⟨b, off, 0, cs, f, by simp [subAddr], h3, by simp [h4], by simp; omega, by omega, ?_⟩
      simp [h4]
    · refine .inr ⟨b, off + lo * sz, c - lo, cs, f, by simp [subAddr, hc, add_none], h3, ?_, ?_, by omega, ?_⟩
      · rw [List.length_drop, h4, Nat.sub_mul]
      · rw [Nat.sub_mul]; omega
      · rw [← h7, List.drop_take, List.drop_drop, Nat.sub_mul]
theorem SlE.take {E sz : Nat} {H : Hp} {a : Option Addr} {n c : Nat} {l : List Value} (h : SlE E sz H (.slice a n c) n l) {hi : Nat} (h2 : hi ≤ n) :
    SlE E sz H (.slice a hi c) hi (l.take (hi * sz)) := by
  rcases h with ⟨c', h1, h3, h4⟩ | ⟨b, off, cap, cs, f, h1, h3, h4, h5, h6, h7⟩
  · cases h1
    subst h3 h4
    have : hi = 0 := by omega
    subst this
    exact .inl ⟨c, rfl, rfl, by simp⟩
  · cases h1
    have hls : hi * sz ≤ n * sz := Nat.mul_le_mul_right _ h2
    refine .inr ⟨b, off, c, cs, f, rfl, h3, ?_, by omega, by omega, ?_⟩
    · rw [List.length_take, h4]; omega
    · rw [← h7, List.take_take]; congr 1; omega

/-! ### Drawn regions by a plan -/

def dwQ (P : Program) (Q : E → Fr → Hp → Prop) (keep : List Nat) (l : List (Nat × O)) (F : Fr) (H : Hp) : Prop := dwk P (fun F' H' => Q .normal (trim keep F') H') (panQ Q) l F H
def contW (P : Program) (Q : E → Fr → Hp → Prop) (keep : List Nat) (d : Nat) (r : List (Nat × O)) (F : Fr) (v : Value) (H : Hp) : Prop := dwQ P Q keep r ((d, v) :: F) H
def contWn (P : Program) (Q : E → Fr → Hp → Prop) (keep : List Nat) (r : List (Nat × O)) (F : Fr) (v : Value) (H : Hp) : Prop := dwQ P Q keep r F H
def contX (P : Program) (Q : E → Fr → Hp → Prop) (keep : List Nat) (d : Nat) (r : List (Nat × O)) (F : Fr) (H : Hp) (v : Value) (H' : Hp) : Prop := Ext H H' ∧ dwQ P Q keep r ((d, v) :: F) H'
def contXn (P : Program) (Q : E → Fr → Hp → Prop) (keep : List Nat) (r : List (Nat × O)) (F : Fr) (H : Hp) (v : Value) (H' : Hp) : Prop := Ext H H' ∧ dwQ P Q keep r F H'
def contY (P : Program) (Q : E → Fr → Hp → Prop) (keep : List Nat) (d : Nat) (r : List (Nat × O)) (F : Fr) (H : Hp) (v : Value) : Prop := dwQ P Q keep r ((d, v) :: F) H
def contYn (P : Program) (Q : E → Fr → Hp → Prop) (keep : List Nat) (r : List (Nat × O)) (F : Fr) (H : Hp) (v : Value) : Prop := dwQ P Q keep r F H
def guardW (P : Program) (Q : E → Fr → Hp → Prop) (keep : List Nat) (k : Nat) (c : Option Value) (b : Bool) (d : Option Nat) (op : Op) (t : TypeId) (r : List (Nat × O)) (F : Fr) (H : Hp) : Prop :=
  match c with
  | some (.bool c) => if c = b then dwQ P Q keep ((k, ⟨d, op, t, none⟩) :: r) F H else dwQ P Q keep r (upd d undef F) H
  | some _ => dwQ P Q keep r (upd d undef F) H
  | none => False
section
variable {P : Program} {Q : E → Fr → Hp → Prop} {keep : List Nat} {r : List (Nat × O)} {F : Fr} {H : Hp} {op : Op} {t : TypeId} {n : Nat}
theorem aw_dwQ {ops : List (Nat × O)} : aw P n (.drn ops keep) Q F H = dwQ P Q keep ops F H := (rfl)
/-- Behind the head of a fork: both ways. -/
def forkQ (P : Program) (Q : E → Fr → Hp → Prop) (keep : List Nat) (a1 a2 : List (Nat × O)) : E → Fr → Hp → Prop
  | .normal, F, H => dwQ P Q keep a1 F H ∧ dwQ P Q keep a2 F H
  | e, F, H => Q e F H
theorem aw_drf {pre a1 a2 : List (Nat × O)} {kp : List Nat} : aw P n (.drf pre kp a1 a2 keep) Q F H = dwQ P (forkQ P Q keep a1 a2) kp pre F H := (rfl)
theorem forkQ_normal {a1 a2 : List (Nat × O)} : forkQ P Q keep a1 a2 .normal F H = (dwQ P Q keep a1 F H ∧ dwQ P Q keep a2 F H) := (rfl)
theorem forkQ_panic {a1 a2 : List (Nat × O)} {c : List PanicEntry} : forkQ P Q keep a1 a2 (.panic c) F H = Q (.panic c) F H := (rfl)
theorem dwQ_nil : dwQ P Q keep [] F H = Q .normal (trim keep F) H := (rfl)
theorem dwQ_0 {d : Nat} : dwQ P Q keep ((0, ⟨some d, op, t, none⟩) :: r) F H = opA P ⟨some d, op, t, none⟩ F H (contW P Q keep d r F) (panQ Q) := (rfl)
theorem dwQ_0n : dwQ P Q keep ((0, ⟨none, op, t, none⟩) :: r) F H = opA P ⟨none, op, t, none⟩ F H (contWn P Q keep r F) (panQ Q) := (rfl)
theorem dwQ_3 {d : Nat} : dwQ P Q keep ((3, ⟨some d, op, t, none⟩) :: r) F H = opA P ⟨some d, op, t, none⟩ F H (contX P Q keep d r F H) (panQ Q) := (rfl)
theorem dwQ_3n : dwQ P Q keep ((3, ⟨none, op, t, none⟩) :: r) F H = opA P ⟨none, op, t, none⟩ F H (contXn P Q keep r F H) (panQ Q) := (rfl)
theorem dwQ_1 {d : Nat} : dwQ P Q keep ((1, ⟨some d, op, t, none⟩) :: r) F H = qA P ⟨some d, op, t, none⟩ F H (contY P Q keep d r F H) := (rfl)
theorem dwQ_1n : dwQ P Q keep ((1, ⟨none, op, t, none⟩) :: r) F H = qA P ⟨none, op, t, none⟩ F H (contYn P Q keep r F H) := (rfl)
theorem dwQ_2 {d : Nat} : dwQ P Q keep ((2, ⟨some d, op, t, none⟩) :: r) F H = qA P ⟨some d, op, t, none⟩ F #[] (contY P Q keep d r F H) := (rfl)
theorem dwQ_2n : dwQ P Q keep ((2, ⟨none, op, t, none⟩) :: r) F H = qA P ⟨none, op, t, none⟩ F #[] (contYn P Q keep r F H) := (rfl)
theorem contW_app {d : Nat} {v : Value} : contW P Q keep d r F v H = dwQ P Q keep r ((d, v) :: F) H := (rfl)
theorem contWn_app {v : Value} : contWn P Q keep r F v H = dwQ P Q keep r F H := (rfl)
theorem contX_app {d : Nat} {v : Value} {H' : Hp} : contX P Q keep d r F H v H' = (Ext H H' ∧ dwQ P Q keep r ((d, v) :: F) H') := (rfl)
theorem contXn_app {v : Value} {H' : Hp} : contXn P Q keep r F H v H' = (Ext H H' ∧ dwQ P Q keep r F H') := (rfl)
theorem contY_app {d : Nat} {v : Value} : contY P Q keep d r F H v = dwQ P Q keep r ((d, v) :: F) H := (rfl)
theorem contYn_app {v : Value} : contYn P Q keep r F H v = dwQ P Q keep r F H := (rfl)
theorem dwQ_guard {k : Nat} {d : Option Nat} {s : Nat} {b : Bool} : dwQ P Q keep ((k, ⟨d, op, t, some (s, b)⟩) :: r) F H = withg F s fun c => guardW P Q keep k c b d op t r F H := by
  unfold withg guardW dwQ
  simp only [dwk]
  cases look? F s with
  | none => rfl
  | some v => cases v <;> rfl
theorem guardW_true {k : Nat} {d : Option Nat} {b : Bool} : guardW P Q keep k (some (.bool b)) b d op t r F H = dwQ P Q keep ((k, ⟨d, op, t, none⟩) :: r) F H := by simp [guardW]
theorem guardW_tf {k : Nat} {d : Option Nat} : guardW P Q keep k (some (.bool true)) false d op t r F H = dwQ P Q keep r (upd d undef F) H := (rfl)
theorem guardW_ft {k : Nat} {d : Option Nat} : guardW P Q keep k (some (.bool false)) true d op t r F H = dwQ P Q keep r (upd d undef F) H := (rfl)
theorem guardW_un {k : Nat} {d : Option Nat} {b : Bool} : guardW P Q keep k (some undef) b d op t r F H = dwQ P Q keep r (upd d undef F) H := (rfl)
end
end Go.Hw

/- All of the core. -/

/- Quotients; a law's row: how a contract over the heap alone gives the statement. -/
set_option linter.unusedVariables false
set_option linter.unusedSimpArgs false
namespace Go.Hw
open Go
section
variable {P : Program} {t : TypeId} {x y : Operand} {k : IntKind} {a b : Int} {K : Value → Hp → Prop} {X : List PanicEntry → Hp → Prop} {H : Hp} {KQ : Value → Prop}
end
end Go.Hw

/- A range's entry; the length of a map. -/
set_option linter.unusedSimpArgs false
set_option linter.unusedVariables false
namespace Go.Hw
section
variable {P : Program} {H : Hp} {K : Value → Hp → Prop} {X : List PanicEntry → Hp → Prop} {t ty : TypeId} {F : Fr} {d : Option Nat} {g : Option (Nat × Bool)} {cs : Array Bool}
def entA (P : Program) (v : Value) (K : Value → Hp → Prop) (X : List PanicEntry → Hp → Prop) (H : Hp) : Prop := hv P (Instr.entry v) K X H
theorem opA_entry (x : Operand) : opA P ⟨d, .entry x, ty, g⟩ F H K X = withv F x fun v => entA P v K X H := by
  rw [opA_1 rfl (f := fun v => do pure (.value (← Instr.entry v))) fun _ => rfl]
  exact congrArg (withv F x) (funext fun v => hv_next _)
theorem entA_map {r m c s clk : Nat} {seen : Array Nat} {es : Array MapEntry} (hit : H[r]? = some (.mapIter (some m) c seen clk)) (hb : seen.back? = some s) (hm : H[m]? = some (.map es clk)) (hx : ∃ e ∈ es, e.born = s)
    (k : ∀ e ∈ es, e.born = s → K (.tuple #[e.key, e.val]) H) : entA P (.pointer (some ⟨r, 0, none⟩)) K X H := by
  unfold entA hv Instr.entry
  show hwx P ((getObj r).bind _) _ _ H
  simp only [getObj, Sem.bind, hwx, hit, isCells, true_and, hb]
  show hwx P ((getObj m).bind _) _ _ H
  simp only [getObj, Sem.bind, hwx, hm, isCells, true_and]
  have hc : (clk != clk) = false := by simp
  rw [hc, if_neg (by simp)]
  cases hf : es.find? (fun e => e.born == s) with
  | none =>
    obtain ⟨e, he, h1⟩ := hx
    have := Array.find?_eq_none.1 hf e he
    simp [h1] at this
  | some e =>
    have h1 := Array.mem_of_find?_eq_some hf
    have h2 := Array.find?_some hf
    exact k e h1 (by simpa using h2)
end
@[congr] theorem entA_congr {P : Program} {v : Value} {K : Value → Hp → Prop} {X : List PanicEntry → Hp → Prop} {H : Hp} {v' : Value} (hv : v = v') : entA P v K X H = entA P v' K X H := by subst hv; rfl
end Go.Hw

/- A function for which the model stands in; interface values; a map held against nil. -/
set_option linter.unusedSimpArgs false
set_option linter.unusedVariables false
namespace Go.Hw
section
variable {P : Program} {H : Hp} {K : Value → Hp → Prop} {X : List PanicEntry → Hp → Prop} {t ty : TypeId} {F : Fr} {d : Option Nat} {g : Option (Nat × Bool)} {cs : Array Bool}
theorem callA_ext {f : FuncId} {fn : Func} {e : Array Value → Sem Value} (h1 : P.funcs[f]? = some fn) (h2 : (fn.name == "runtime.NumGoroutine") = false) (h3 : fn.body.isNone = true) (h4 : Extern.findNext fn = none) (h5 : Extern.find fn = some e) {o : Operand} {ats : Array TypeId} {vs : List Value} :
    callA P (.value o) ats ty cs (.func (.func f) #[] #[] :: vs) K X H = hv P (e vs.toArray) K X H := by
  unfold callA callSem
  simp only [List.headD_cons, List.tail_cons]
  show hwx P ((callFunc f (#[] ++ vs.toArray ++ #[]))) _ _ H = _
  have ea : (#[] ++ vs.toArray ++ #[] : Array Value) = vs.toArray := by simp
  rw [ea]
  unfold callFunc
  show hwx P (match P.funcs[f]? with | none => _ | some fn => _) _ _ H = _
  rw [h1]
  simp only [h2, h3, Bool.false_eq_true, if_false, if_true]
  show hwx P ((mark (.extern f)).bind _) _ _ H = _
  simp only [h4, h5]
  exact hv_next _
def mkiA (P : Program) (t : TypeId) (v : Value) (K : Value → Hp → Prop) (X : List PanicEntry → Hp → Prop) (H : Hp) : Prop := hv P (Instr.makeInterface t v) K X H
theorem opA_mki (x : Operand) : opA P ⟨d, .makeInterface t x, ty, g⟩ F H K X = withv F x fun v => mkiA P t v K X H := by
  rw [opA_1 rfl (f := fun v => do pure (.value (← Instr.makeInterface t v))) fun _ => rfl]
  exact congrArg (withv F x) (funext fun v => hv_next _)
theorem mkiA_map {kt et : TypeId} {v : Value} (h : P.underlying t = some (.map kt et)) : mkiA P t v K X H = K (.iface t v) H := by
  unfold mkiA hv Instr.makeInterface
  show hwx P ((underlying t).bind _) _ _ H = _
  rw [hw_und h]
  rfl
def tasA (P : Program) (v : Value) (xt t : TypeId) (b : Bool) (K : Value → Hp → Prop) (X : List PanicEntry → Hp → Prop) (H : Hp) : Prop := hv P (Instr.typeAssert v xt t b) K X H
theorem opA_tas (x : Operand) (xt : TypeId) (b : Bool) : opA P ⟨d, .typeAssert x xt t b, ty, g⟩ F H K X = withv F x fun v => tasA P v xt t b K X H := by
  rw [opA_1 rfl (f := fun v => do pure (.value (← Instr.typeAssert v xt t b))) fun _ => rfl]
  exact congrArg (withv F x) (funext fun v => hv_next _)
theorem tasA_map {kt et xt : TypeId} {v : Value} (h : P.underlying t = some (.map kt et)) : tasA P (.iface t v) xt t false K X H = K v H := by
  unfold tasA hv Instr.typeAssert
  show hwx P ((underlying t).bind _) _ _ H = _
  rw [hw_und h]
  simp only [if_true]
  rfl
theorem binA_mapnil {kt et : TypeId} {m : Option Nat} {x y : Operand} (h : P.underlying t = some (.map kt et)) : binA P .eql t x y (.map m) (.map none) K X H = K (.bool m.isNone) H := by
  unfold binA hv
  have e1 : ∀ k : Unit → Sem Value, (eqGuard .eql t x y (.map m) (.map none)).bind k = k () := fun k => by cases m <;> rfl
  show hwx P ((eqGuard .eql t x y (.map m) (.map none)).bind _) _ _ H = _
  rw [e1]
  show hwx P ((Op.equal t (.map m) (.map none)).bind _) _ _ H = _
  show hwx P ((Op.equalIn (9999 + 1) t (.map m) (.map none)).bind _) _ _ H = _
  unfold Op.equalIn
  show hwx P (((underlying t).bind _).bind _) _ _ H = _
  rw [hwx_bind, hw_und h]
  cases m <;> rfl
theorem clone_ok {r : Nat} {es : Array MapEntry} {clk : Nat} (hm : H[r]? = some (.map es clk)) : hv P (Extern.MapsClone.clone #[.iface t (.map (some r))]) K X H = K (.iface t (.map (some H.size))) (H.push (.map es clk)) := by
  unfold hv Extern.MapsClone.clone
  show hwx P ((getObj r).bind _) _ _ H = _
  simp only [getObj, Sem.bind, hwx, hm, isCells, true_and]
  rfl
/-! ### A look-up in a region that draws -/
def lkpQ (P : Program) (t : TypeId) (m k : Value) (ok : Bool) (K : Value → Prop) (H : Hp) : Prop := qv P (Instr.lookup t m k ok) K H
theorem qA_lookup {KQ : Value → Prop} (x y : Operand) (ok : Bool) : qA P ⟨d, .lookup t x y ok, ty, g⟩ F H KQ = withv F x fun m => withv F y fun k => lkpQ P t m k ok KQ H := by
  rw [qA_2 rfl (f := fun m k => do pure (.value (← Instr.lookup t m k ok))) fun _ => rfl]
  exact congrArg (withv F x) (funext fun v => congrArg (withv F y) (funext fun j => q_next _))
theorem rd_findKey {kt : TypeId} (hk : P.underlying kt = some .string) (k : List UInt8) {es : List MapEntry} {l : List (List UInt8 × Value)} (h : es.map (fun e => (e.key, e.val)) = l.map fun p => (.string (B p.1), p.2)) :
    rd P (Instr.findKey kt (.string (B k)) es) H = some (findM k l 0) := by
  unfold Instr.findKey
  show rd P ((underlying kt).bind _) _ = _
  rw [rd_und hk]
  rw [findNow_str k es l 0 h]
  rfl
theorem lkpQ_ok {kt et : TypeId} {z : Value} {sz by_ r : Nat} {k : List UInt8} {l : List (List UInt8 × Value)} {KQ : Value → Prop} (ht : P.underlying t = some (.map kt et)) (hk : P.underlying kt = some .string) (he : TyOK P et (some z) sz by_) (hm : MapO H r l) :
    lkpQ P t (.map (some r)) (.string (B k)) true KQ H = KQ (.tuple #[((l.lookup k).getD z), .bool (l.lookup k).isSome]) := by
  obtain ⟨es, clk, h1, h2⟩ := hm
  refine qv_rd ?_
  unfold Instr.lookup
  show rd P ((underlying t).bind _) _ = _
  rw [rd_und ht]
  show rd P (((getObj r).bind _).bind _) _ = _
  rw [rd_bind, rd_bind]
  simp only [getObj, rd, h1, isCells, Bool.false_eq_true, if_false, Option.bind_some]
  show rd P ((Instr.checkKey _ _ kt _).bind _) _ = _
  have hc : ∀ b : Bool, rd P (Instr.checkKey b 10000 kt (.string (B k))) H = some () := by
    intro b
    show rd P ((underlying kt).bind _) _ = _
    rw [rd_und hk]
    rfl
  rw [rd_bind, hc]
  simp only [Option.bind_some]
  show rd P ((Instr.findKey kt _ _).bind _) _ = _
  rw [rd_bind, rd_findKey hk k h2]
  simp only [Option.bind_some]
  rw [← findM_lookup k l 0]
  cases hf : findM k l 0 with
  | none =>
    show rd P ((zeroValue et).bind _) _ = _
    rw [rd_bind, rd_zero he]
    rfl
  | some p => rfl
end
@[congr] theorem mkiA_congr {P : Program} {t : TypeId} {v : Value} {K : Value → Hp → Prop} {X : List PanicEntry → Hp → Prop} {H : Hp} {v' : Value} (hv : v = v') : mkiA P t v K X H = mkiA P t v' K X H := by subst hv; rfl
@[congr] theorem tasA_congr {P : Program} {v : Value} {xt t : TypeId} {b : Bool} {K : Value → Hp → Prop} {X : List PanicEntry → Hp → Prop} {H : Hp} {v' : Value} (hv : v = v') : tasA P v xt t b K X H = tasA P v' xt t b K X H := by subst hv; rfl
@[congr] theorem lkpQ_congr {P : Program} {t : TypeId} {m k : Value} {ok : Bool} {K : Value → Prop} {H : Hp} {m' k' : Value} (hm : m = m') (hk : k = k') : lkpQ P t m k ok K H = lkpQ P t m' k' ok K H := by subst hm; subst hk; rfl
end Go.Hw

/- The walk's equations, gathered under one name. -/
namespace Go.Hw
attribute [go_sem ↓]
  aw_seqQ panQ_eq aw_regQ aw_drwQ regQ_nil contR_app contN_app contD_app contE_app guardR_true guardR_tf guardR_ft
  guardR_un guardR_tfn guardR_ftn guardR_unn guardD_true guardD_tf guardD_ft guardD_un aw_condR condR_true condR_false withg_tl
  withg_hd drwQ_consn regQ_guardn regQ_consn regQ_cons regQ_guard drwQ_zero drwQ_nil drwQ_cons drwQ_guard aw_skip aw_ret
  aw_exit aw_block aw_keep resW_nil resW_tmp pack_one pack_two pack_three pack_four pack_nil opA_move opA_assign
  opA_pick opA_extract opA_unOp opA_binOp opA_call opA_index opA_slice opA_load opA_box opA_store opA_buildSlice opA_build
  opA_convert opA_fieldAddr opA_indexAddr opA_field opA_range opA_next opA_entry qA_move qA_assign qA_pick qA_extract qA_unOp qA_binOp
  qA_call qA_index qA_slice qA_load qA_build qA_convert qA_fieldAddr qA_indexAddr withv_const withv_func withv_global withv_hd
  withv_tl withvs_nil withvs_cons withov_none withov_some withps_nil withps_cons pickA_true pickA_false extrA_0 extrA_1 extrA_2
  extrA_3 nilA_ptr nilA_fn nilA_iface unA_not unA_neg unQ_not unQ_neg binA_add binA_sub binA_mul binA_lss
  binA_leq binA_gtr binA_geq binA_eql binA_neq binA_seql binA_sneq binA_slss binA_sleq binA_sgtr binA_sgeq binQ_add
  binQ_sub binQ_mul binQ_lss binQ_leq binQ_gtr binQ_geq binQ_eql binQ_neq binQ_seql binQ_sneq binQ_slss binQ_sleq
  binQ_sgtr binQ_sgeq callK_ret enumF_nil enumF_cons opA_nck nckA_ptr nckA_fn nckA_y nckA_iface qA_nck nckQ_ptr
  nckQ_fn aw_dwQ aw_drf forkQ_normal forkQ_panic contW_app contWn_app contX_app contXn_app contY_app contYn_app guardW_true guardW_tf guardW_ft guardW_un
  dwQ_nil dwQ_0 dwQ_0n dwQ_3 dwQ_3n dwQ_1 dwQ_1n dwQ_2 dwQ_2n dwQ_guard
attribute [go_sem]
  aw_seqQ seqQ_normal seqQ_ret seqQ_exit seqQ_panic blkE_panic panQ_eq aw_regQ aw_drwQ regQ_nil contR_app contN_app
  contD_app contE_app guardR_true guardR_tf guardR_ft guardR_un guardR_tfn guardR_ftn guardR_unn guardD_true guardD_tf guardD_ft
  guardD_un aw_condR condR_true condR_false withg_tl withg_hd drwQ_consn regQ_guardn regQ_consn regQ_cons regQ_guard drwQ_zero
  drwQ_nil drwQ_cons drwQ_guard aw_skip aw_ret aw_exit aw_block aw_keep blkE_normal blkE_exit blkE_ret retK_normal
  retK_ret resW_nil resW_tmp pack_one pack_two pack_three pack_four pack_nil opA_move opA_assign opA_pick opA_extract
  opA_unOp opA_binOp opA_call opA_index opA_slice opA_load opA_box opA_store opA_buildSlice opA_build opA_convert opA_fieldAddr
  opA_indexAddr opA_field opA_range opA_next opA_entry qA_move qA_assign qA_pick qA_extract qA_unOp qA_binOp qA_call qA_index
  qA_slice qA_load qA_build qA_convert qA_fieldAddr qA_indexAddr withv_const withv_func withv_global withv_hd withv_tl look_hd
  look_tl look_nil trim_nil trim_cons addO_some addO_none upd_some upd_none withvs_nil withvs_cons withov_none withov_some
  withps_nil withps_cons pickA_true pickA_false pickA_b extrA_0 extrA_1 extrA_2 extrA_3 nilA_ptr nilA_fn nilA_iface
  unA_not unA_neg unQ_not unQ_neg binA_add binA_sub binA_mul binA_lss binA_leq binA_gtr binA_geq binA_eql
  binA_neq binA_seql binA_sneq binA_slss binA_sleq binA_sgtr binA_sgeq binQ_add binQ_sub binQ_mul binQ_lss binQ_leq
  binQ_gtr binQ_geq binQ_eql binQ_neq binQ_seql binQ_sneq binQ_slss binQ_sleq binQ_sgtr binQ_sgeq callOps_fn callOps_b
  callOps_i callK_ret enumF_nil enumF_cons if_true if_false Bool.not_true Bool.not_false Bool.false_eq_true not_false_eq_true opA_nck nckA_ptr
  nckA_fn nckA_y nckA_iface qA_nck nckQ_ptr nckQ_fn aw_dwQ aw_drf forkQ_normal forkQ_panic contW_app contWn_app contX_app contXn_app contY_app
  contYn_app guardW_true guardW_tf guardW_ft guardW_un dwQ_nil dwQ_0 dwQ_0n dwQ_3 dwQ_3n dwQ_1 dwQ_1n
  dwQ_2 dwQ_2n dwQ_guard
end Go.Hw

set_option linter.unusedVariables false
namespace Go.Proofs.YtoabcmhiaknjiaaDoor
open Go.Hw

/-- What ends a word. -/
def stopP (c : Int) : Bool := decide (c ≤ 32) || (decide (126 < c) || decide (c = 39))

/-- Behind an apostrophe: the word, and what follows. -/
def quoteF (l acc : List UInt8) : Option (List UInt8 × List UInt8) :=
  match l with
  | [] => none
  | c :: r =>
    if c.toNat < 32 ∨ 126 < c.toNat then none
    else if c ≠ 39 then quoteF r (acc ++ [c])
    else match r with
      | d :: r' => if d = 39 then quoteF r' (acc ++ [39]) else some (acc, d :: r')
      | [] => some (acc, [])
termination_by l.length

theorem quoteF_nil (acc : List UInt8) : quoteF [] acc = none := by unfold quoteF; rfl
theorem quoteF_bad {c : UInt8} (r acc : List UInt8) (h : c.toNat < 32 ∨ 126 < c.toNat) : quoteF (c :: r) acc = none := by
  unfold quoteF; simp only [if_pos h]
theorem quoteF_plain {c : UInt8} (r acc : List UInt8) (h : ¬ (c.toNat < 32 ∨ 126 < c.toNat)) (h2 : c ≠ 39) : quoteF (c :: r) acc = quoteF r (acc ++ [c]) := by
  conv => lhs; unfold quoteF
  simp only [if_neg h, if_pos h2]
theorem quoteF_two (r acc : List UInt8) : quoteF (39 :: 39 :: r) acc = quoteF r (acc ++ [39]) := by
  conv => lhs; unfold quoteF
  rfl
theorem quoteF_end {r acc : List UInt8} (h : r.headD 0 ≠ 39) : quoteF (39 :: r) acc = some (acc, r) := by
  unfold quoteF
  match r, h with
  | [], _ => rfl
  | d :: r', h => 
    have : d ≠ 39 := h
    simp [this]

/-- The first word of a line, what stands behind it, and whether there is one. -/
def firstV (l : List UInt8) : List UInt8 × List UInt8 × Bool :=
  match l with
  | 39 :: r => match quoteF r [] with
    | some (w, t) => (w, t, true)
    | none => ([], [], false)
  | l => (l.takeWhile (fun b => !stopP b.toNat), l.dropWhile (fun b => !stopP b.toNat), !(l.takeWhile (fun b => !stopP b.toNat)).isEmpty)

def blank (b : UInt8) : Bool := b == 32

/-- The words of a line without blanks ahead. -/
def scanT (l : List UInt8) (acc : List (List UInt8)) : Option (List (List UInt8)) :=
  if l = [] then some acc
  else
    let (w, r, ok) := firstV l
    if ok = false then none
    else if r ≠ [] ∧ r.headD 0 ≠ 32 then none
    else if h : (r.dropWhile blank).length < l.length then scanT (r.dropWhile blank) (acc ++ [w]) else none
termination_by l.length

/-- The words of a line. -/
def scanF (l : List UInt8) : Option (List (List UInt8)) := scanT (l.dropWhile blank) []

theorem quoteF_len : ∀ (n : Nat) (l acc : List UInt8), l.length = n → ∀ w r, quoteF l acc = some (w, r) → r.length < l.length := by
  intro n
  induction n using Nat.strongRecOn with
  | _ n ih =>
    intro l acc hn w r h
    unfold quoteF at h
    match l with
    | [] => cases h
    | c :: t =>
      simp only at h
      split at h
      · cases h
      · split at h
        · have := ih t.length (by subst hn; simp) t (acc ++ [c]) rfl w r h
          simp only [List.length_cons]; omega
        · match t with
          | [] => simp only [Option.some.injEq, Prod.mk.injEq] at h; obtain ⟨_, rfl⟩ := h; simp
          | d :: r' =>
            simp only at h
            split at h
            · have := ih r'.length (by subst hn; simp only [List.length_cons]; omega) r' (acc ++ [39]) rfl w r h
              simp only [List.length_cons]; omega
            · simp only [Option.some.injEq, Prod.mk.injEq] at h; obtain ⟨_, rfl⟩ := h; simp

theorem length_dropWhile_le {α : Type} (p : α → Bool) (l : List α) : (l.dropWhile p).length ≤ l.length := (List.dropWhile_suffix p).length_le
theorem length_takeWhile_le {α : Type} (p : α → Bool) (l : List α) : (l.takeWhile p).length ≤ l.length := (List.takeWhile_prefix p).length_le

theorem firstV_quote (r : List UInt8) : firstV (39 :: r) = match quoteF r [] with | some (w, t) => (w, t, true) | none => ([], [], false) := rfl
theorem firstV_plain {l : List UInt8} (h : l.headD 0 ≠ 39) : firstV l = (l.takeWhile (fun b => !stopP b.toNat), l.dropWhile (fun b => !stopP b.toNat), !(l.takeWhile (fun b => !stopP b.toNat)).isEmpty) := by
  unfold firstV
  split
  · exact absurd rfl h
  · rfl

theorem firstV_len {l w r : List UInt8} (h : firstV l = (w, r, true)) : r.length < l.length := by
  by_cases hh : l.headD 0 = 39
  · match l, hh with
    | c :: t, hh =>
      have hc : c = 39 := hh
      subst hc
      rw [firstV_quote] at h
      cases hq : quoteF t [] with
      | none => rw [hq] at h; cases h
      | some p =>
        obtain ⟨w', t'⟩ := p
        rw [hq] at h
        simp only [Prod.mk.injEq] at h
        obtain ⟨rfl, rfl, _⟩ := h
        have := quoteF_len _ _ _ rfl _ _ hq
        simp only [List.length_cons]; omega
  · rw [firstV_plain hh] at h
    simp only [Prod.mk.injEq] at h
    obtain ⟨rfl, rfl, h3⟩ := h
    have e := congrArg List.length (List.takeWhile_append_dropWhile (p := fun b : UInt8 => !stopP b.toNat) (l := l))
    rw [List.length_append] at e
    have : (l.takeWhile fun b => !stopP b.toNat) ≠ [] := by
      intro hn; rw [hn] at h3; cases h3
    have := List.length_pos_iff.2 this
    omega

theorem scanT_nil (acc : List (List UInt8)) : scanT [] acc = some acc := by unfold scanT; rfl
theorem scanT_bad {l : List UInt8} (acc : List (List UInt8)) (hl : l ≠ []) (h : (firstV l).2.2 = false ∨ ((firstV l).2.1 ≠ [] ∧ (firstV l).2.1.headD 0 ≠ 32)) : scanT l acc = none := by
  unfold scanT
  rw [if_neg hl]
  rcases hf : firstV l with ⟨w, r, ok⟩
  rw [hf] at h
  simp only at h ⊢
  rcases h with h | h
  · rw [if_pos h]
  · rw [if_pos h]; split <;> rfl
theorem scanT_step {l : List UInt8} (acc : List (List UInt8)) (hl : l ≠ []) (h1 : (firstV l).2.2 = true) (h2 : ¬ ((firstV l).2.1 ≠ [] ∧ (firstV l).2.1.headD 0 ≠ 32)) : scanT l acc = scanT ((firstV l).2.1.dropWhile blank) (acc ++ [(firstV l).1]) := by
  conv => lhs; unfold scanT
  rw [if_neg hl]
  rcases hf : firstV l with ⟨w, r, ok⟩
  rw [hf] at h1 h2
  simp only at h1 h2 ⊢
  subst h1
  have := firstV_len hf
  have h3 := length_dropWhile_le blank r
  rw [if_neg (by simp), if_neg h2, dif_pos (by omega)]

theorem takeWhile_drop (p : UInt8 → Bool) (l : List UInt8) : l.take (l.takeWhile p).length = l.takeWhile p ∧ l.drop (l.takeWhile p).length = l.dropWhile p := by
  have := List.takeWhile_append_dropWhile (p := p) (l := l)
  constructor
  · conv => lhs; arg 2; rw [← this]
    exact List.take_left' rfl
  · conv => lhs; arg 2; rw [← this]
    exact List.drop_left' rfl

/-- Strings as values. -/
def strs (ws : List (List UInt8)) : List Value := ws.map fun w => .string (B w)

end Go.Proofs.YtoabcmhiaknjiaaDoor

/- The contracts of Go's library that the shelf's tools have laid at this program (lay-shelf.mjs, lay-plain.mjs). -/
/-
  DERIVED: THE SHELF's CONTRACTS AT THIS DUMP, IN PLAIN WORDS (tools/lay-plain.mjs out of 'TrydShelf.lean', which tools/lay-shelf.mjs wrote): THE SAME DECLARATIONS UNDER THE SAME NAMES: 'import', 'namespace', 'open', 'def', 'theorem' AND NOTHING ELSE: no command of the shelf's: FOR A HAND-IN. Each laying: the table of numbers ('.._ren') and one theorem, a field a fact of the dump's own or the kernel's comparison; each contract: ONE APPLICATION.
-/
namespace Go.Proofs
open Go.Shelf
def Tryd.lays119_ren : Go.Shelf.Ren := ⟨fun | 119 => 96 | n => n, fun | 21 => 21 | 4 => 4 | n => n, fun | n => n⟩
theorem Tryd.lays119 : Go.Proofs.Lays.n119 Tryd.prog Tryd.lays119_ren := {
  mixed := by kernel_rfl
  f119 := Tryd.func96.trans (congrArg some (by kernel_rfl))
  t4 := Tryd.underlying4
  a4 := Tryd.isAgg4
  z4 := Tryd.sizeOf4
  v4 := Tryd.zeroValue4
  t21 := Tryd.underlying21
  a21 := Tryd.isAgg21
  z21 := Tryd.sizeOf21
  v21 := Tryd.zeroValue21 }
/-- utf8.ValidRune: "ValidRune reports whether r can be legally encoded as UTF-8. Code points that are out of range or a surrogate half are illegal.": IT RETURNS 'Lib.validRune r'; the world is as it was. (LAID: no walk: one application.) -/
theorem Tryd.utf8_ValidRune (r : Int) (w : World) :
    Calls Tryd.prog 96 #[.int .i32 r] w fun e w' => e = .returned (.bool (Lib.validRune r)) ∧ w' = w := Any.utf8_ValidRune Tryd.lays119 r w
def Tryd.lays137_ren : Go.Shelf.Ren := ⟨fun | 137 => 25 | 217 => 51 | 266 => 70 | n => n, fun | 9 => 9 | 5 => 5 | 3 => 3 | n => n, fun | n => n⟩
theorem Tryd.lays137 : Go.Proofs.Lays.n137 Tryd.prog Tryd.lays137_ren := {
  mixed := by kernel_rfl
  f137 := Tryd.func25.trans (congrArg some (by kernel_rfl))
  f217 := Tryd.func51.trans (congrArg some (by kernel_rfl))
  f266 := Tryd.func70.trans (congrArg some (by kernel_rfl))
  t3 := Tryd.underlying3
  a3 := Tryd.isAgg3
  z3 := Tryd.sizeOf3
  v3 := Tryd.zeroValue3
  t5 := Tryd.underlying5
  a5 := Tryd.isAgg5
  z5 := Tryd.sizeOf5
  v5 := Tryd.zeroValue5
  t9 := Tryd.underlying9
  a9 := Tryd.isAgg9
  z9 := Tryd.sizeOf9
  v9 := Tryd.zeroValue9 }
open Go.RowKit in
/-- strings.IndexByte: "IndexByte returns the index of the first instance of c in s, or -1 if c is not present in s.": IT RETURNS 'Lib.indexByte s c'; the world is as it was. (LAID: no walk: one application.) -/
theorem Tryd.strings_IndexByte (s : ByteArray) (c : Int) (w : World) :
    Calls Tryd.prog 25 #[.string s, .int .u8 c] w fun e w' => e = .returned (.int .i64 (Lib.indexByte s.data.toList c.toNat.toUInt8)) ∧ w' = w := Any.strings_IndexByte Tryd.lays137 s c w
def Tryd.lays144_ren : Go.Shelf.Ren := ⟨fun | 144 => 18 | 143 => 36 | 219 => 59 | 217 => 51 | 225 => 82 | 224 => 83 | 267 => 84 | 266 => 70 | 314 => 97 | n => n, fun | 9 => 9 | 4 => 4 | 3 => 3 | 5 => 5 | 46 => 84 | 146 => 105 | 51 => 104 | n => n, fun | 1 => 0 | n => n⟩
theorem Tryd.lays144 : Go.Proofs.Lays.n144 Tryd.prog Tryd.lays144_ren := {
  mixed := by kernel_rfl
  f143 := Tryd.func36.trans (congrArg some (by kernel_rfl))
  f144 := Tryd.func18.trans (congrArg some (by kernel_rfl))
  f217 := Tryd.func51.trans (congrArg some (by kernel_rfl))
  f219 := Tryd.func59.trans (congrArg some (by kernel_rfl))
  f224 := Tryd.func83.trans (congrArg some (by kernel_rfl))
  f225 := Tryd.func82.trans (congrArg some (by kernel_rfl))
  f266 := Tryd.func70.trans (congrArg some (by kernel_rfl))
  f267 := Tryd.func84.trans (congrArg some (by kernel_rfl))
  f314 := Tryd.func97.trans (congrArg some (by kernel_rfl))
  t3 := Tryd.underlying3
  a3 := Tryd.isAgg3
  z3 := Tryd.sizeOf3
  v3 := Tryd.zeroValue3
  t4 := Tryd.underlying4
  a4 := Tryd.isAgg4
  z4 := Tryd.sizeOf4
  v4 := Tryd.zeroValue4
  t5 := Tryd.underlying5
  a5 := Tryd.isAgg5
  z5 := Tryd.sizeOf5
  v5 := Tryd.zeroValue5
  t9 := Tryd.underlying9
  a9 := Tryd.isAgg9
  z9 := Tryd.sizeOf9
  v9 := Tryd.zeroValue9
  t46 := Tryd.underlying84
  a46 := Tryd.isAgg84
  z46 := Tryd.sizeOf84
  v46 := Tryd.zeroValue84
  t51 := Tryd.underlying104
  a51 := Tryd.isAgg104
  z51 := Tryd.sizeOf104
  v51 := Tryd.zeroValue104
  t146 := Tryd.underlying105
  a146 := Tryd.isAgg105
  z146 := Tryd.sizeOf105
  v146 := Tryd.zeroValue105
  g1 := by kernel_rfl }
open Go.RowKit Go.Lib in
/-- strings.Contains: "Contains reports whether substr is within s.": IT RETURNS 'Lib.contains s substr'; the world is as it was. (LAID: no walk: one application.) -/
theorem Tryd.strings_Contains (s sub : ByteArray) (m : Int) (w : World) (hs : s.size < 4294967281) (hm : w.cell? ⟨0, 0, none⟩ = some (.int .i64 m)) :
    Calls Tryd.prog 18 #[.string s, .string sub] w fun e w' => e = .returned (.bool (Lib.contains s.data.toList sub.data.toList)) ∧ w' = w := Any.strings_Contains Tryd.lays144 s sub m w hs hm
def Tryd.lays145_ren : Go.Shelf.Ren := ⟨fun | 145 => 29 | 220 => 54 | 219 => 59 | 217 => 51 | 225 => 82 | 224 => 83 | 267 => 84 | 266 => 70 | 314 => 97 | n => n, fun | 9 => 9 | 4 => 4 | 59 => 49 | 3 => 3 | 5 => 5 | 46 => 84 | 146 => 105 | 51 => 104 | n => n, fun | 1 => 0 | n => n⟩
theorem Tryd.lays145 : Go.Proofs.Lays.n145 Tryd.prog Tryd.lays145_ren := {
  mixed := by kernel_rfl
  f145 := Tryd.func29.trans (congrArg some (by kernel_rfl))
  f217 := Tryd.func51.trans (congrArg some (by kernel_rfl))
  f219 := Tryd.func59.trans (congrArg some (by kernel_rfl))
  f220 := Tryd.func54.trans (congrArg some (by kernel_rfl))
  f224 := Tryd.func83.trans (congrArg some (by kernel_rfl))
  f225 := Tryd.func82.trans (congrArg some (by kernel_rfl))
  f266 := Tryd.func70.trans (congrArg some (by kernel_rfl))
  f267 := Tryd.func84.trans (congrArg some (by kernel_rfl))
  f314 := Tryd.func97.trans (congrArg some (by kernel_rfl))
  t3 := Tryd.underlying3
  a3 := Tryd.isAgg3
  z3 := Tryd.sizeOf3
  v3 := Tryd.zeroValue3
  t4 := Tryd.underlying4
  a4 := Tryd.isAgg4
  z4 := Tryd.sizeOf4
  v4 := Tryd.zeroValue4
  t5 := Tryd.underlying5
  a5 := Tryd.isAgg5
  z5 := Tryd.sizeOf5
  v5 := Tryd.zeroValue5
  t9 := Tryd.underlying9
  a9 := Tryd.isAgg9
  z9 := Tryd.sizeOf9
  v9 := Tryd.zeroValue9
  t46 := Tryd.underlying84
  a46 := Tryd.isAgg84
  z46 := Tryd.sizeOf84
  v46 := Tryd.zeroValue84
  t51 := Tryd.underlying104
  a51 := Tryd.isAgg104
  z51 := Tryd.sizeOf104
  v51 := Tryd.zeroValue104
  t59 := Tryd.underlying49
  a59 := Tryd.isAgg49
  z59 := Tryd.sizeOf49
  v59 := Tryd.zeroValue49
  t146 := Tryd.underlying105
  a146 := Tryd.isAgg105
  z146 := Tryd.sizeOf105
  v146 := Tryd.zeroValue105
  g1 := by kernel_rfl }
open Go.RowKit Go.Lib in
/-- strings.Cut: "Cut slices s around the first instance of sep, returning the text before and after sep. The found result reports whether sep appears in s. If sep does not appear in s, cut returns s, "", false.": IT RETURNS 'Lib.cut s sep'; the world is as it was but for the count of draws. (LAID: no walk: one application.) -/
theorem Tryd.strings_Cut (s sep : ByteArray) (m : Int) (w : World) (hs : s.size < 4294967281) (hm : w.cell? ⟨0, 0, none⟩ = some (.int .i64 m)) :
    Calls Tryd.prog 29 #[.string s, .string sep] w fun e w' => e = .returned (.tuple #[.string ⟨(Lib.cut s.data.toList sep.data.toList).1.toArray⟩, .string ⟨(Lib.cut s.data.toList sep.data.toList).2.1.toArray⟩, .bool (Lib.cut s.data.toList sep.data.toList).2.2]) ∧ ∃ n, w' = w.drewN n := Any.strings_Cut Tryd.lays145 s sep m w hs hm
def Tryd.lays99_ren : Go.Shelf.Ren := ⟨fun | 99 => 27 | 206 => 53 | n => n, fun | 9 => 9 | 4 => 4 | 3 => 3 | n => n, fun | n => n⟩
theorem Tryd.lays99 : Go.Proofs.Lays.n99 Tryd.prog Tryd.lays99_ren := {
  mixed := by kernel_rfl
  f99 := Tryd.func27.trans (congrArg some (by kernel_rfl))
  f206 := Tryd.func53.trans (congrArg some (by kernel_rfl))
  t3 := Tryd.underlying3
  a3 := Tryd.isAgg3
  z3 := Tryd.sizeOf3
  v3 := Tryd.zeroValue3
  t4 := Tryd.underlying4
  a4 := Tryd.isAgg4
  z4 := Tryd.sizeOf4
  v4 := Tryd.zeroValue4
  t9 := Tryd.underlying9
  a9 := Tryd.isAgg9
  z9 := Tryd.sizeOf9
  v9 := Tryd.zeroValue9 }
open Go.RowKit Go.Lib in
/-- strings.HasPrefix: "HasPrefix reports whether the string s begins with prefix.": IT RETURNS 'Lib.hasPrefix s prefix'; the world is as it was. (LAID: no walk: one application.) -/
theorem Tryd.strings_HasPrefix (s p : ByteArray) (w : World) :
    Calls Tryd.prog 27 #[.string s, .string p] w fun e w' => e = .returned (.bool (Lib.hasPrefix s.data.toList p.data.toList)) ∧ w' = w := Any.strings_HasPrefix Tryd.lays99 s p w
def Tryd.lays102_ren : Go.Shelf.Ren := ⟨fun | 102 => 38 | 209 => 61 | 207 => 85 | n => n, fun | 9 => 9 | 4 => 4 | 3 => 3 | n => n, fun | n => n⟩
theorem Tryd.lays102 : Go.Proofs.Lays.n102 Tryd.prog Tryd.lays102_ren := {
  mixed := by kernel_rfl
  f102 := Tryd.func38.trans (congrArg some (by kernel_rfl))
  f207 := Tryd.func85.trans (congrArg some (by kernel_rfl))
  f209 := Tryd.func61.trans (congrArg some (by kernel_rfl))
  t3 := Tryd.underlying3
  a3 := Tryd.isAgg3
  z3 := Tryd.sizeOf3
  v3 := Tryd.zeroValue3
  t4 := Tryd.underlying4
  a4 := Tryd.isAgg4
  z4 := Tryd.sizeOf4
  v4 := Tryd.zeroValue4
  t9 := Tryd.underlying9
  a9 := Tryd.isAgg9
  z9 := Tryd.sizeOf9
  v9 := Tryd.zeroValue9 }
open Go.RowKit Go.Lib in
/-- strings.TrimSuffix: "TrimSuffix returns s without the provided trailing suffix string. If s doesn't end with suffix, s is returned unchanged.": IT RETURNS 'Lib.trimSuffix s suffix'; the world is as it was. (LAID: no walk: one application.) -/
theorem Tryd.strings_TrimSuffix (s p : ByteArray) (w : World) (hs : s.size ≤ 9223372036854775807) :
    Calls Tryd.prog 38 #[.string s, .string p] w fun e w' => e = .returned (.string ⟨(Lib.trimSuffix s.data.toList p.data.toList).toArray⟩) ∧ w' = w := Any.strings_TrimSuffix Tryd.lays102 s p w hs
def Tryd.lays146_ren : Go.Shelf.Ren := ⟨fun | 146 => 93 | 221 => 102 | 268 => 105 | 138 => 22 | 143 => 36 | 195 => 43 | 197 => 58 | 218 => 44 | 219 => 59 | 260 => 81 | 217 => 51 | 225 => 82 | 224 => 83 | 267 => 84 | 266 => 70 | 314 => 97 | n => n, fun | 9 => 9 | 31 => 24 | 3 => 3 | 4 => 4 | 0 => 0 | 105 => 98 | 21 => 21 | 5 => 5 | 46 => 84 | 119 => 129 | 139 => 132 | 138 => 131 | 146 => 105 | 51 => 104 | n => n, fun | 1 => 0 | 3 => 1 | 4 => 2 | n => n⟩
theorem Tryd.lays146 : Go.Proofs.Lays.n146 Tryd.prog Tryd.lays146_ren := {
  mixed := by kernel_rfl
  f138 := Tryd.func22.trans (congrArg some (by kernel_rfl))
  f143 := Tryd.func36.trans (congrArg some (by kernel_rfl))
  f146 := Tryd.func93.trans (congrArg some (by kernel_rfl))
  f195 := Tryd.func43.trans (congrArg some (by kernel_rfl))
  f197 := Tryd.func58.trans (congrArg some (by kernel_rfl))
  f217 := Tryd.func51.trans (congrArg some (by kernel_rfl))
  f218 := Tryd.func44.trans (congrArg some (by kernel_rfl))
  f219 := Tryd.func59.trans (congrArg some (by kernel_rfl))
  f221 := Tryd.func102.trans (congrArg some (by kernel_rfl))
  f224 := Tryd.func83.trans (congrArg some (by kernel_rfl))
  f225 := Tryd.func82.trans (congrArg some (by kernel_rfl))
  f260 := Tryd.func81.trans (congrArg some (by kernel_rfl))
  f266 := Tryd.func70.trans (congrArg some (by kernel_rfl))
  f267 := Tryd.func84.trans (congrArg some (by kernel_rfl))
  f268 := Tryd.func105.trans (congrArg some (by kernel_rfl))
  f314 := Tryd.func97.trans (congrArg some (by kernel_rfl))
  t0 := Tryd.underlying0
  a0 := Tryd.isAgg0
  z0 := Tryd.sizeOf0
  v0 := Tryd.zeroValue0
  t3 := Tryd.underlying3
  a3 := Tryd.isAgg3
  z3 := Tryd.sizeOf3
  v3 := Tryd.zeroValue3
  t4 := Tryd.underlying4
  a4 := Tryd.isAgg4
  z4 := Tryd.sizeOf4
  v4 := Tryd.zeroValue4
  t5 := Tryd.underlying5
  a5 := Tryd.isAgg5
  z5 := Tryd.sizeOf5
  v5 := Tryd.zeroValue5
  t9 := Tryd.underlying9
  a9 := Tryd.isAgg9
  z9 := Tryd.sizeOf9
  v9 := Tryd.zeroValue9
  t21 := Tryd.underlying21
  a21 := Tryd.isAgg21
  z21 := Tryd.sizeOf21
  v21 := Tryd.zeroValue21
  t31 := Tryd.underlying24
  a31 := Tryd.isAgg24
  z31 := Tryd.sizeOf24
  v31 := Tryd.zeroValue24
  t46 := Tryd.underlying84
  a46 := Tryd.isAgg84
  z46 := Tryd.sizeOf84
  v46 := Tryd.zeroValue84
  t51 := Tryd.underlying104
  a51 := Tryd.isAgg104
  z51 := Tryd.sizeOf104
  v51 := Tryd.zeroValue104
  t105 := Tryd.underlying98
  a105 := Tryd.isAgg98
  z105 := Tryd.sizeOf98
  v105 := Tryd.zeroValue98
  t119 := Tryd.underlying129
  a119 := Tryd.isAgg129
  z119 := Tryd.sizeOf129
  t138 := Tryd.underlying131
  a138 := Tryd.isAgg131
  z138 := Tryd.sizeOf131
  v138 := Tryd.zeroValue131
  t139 := Tryd.underlying132
  a139 := Tryd.isAgg132
  z139 := Tryd.sizeOf132
  v139 := Tryd.zeroValue132
  t146 := Tryd.underlying105
  a146 := Tryd.isAgg105
  z146 := Tryd.sizeOf105
  v146 := Tryd.zeroValue105
  g1 := by kernel_rfl
  g3 := by kernel_rfl
  g4 := by kernel_rfl }
open Go.RowKit Go.Lib in
/-- strings.Split. (LAID: no walk: one application.) -/
theorem Tryd.strings_Split (s sep : ByteArray) (m : Int) (w : World) (hs : s.size < 4294967281) (hm : w.cell? ⟨0, 0, none⟩ = some (.int .i64 m)) (h1 : 1 ≤ sep.size) :
    Calls Tryd.prog 93 #[.string s, .string sep] w fun e w' =>
      e = .returned (.slice (some ⟨w.heap.size, 0, none⟩) (Lib.countB s sep + 1) (Lib.countB s sep + 1)) ∧ w' = w.alloc (.cells ((Lib.splitB sep 0 (Lib.countB s sep) s).map Value.string).toArray 9) := Any.strings_Split Tryd.lays146 (by kernel_rfl) s sep m w hs hm h1
def Tryd.lays154_ren : Go.Shelf.Ren := ⟨fun | 154 => 35 | 138 => 22 | 165 => 42 | 143 => 36 | 166 => 26 | 197 => 58 | 169 => 32 | 195 => 43 | 218 => 44 | 240 => 52 | 241 => 66 | 219 => 59 | 260 => 81 | 276 => 71 | 277 => 92 | 217 => 51 | 225 => 82 | 224 => 83 | 267 => 84 | 266 => 70 | 314 => 97 | n => n, fun | 9 => 9 | 3 => 3 | 4 => 4 | 72 => 54 | 0 => 0 | 76 => 58 | 105 => 98 | 21 => 21 | 5 => 5 | 70 => 51 | 20 => 20 | 37 => 52 | 75 => 57 | 127 => 97 | 164 => 113 | 46 => 84 | 119 => 129 | 139 => 132 | 138 => 131 | 146 => 105 | 51 => 104 | 80 => 65 | n => n, fun | 1 => 0 | 3 => 1 | 4 => 2 | n => n⟩
theorem Tryd.lays154 : Go.Proofs.Lays.n154 Tryd.prog Tryd.lays154_ren := {
  mixed := by kernel_rfl
  f138 := Tryd.func22.trans (congrArg some (by kernel_rfl))
  f143 := Tryd.func36.trans (congrArg some (by kernel_rfl))
  f154 := Tryd.func35.trans (congrArg some (by kernel_rfl))
  f165 := Tryd.func42.trans (congrArg some (by kernel_rfl))
  f166 := Tryd.func26.trans (congrArg some (by kernel_rfl))
  f169 := Tryd.func32.trans (congrArg some (by kernel_rfl))
  f195 := Tryd.func43.trans (congrArg some (by kernel_rfl))
  f197 := Tryd.func58.trans (congrArg some (by kernel_rfl))
  f217 := Tryd.func51.trans (congrArg some (by kernel_rfl))
  f218 := Tryd.func44.trans (congrArg some (by kernel_rfl))
  f219 := Tryd.func59.trans (congrArg some (by kernel_rfl))
  f224 := Tryd.func83.trans (congrArg some (by kernel_rfl))
  f225 := Tryd.func82.trans (congrArg some (by kernel_rfl))
  f240 := Tryd.func52.trans (congrArg some (by kernel_rfl))
  f241 := Tryd.func66.trans (congrArg some (by kernel_rfl))
  f260 := Tryd.func81.trans (congrArg some (by kernel_rfl))
  f266 := Tryd.func70.trans (congrArg some (by kernel_rfl))
  f267 := Tryd.func84.trans (congrArg some (by kernel_rfl))
  f276 := Tryd.func71.trans (congrArg some (by kernel_rfl))
  f277 := Tryd.func92.trans (congrArg some (by kernel_rfl))
  f314 := Tryd.func97.trans (congrArg some (by kernel_rfl))
  t0 := Tryd.underlying0
  a0 := Tryd.isAgg0
  z0 := Tryd.sizeOf0
  v0 := Tryd.zeroValue0
  t3 := Tryd.underlying3
  a3 := Tryd.isAgg3
  z3 := Tryd.sizeOf3
  v3 := Tryd.zeroValue3
  t4 := Tryd.underlying4
  a4 := Tryd.isAgg4
  z4 := Tryd.sizeOf4
  v4 := Tryd.zeroValue4
  t5 := Tryd.underlying5
  a5 := Tryd.isAgg5
  z5 := Tryd.sizeOf5
  v5 := Tryd.zeroValue5
  t9 := Tryd.underlying9
  a9 := Tryd.isAgg9
  z9 := Tryd.sizeOf9
  v9 := Tryd.zeroValue9
  t20 := Tryd.underlying20
  a20 := Tryd.isAgg20
  z20 := Tryd.sizeOf20
  v20 := Tryd.zeroValue20
  t21 := Tryd.underlying21
  a21 := Tryd.isAgg21
  z21 := Tryd.sizeOf21
  v21 := Tryd.zeroValue21
  t37 := Tryd.underlying52
  a37 := Tryd.isAgg52
  z37 := Tryd.sizeOf52
  v37 := Tryd.zeroValue52
  t46 := Tryd.underlying84
  a46 := Tryd.isAgg84
  z46 := Tryd.sizeOf84
  v46 := Tryd.zeroValue84
  t51 := Tryd.underlying104
  a51 := Tryd.isAgg104
  z51 := Tryd.sizeOf104
  v51 := Tryd.zeroValue104
  t70 := Tryd.underlying51
  a70 := Tryd.isAgg51
  z70 := Tryd.sizeOf51
  v70 := Tryd.zeroValue51
  t72 := Tryd.underlying54
  a72 := Tryd.isAgg54
  z72 := Tryd.sizeOf54
  v72 := Tryd.zeroValue54
  t75 := Tryd.underlying57
  a75 := Tryd.isAgg57
  z75 := Tryd.sizeOf57
  v75 := Tryd.zeroValue57
  t76 := Tryd.underlying58
  a76 := Tryd.isAgg58
  z76 := Tryd.sizeOf58
  v76 := Tryd.zeroValue58
  t105 := Tryd.underlying98
  a105 := Tryd.isAgg98
  z105 := Tryd.sizeOf98
  v105 := Tryd.zeroValue98
  t119 := Tryd.underlying129
  a119 := Tryd.isAgg129
  z119 := Tryd.sizeOf129
  t127 := Tryd.underlying97
  a127 := Tryd.isAgg97
  z127 := Tryd.sizeOf97
  v127 := Tryd.zeroValue97
  t138 := Tryd.underlying131
  a138 := Tryd.isAgg131
  z138 := Tryd.sizeOf131
  v138 := Tryd.zeroValue131
  t139 := Tryd.underlying132
  a139 := Tryd.isAgg132
  z139 := Tryd.sizeOf132
  v139 := Tryd.zeroValue132
  t146 := Tryd.underlying105
  a146 := Tryd.isAgg105
  z146 := Tryd.sizeOf105
  v146 := Tryd.zeroValue105
  t164 := Tryd.underlying113
  a164 := Tryd.isAgg113
  z164 := Tryd.sizeOf113
  v164 := Tryd.zeroValue113
  g1 := by kernel_rfl
  g3 := by kernel_rfl
  g4 := by kernel_rfl }
theorem Tryd.Builder_Extra_154 : Builder.Extra Tryd.prog Tryd.lays154_ren := {
  sizeBuilder := by kernel_rfl
  liesBuilder := by kernel_rfl
  t5 := Tryd.underlying5
  a5 := Tryd.isAgg5
  z5 := Tryd.sizeOf5
  v5 := Tryd.zeroValue5
  infoByte := by kernel_rfl
  cellsByte := by kernel_rfl
  sizeByte := by kernel_rfl
  neB5 := by decide }
def Tryd.lays155_ren : Go.Shelf.Ren := ⟨fun | 155 => 17 | 154 => 35 | 138 => 22 | 165 => 42 | 143 => 36 | 166 => 26 | 197 => 58 | 169 => 32 | 195 => 43 | 218 => 44 | 240 => 52 | 241 => 66 | 219 => 59 | 260 => 81 | 276 => 71 | 277 => 92 | 217 => 51 | 225 => 82 | 224 => 83 | 267 => 84 | 266 => 70 | 314 => 97 | n => n, fun | 9 => 9 | 3 => 3 | 4 => 4 | 72 => 54 | 0 => 0 | 76 => 58 | 105 => 98 | 21 => 21 | 5 => 5 | 70 => 51 | 20 => 20 | 37 => 52 | 75 => 57 | 127 => 97 | 164 => 113 | 46 => 84 | 119 => 129 | 139 => 132 | 138 => 131 | 146 => 105 | 51 => 104 | 80 => 65 | n => n, fun | 1 => 0 | 3 => 1 | 4 => 2 | n => n⟩
theorem Tryd.lays155 : Go.Proofs.Lays.n155 Tryd.prog Tryd.lays155_ren := {
  mixed := by kernel_rfl
  f138 := Tryd.func22.trans (congrArg some (by kernel_rfl))
  f143 := Tryd.func36.trans (congrArg some (by kernel_rfl))
  f154 := Tryd.func35.trans (congrArg some (by kernel_rfl))
  f155 := Tryd.func17.trans (congrArg some (by kernel_rfl))
  f165 := Tryd.func42.trans (congrArg some (by kernel_rfl))
  f166 := Tryd.func26.trans (congrArg some (by kernel_rfl))
  f169 := Tryd.func32.trans (congrArg some (by kernel_rfl))
  f195 := Tryd.func43.trans (congrArg some (by kernel_rfl))
  f197 := Tryd.func58.trans (congrArg some (by kernel_rfl))
  f217 := Tryd.func51.trans (congrArg some (by kernel_rfl))
  f218 := Tryd.func44.trans (congrArg some (by kernel_rfl))
  f219 := Tryd.func59.trans (congrArg some (by kernel_rfl))
  f224 := Tryd.func83.trans (congrArg some (by kernel_rfl))
  f225 := Tryd.func82.trans (congrArg some (by kernel_rfl))
  f240 := Tryd.func52.trans (congrArg some (by kernel_rfl))
  f241 := Tryd.func66.trans (congrArg some (by kernel_rfl))
  f260 := Tryd.func81.trans (congrArg some (by kernel_rfl))
  f266 := Tryd.func70.trans (congrArg some (by kernel_rfl))
  f267 := Tryd.func84.trans (congrArg some (by kernel_rfl))
  f276 := Tryd.func71.trans (congrArg some (by kernel_rfl))
  f277 := Tryd.func92.trans (congrArg some (by kernel_rfl))
  f314 := Tryd.func97.trans (congrArg some (by kernel_rfl))
  t0 := Tryd.underlying0
  a0 := Tryd.isAgg0
  z0 := Tryd.sizeOf0
  v0 := Tryd.zeroValue0
  t3 := Tryd.underlying3
  a3 := Tryd.isAgg3
  z3 := Tryd.sizeOf3
  v3 := Tryd.zeroValue3
  t4 := Tryd.underlying4
  a4 := Tryd.isAgg4
  z4 := Tryd.sizeOf4
  v4 := Tryd.zeroValue4
  t5 := Tryd.underlying5
  a5 := Tryd.isAgg5
  z5 := Tryd.sizeOf5
  v5 := Tryd.zeroValue5
  t9 := Tryd.underlying9
  a9 := Tryd.isAgg9
  z9 := Tryd.sizeOf9
  v9 := Tryd.zeroValue9
  t20 := Tryd.underlying20
  a20 := Tryd.isAgg20
  z20 := Tryd.sizeOf20
  v20 := Tryd.zeroValue20
  t21 := Tryd.underlying21
  a21 := Tryd.isAgg21
  z21 := Tryd.sizeOf21
  v21 := Tryd.zeroValue21
  t37 := Tryd.underlying52
  a37 := Tryd.isAgg52
  z37 := Tryd.sizeOf52
  v37 := Tryd.zeroValue52
  t46 := Tryd.underlying84
  a46 := Tryd.isAgg84
  z46 := Tryd.sizeOf84
  v46 := Tryd.zeroValue84
  t51 := Tryd.underlying104
  a51 := Tryd.isAgg104
  z51 := Tryd.sizeOf104
  v51 := Tryd.zeroValue104
  t70 := Tryd.underlying51
  a70 := Tryd.isAgg51
  z70 := Tryd.sizeOf51
  v70 := Tryd.zeroValue51
  t72 := Tryd.underlying54
  a72 := Tryd.isAgg54
  z72 := Tryd.sizeOf54
  v72 := Tryd.zeroValue54
  t75 := Tryd.underlying57
  a75 := Tryd.isAgg57
  z75 := Tryd.sizeOf57
  v75 := Tryd.zeroValue57
  t76 := Tryd.underlying58
  a76 := Tryd.isAgg58
  z76 := Tryd.sizeOf58
  v76 := Tryd.zeroValue58
  t105 := Tryd.underlying98
  a105 := Tryd.isAgg98
  z105 := Tryd.sizeOf98
  v105 := Tryd.zeroValue98
  t119 := Tryd.underlying129
  a119 := Tryd.isAgg129
  z119 := Tryd.sizeOf129
  t127 := Tryd.underlying97
  a127 := Tryd.isAgg97
  z127 := Tryd.sizeOf97
  v127 := Tryd.zeroValue97
  t138 := Tryd.underlying131
  a138 := Tryd.isAgg131
  z138 := Tryd.sizeOf131
  v138 := Tryd.zeroValue131
  t139 := Tryd.underlying132
  a139 := Tryd.isAgg132
  z139 := Tryd.sizeOf132
  v139 := Tryd.zeroValue132
  t146 := Tryd.underlying105
  a146 := Tryd.isAgg105
  z146 := Tryd.sizeOf105
  v146 := Tryd.zeroValue105
  t164 := Tryd.underlying113
  a164 := Tryd.isAgg113
  z164 := Tryd.sizeOf113
  v164 := Tryd.zeroValue113
  g1 := by kernel_rfl
  g3 := by kernel_rfl
  g4 := by kernel_rfl }
theorem Tryd.Builder_Extra_155 : Builder.Extra Tryd.prog Tryd.lays155_ren := {
  sizeBuilder := by kernel_rfl
  liesBuilder := by kernel_rfl
  t5 := Tryd.underlying5
  a5 := Tryd.isAgg5
  z5 := Tryd.sizeOf5
  v5 := Tryd.zeroValue5
  infoByte := by kernel_rfl
  cellsByte := by kernel_rfl
  sizeByte := by kernel_rfl
  neB5 := by decide }
open Go.RowKit Go.Lib in
/-- strings.ReplaceAll: "ReplaceAll returns a copy of the string s with all non-overlapping instances of old replaced by new.": AT AN old THAT IS NOT EMPTY: 'Lib.replaceAll s old new'. (LAID: no walk: one application.) -/
theorem Tryd.strings_ReplaceAll (s old new : ByteArray) (m : Int) (w : World) (hs : s.size < 4294967281) (hm : w.cell? ⟨0, 0, none⟩ = some (.int .i64 m)) (h1 : 1 ≤ old.size) (hlen : s.size + Lib.countB s old * new.size ≤ 140737488355328) :
    Calls Tryd.prog 17 #[.string s, .string old, .string new] w fun e w' =>
      e = .returned (.string ⟨(Lib.replaceAll s.data.toList old.data.toList new.data.toList).toArray⟩) ∧ Below w.heap.size w w' := Any.strings_ReplaceAll Tryd.lays155 Tryd.Builder_Extra_155 s old new m w hs hm h1 hlen
def Tryd.lays226_ren : Go.Shelf.Ren := ⟨fun | 226 => 80 | n => n, fun | 3 => 3 | 4 => 4 | n => n, fun | n => n⟩
theorem Tryd.lays226 : Go.Proofs.Lays.n226 Tryd.prog Tryd.lays226_ren := {
  mixed := by kernel_rfl
  f226 := Tryd.func80.trans (congrArg some (by kernel_rfl))
  t3 := Tryd.underlying3
  a3 := Tryd.isAgg3
  z3 := Tryd.sizeOf3
  v3 := Tryd.zeroValue3
  t4 := Tryd.underlying4
  a4 := Tryd.isAgg4
  z4 := Tryd.sizeOf4
  v4 := Tryd.zeroValue4 }
open Go.RowKit Go.Lib in
theorem Tryd.strings_shouldUseASCIISet (n : Int) (w : World) :
    Calls Tryd.prog 80 #[.int .i64 n] w fun e w' => e = .returned (.bool (decide (8 < n))) ∧ w' = w := Any.strings_shouldUseASCIISet Tryd.lays226 n w
def Tryd.lays153_ren : Go.Shelf.Ren := ⟨fun | 153 => 57 | 152 => 79 | 226 => 80 | 227 => 46 | 228 => 67 | 137 => 25 | 119 => 96 | 224 => 83 | 225 => 82 | 217 => 51 | 266 => 70 | n => n, fun | 9 => 9 | 3 => 3 | 4 => 4 | 5 => 5 | 21 => 21 | 117 => 91 | 116 => 90 | 0 => 0 | 46 => 84 | 124 => 94 | n => n, fun | n => n⟩
theorem Tryd.lays153 : Go.Proofs.Lays.n153 Tryd.prog Tryd.lays153_ren := {
  mixed := by kernel_rfl
  f119 := Tryd.func96.trans (congrArg some (by kernel_rfl))
  f137 := Tryd.func25.trans (congrArg some (by kernel_rfl))
  f152 := Tryd.func79.trans (congrArg some (by kernel_rfl))
  f153 := Tryd.func57.trans (congrArg some (by kernel_rfl))
  f217 := Tryd.func51.trans (congrArg some (by kernel_rfl))
  f224 := Tryd.func83.trans (congrArg some (by kernel_rfl))
  f225 := Tryd.func82.trans (congrArg some (by kernel_rfl))
  f226 := Tryd.func80.trans (congrArg some (by kernel_rfl))
  f227 := Tryd.func46.trans (congrArg some (by kernel_rfl))
  f228 := Tryd.func67.trans (congrArg some (by kernel_rfl))
  f266 := Tryd.func70.trans (congrArg some (by kernel_rfl))
  t0 := Tryd.underlying0
  a0 := Tryd.isAgg0
  z0 := Tryd.sizeOf0
  v0 := Tryd.zeroValue0
  t3 := Tryd.underlying3
  a3 := Tryd.isAgg3
  z3 := Tryd.sizeOf3
  v3 := Tryd.zeroValue3
  t4 := Tryd.underlying4
  a4 := Tryd.isAgg4
  z4 := Tryd.sizeOf4
  v4 := Tryd.zeroValue4
  t5 := Tryd.underlying5
  a5 := Tryd.isAgg5
  z5 := Tryd.sizeOf5
  v5 := Tryd.zeroValue5
  t9 := Tryd.underlying9
  a9 := Tryd.isAgg9
  z9 := Tryd.sizeOf9
  v9 := Tryd.zeroValue9
  t21 := Tryd.underlying21
  a21 := Tryd.isAgg21
  z21 := Tryd.sizeOf21
  v21 := Tryd.zeroValue21
  t46 := Tryd.underlying84
  a46 := Tryd.isAgg84
  z46 := Tryd.sizeOf84
  v46 := Tryd.zeroValue84
  t116 := Tryd.underlying90
  a116 := Tryd.isAgg90
  z116 := Tryd.sizeOf90
  t117 := Tryd.underlying91
  a117 := Tryd.isAgg91
  z117 := Tryd.sizeOf91
  v117 := Tryd.zeroValue91
  t124 := Tryd.underlying94
  a124 := Tryd.isAgg94
  z124 := Tryd.sizeOf94
  v124 := Tryd.zeroValue94 }
open Go.RowKit Go.Lib in
theorem Tryd.strings_IndexAny_long (hv116 : ∀ w, (zeroValue 90).run Tryd.prog w = .ok (.agg (Array.replicate 256 (.bool false))) w) (s chars : ByteArray) (w : World) (h2 : 2 ≤ chars.size) (h8 : 8 < s.size) (hs : s.size < 4294967281) (hcs : chars.size < 4294967281) (hascii : ∀ (j : Nat) b, chars.data.toList[j]? = some b → b.toNat < 128) :
    Calls Tryd.prog 57 #[.string s, .string chars] w fun e w' => e = .returned (.int .i64 (Lib.indexAny s.data.toList chars.data.toList)) ∧ w' = ((w.alloc (.cells (Lib.setCells chars.data.toList) 90)).alloc (.cells (Lib.setCells chars.data.toList) 90)) := Any.strings_IndexAny_long Tryd.lays153 hv116 (by kernel_rfl) s chars w h2 h8 hs hcs hascii
end Go.Proofs

/- Contracts of the library's, over byte lists. -/
set_option linter.unusedVariables false
namespace Go.Proofs.YtoabcmhiaknjiaaDoor
open Go.Hw Go.RowKit
section
variable {H : Hp} {K : Ending → Hp → Prop}
theorem BsizeLt {l : List UInt8} (h : l.length < 4294967281) : (B l).size < 4294967281 := by rw [B_size]; exact h
theorem indexByte_c (s : List UInt8) (c : UInt8) (h : K (.returned (.int .i64 (Lib.indexByte s c))) H) : HCall Tryd.prog 25 #[.string (B s), .int .u8 c.toNat] H K :=
  HCall.of_same (fun w _ => Tryd.strings_IndexByte (B s) c.toNat w) (by rw [B_list]; simpa using h)
theorem hasPrefix_c (s p : List UInt8) (h : K (.returned (.bool (Lib.hasPrefix s p))) H) : HCall Tryd.prog 27 #[.string (B s), .string (B p)] H K :=
  HCall.of_same (fun w _ => Tryd.strings_HasPrefix (B s) (B p) w) (by rw [B_list, B_list]; exact h)
theorem trimSuffix_c (s p : List UInt8) (hs : s.length ≤ 9223372036854775807) (h : K (.returned (.string (B (Lib.trimSuffix s p)))) H) : HCall Tryd.prog 38 #[.string (B s), .string (B p)] H K :=
  HCall.of_same (fun w _ => Tryd.strings_TrimSuffix (B s) (B p) w (by rw [B_size]; exact hs)) (by rw [B_list, B_list]; exact h)
theorem contains_c (s p : List UInt8) (hs : s.length < 4294967281) (g : G0 H) (h : K (.returned (.bool (Lib.contains s p))) H) : HCall Tryd.prog 18 #[.string (B s), .string (B p)] H K := by
  obtain ⟨m, hm⟩ := g
  exact HCall.of_same (fun w hw => Tryd.strings_Contains (B s) (B p) m w (BsizeLt hs) (by rw [cellH_eq, hw]; exact hm)) (by rw [B_list, B_list]; exact h)
theorem cut_c (s p : List UInt8) (hs : s.length < 4294967281) (g : G0 H) (h : K (.returned (.tuple #[.string (B (Lib.cut s p).1), .string (B (Lib.cut s p).2.1), .bool (Lib.cut s p).2.2])) H) : HCall Tryd.prog 29 #[.string (B s), .string (B p)] H K := by
  obtain ⟨m, hm⟩ := g
  exact HCall.of_drew (fun w hw => Tryd.strings_Cut (B s) (B p) m w (BsizeLt hs) (by rw [cellH_eq, hw]; exact hm)) (by rw [B_list, B_list]; exact h)
theorem replaceAll_c (s old new : List UInt8) (hs : s.length < 4294967281) (g : G0 H) (h1 : 1 ≤ old.length) (hl : s.length + Lib.count s old * new.length ≤ 140737488355328) (h : ∀ H', Ext H H' → K (.returned (.string (B (Lib.replaceAll s old new)))) H') :
    HCall Tryd.prog 17 #[.string (B s), .string (B old), .string (B new)] H K := by
  obtain ⟨m, hm⟩ := g
  have e : Lib.countB (B s) (B old) = Lib.count s old := by unfold Lib.countB; rw [B_list, B_list]
  exact HCall.of_below (fun w hw => Tryd.strings_ReplaceAll (B s) (B old) (B new) m w (BsizeLt hs) (by rw [cellH_eq, hw]; exact hm) (by rw [B_size]; exact h1) (by rw [B_size, B_size, e]; exact hl)) (fun H' e => by rw [B_list, B_list, B_list]; exact h H' e)
theorem split_c (s sep : List UInt8) (hs : s.length < 4294967281) (g : G0 H) (h1 : 1 ≤ sep.length)
    (h : K (.returned (.slice (some ⟨H.size, 0, none⟩) (Lib.count s sep + 1) (Lib.count s sep + 1))) (H.push (.cells ((Lib.split s sep).map fun l => Value.string (B l)).toArray 9))) :
    HCall Tryd.prog 93 #[.string (B s), .string (B sep)] H K := by
  obtain ⟨m, hm⟩ := g
  have e : Lib.countB (B s) (B sep) = Lib.count s sep := by unfold Lib.countB; rw [B_list, B_list]
  intro w hw
  refine (Tryd.strings_Split (B s) (B sep) m w (BsizeLt hs) (by rw [cellH_eq, hw]; exact hm) (by rw [B_size]; exact h1)).mono ?_
  rintro e' w' ⟨rfl, rfl⟩
  rw [e]
  refine ⟨EnvEq.push w _, ?_⟩
  have e2 : (Lib.splitB (B sep) 0 (Lib.count s sep) (B s)).map Value.string = (Lib.split s sep).map fun l => Value.string (B l) := by
    have := Lib.splitB_data (B sep) 0 (Lib.count s sep) (B s)
    rw [B_list, B_list] at this
    unfold Lib.split
    rw [← this, List.map_map]
    refine List.map_congr_left fun x _ => ?_
    simp only [Function.comp, B_of]
  rw [e2]
  show K _ (w.heap.push _)
  rw [hw]
  exact h
end
end Go.Proofs.YtoabcmhiaknjiaaDoor

/- What the functions of the package dsname compute that the job texts need. -/
set_option linter.unusedVariables false
namespace Go.Proofs.YtoabcmhiaknjiaaDoor
open Go.Hw

def upperF (c : UInt8) : Bool := decide ((65 : Int) ≤ c.toNat) && decide ((c.toNat : Int) ≤ 90)
def digitF (c : UInt8) : Bool := decide ((48 : Int) ≤ c.toNat) && decide ((c.toNat : Int) ≤ 57)
def plainF (c : UInt8) : Bool := upperF c || digitF c
def qualF (l : List UInt8) : Bool :=
  match l with
  | [] => false
  | c :: r => decide (r.length < 8) && upperF c && r.all plainF
def validF (l : List UInt8) : Bool := decide (1 ≤ l.length) && decide (l.length ≤ 31) && (Lib.split l [46]).all qualF
def symF (l : List UInt8) : Bool := validF l && !Lib.contains l [46]

end Go.Proofs.YtoabcmhiaknjiaaDoor

/- What Replace computes. -/
set_option linter.unusedVariables false
namespace Go.Proofs.YtoabcmhiaknjiaaDoor
open Go.Hw

def notAmp (b : UInt8) : Bool := b != 38

/-- The line with its symbols replaced, or the error; the number bounds the steps. -/
def replT (sym : List UInt8 → Option (List UInt8)) : Nat → List UInt8 → List UInt8 → Except Int (List UInt8)
  | 0, _, acc => .ok acc
  | n + 1, l, acc =>
    if l.dropWhile notAmp = [] then .ok (acc ++ l.takeWhile notAmp)
    else if Lib.hasPrefix (l.dropWhile notAmp) [38, 38] = true then replT sym n ((l.dropWhile notAmp).drop 2) (acc ++ l.takeWhile notAmp ++ [38])
    else if (!(Lib.cut ((l.dropWhile notAmp).drop 1) [59]).2.2 || !symF (Lib.cut ((l.dropWhile notAmp).drop 1) [59]).1) = true then .error 3
    else match sym (Lib.cut ((l.dropWhile notAmp).drop 1) [59]).1 with
      | none => .error 4
      | some v => replT sym n (Lib.cut ((l.dropWhile notAmp).drop 1) [59]).2.1 (acc ++ l.takeWhile notAmp ++ v)

/-- What Replace returns. -/
def replR (sym : List UInt8 → Option (List UInt8)) (l : List UInt8) : List UInt8 × Int :=
  match replT sym l.length l [] with
  | .ok s => if 1000 < s.length then ([], 8) else (s, 0)
  | .error e => ([], e)

theorem cut_len (s p : List UInt8) : (Lib.cut s p).2.1.length ≤ s.length ∧ (Lib.cut s p).1.length ≤ s.length := by
  unfold Lib.cut
  split
  · simp; omega
  · simp

theorem replT_nil (sym : List UInt8 → Option (List UInt8)) (n : Nat) (acc : List UInt8) : replT sym n [] acc = .ok acc := by
  cases n with
  | zero => rfl
  | succ n => unfold replT; simp

theorem indexByte_amp : ∀ (l : List UInt8), (Lib.indexByte l 38 = -1 ∧ l.takeWhile notAmp = l ∧ l.dropWhile notAmp = []) ∨ (Lib.indexByte l 38 = ((l.takeWhile notAmp).length : Int) ∧ l.dropWhile notAmp ≠ [] ∧ (l.dropWhile notAmp).headD 0 = 38)
  | [] => .inl ⟨rfl, rfl, rfl⟩
  | b :: r => by
    unfold Lib.indexByte
    by_cases hb : b = 38
    · right
      subst hb
      refine ⟨?_, ?_, ?_⟩
      · simp [notAmp]
      · simp [notAmp]
      · rfl
    · have e : (b == 38) = false := by simpa using hb
      have e2 : notAmp b = true := by unfold notAmp; simp [e, bne]
      rw [e, List.takeWhile_cons_of_pos e2, List.dropWhile_cons_of_pos e2]
      simp only [Bool.false_eq_true, if_false]
      rcases indexByte_amp r with ⟨h1, h2, h3⟩ | ⟨h1, h2, h3⟩
      · left
        rw [h1, h2]
        exact ⟨by simp, rfl, h3⟩
      · right
        have hne : ¬ (Lib.indexByte r 38 == -1) = true := by rw [h1]; simp
        rw [if_neg hne, h1]
        exact ⟨by simp, h2, h3⟩

end Go.Proofs.YtoabcmhiaknjiaaDoor

/- What the functions of jobtext compute: lines, rows, statements. -/
set_option linter.unusedVariables false
namespace Go.Proofs.YtoabcmhiaknjiaaDoor
open Go.Hw

def notNl (b : UInt8) : Bool := b != 10
/-- The first line with its end, and what follows. -/
def lineHd (l : List UInt8) : List UInt8 := l.takeWhile notNl ++ (l.dropWhile notNl).take 1
def lineTl (l : List UInt8) : List UInt8 := (l.dropWhile notNl).drop 1

theorem lineTl_len {l : List UInt8} (h : l ≠ []) : (lineTl l).length < l.length := by
  unfold lineTl
  have h1 := length_dropWhile_le notNl l
  have h2 := List.length_pos_iff.2 h
  by_cases h3 : l.dropWhile notNl = []
  · simp [h3]; exact h2
  · have := List.length_pos_iff.2 h3
    simp; omega

/-- The lines' texts; the number bounds the steps. -/
def linesT : Nat → List UInt8 → List (List UInt8)
  | 0, _ => []
  | n + 1, l => if l = [] then [] else l.takeWhile notNl :: linesT n (lineTl l)
def linesF (l : List UInt8) : List (List UInt8) := linesT l.length l

theorem linesT_eq : ∀ (n m : Nat) (l : List UInt8), l.length ≤ n → l.length ≤ m → linesT n l = linesT m l
  | 0, m, l, h, _ => by
    have : l = [] := List.length_eq_zero_iff.1 (by omega)
    subst this
    cases m <;> simp [linesT]
  | n + 1, 0, l, _, h => by
    have : l = [] := List.length_eq_zero_iff.1 (by omega)
    subst this
    simp [linesT]
  | n + 1, m + 1, l, h1, h2 => by
    simp only [linesT]
    split
    · rfl
    · rename_i hl
      have := lineTl_len hl
      rw [linesT_eq n m _ (by omega) (by omega)]
theorem linesF_nil : linesF [] = [] := rfl
theorem linesF_cons {l : List UInt8} (h : l ≠ []) : linesF l = l.takeWhile notNl :: linesF (lineTl l) := by
  unfold linesF
  have hl := lineTl_len h
  obtain ⟨n, hn⟩ : ∃ n, l.length = n + 1 := ⟨l.length - 1, by omega⟩
  rw [hn]
  simp only [linesT, h, if_false]
  rw [linesT_eq n (lineTl l).length _ (by omega) (Nat.le_refl _)]

abbrev Row := Nat × List UInt8
def rowsFrom : Nat → List (List UInt8) → List Row
  | _, [] => []
  | k, t :: r => (k + 1, t) :: rowsFrom (k + 1) r
theorem rowsFrom_append : ∀ (k : Nat) (a b : List (List UInt8)), rowsFrom k (a ++ b) = rowsFrom k a ++ rowsFrom (k + a.length) b
  | k, [], b => rfl
  | k, t :: r, b => by
    show (k + 1, t) :: rowsFrom (k + 1) (r ++ b) = _
    rw [rowsFrom_append (k + 1) r b]
    simp [rowsFrom, Nat.add_assoc, Nat.add_comm 1]
theorem rowsFrom_length : ∀ (k : Nat) (a : List (List UInt8)), (rowsFrom k a).length = a.length
  | k, [] => rfl
  | k, t :: r => by simp [rowsFrom, rowsFrom_length (k + 1) r]

def rowC (r : Row) : List Value := [.int .i64 r.1, .string (B r.2)]
def rowsC (l : List Row) : List Value := l.flatMap rowC
theorem rowsC_append (a b : List Row) : rowsC (a ++ b) = rowsC a ++ rowsC b := by simp [rowsC]
theorem rowsC_cons (a : Row) (b : List Row) : rowsC (a :: b) = rowC a ++ rowsC b := rfl

/-- A statement. -/
structure Stm where
  line : Nat
  call : List UInt8
  words : List (List UInt8)
  data : List (List UInt8)

/-- What belongs to a dd: k: the number of its own line. -/
def inlineT (k : Nat) : List Row → List (List UInt8) → Except (Nat × Int) (List (List UInt8))
  | [], _ => .error (k, 3)
  | (m, t) :: r, acc => if t = [47, 42] then .ok acc else if 64 ≤ acc.length ∨ 200 < t.length then .error (m, 8) else inlineT k r (acc ++ [t])

theorem inlineT_len (k : Nat) : ∀ (r : List Row) (acc l : List (List UInt8)), acc.length ≤ 64 → inlineT k r acc = .ok l → l.length ≤ 64
  | [], acc, l, _, h => by simp [inlineT] at h
  | (m, t) :: r, acc, l, ha, h => by
    unfold inlineT at h
    split at h
    · cases h; exact ha
    · split at h
      · cases h
      · rename_i hn
        exact inlineT_len k r _ _ (by simp; omega) h
theorem inlineT_err (k : Nat) : ∀ (r : List Row) (acc : List (List UInt8)) (m : Nat) (c : Int), inlineT k r acc = .error (m, c) → c ≠ 0
  | [], acc, m, c, h => by simp [inlineT] at h; omega
  | (x, t) :: r, acc, m, c, h => by
    unfold inlineT at h
    split at h
    · cases h
    · split at h
      · cases h; decide
      · exact inlineT_err k r _ _ _ h

/-- What a handler returns: how many further lines; the error's line and code (0: none). -/
structure HR where
  n : Nat
  line : Nat
  code : Int

def stmF (out : List Stm) (call : List UInt8) (k : Nat) (rest : List Row) (words : List (List UInt8)) : List Stm × HR :=
  if 400 ≤ out.length then (out, ⟨0, k, 8⟩)
  else if words[0]? = some [100, 100] ∧ words.length = 3 ∧ words[2]? = some [105, 110, 108, 105, 110, 101] then
    match inlineT k rest [] with
    | .error (m, c) => (out, ⟨0, m, c⟩)
    | .ok l => (out ++ [⟨k, call, words, l⟩], ⟨l.length + 1, 0, 0⟩)
  else (out ++ [⟨k, call, words, []⟩], ⟨0, 0, 0⟩)

/-- A line's words; none: it does nothing. -/
def lineW (sym : List UInt8 → Option (List UInt8)) (t : List UInt8) : Except Int (List (List UInt8)) :=
  if t.dropWhile blank = [] ∨ (t.dropWhile blank).head? = some 35 then .ok []
  else if (replR sym t).2 = 0 then
    match scanF (replR sym t).1 with
    | none => .error 3
    | some ws => .ok ws
  else .error (replR sym t).2

theorem scanT_len : ∀ (n : Nat) (l : List UInt8) (acc ws : List (List UInt8)), l.length ≤ n → scanT l acc = some ws → ws.length ≤ acc.length + l.length
  | n, l, acc, ws, hn, h => by
    by_cases hl : l = []
    · subst hl
      rw [scanT_nil] at h; cases h; simp
    · by_cases h1 : (firstV l).2.2 = true
      · by_cases h2 : (firstV l).2.1 ≠ [] ∧ (firstV l).2.1.headD 0 ≠ 32
        · rw [scanT_bad acc hl (.inr h2)] at h; cases h
        · rw [scanT_step acc hl h1 h2] at h
          have hlt : (firstV l).2.1.length < l.length := firstV_len (w := (firstV l).1) (by rw [← h1])
          have hd := length_dropWhile_le blank (firstV l).2.1
          match n, hn with
          | 0, hn => omega
          | n + 1, hn =>
            have := scanT_len n _ _ _ (by omega) h
            simp only [List.length_append, List.length_cons, List.length_nil] at this
            omega
      · rw [scanT_bad acc hl (.inl (by simpa using h1))] at h; cases h
theorem scanF_len {l : List UInt8} {ws : List (List UInt8)} (h : scanF l = some ws) : ws.length ≤ l.length := by
  have := scanT_len _ _ _ _ (Nat.le_refl _) h
  have hd := length_dropWhile_le blank l
  simp at this
  omega

abbrev Sym := List (List UInt8 × List UInt8)
/-- What a reader knows. -/
structure RS where
  syms : Sym
  procs : List (List UInt8 × Sym × List Row)
  out : List Stm

/-- What a line comes to; hf: what the handlers do; known: whether there is one. -/
def lineR (s : RS) (k : Nat) (t : List UInt8) (known : List UInt8 → Bool) (hf : List (List UInt8) → RS × HR) : RS × HR :=
  match lineW (s.syms.lookup ·) t with
  | .error e => (s, ⟨0, k, e⟩)
  | .ok [] => (s, ⟨0, 0, 0⟩)
  | .ok (w :: ws) => if known w = true then hf (w :: ws) else (s, ⟨0, k, 3⟩)

/-- Reading rows: LF: what a line comes to. -/
def readT (LF : RS → Row → List Row → RS × HR) : Nat → RS → List Row → RS × Nat × Int
  | 0, s, _ => (s, 0, 0)
  | _ + 1, s, [] => (s, 0, 0)
  | n + 1, s, x :: rest => if (LF s x rest).2.code = 0 then readT LF n (LF s x rest).1 (rest.drop (LF s x rest).2.n) else ((LF s x rest).1, (LF s x rest).2.line, (LF s x rest).2.code)

/-- What Expand returns. -/
def expandF (LF : RS → Row → List Row → RS × HR) (t : List UInt8) : List Stm × Nat × Int :=
  if 16384 < t.length ∨ 512 < (linesF t).length then ([], 0, 8)
  else if (readT LF (linesF t).length ⟨[], [], []⟩ (rowsFrom 0 (linesF t))).2.2 = 0 then ((readT LF (linesF t).length ⟨[], [], []⟩ (rowsFrom 0 (linesF t))).1.out, 0, 0)
  else ([], (readT LF (linesF t).length ⟨[], [], []⟩ (rowsFrom 0 (linesF t))).2.1, (readT LF (linesF t).length ⟨[], [], []⟩ (rowsFrom 0 (linesF t))).2.2)

end Go.Proofs.YtoabcmhiaknjiaaDoor

set_option maxRecDepth 100000
namespace Go.Proofs.YtoabcmhiaknjiaaDoor
open Go.Hw
theorem mixed : Tryd.prog.follows .mixedOrders = true := by kernel_rfl
theorem ty3 : TyOK Tryd.prog 3 (some (.int .i64 0)) 1 8 := tyOK (by kernel_rfl)
theorem ty4 : TyOK Tryd.prog 4 (some (.bool false)) 1 1 := tyOK (by kernel_rfl)
theorem ty5 : TyOK Tryd.prog 5 (some (.int .u8 0)) 1 1 := tyOK (by kernel_rfl)
theorem ty9 : TyOK Tryd.prog 9 (some (.string ⟨#[]⟩)) 1 16 := tyOK (by kernel_rfl)
theorem ty22 : TyOK Tryd.prog 22 (some (.map none)) 1 8 := tyOK (by kernel_rfl)
theorem ty24 : TyOK Tryd.prog 24 (some (.slice none 0 0)) 1 24 := tyOK (by kernel_rfl)
theorem ty25 : TyOK Tryd.prog 25 (some (.int .i64 0)) 1 8 := tyOK (by kernel_rfl)
theorem ty36 : TyOK Tryd.prog 36 (some (.slice none 0 0)) 1 24 := tyOK (by kernel_rfl)
theorem ty40 : TyOK Tryd.prog 40 (some (.agg #[.int .i64 0, .string ⟨#[]⟩, .slice none 0 0, .slice none 0 0])) 4 72 := tyOK (by kernel_rfl)
theorem fld40_0 : FldOK Tryd.prog 40 0 0 := ⟨_, _, _, _, _, Tryd.underlying40, rfl, rfl, ty3⟩
theorem fld40_1 : FldOK Tryd.prog 40 1 1 := ⟨_, _, _, _, _, Tryd.underlying40, rfl, rfl, ty9⟩
theorem fld40_2 : FldOK Tryd.prog 40 2 2 := ⟨_, _, _, _, _, Tryd.underlying40, rfl, rfl, ty24⟩
theorem fld40_3 : FldOK Tryd.prog 40 3 3 := ⟨_, _, _, _, _, Tryd.underlying40, rfl, rfl, ty24⟩
theorem ty52 : TyOK Tryd.prog 52 (some (.slice none 0 0)) 1 24 := tyOK (by kernel_rfl)
theorem ty54 : TyOK Tryd.prog 54 (some (.agg #[.pointer none, .slice none 0 0])) 2 32 := tyOK (by kernel_rfl)
theorem fld54_1 : FldOK Tryd.prog 54 1 1 := ⟨_, _, _, _, _, Tryd.underlying54, rfl, rfl, ty52⟩
theorem ty68 : TyOK Tryd.prog 68 (some (.slice none 0 0)) 1 24 := tyOK (by kernel_rfl)
theorem ty73 : TyOK Tryd.prog 73 (some (.agg #[.int .i64 0, .string ⟨#[]⟩])) 2 24 := tyOK (by kernel_rfl)
theorem fld73_0 : FldOK Tryd.prog 73 0 0 := ⟨_, _, _, _, _, Tryd.underlying73, rfl, rfl, ty3⟩
theorem fld73_1 : FldOK Tryd.prog 73 1 1 := ⟨_, _, _, _, _, Tryd.underlying73, rfl, rfl, ty9⟩
theorem ty75 : TyOK Tryd.prog 75 (some (.map none)) 1 8 := tyOK (by kernel_rfl)
theorem ty77 : TyOK Tryd.prog 77 (some (.agg #[.map none, .map none, .slice none 0 0])) 3 40 := tyOK (by kernel_rfl)
theorem fld77_0 : FldOK Tryd.prog 77 0 0 := ⟨_, _, _, _, _, Tryd.underlying77, rfl, rfl, ty22⟩
theorem fld77_1 : FldOK Tryd.prog 77 1 1 := ⟨_, _, _, _, _, Tryd.underlying77, rfl, rfl, ty75⟩
theorem fld77_2 : FldOK Tryd.prog 77 2 2 := ⟨_, _, _, _, _, Tryd.underlying77, rfl, rfl, ty36⟩
theorem ty79 : TyOK Tryd.prog 79 (some (.agg #[.int .i64 0, .int .i64 0])) 2 16 := tyOK (by kernel_rfl)
theorem fld79_0 : FldOK Tryd.prog 79 0 0 := ⟨_, _, _, _, _, Tryd.underlying79, rfl, rfl, ty3⟩
theorem fld79_1 : FldOK Tryd.prog 79 1 1 := ⟨_, _, _, _, _, Tryd.underlying79, rfl, rfl, ty25⟩
theorem ty82 : TyOK Tryd.prog 82 (some (.agg #[.slice none 0 0, .string ⟨#[]⟩, .bool false])) 3 48 := tyOK (by kernel_rfl)
theorem fld82_0 : FldOK Tryd.prog 82 0 0 := ⟨_, _, _, _, _, Tryd.underlying82, rfl, rfl, ty68⟩
theorem fld82_1 : FldOK Tryd.prog 82 1 1 := ⟨_, _, _, _, _, Tryd.underlying82, rfl, rfl, ty9⟩
theorem fld82_2 : FldOK Tryd.prog 82 2 2 := ⟨_, _, _, _, _, Tryd.underlying82, rfl, rfl, ty4⟩
theorem ty124 : TyOK Tryd.prog 124 (some (.nilFunc)) 1 8 := tyOK (by kernel_rfl)
theorem ty137 : TyOK Tryd.prog 137 (some (.agg #[.map none, .slice none 0 0])) 2 32 := tyOK (by kernel_rfl)
theorem fld137_0 : FldOK Tryd.prog 137 0 0 := ⟨_, _, _, _, _, Tryd.underlying137, rfl, rfl, ty22⟩
theorem fld137_1 : FldOK Tryd.prog 137 1 1 := ⟨_, _, _, _, _, Tryd.underlying137, rfl, rfl, ty68⟩
theorem pl9 : Plain Tryd.prog 9 := ⟨_, Tryd.func9, rfl, by kernel_rfl⟩
theorem pl10 : Plain Tryd.prog 10 := ⟨_, Tryd.func10, rfl, by kernel_rfl⟩
theorem pl12 : Plain Tryd.prog 12 := ⟨_, Tryd.func12, rfl, by kernel_rfl⟩
theorem pl14 : Plain Tryd.prog 14 := ⟨_, Tryd.func14, rfl, by kernel_rfl⟩
theorem pl15 : Plain Tryd.prog 15 := ⟨_, Tryd.func15, rfl, by kernel_rfl⟩
theorem pl17 : Plain Tryd.prog 17 := ⟨_, Tryd.func17, rfl, by kernel_rfl⟩
theorem pl18 : Plain Tryd.prog 18 := ⟨_, Tryd.func18, rfl, by kernel_rfl⟩
theorem pl19 : Plain Tryd.prog 19 := ⟨_, Tryd.func19, rfl, by kernel_rfl⟩
theorem pl20 : Plain Tryd.prog 20 := ⟨_, Tryd.func20, rfl, by kernel_rfl⟩
theorem pl23 : Plain Tryd.prog 23 := ⟨_, Tryd.func23, rfl, by kernel_rfl⟩
theorem pl24 : Plain Tryd.prog 24 := ⟨_, Tryd.func24, rfl, by kernel_rfl⟩
theorem pl25 : Plain Tryd.prog 25 := ⟨_, Tryd.func25, rfl, by kernel_rfl⟩
theorem pl26 : Plain Tryd.prog 26 := ⟨_, Tryd.func26, rfl, by kernel_rfl⟩
theorem pl27 : Plain Tryd.prog 27 := ⟨_, Tryd.func27, rfl, by kernel_rfl⟩
theorem pl28 : Plain Tryd.prog 28 := ⟨_, Tryd.func28, rfl, by kernel_rfl⟩
theorem pl29 : Plain Tryd.prog 29 := ⟨_, Tryd.func29, rfl, by kernel_rfl⟩
theorem pl30 : Plain Tryd.prog 30 := ⟨_, Tryd.func30, rfl, by kernel_rfl⟩
theorem pl31 : Plain Tryd.prog 31 := ⟨_, Tryd.func31, rfl, by kernel_rfl⟩
theorem pl32 : Plain Tryd.prog 32 := ⟨_, Tryd.func32, rfl, by kernel_rfl⟩
theorem pl34 : Plain Tryd.prog 34 := ⟨_, Tryd.func34, rfl, by kernel_rfl⟩
theorem pl37 : Plain Tryd.prog 37 := ⟨_, Tryd.func37, rfl, by kernel_rfl⟩
theorem pl38 : Plain Tryd.prog 38 := ⟨_, Tryd.func38, rfl, by kernel_rfl⟩
theorem pl39 : Plain Tryd.prog 39 := ⟨_, Tryd.func39, rfl, by kernel_rfl⟩
theorem pl40 : Plain Tryd.prog 40 := ⟨_, Tryd.func40, rfl, by kernel_rfl⟩
theorem pl45 : Plain Tryd.prog 45 := ⟨_, Tryd.func45, rfl, by kernel_rfl⟩
theorem pl49 : Plain Tryd.prog 49 := ⟨_, Tryd.func49, rfl, by kernel_rfl⟩
theorem pl50 : Plain Tryd.prog 50 := ⟨_, Tryd.func50, rfl, by kernel_rfl⟩
theorem pl52 : Plain Tryd.prog 52 := ⟨_, Tryd.func52, rfl, by kernel_rfl⟩
theorem pl55 : Plain Tryd.prog 55 := ⟨_, Tryd.func55, rfl, by kernel_rfl⟩
theorem pl57 : Plain Tryd.prog 57 := ⟨_, Tryd.func57, rfl, by kernel_rfl⟩
theorem pl60 : Plain Tryd.prog 60 := ⟨_, Tryd.func60, rfl, by kernel_rfl⟩
theorem pl62 : Plain Tryd.prog 62 := ⟨_, Tryd.func62, rfl, by kernel_rfl⟩
theorem pl63 : Plain Tryd.prog 63 := ⟨_, Tryd.func63, rfl, by kernel_rfl⟩
theorem pl69 : Plain Tryd.prog 69 := ⟨_, Tryd.func69, rfl, by kernel_rfl⟩
theorem pl72 : Plain Tryd.prog 72 := ⟨_, Tryd.func72, rfl, by kernel_rfl⟩
theorem pl73 : Plain Tryd.prog 73 := ⟨_, Tryd.func73, rfl, by kernel_rfl⟩
theorem pl74 : Plain Tryd.prog 74 := ⟨_, Tryd.func74, rfl, by kernel_rfl⟩
theorem pl75 : Plain Tryd.prog 75 := ⟨_, Tryd.func75, rfl, by kernel_rfl⟩
theorem pl76 : Plain Tryd.prog 76 := ⟨_, Tryd.func76, rfl, by kernel_rfl⟩
theorem pl79 : Plain Tryd.prog 79 := ⟨_, Tryd.func79, rfl, by kernel_rfl⟩
theorem pl80 : Plain Tryd.prog 80 := ⟨_, Tryd.func80, rfl, by kernel_rfl⟩
theorem pl86 : Plain Tryd.prog 86 := ⟨_, Tryd.func86, rfl, by kernel_rfl⟩
theorem pl87 : Plain Tryd.prog 87 := ⟨_, Tryd.func87, rfl, by kernel_rfl⟩
theorem pl88 : Plain Tryd.prog 88 := ⟨_, Tryd.func88, rfl, by kernel_rfl⟩
theorem pl89 : Plain Tryd.prog 89 := ⟨_, Tryd.func89, rfl, by kernel_rfl⟩
theorem pl90 : Plain Tryd.prog 90 := ⟨_, Tryd.func90, rfl, by kernel_rfl⟩
theorem pl91 : Plain Tryd.prog 91 := ⟨_, Tryd.func91, rfl, by kernel_rfl⟩
theorem pl93 : Plain Tryd.prog 93 := ⟨_, Tryd.func93, rfl, by kernel_rfl⟩
theorem pl94 : Plain Tryd.prog 94 := ⟨_, Tryd.func94, rfl, by kernel_rfl⟩
theorem pl96 : Plain Tryd.prog 96 := ⟨_, Tryd.func96, rfl, by kernel_rfl⟩
theorem pl98 : Plain Tryd.prog 98 := ⟨_, Tryd.func98, rfl, by kernel_rfl⟩
theorem pl99 : Plain Tryd.prog 99 := ⟨_, Tryd.func99, rfl, by kernel_rfl⟩
theorem pl100 : Plain Tryd.prog 100 := ⟨_, Tryd.func100, rfl, by kernel_rfl⟩
theorem pl101 : Plain Tryd.prog 101 := ⟨_, Tryd.func101, rfl, by kernel_rfl⟩
theorem ld3 {H : Hp} {K : Value → Hp → Prop} {X : List PanicEntry → Hp → Prop} {a : Addr} : loadA Tryd.prog 3 (.pointer (some a)) K X H = withc (cellH H a) fun v => K v H := loadA_1 Tryd.underlying3 rfl --3
theorem lq3 {H : Hp} {K : Value → Prop} {a : Addr} : loadQ Tryd.prog 3 (.pointer (some a)) K H = withc (cellH H a) K := loadQ_e Tryd.underlying3 rfl
theorem ld4 {H : Hp} {K : Value → Hp → Prop} {X : List PanicEntry → Hp → Prop} {a : Addr} : loadA Tryd.prog 4 (.pointer (some a)) K X H = withc (cellH H a) fun v => K v H := loadA_1 Tryd.underlying4 rfl --4
theorem ld9 {H : Hp} {K : Value → Hp → Prop} {X : List PanicEntry → Hp → Prop} {a : Addr} : loadA Tryd.prog 9 (.pointer (some a)) K X H = withc (cellH H a) fun v => K v H := loadA_1 Tryd.underlying9 rfl --9
theorem lq9 {H : Hp} {K : Value → Prop} {a : Addr} : loadQ Tryd.prog 9 (.pointer (some a)) K H = withc (cellH H a) K := loadQ_e Tryd.underlying9 rfl
theorem ld22 {H : Hp} {K : Value → Hp → Prop} {X : List PanicEntry → Hp → Prop} {a : Addr} : loadA Tryd.prog 22 (.pointer (some a)) K X H = withc (cellH H a) fun v => K v H := loadA_1 Tryd.underlying22 rfl --22
theorem lq22 {H : Hp} {K : Value → Prop} {a : Addr} : loadQ Tryd.prog 22 (.pointer (some a)) K H = withc (cellH H a) K := loadQ_e Tryd.underlying22 rfl
theorem ld24 {H : Hp} {K : Value → Hp → Prop} {X : List PanicEntry → Hp → Prop} {a : Addr} : loadA Tryd.prog 24 (.pointer (some a)) K X H = withc (cellH H a) fun v => K v H := loadA_1 Tryd.underlying24 rfl --24
theorem ld25 {H : Hp} {K : Value → Hp → Prop} {X : List PanicEntry → Hp → Prop} {a : Addr} : loadA Tryd.prog 25 (.pointer (some a)) K X H = withc (cellH H a) fun v => K v H := loadA_1 Tryd.underlying25 rfl --25
theorem lq25 {H : Hp} {K : Value → Prop} {a : Addr} : loadQ Tryd.prog 25 (.pointer (some a)) K H = withc (cellH H a) K := loadQ_e Tryd.underlying25 rfl
theorem ld36 {H : Hp} {K : Value → Hp → Prop} {X : List PanicEntry → Hp → Prop} {a : Addr} : loadA Tryd.prog 36 (.pointer (some a)) K X H = withc (cellH H a) fun v => K v H := loadA_1 Tryd.underlying36 rfl --36
theorem lq36 {H : Hp} {K : Value → Prop} {a : Addr} : loadQ Tryd.prog 36 (.pointer (some a)) K H = withc (cellH H a) K := loadQ_e Tryd.underlying36 rfl
theorem ld40 {H : Hp} {K : Value → Hp → Prop} {X : List PanicEntry → Hp → Prop} {a : Addr} : loadA Tryd.prog 40 (.pointer (some a)) K X H = withcs (cellsH H a 0 4) fun l => K (.agg l.toArray) H := loadA_n Tryd.underlying40 rfl ty40
theorem bl40 {H : Hp} {K : Value → Hp → Prop} {X : List PanicEntry → Hp → Prop} {ps : List (Nat × Value)} : bldA Tryd.prog 40 ps K X H = withO (bfill [(0, 1), (1, 1), (2, 1), (3, 1)] [.int .i64 0, .string ⟨#[]⟩, .slice none 0 0, .slice none 0 0] ps) fun v => K v H := bldA_e Tryd.underlying40 ty40 (by kernel_rfl)
theorem bq40 {H : Hp} {K : Value → Prop} {ps : List (Nat × Value)} : bldQ Tryd.prog 40 ps K H = withO (bfill [(0, 1), (1, 1), (2, 1), (3, 1)] [.int .i64 0, .string ⟨#[]⟩, .slice none 0 0, .slice none 0 0] ps) K := bldQ_e Tryd.underlying40 ty40 (by kernel_rfl)
theorem fa40_0 {H : Hp} {K : Value → Hp → Prop} {X : List PanicEntry → Hp → Prop} {b off : Nat} : fadA Tryd.prog 40 (.pointer (some ⟨b, off, none⟩)) 0 K X H = K (.pointer (some ⟨b, off, none⟩)) H := by rw [fadA_ok fld40_0, add_none]; rfl
theorem fa40_1 {H : Hp} {K : Value → Hp → Prop} {X : List PanicEntry → Hp → Prop} {b off : Nat} : fadA Tryd.prog 40 (.pointer (some ⟨b, off, none⟩)) 1 K X H = K (.pointer (some ⟨b, off + 1, none⟩)) H := by rw [fadA_ok fld40_1, add_none]
theorem fa40_2 {H : Hp} {K : Value → Hp → Prop} {X : List PanicEntry → Hp → Prop} {b off : Nat} : fadA Tryd.prog 40 (.pointer (some ⟨b, off, none⟩)) 2 K X H = K (.pointer (some ⟨b, off + 2, none⟩)) H := by rw [fadA_ok fld40_2, add_none]
theorem fa40_3 {H : Hp} {K : Value → Hp → Prop} {X : List PanicEntry → Hp → Prop} {b off : Nat} : fadA Tryd.prog 40 (.pointer (some ⟨b, off, none⟩)) 3 K X H = K (.pointer (some ⟨b, off + 3, none⟩)) H := by rw [fadA_ok fld40_3, add_none]
theorem ld68 {H : Hp} {K : Value → Hp → Prop} {X : List PanicEntry → Hp → Prop} {a : Addr} : loadA Tryd.prog 68 (.pointer (some a)) K X H = withc (cellH H a) fun v => K v H := loadA_1 Tryd.underlying68 rfl --68
theorem lq68 {H : Hp} {K : Value → Prop} {a : Addr} : loadQ Tryd.prog 68 (.pointer (some a)) K H = withc (cellH H a) K := loadQ_e Tryd.underlying68 rfl
theorem ld73 {H : Hp} {K : Value → Hp → Prop} {X : List PanicEntry → Hp → Prop} {a : Addr} : loadA Tryd.prog 73 (.pointer (some a)) K X H = withcs (cellsH H a 0 2) fun l => K (.agg l.toArray) H := loadA_n Tryd.underlying73 rfl ty73
theorem bl73 {H : Hp} {K : Value → Hp → Prop} {X : List PanicEntry → Hp → Prop} {ps : List (Nat × Value)} : bldA Tryd.prog 73 ps K X H = withO (bfill [(0, 1), (1, 1)] [.int .i64 0, .string ⟨#[]⟩] ps) fun v => K v H := bldA_e Tryd.underlying73 ty73 (by kernel_rfl)
theorem bq73 {H : Hp} {K : Value → Prop} {ps : List (Nat × Value)} : bldQ Tryd.prog 73 ps K H = withO (bfill [(0, 1), (1, 1)] [.int .i64 0, .string ⟨#[]⟩] ps) K := bldQ_e Tryd.underlying73 ty73 (by kernel_rfl)
theorem fa73_0 {H : Hp} {K : Value → Hp → Prop} {X : List PanicEntry → Hp → Prop} {b off : Nat} : fadA Tryd.prog 73 (.pointer (some ⟨b, off, none⟩)) 0 K X H = K (.pointer (some ⟨b, off, none⟩)) H := by rw [fadA_ok fld73_0, add_none]; rfl
theorem fq73_0 {H : Hp} {K : Value → Prop} {b off : Nat} : fadQ Tryd.prog 73 (.pointer (some ⟨b, off, none⟩)) 0 K H = K (.pointer (some ⟨b, off, none⟩)) := by rw [fadQ_ok fld73_0, add_none]; rfl
theorem fa73_1 {H : Hp} {K : Value → Hp → Prop} {X : List PanicEntry → Hp → Prop} {b off : Nat} : fadA Tryd.prog 73 (.pointer (some ⟨b, off, none⟩)) 1 K X H = K (.pointer (some ⟨b, off + 1, none⟩)) H := by rw [fadA_ok fld73_1, add_none]
theorem fq73_1 {H : Hp} {K : Value → Prop} {b off : Nat} : fadQ Tryd.prog 73 (.pointer (some ⟨b, off, none⟩)) 1 K H = K (.pointer (some ⟨b, off + 1, none⟩)) := by rw [fadQ_ok fld73_1, add_none]
theorem ld75 {H : Hp} {K : Value → Hp → Prop} {X : List PanicEntry → Hp → Prop} {a : Addr} : loadA Tryd.prog 75 (.pointer (some a)) K X H = withc (cellH H a) fun v => K v H := loadA_1 Tryd.underlying75 rfl --75
theorem lq75 {H : Hp} {K : Value → Prop} {a : Addr} : loadQ Tryd.prog 75 (.pointer (some a)) K H = withc (cellH H a) K := loadQ_e Tryd.underlying75 rfl
theorem bl77 {H : Hp} {K : Value → Hp → Prop} {X : List PanicEntry → Hp → Prop} {ps : List (Nat × Value)} : bldA Tryd.prog 77 ps K X H = withO (bfill [(0, 1), (1, 1), (2, 1)] [.map none, .map none, .slice none 0 0] ps) fun v => K v H := bldA_e Tryd.underlying77 ty77 (by kernel_rfl)
theorem fa77_0 {H : Hp} {K : Value → Hp → Prop} {X : List PanicEntry → Hp → Prop} {b off : Nat} : fadA Tryd.prog 77 (.pointer (some ⟨b, off, none⟩)) 0 K X H = K (.pointer (some ⟨b, off, none⟩)) H := by rw [fadA_ok fld77_0, add_none]; rfl
theorem fq77_0 {H : Hp} {K : Value → Prop} {b off : Nat} : fadQ Tryd.prog 77 (.pointer (some ⟨b, off, none⟩)) 0 K H = K (.pointer (some ⟨b, off, none⟩)) := by rw [fadQ_ok fld77_0, add_none]; rfl
theorem fa77_1 {H : Hp} {K : Value → Hp → Prop} {X : List PanicEntry → Hp → Prop} {b off : Nat} : fadA Tryd.prog 77 (.pointer (some ⟨b, off, none⟩)) 1 K X H = K (.pointer (some ⟨b, off + 1, none⟩)) H := by rw [fadA_ok fld77_1, add_none]
theorem fq77_1 {H : Hp} {K : Value → Prop} {b off : Nat} : fadQ Tryd.prog 77 (.pointer (some ⟨b, off, none⟩)) 1 K H = K (.pointer (some ⟨b, off + 1, none⟩)) := by rw [fadQ_ok fld77_1, add_none]
theorem fa77_2 {H : Hp} {K : Value → Hp → Prop} {X : List PanicEntry → Hp → Prop} {b off : Nat} : fadA Tryd.prog 77 (.pointer (some ⟨b, off, none⟩)) 2 K X H = K (.pointer (some ⟨b, off + 2, none⟩)) H := by rw [fadA_ok fld77_2, add_none]
theorem fq77_2 {H : Hp} {K : Value → Prop} {b off : Nat} : fadQ Tryd.prog 77 (.pointer (some ⟨b, off, none⟩)) 2 K H = K (.pointer (some ⟨b, off + 2, none⟩)) := by rw [fadQ_ok fld77_2, add_none]
theorem ld79 {H : Hp} {K : Value → Hp → Prop} {X : List PanicEntry → Hp → Prop} {a : Addr} : loadA Tryd.prog 79 (.pointer (some a)) K X H = withcs (cellsH H a 0 2) fun l => K (.agg l.toArray) H := loadA_n Tryd.underlying79 rfl ty79
theorem rc79 {H : Hp} {K : Value → Prop} {a : Addr} {l : List Value} (hc : cellsH H a 0 2 = some l) : rcA Tryd.prog 79 (.pointer (some a)) H K = K (.agg l.toArray) := rcA_n Tryd.underlying79 rfl ty79 hc
theorem bl79 {H : Hp} {K : Value → Hp → Prop} {X : List PanicEntry → Hp → Prop} {ps : List (Nat × Value)} : bldA Tryd.prog 79 ps K X H = withO (bfill [(0, 1), (1, 1)] [.int .i64 0, .int .i64 0] ps) fun v => K v H := bldA_e Tryd.underlying79 ty79 (by kernel_rfl)
theorem bq79 {H : Hp} {K : Value → Prop} {ps : List (Nat × Value)} : bldQ Tryd.prog 79 ps K H = withO (bfill [(0, 1), (1, 1)] [.int .i64 0, .int .i64 0] ps) K := bldQ_e Tryd.underlying79 ty79 (by kernel_rfl)
theorem fa79_0 {H : Hp} {K : Value → Hp → Prop} {X : List PanicEntry → Hp → Prop} {b off : Nat} : fadA Tryd.prog 79 (.pointer (some ⟨b, off, none⟩)) 0 K X H = K (.pointer (some ⟨b, off, none⟩)) H := by rw [fadA_ok fld79_0, add_none]; rfl
theorem fq79_0 {H : Hp} {K : Value → Prop} {b off : Nat} : fadQ Tryd.prog 79 (.pointer (some ⟨b, off, none⟩)) 0 K H = K (.pointer (some ⟨b, off, none⟩)) := by rw [fadQ_ok fld79_0, add_none]; rfl
theorem fa79_1 {H : Hp} {K : Value → Hp → Prop} {X : List PanicEntry → Hp → Prop} {b off : Nat} : fadA Tryd.prog 79 (.pointer (some ⟨b, off, none⟩)) 1 K X H = K (.pointer (some ⟨b, off + 1, none⟩)) H := by rw [fadA_ok fld79_1, add_none]
theorem fq79_1 {H : Hp} {K : Value → Prop} {b off : Nat} : fadQ Tryd.prog 79 (.pointer (some ⟨b, off, none⟩)) 1 K H = K (.pointer (some ⟨b, off + 1, none⟩)) := by rw [fadQ_ok fld79_1, add_none]
theorem ld82 {H : Hp} {K : Value → Hp → Prop} {X : List PanicEntry → Hp → Prop} {a : Addr} : loadA Tryd.prog 82 (.pointer (some a)) K X H = withcs (cellsH H a 0 3) fun l => K (.agg l.toArray) H := loadA_n Tryd.underlying82 rfl ty82
theorem bl82 {H : Hp} {K : Value → Hp → Prop} {X : List PanicEntry → Hp → Prop} {ps : List (Nat × Value)} : bldA Tryd.prog 82 ps K X H = withO (bfill [(0, 1), (1, 1), (2, 1)] [.slice none 0 0, .string ⟨#[]⟩, .bool false] ps) fun v => K v H := bldA_e Tryd.underlying82 ty82 (by kernel_rfl)
theorem bq82 {H : Hp} {K : Value → Prop} {ps : List (Nat × Value)} : bldQ Tryd.prog 82 ps K H = withO (bfill [(0, 1), (1, 1), (2, 1)] [.slice none 0 0, .string ⟨#[]⟩, .bool false] ps) K := bldQ_e Tryd.underlying82 ty82 (by kernel_rfl)
theorem fa82_0 {H : Hp} {K : Value → Hp → Prop} {X : List PanicEntry → Hp → Prop} {b off : Nat} : fadA Tryd.prog 82 (.pointer (some ⟨b, off, none⟩)) 0 K X H = K (.pointer (some ⟨b, off, none⟩)) H := by rw [fadA_ok fld82_0, add_none]; rfl
theorem fq82_0 {H : Hp} {K : Value → Prop} {b off : Nat} : fadQ Tryd.prog 82 (.pointer (some ⟨b, off, none⟩)) 0 K H = K (.pointer (some ⟨b, off, none⟩)) := by rw [fadQ_ok fld82_0, add_none]; rfl
theorem fa82_1 {H : Hp} {K : Value → Hp → Prop} {X : List PanicEntry → Hp → Prop} {b off : Nat} : fadA Tryd.prog 82 (.pointer (some ⟨b, off, none⟩)) 1 K X H = K (.pointer (some ⟨b, off + 1, none⟩)) H := by rw [fadA_ok fld82_1, add_none]
theorem fq82_1 {H : Hp} {K : Value → Prop} {b off : Nat} : fadQ Tryd.prog 82 (.pointer (some ⟨b, off, none⟩)) 1 K H = K (.pointer (some ⟨b, off + 1, none⟩)) := by rw [fadQ_ok fld82_1, add_none]
theorem fa82_2 {H : Hp} {K : Value → Hp → Prop} {X : List PanicEntry → Hp → Prop} {b off : Nat} : fadA Tryd.prog 82 (.pointer (some ⟨b, off, none⟩)) 2 K X H = K (.pointer (some ⟨b, off + 2, none⟩)) H := by rw [fadA_ok fld82_2, add_none]
theorem bl137 {H : Hp} {K : Value → Hp → Prop} {X : List PanicEntry → Hp → Prop} {ps : List (Nat × Value)} : bldA Tryd.prog 137 ps K X H = withO (bfill [(0, 1), (1, 1)] [.map none, .slice none 0 0] ps) fun v => K v H := bldA_e Tryd.underlying137 ty137 (by kernel_rfl)
theorem bq137 {H : Hp} {K : Value → Prop} {ps : List (Nat × Value)} : bldQ Tryd.prog 137 ps K H = withO (bfill [(0, 1), (1, 1)] [.map none, .slice none 0 0] ps) K := bldQ_e Tryd.underlying137 ty137 (by kernel_rfl)
theorem fa137_0 {H : Hp} {K : Value → Hp → Prop} {X : List PanicEntry → Hp → Prop} {b off : Nat} : fadA Tryd.prog 137 (.pointer (some ⟨b, off, none⟩)) 0 K X H = K (.pointer (some ⟨b, off, none⟩)) H := by rw [fadA_ok fld137_0, add_none]; rfl
theorem fa137_1 {H : Hp} {K : Value → Hp → Prop} {X : List PanicEntry → Hp → Prop} {b off : Nat} : fadA Tryd.prog 137 (.pointer (some ⟨b, off, none⟩)) 1 K X H = K (.pointer (some ⟨b, off + 1, none⟩)) H := by rw [fadA_ok fld137_1, add_none]
theorem fq137_1 {H : Hp} {K : Value → Prop} {b off : Nat} : fadQ Tryd.prog 137 (.pointer (some ⟨b, off, none⟩)) 1 K H = K (.pointer (some ⟨b, off + 1, none⟩)) := by rw [fadQ_ok fld137_1, add_none]
end Go.Proofs.YtoabcmhiaknjiaaDoor

set_option maxRecDepth 100000
namespace Go.Proofs.YtoabcmhiaknjiaaDoor
open Go.Hw
/-! ### 45 strings.trimLeftByte -/
def r45_0 : List O := [⟨some 4, .assign (.const (.string ⟨#[]⟩)), 9, none⟩]
def r45_1 : List O := [⟨some 5, .move (.tmp 0), 9, none⟩,
  ⟨some 6, .call { callee := .builtin .len, args := #[.tmp 5], argTypes := #[9] }, 3, none⟩,
  ⟨some 7, .binOp .gtr 3 (.tmp 6) (.const (.int .i64 0)) 3, 4, none⟩,
  ⟨some 8, .move (.tmp 7), 4, none⟩,
  ⟨some 9, .move (.tmp 0), 9, some (8, true)⟩,
  ⟨some 10, .index 9 (.tmp 9) (.const (.int .i64 0)), 5, some (8, true)⟩,
  ⟨some 11, .move (.tmp 1), 5, some (8, true)⟩,
  ⟨some 12, .binOp .eql 5 (.tmp 10) (.tmp 11) 5, 4, some (8, true)⟩,
  ⟨some 13, .pick (.tmp 8) (.tmp 12) (.const (.bool false)), 4, none⟩]
def r45_2 : List O := [⟨some 14, .move (.tmp 0), 9, none⟩,
  ⟨some 15, .slice 9 (.tmp 14) (some (.const (.int .i64 1))) none none, 9, none⟩,
  ⟨some 0, .assign (.tmp 15), 9, none⟩]
def r45_3 : List O := [⟨some 16, .move (.tmp 0), 9, none⟩,
  ⟨some 4, .assign (.tmp 16), 9, none⟩]
def c45_0 : A := .cond (.tmp 13) .skip (.exit 0)
def c45_1 : A := .block 1 (.reg r45_2 [0, 1])
def c45_2 : A := .seq (.seq (.reg r45_1 [0, 1, 13]) c45_0) (.seq (.keep [0, 1]) c45_1)
def c45_3 : A := .seq c45_2 (.keep [0, 1])
def c45_4 : A := .loop c45_3
def c45_5 : A := .seq (.reg r45_3 [4]) .ret
def c45_6 : A := .seq (.block 0 c45_4) c45_5
def c45 : A := .seq (.reg r45_0 [0, 1]) c45_6
theorem B45 : Body Tryd.prog 45 17 [.tmp 4] c45 := ⟨by kernel_rfl, _, _, [(0, [0, 1]), (1, [0, 1, 13]), (2, [0, 1]), (3, [4]), (1001, [0, 1]), (2002, [0, 1])], Tryd.func45, rfl, rfl, rfl, by kernel_rfl⟩
/-! ### 23 strings.TrimLeft -/
def r23_0 : List O := [⟨some 4, .assign (.const (.string ⟨#[]⟩)), 9, none⟩]
def r23_1 : List O := [⟨some 7, .move (.tmp 0), 9, none⟩,
  ⟨some 8, .binOp .eql 9 (.tmp 7) (.const (.string ⟨#[]⟩)) 9, 4, none⟩,
  ⟨some 9, .move (.tmp 8), 4, none⟩,
  ⟨some 10, .move (.tmp 1), 9, some (9, false)⟩,
  ⟨some 11, .binOp .eql 9 (.tmp 10) (.const (.string ⟨#[]⟩)) 9, 4, some (9, false)⟩,
  ⟨some 12, .pick (.tmp 9) (.const (.bool true)) (.tmp 11), 4, none⟩]
def r23_2 : List O := [⟨some 13, .move (.tmp 0), 9, none⟩,
  ⟨some 4, .assign (.tmp 13), 9, none⟩]
def r23_3 : List O := [⟨some 14, .move (.tmp 1), 9, none⟩,
  ⟨some 15, .call { callee := .builtin .len, args := #[.tmp 14], argTypes := #[9] }, 3, none⟩,
  ⟨some 16, .binOp .eql 3 (.tmp 15) (.const (.int .i64 1)) 3, 4, none⟩,
  ⟨some 17, .move (.tmp 16), 4, none⟩,
  ⟨some 18, .move (.tmp 1), 9, some (17, true)⟩,
  ⟨some 19, .index 9 (.tmp 18) (.const (.int .i64 0)), 5, some (17, true)⟩,
  ⟨some 20, .binOp .lss 5 (.tmp 19) (.const (.int .u8 128)) 5, 4, some (17, true)⟩,
  ⟨some 21, .pick (.tmp 17) (.tmp 20) (.const (.bool false)), 4, none⟩]
def r23_4 : List O := [⟨some 22, .move (.tmp 0), 9, none⟩,
  ⟨some 23, .move (.tmp 1), 9, none⟩,
  ⟨some 24, .index 9 (.tmp 23) (.const (.int .i64 0)), 5, none⟩,
  ⟨some 25, .call { callee := .value (.func 45), args := #[.tmp 22, .tmp 24], argTypes := #[9, 5] }, 9, none⟩,
  ⟨some 4, .assign (.tmp 25), 9, none⟩]
def r23_5 : List O := [⟨some 27, .move (.tmp 1), 9, none⟩,
  ⟨some 28, .call { callee := .value (.func 46), args := #[.tmp 27], argTypes := #[9] }, 91, none⟩,
  ⟨some 26, .move (.tmp 28), 91, none⟩,
  ⟨some 29, .extract (.tmp 26) 0, 90, none⟩,
  ⟨some 30, .extract (.tmp 26) 1, 4, none⟩,
  ⟨some 5, .alloc 90, 0, none⟩,
  ⟨none, .store 90 (.tmp 5) (.tmp 29), 0, none⟩,
  ⟨some 6, .assign (.tmp 30), 4, none⟩]
def r23_6 : List O := [⟨some 31, .move (.tmp 6), 4, none⟩]
def r23_7 : List O := [⟨some 32, .move (.tmp 0), 9, none⟩,
  ⟨some 33, .call { callee := .value (.func 47), args := #[.tmp 32, .tmp 5], argTypes := #[9, 94] }, 9, none⟩,
  ⟨some 4, .assign (.tmp 33), 9, none⟩]
def r23_8 : List O := [⟨some 34, .move (.tmp 0), 9, none⟩,
  ⟨some 35, .move (.tmp 1), 9, none⟩,
  ⟨some 36, .call { callee := .value (.func 48), args := #[.tmp 34, .tmp 35], argTypes := #[9, 9] }, 9, none⟩,
  ⟨some 4, .assign (.tmp 36), 9, none⟩]
def c23_0 : A := .seq (.reg r23_2 [4]) .ret
def c23_1 : A := .cond (.tmp 12) c23_0 .skip
def c23_2 : A := .seq (.reg r23_4 [4]) .ret
def c23_3 : A := .cond (.tmp 21) c23_2 .skip
def c23_4 : A := .seq (.reg r23_7 [4]) .ret
def c23_5 : A := .cond (.tmp 31) c23_4 .skip
def c23_6 : A := .seq (.reg r23_6 [0, 1, 5, 31]) c23_5
def c23_7 : A := .seq (.reg r23_8 [4]) .ret
def c23_8 : A := .seq (.seq (.reg r23_5 [0, 1, 5, 6]) c23_6) (.seq (.keep [0, 1]) c23_7)
def c23_9 : A := .seq (.seq (.reg r23_3 [0, 1, 21]) c23_3) (.seq (.keep [0, 1]) c23_8)
def c23_10 : A := .seq (.seq (.reg r23_1 [0, 1, 12]) c23_1) (.seq (.keep [0, 1]) c23_9)
def c23 : A := .seq (.reg r23_0 [0, 1]) c23_10
theorem B23 : Body Tryd.prog 23 37 [.tmp 4] c23 := ⟨by kernel_rfl, _, _, [(0, [0, 1]), (1, [0, 1, 12]), (2, [4]), (3, [0, 1, 21]), (4, [4]), (5, [0, 1, 5, 6]), (6, [0, 1, 5, 31]), (7, [4]), (8, [4]), (2003, [0, 1]), (2005, [0, 1]), (2008, [0, 1])], Tryd.func23, rfl, rfl, rfl, by kernel_rfl⟩
/-! ### 69 strings.indexFunc -/
def r69_0 : List O := [⟨some 6, .assign (.const (.int .i64 0)), 3, none⟩]
def r69_1 : List O := [⟨some 9, .move (.tmp 0), 9, none⟩,
  ⟨some 10, .range 9 (.tmp 9), 0, none⟩]
def r69_2 : List O := [⟨some 11, .next (.tmp 10) true, 0, none⟩,
  ⟨some 12, .extract (.tmp 11) 0, 4, none⟩]
def r69_3 : List O := [⟨some 13, .extract (.tmp 11) 1, 3, none⟩,
  ⟨some 14, .extract (.tmp 11) 2, 21, none⟩,
  ⟨some 7, .assign (.tmp 13), 3, none⟩,
  ⟨some 8, .assign (.tmp 14), 21, none⟩]
def r69_4 : List O := [⟨some 15, .move (.tmp 1), 96, none⟩,
  ⟨some 16, .move (.tmp 8), 21, none⟩,
  ⟨some 17, .call { callee := .value (.tmp 15), args := #[.tmp 16], argTypes := #[21] }, 4, none⟩,
  ⟨some 18, .move (.tmp 2), 4, none⟩,
  ⟨some 19, .binOp .eql 4 (.tmp 17) (.tmp 18) 4, 4, none⟩]
def r69_5 : List O := [⟨some 20, .move (.tmp 7), 3, none⟩,
  ⟨some 6, .assign (.tmp 20), 3, none⟩]
def r69_6 : List O := [⟨some 6, .assign (.const (.int .i64 (-1))), 3, none⟩]
def c69_0 : A := .seq (.reg r69_5 [6]) .ret
def c69_1 : A := .cond (.tmp 19) c69_0 .skip
def c69_2 : A := .seq (.reg r69_4 [1, 2, 7, 10, 19]) c69_1
def c69_3 : A := .seq (.reg r69_3 [1, 2, 7, 8, 10]) c69_2
def c69_4 : A := .block 1 c69_3
def c69_5 : A := .seq (.cond (.tmp 12) .skip (.exit 0)) (.seq (.keep [1, 2, 10, 11]) c69_4)
def c69_6 : A := .seq (.reg r69_2 [1, 2, 10, 11, 12]) c69_5
def c69_7 : A := .seq c69_6 (.keep [1, 2, 10])
def c69_8 : A := .loop c69_7
def c69_9 : A := .block 0 c69_8
def c69_10 : A := .seq (.reg r69_6 [6]) .ret
def c69_11 : A := .seq (.seq (.reg r69_1 [1, 2, 10]) c69_9) c69_10
def c69 : A := .seq (.reg r69_0 [0, 1, 2]) c69_11
theorem B69 : Body Tryd.prog 69 21 [.tmp 6] c69 := ⟨by kernel_rfl, _, _, [(0, [0, 1, 2]), (1, [1, 2, 10]), (2, [1, 2, 10, 11, 12]), (3, [1, 2, 7, 8, 10]), (4, [1, 2, 7, 10, 19]), (5, [6]), (6, [6]), (1002, [1, 2, 10]), (2003, [1, 2, 10, 11])], Tryd.func69, rfl, rfl, rfl, by kernel_rfl⟩
/-! ### 49 strings.IndexFunc -/
def r49_0 : List O := [⟨some 4, .assign (.const (.int .i64 0)), 3, none⟩]
def r49_1 : List O := [⟨some 5, .move (.tmp 0), 9, none⟩,
  ⟨some 6, .move (.tmp 1), 96, none⟩,
  ⟨some 7, .call { callee := .value (.func 69), args := #[.tmp 5, .tmp 6, .const (.bool true)], argTypes := #[9, 96, 4] }, 3, none⟩,
  ⟨some 4, .assign (.tmp 7), 3, none⟩]
def c49_0 : A := .seq (.reg r49_1 [4]) .ret
def c49 : A := .seq (.reg r49_0 [0, 1]) c49_0
theorem B49 : Body Tryd.prog 49 8 [.tmp 4] c49 := ⟨by kernel_rfl, _, _, [(0, [0, 1]), (1, [4])], Tryd.func49, rfl, rfl, rfl, by kernel_rfl⟩
end Go.Proofs.YtoabcmhiaknjiaaDoor

set_option maxRecDepth 100000
set_option linter.unusedSimpArgs false
set_option linter.unusedVariables false
namespace Go.Proofs.YtoabcmhiaknjiaaDoor
open Go.Hw
theorem uStr : Tryd.prog.underlying 9 = some .string := Tryd.underlying9
theorem uStrs : Tryd.prog.underlying 24 = some (.slice 9) := Tryd.underlying24
theorem append_str {G H : Hp} {K : Value → Hp → Prop} {X : List PanicEntry → Hp → Prop} {ty : TypeId} {cs : Array Bool} {v : Value} {n : Nat} {l : List (List UInt8)} (c : List UInt8)
    (own : OwnS (H.size ≤ ·) 9 1 G v n (strs l)) (hE : Ext H G) (hlen : n ≤ 1000000000)
    (k : ∀ v' G', OwnS (H.size ≤ ·) 9 1 G' v' (n + 1) (strs (l ++ [c])) → Ext H G' → K v' G') :
    callA Tryd.prog (.builtin .append) #[24, 24] ty cs [v, .slice (some ⟨G.size, 0, none⟩) 1 1] K X (G.push (.cells (Value.cells (.string (B c))) 9)) := by
  refine append_lit (ok := (H.size ≤ ·)) own uStrs ty9 rfl rfl (by intro u hu; simp [Value.cells] at hu; subst hu; rfl) (fun b hb => Nat.le_trans hE.size hb) (by omega) (by omega) fun v' G' h1 h2 h3 => k v' G' ?_ ?_
  · have : strs (l ++ [c]) = strs l ++ (Value.cells (.string (B c))).toList := by simp [strs, Value.cells]
    rw [this]; exact h1
  · exact hE.own own (fun b hb => hb) h2

theorem uBool : Tryd.prog.underlying 4 = some .bool := Tryd.underlying4

theorem u8_inj {a b : UInt8} : ((a.toNat : Int) = (b.toNat : Int)) ↔ a = b := by
  constructor
  · intro h; exact UInt8.toNat_inj.1 (by omega)
  · intro h; rw [h]

theorem trimLeftByte (c : UInt8) (H : Hp) : ∀ (l : List UInt8) {K : Ending → Hp → Prop} (_ : l.length < 9223372036854775807) (_ : K (.returned (.string (B (l.dropWhile (· == c))))) H),
    HCall Tryd.prog 45 #[.string (B l), .int .u8 c.toNat] H K := by
  intro l K hl h
  refine hcall mixed B45 (args := [.string (B l), .int .u8 c.toNat]) (by simp) ?_
  simp only [go_sem, reduceCtorEq, Nat.reduceEqDiff, Nat.reduceAdd, c45, r45_0, c45_6]
  revert hl h
  induction l with
  | nil =>
    intro hl h
    refine aw_loopq (L := c45_4) rfl ?_
    simp only [go_sem, reduceCtorEq, Nat.reduceEqDiff, Nat.reduceAdd, c45_3, c45_2, r45_1, len_B uStr, List.length_nil, Int.natCast_zero, Int.lt_irrefl, decide_false, c45_0, c45_5, r45_3]
    exact h
  | cons b r ih =>
    intro hl h
    refine aw_loopq (L := c45_4) rfl ?_
    have h0 : (0 : Int) < ((b :: r).length : Int) := by simp only [List.length_cons]; omega
    simp only [go_sem, reduceCtorEq, Nat.reduceEqDiff, Nat.reduceAdd, c45_3, c45_2, r45_1, len_B uStr, decide_eq_true h0]
    rw [idxA_B uStr (by omega) (by omega)]
    simp only [Int.toNat_zero, List.getD_cons_zero]
    by_cases hbc : b = c
    · subst hbc
      simp only [go_sem, reduceCtorEq, Nat.reduceEqDiff, Nat.reduceAdd, decide_true, c45_0, c45_1, r45_2]
      rw [sliA_lo uStr (by omega) (by simp only [List.length_cons]; omega)]
      simp only [go_sem, reduceCtorEq, Nat.reduceEqDiff, Nat.reduceAdd, Int.toNat_one, List.drop_one, List.tail_cons]
      refine ih (by simp only [List.length_cons] at hl; omega) ?_
      simpa using h
    · have hne : decide ((b.toNat : Int) = (c.toNat : Int)) = false := by rw [decide_eq_false_iff_not, u8_inj]; exact hbc
      simp only [go_sem, reduceCtorEq, Nat.reduceEqDiff, Nat.reduceAdd, hne, c45_0, c45_5, r45_3]
      have : (b :: r).dropWhile (· == c) = b :: r := by rw [List.dropWhile_cons, if_neg (by simpa using hbc)]
      rw [this] at h
      exact h

theorem trimLeft_blank (H : Hp) (l : List UInt8) {K : Ending → Hp → Prop} (hl : l.length < 9223372036854775807) (h : K (.returned (.string (B (l.dropWhile (· == 32))))) H) :
    HCall Tryd.prog 23 #[.string (B l), .string ⟨#[32]⟩] H K := by
  refine hcall mixed B23 (args := [.string (B l), .string (B [32])]) (by simp) ?_
  simp only [go_sem, reduceCtorEq, Nat.reduceEqDiff, Nat.reduceAdd, c23, r23_0, c23_10, r23_1, B_lit, B_toList]
  cases l with
  | nil =>
    simp only [go_sem, reduceCtorEq, Nat.reduceEqDiff, Nat.reduceAdd, c23_1, c23_0, r23_2, beq_self_eq_true]
    exact h
  | cons b r =>
    have e1 : ((b :: r : List UInt8) == []) = false := rfl
    have e2 : (([32] : List UInt8) == []) = false := rfl
    simp only [go_sem, reduceCtorEq, Nat.reduceEqDiff, Nat.reduceAdd, e1, e2, B_toList, c23_1, c23_9, r23_3, len_B uStr]
    have e3 : decide ((([32] : List UInt8).length : Int) = 1) = true := rfl
    simp only [go_sem, reduceCtorEq, Nat.reduceEqDiff, Nat.reduceAdd, e3]
    rw [idxA_B uStr (by omega) (by decide)]
    have e4 : decide ((((([32] : List UInt8).getD (Int.toNat 0) 0).toNat : Nat) : Int) < 128) = true := rfl
    simp only [go_sem, reduceCtorEq, Nat.reduceEqDiff, Nat.reduceAdd, e4, c23_3, c23_2, r23_4]
    rw [idxA_B uStr (by omega) (by decide)]
    simp only [go_sem, reduceCtorEq, Nat.reduceEqDiff, Nat.reduceAdd, callA_fn0 pl45]
    refine trimLeftByte 32 H (b :: r) hl ?_
    simp only [go_sem, reduceCtorEq, Nat.reduceEqDiff, Nat.reduceAdd, ]
    exact h


/-- The index that IndexFunc finds. -/
def idxOf (p : Int → Bool) (l : List UInt8) : Int := match l.findIdx? (fun b => p b.toNat) with | some i => i | none => -1

theorem indexFunc (f : Nat) (hpl : Plain Tryd.prog f) (p : Int → Bool) (hcall' : ∀ (c : Int) (H : Hp) {K : Ending → Hp → Prop}, K (.returned (.bool (p c))) H → HCall Tryd.prog f #[.int .i32 c] H K) (hhigh : ∀ c : Int, 128 ≤ c → p c = true)
    (l : List UInt8) (H : Hp) {K : Ending → Hp → Prop} (h : ∀ H', Ext H H' → K (.returned (.int .i64 (idxOf p l))) H') : HCall Tryd.prog 69 #[.string (B l), .func (.func f) #[] #[], .bool true] H K := by
  refine hcall mixed B69 (args := [.string (B l), .func (.func f) #[] #[], .bool true]) (by simp) ?_
  simp only [go_sem, reduceCtorEq, Nat.reduceEqDiff, Nat.reduceAdd, c69, r69_0, c69_11, r69_1]
  rw [rngA_string uStr]
  simp only [go_sem, reduceCtorEq, Nat.reduceEqDiff, Nat.reduceAdd, c69_9]
  have key : ∀ (n pos : Nat) (G : Hp), l.length - pos = n → pos ≤ l.length → (∀ i, i < pos → p ((l.getD i 0).toNat) = false) → G[H.size]? = some (.stringIter (B l) pos) → Ext H G →
      aw Tryd.prog 21 c69_8 (blkE 0 (seqQ Tryd.prog 21 c69_10 (retK Tryd.prog [.tmp 6] K))) [(1, .func (.func f) #[] #[]), (2, .bool true), (10, .pointer (some ⟨H.size, 0, none⟩))] G := by
    intro n
    induction n with
    | zero =>
      intro pos G hn hpos hall hG hE
      refine aw_loopq (L := c69_8) rfl ?_
      simp only [go_sem, reduceCtorEq, Nat.reduceEqDiff, Nat.reduceAdd, c69_7, c69_6, r69_2]
      rw [nxtA_string_end hG (by rw [B_size]; omega)]
      simp only [go_sem, reduceCtorEq, Nat.reduceEqDiff, Nat.reduceAdd, c69_5, c69_10, r69_6]
      have : idxOf p l = -1 := by
        unfold idxOf
        rw [List.findIdx?_eq_none_iff.2]
        intro b hb
        obtain ⟨i, hi, rfl⟩ := List.getElem_of_mem hb
        have := hall i (by omega)
        rwa [getD_lt hi] at this
      rw [← this]
      exact h G hE
    | succ n ih =>
      intro pos G hn hpos hall hG hE
      have hlt : pos < l.length := by omega
      have hb : l[pos]? = some (l[pos]) := List.getElem?_eq_getElem hlt
      refine aw_loopq (L := c69_8) rfl ?_
      simp only [go_sem, reduceCtorEq, Nat.reduceEqDiff, Nat.reduceAdd, c69_7, c69_6, r69_2]
      rw [nxtA_string hG (by rw [B_size]; omega)]
      simp only [go_sem, reduceCtorEq, Nat.reduceEqDiff, Nat.reduceAdd, c69_5, c69_4, c69_3, r69_3, c69_2, r69_4, callA_fn0 hpl]
      refine hcall' _ _ ?_
      simp only [go_sem, reduceCtorEq, Nat.reduceEqDiff, Nat.reduceAdd, ]
      rw [binA_beql uBool]
      have found : p (Utf8.decode (B l) pos).1 = true → p ((l[pos]).toNat) = true → idxOf p l = pos := by
        intro _ hp
        unfold idxOf
        have : l.findIdx? (fun b => p b.toNat) = some pos := by
          rw [List.findIdx?_eq_some_iff_getElem]
          refine ⟨hlt, hp, fun j hj => ?_⟩
          have := hall j hj
          rw [getD_lt (by omega)] at this
          simp [this]
        rw [this]
      by_cases hhi : 128 ≤ (l[pos]).toNat
      · have hd := dec_high hb hhi
        have hp1 := hhigh (Utf8.decode (B l) pos).1 (by omega)
        have hp2 := hhigh (l[pos]).toNat (by omega)
        have hf := found hp1 hp2
        simp only [go_sem, reduceCtorEq, Nat.reduceEqDiff, Nat.reduceAdd, hp1, beq_self_eq_true, c69_1, c69_0, r69_5]
        rw [← hf]
        exact h _ (hE.set (Nat.le_refl _))
      · have hd := decode_low hb (by omega)
        rw [hd] at found ⊢
        by_cases hp : p (l[pos]).toNat = true
        · have hf := found hp hp
          simp only [go_sem, reduceCtorEq, Nat.reduceEqDiff, Nat.reduceAdd, hp, beq_self_eq_true, c69_1, c69_0, r69_5]
          rw [← hf]
          exact h _ (hE.set (Nat.le_refl _))
        · have hp' : p (l[pos]).toNat = false := by simpa using hp
          simp only [go_sem, reduceCtorEq, Nat.reduceEqDiff, Nat.reduceAdd, hp', show (false == true) = false from rfl, c69_1]
          refine ih (pos + 1) _ (by omega) (by omega) (fun i hi => ?_) (get_set hG) (hE.set (Nat.le_refl _))
          by_cases hip : i = pos
          · subst hip; rw [getD_lt hlt]; exact hp'
          · exact hall i (by omega)
  exact key _ 0 _ rfl (Nat.zero_le _) (fun i hi => by omega) get_push_eq (Ext.push _ _)

theorem indexFuncE (f : Nat) (hpl : Plain Tryd.prog f) (p : Int → Bool) (hcall' : ∀ (c : Int) (H : Hp) {K : Ending → Hp → Prop}, K (.returned (.bool (p c))) H → HCall Tryd.prog f #[.int .i32 c] H K) (hhigh : ∀ c : Int, 128 ≤ c → p c = true)
    (l : List UInt8) (H : Hp) {K : Ending → Hp → Prop} (h : ∀ H', Ext H H' → K (.returned (.int .i64 (idxOf p l))) H') : HCall Tryd.prog 49 #[.string (B l), .func (.func f) #[] #[]] H K := by
  refine hcall mixed B49 (args := [.string (B l), .func (.func f) #[] #[]]) (by simp) ?_
  simp only [go_sem, reduceCtorEq, Nat.reduceEqDiff, Nat.reduceAdd, c49, r49_0, c49_0, r49_1, callA_fn0 pl69]
  refine indexFunc f hpl p hcall' hhigh l H fun H' hE => ?_
  simp only [go_sem, reduceCtorEq, Nat.reduceEqDiff, Nat.reduceAdd, ]
  exact h H' hE

end Go.Proofs.YtoabcmhiaknjiaaDoor

set_option maxRecDepth 100000
namespace Go.Proofs.YtoabcmhiaknjiaaDoor
open Go.Hw
/-! ### 79 strings.IndexRune -/
def r79_0 : List O := [⟨some 4, .assign (.const (.int .i64 0)), 3, none⟩]
def r79_34 : List O := [⟨some 161, .move (.tmp 1), 21, none⟩,
  ⟨some 162, .binOp .leq 21 (.const (.int .i32 0)) (.tmp 161) 21, 4, none⟩,
  ⟨some 163, .move (.tmp 162), 4, none⟩,
  ⟨some 164, .move (.tmp 1), 21, some (163, true)⟩,
  ⟨some 165, .binOp .lss 21 (.tmp 164) (.const (.int .i32 128)) 21, 4, some (163, true)⟩,
  ⟨some 166, .pick (.tmp 163) (.tmp 165) (.const (.bool false)), 4, none⟩,
  ⟨some 160, .assign (.tmp 166), 4, none⟩]
def r79_35 : List O := [⟨some 167, .move (.tmp 0), 9, none⟩,
  ⟨some 168, .move (.tmp 1), 21, none⟩,
  ⟨some 169, .convert 21 5 (.tmp 168), 5, none⟩,
  ⟨some 170, .call { callee := .value (.func 25), args := #[.tmp 167, .tmp 169], argTypes := #[9, 5] }, 3, none⟩,
  ⟨some 4, .assign (.tmp 170), 3, none⟩]
def r79_36 : List O := [⟨some 172, .move (.tmp 1), 21, none⟩,
  ⟨some 173, .binOp .eql 21 (.tmp 172) (.const (.int .i32 65533)) 21, 4, none⟩,
  ⟨some 171, .assign (.tmp 173), 4, none⟩]
def r79_37 : List O := [⟨some 174, .move (.tmp 0), 9, none⟩,
  ⟨some 175, .range 9 (.tmp 174), 0, none⟩]
def r79_38 : List O := [⟨some 176, .next (.tmp 175) true, 0, none⟩,
  ⟨some 177, .extract (.tmp 176) 0, 4, none⟩]
def r79_39 : List O := [⟨some 178, .extract (.tmp 176) 1, 3, none⟩,
  ⟨some 179, .extract (.tmp 176) 2, 21, none⟩,
  ⟨some 5, .assign (.tmp 178), 3, none⟩,
  ⟨some 6, .assign (.tmp 179), 21, none⟩]
def r79_40 : List O := [⟨some 180, .move (.tmp 6), 21, none⟩,
  ⟨some 181, .binOp .eql 21 (.tmp 180) (.const (.int .i32 65533)) 21, 4, none⟩]
def r79_41 : List O := [⟨some 182, .move (.tmp 5), 3, none⟩,
  ⟨some 4, .assign (.tmp 182), 3, none⟩]
def r79_42 : List O := [⟨some 4, .assign (.const (.int .i64 (-1))), 3, none⟩]
def r79_43 : List O := [⟨some 184, .move (.tmp 1), 21, none⟩,
  ⟨some 185, .call { callee := .value (.func 96), args := #[.tmp 184], argTypes := #[21] }, 4, none⟩,
  ⟨some 186, .unOp .not 4 (.tmp 185), 4, none⟩,
  ⟨some 183, .assign (.tmp 186), 4, none⟩]
def r79_44 : List O := [⟨some 4, .assign (.const (.int .i64 (-1))), 3, none⟩]
def r79_1 : List O := [⟨some 17, .move (.tmp 1), 21, none⟩,
  ⟨some 18, .convert 21 9 (.tmp 17), 9, none⟩,
  ⟨some 7, .assign (.tmp 18), 9, none⟩]
def r79_2 : List O := [⟨some 19, .move (.tmp 7), 9, none⟩,
  ⟨some 20, .call { callee := .builtin .len, args := #[.tmp 19], argTypes := #[9] }, 3, none⟩,
  ⟨some 21, .binOp .sub 3 (.tmp 20) (.const (.int .i64 1)) 3, 3, none⟩,
  ⟨some 8, .assign (.tmp 21), 3, none⟩]
def r79_3 : List O := [⟨some 22, .move (.tmp 8), 3, none⟩,
  ⟨some 9, .assign (.tmp 22), 3, none⟩]
def r79_4 : List O := [⟨some 10, .assign (.const (.int .i64 0)), 3, none⟩]
def r79_5 : List O := [⟨some 23, .move (.tmp 9), 3, none⟩,
  ⟨some 24, .move (.tmp 0), 9, none⟩,
  ⟨some 25, .call { callee := .builtin .len, args := #[.tmp 24], argTypes := #[9] }, 3, none⟩,
  ⟨some 26, .binOp .lss 3 (.tmp 23) (.tmp 25) 3, 4, none⟩]
def r79_6 : List O := [⟨some 27, .move (.tmp 0), 9, none⟩,
  ⟨some 28, .move (.tmp 9), 3, none⟩,
  ⟨some 29, .index 9 (.tmp 27) (.tmp 28), 5, none⟩,
  ⟨some 30, .move (.tmp 7), 9, none⟩,
  ⟨some 31, .move (.tmp 8), 3, none⟩,
  ⟨some 32, .index 9 (.tmp 30) (.tmp 31), 5, none⟩,
  ⟨some 33, .binOp .neq 5 (.tmp 29) (.tmp 32) 5, 4, none⟩]
def r79_7 : List O := [⟨some 34, .move (.tmp 0), 9, none⟩,
  ⟨some 35, .move (.tmp 9), 3, none⟩,
  ⟨some 36, .binOp .add 3 (.tmp 35) (.const (.int .i64 1)) 3, 3, none⟩,
  ⟨some 37, .slice 9 (.tmp 34) (some (.tmp 36)) none none, 9, none⟩,
  ⟨some 38, .move (.tmp 7), 9, none⟩,
  ⟨some 39, .move (.tmp 8), 3, none⟩,
  ⟨some 40, .index 9 (.tmp 38) (.tmp 39), 5, none⟩,
  ⟨some 41, .call { callee := .value (.func 25), args := #[.tmp 37, .tmp 40], argTypes := #[9, 5] }, 3, none⟩,
  ⟨some 11, .assign (.tmp 41), 3, none⟩]
def r79_8 : List O := [⟨some 42, .move (.tmp 11), 3, none⟩,
  ⟨some 43, .binOp .lss 3 (.tmp 42) (.const (.int .i64 0)) 3, 4, none⟩]
def r79_9 : List O := [⟨some 4, .assign (.const (.int .i64 (-1))), 3, none⟩]
def r79_10 : List O := [⟨some 44, .move (.tmp 9), 3, none⟩,
  ⟨some 45, .move (.tmp 11), 3, none⟩,
  ⟨some 46, .binOp .add 3 (.tmp 45) (.const (.int .i64 1)) 3, 3, none⟩,
  ⟨some 47, .binOp .add 3 (.tmp 44) (.tmp 46) 3, 3, none⟩,
  ⟨some 9, .assign (.tmp 47), 3, none⟩]
def r79_11 : List O := [⟨some 12, .assign (.const (.int .i64 1)), 3, none⟩]
def r79_12 : List O := [⟨some 48, .move (.tmp 12), 3, none⟩,
  ⟨some 49, .move (.tmp 7), 9, none⟩,
  ⟨some 50, .call { callee := .builtin .len, args := #[.tmp 49], argTypes := #[9] }, 3, none⟩,
  ⟨some 51, .binOp .lss 3 (.tmp 48) (.tmp 50) 3, 4, none⟩]
def r79_14 : List O := [⟨some 54, .move (.tmp 0), 9, none⟩,
  ⟨some 55, .move (.tmp 9), 3, none⟩,
  ⟨some 56, .move (.tmp 12), 3, none⟩,
  ⟨some 57, .binOp .sub 3 (.tmp 55) (.tmp 56) 3, 3, none⟩,
  ⟨some 58, .index 9 (.tmp 54) (.tmp 57), 5, none⟩,
  ⟨some 59, .move (.tmp 7), 9, none⟩,
  ⟨some 60, .move (.tmp 8), 3, none⟩,
  ⟨some 61, .move (.tmp 12), 3, none⟩,
  ⟨some 62, .binOp .sub 3 (.tmp 60) (.tmp 61) 3, 3, none⟩,
  ⟨some 63, .index 9 (.tmp 59) (.tmp 62), 5, none⟩,
  ⟨some 64, .binOp .neq 5 (.tmp 58) (.tmp 63) 5, 4, none⟩]
def r79_13 : List O := [⟨some 52, .move (.tmp 12), 3, none⟩,
  ⟨some 53, .binOp .add 3 (.tmp 52) (.const (.int .i64 1)) 3, 3, none⟩,
  ⟨some 12, .assign (.tmp 53), 3, none⟩]
def r79_15 : List O := [⟨some 65, .move (.tmp 9), 3, none⟩,
  ⟨some 66, .move (.tmp 8), 3, none⟩,
  ⟨some 67, .binOp .sub 3 (.tmp 65) (.tmp 66) 3, 3, none⟩,
  ⟨some 4, .assign (.tmp 67), 3, none⟩]
def r79_16 : List O := [⟨some 68, .move (.tmp 10), 3, none⟩,
  ⟨some 69, .binOp .add 3 (.tmp 68) (.const (.int .i64 1)) 3, 3, none⟩,
  ⟨some 10, .assign (.tmp 69), 3, none⟩]
def r79_17 : List O := [⟨some 70, .move (.tmp 9), 3, none⟩,
  ⟨some 71, .binOp .add 3 (.tmp 70) (.const (.int .i64 1)) 3, 3, none⟩,
  ⟨some 9, .assign (.tmp 71), 3, none⟩]
def r79_18 : List O := [⟨some 72, .move (.const (.bool true)), 4, none⟩,
  ⟨some 73, .move (.tmp 10), 3, some (72, true)⟩,
  ⟨some 74, .move (.tmp 9), 3, some (72, true)⟩,
  ⟨some 75, .call { callee := .value (.func 83), args := #[.tmp 74], argTypes := #[3] }, 3, some (72, true)⟩,
  ⟨some 76, .binOp .gtr 3 (.tmp 73) (.tmp 75) 3, 4, some (72, true)⟩,
  ⟨some 77, .pick (.tmp 72) (.tmp 76) (.const (.bool false)), 4, none⟩,
  ⟨some 78, .move (.tmp 77), 4, none⟩,
  ⟨some 79, .move (.tmp 9), 3, some (78, true)⟩,
  ⟨some 80, .move (.tmp 0), 9, some (78, true)⟩,
  ⟨some 81, .call { callee := .builtin .len, args := #[.tmp 80], argTypes := #[9] }, 3, some (78, true)⟩,
  ⟨some 82, .binOp .lss 3 (.tmp 79) (.tmp 81) 3, 4, some (78, true)⟩,
  ⟨some 83, .pick (.tmp 78) (.tmp 82) (.const (.bool false)), 4, none⟩,
  ⟨some 84, .move (.tmp 83), 4, none⟩,
  ⟨some 85, .move (.const (.bool false)), 4, some (84, false)⟩,
  ⟨some 86, .move (.tmp 10), 3, some (85, true)⟩,
  ⟨some 87, .move (.tmp 9), 3, some (85, true)⟩,
  ⟨some 88, .binOp .shr 3 (.tmp 87) (.const (.int .u64 4)) 84, 3, some (85, true)⟩,
  ⟨some 89, .binOp .add 3 (.const (.int .i64 4)) (.tmp 88) 3, 3, some (85, true)⟩,
  ⟨some 90, .binOp .geq 3 (.tmp 86) (.tmp 89) 3, 4, some (85, true)⟩,
  ⟨some 91, .pick (.tmp 85) (.tmp 90) (.const (.bool false)), 4, some (84, false)⟩,
  ⟨some 92, .move (.tmp 91), 4, some (84, false)⟩,
  ⟨some 93, .move (.tmp 9), 3, some (92, true)⟩,
  ⟨some 94, .move (.tmp 0), 9, some (92, true)⟩,
  ⟨some 95, .call { callee := .builtin .len, args := #[.tmp 94], argTypes := #[9] }, 3, some (92, true)⟩,
  ⟨some 96, .binOp .lss 3 (.tmp 93) (.tmp 95) 3, 4, some (92, true)⟩,
  ⟨some 97, .pick (.tmp 92) (.tmp 96) (.const (.bool false)), 4, some (84, false)⟩,
  ⟨some 98, .pick (.tmp 84) (.const (.bool true)) (.tmp 97), 4, none⟩]
def r79_19 : List O := [⟨some 4, .assign (.const (.int .i64 (-1))), 3, none⟩]
def r79_20 : List O := [⟨some 99, .move (.tmp 0), 9, none⟩,
  ⟨some 100, .move (.tmp 9), 3, none⟩,
  ⟨some 101, .move (.tmp 8), 3, none⟩,
  ⟨some 102, .binOp .sub 3 (.tmp 100) (.tmp 101) 3, 3, none⟩,
  ⟨some 103, .slice 9 (.tmp 99) (some (.tmp 102)) none none, 9, none⟩,
  ⟨some 104, .move (.tmp 1), 21, none⟩,
  ⟨some 105, .convert 21 9 (.tmp 104), 9, none⟩,
  ⟨some 106, .call { callee := .value (.func 82), args := #[.tmp 103, .tmp 105], argTypes := #[9, 9] }, 3, none⟩,
  ⟨some 13, .assign (.tmp 106), 3, none⟩]
def r79_21 : List O := [⟨some 107, .move (.tmp 13), 3, none⟩,
  ⟨some 108, .binOp .geq 3 (.tmp 107) (.const (.int .i64 0)) 3, 4, none⟩]
def r79_22 : List O := [⟨some 109, .move (.tmp 9), 3, none⟩,
  ⟨some 110, .move (.tmp 13), 3, none⟩,
  ⟨some 111, .binOp .add 3 (.tmp 109) (.tmp 110) 3, 3, none⟩,
  ⟨some 112, .move (.tmp 8), 3, none⟩,
  ⟨some 113, .binOp .sub 3 (.tmp 111) (.tmp 112) 3, 3, none⟩,
  ⟨some 4, .assign (.tmp 113), 3, none⟩]
def r79_23 : List O := [⟨some 114, .move (.tmp 7), 9, none⟩,
  ⟨some 115, .move (.tmp 8), 3, none⟩,
  ⟨some 116, .index 9 (.tmp 114) (.tmp 115), 5, none⟩,
  ⟨some 14, .assign (.tmp 116), 5, none⟩]
def r79_24 : List O := [⟨some 117, .move (.tmp 7), 9, none⟩,
  ⟨some 118, .move (.tmp 8), 3, none⟩,
  ⟨some 119, .binOp .sub 3 (.tmp 118) (.const (.int .i64 1)) 3, 3, none⟩,
  ⟨some 120, .index 9 (.tmp 117) (.tmp 119), 5, none⟩,
  ⟨some 15, .assign (.tmp 120), 5, none⟩]
def r79_25 : List O := [⟨some 121, .move (.tmp 9), 3, none⟩,
  ⟨some 122, .move (.tmp 0), 9, none⟩,
  ⟨some 123, .call { callee := .builtin .len, args := #[.tmp 122], argTypes := #[9] }, 3, none⟩,
  ⟨some 124, .binOp .lss 3 (.tmp 121) (.tmp 123) 3, 4, none⟩]
def r79_27 : List O := [⟨some 127, .move (.tmp 0), 9, none⟩,
  ⟨some 128, .move (.tmp 9), 3, none⟩,
  ⟨some 129, .index 9 (.tmp 127) (.tmp 128), 5, none⟩,
  ⟨some 130, .move (.tmp 14), 5, none⟩,
  ⟨some 131, .binOp .eql 5 (.tmp 129) (.tmp 130) 5, 4, none⟩,
  ⟨some 132, .move (.tmp 131), 4, none⟩,
  ⟨some 133, .move (.tmp 0), 9, some (132, true)⟩,
  ⟨some 134, .move (.tmp 9), 3, some (132, true)⟩,
  ⟨some 135, .binOp .sub 3 (.tmp 134) (.const (.int .i64 1)) 3, 3, some (132, true)⟩,
  ⟨some 136, .index 9 (.tmp 133) (.tmp 135), 5, some (132, true)⟩,
  ⟨some 137, .move (.tmp 15), 5, some (132, true)⟩,
  ⟨some 138, .binOp .eql 5 (.tmp 136) (.tmp 137) 5, 4, some (132, true)⟩,
  ⟨some 139, .pick (.tmp 132) (.tmp 138) (.const (.bool false)), 4, none⟩]
def r79_28 : List O := [⟨some 16, .assign (.const (.int .i64 2)), 3, none⟩]
def r79_29 : List O := [⟨some 140, .move (.tmp 16), 3, none⟩,
  ⟨some 141, .move (.tmp 7), 9, none⟩,
  ⟨some 142, .call { callee := .builtin .len, args := #[.tmp 141], argTypes := #[9] }, 3, none⟩,
  ⟨some 143, .binOp .lss 3 (.tmp 140) (.tmp 142) 3, 4, none⟩]
def r79_31 : List O := [⟨some 146, .move (.tmp 0), 9, none⟩,
  ⟨some 147, .move (.tmp 9), 3, none⟩,
  ⟨some 148, .move (.tmp 16), 3, none⟩,
  ⟨some 149, .binOp .sub 3 (.tmp 147) (.tmp 148) 3, 3, none⟩,
  ⟨some 150, .index 9 (.tmp 146) (.tmp 149), 5, none⟩,
  ⟨some 151, .move (.tmp 7), 9, none⟩,
  ⟨some 152, .move (.tmp 8), 3, none⟩,
  ⟨some 153, .move (.tmp 16), 3, none⟩,
  ⟨some 154, .binOp .sub 3 (.tmp 152) (.tmp 153) 3, 3, none⟩,
  ⟨some 155, .index 9 (.tmp 151) (.tmp 154), 5, none⟩,
  ⟨some 156, .binOp .neq 5 (.tmp 150) (.tmp 155) 5, 4, none⟩]
def r79_30 : List O := [⟨some 144, .move (.tmp 16), 3, none⟩,
  ⟨some 145, .binOp .add 3 (.tmp 144) (.const (.int .i64 1)) 3, 3, none⟩,
  ⟨some 16, .assign (.tmp 145), 3, none⟩]
def r79_32 : List O := [⟨some 157, .move (.tmp 9), 3, none⟩,
  ⟨some 158, .move (.tmp 8), 3, none⟩,
  ⟨some 159, .binOp .sub 3 (.tmp 157) (.tmp 158) 3, 3, none⟩,
  ⟨some 4, .assign (.tmp 159), 3, none⟩]
def r79_26 : List O := [⟨some 125, .move (.tmp 9), 3, none⟩,
  ⟨some 126, .binOp .add 3 (.tmp 125) (.const (.int .i64 1)) 3, 3, none⟩,
  ⟨some 9, .assign (.tmp 126), 3, none⟩]
def r79_33 : List O := [⟨some 4, .assign (.const (.int .i64 (-1))), 3, none⟩]
def c79_0 : A := .seq (.reg r79_35 [4]) .ret
def c79_1 : A := .seq (.reg r79_41 [4]) .ret
def c79_2 : A := .cond (.tmp 181) c79_1 .skip
def c79_3 : A := .seq (.reg r79_40 [5, 175, 181]) c79_2
def c79_4 : A := .seq (.reg r79_39 [5, 6, 175]) c79_3
def c79_5 : A := .block 10 c79_4
def c79_6 : A := .seq (.cond (.tmp 177) .skip (.exit 9)) (.seq (.keep [175, 176]) c79_5)
def c79_7 : A := .seq (.reg r79_38 [175, 176, 177]) c79_6
def c79_8 : A := .seq c79_7 (.keep [175])
def c79_9 : A := .loop c79_8
def c79_10 : A := .block 9 c79_9
def c79_11 : A := .seq (.reg r79_42 [4]) .ret
def c79_12 : A := .seq (.seq (.reg r79_37 [175]) c79_10) c79_11
def c79_13 : A := .seq (.reg r79_44 [4]) .ret
def c79_14 : A := .cond (.tmp 26) .skip (.exit 1)
def c79_15 : A := .seq (.reg r79_9 [4]) .ret
def c79_16 : A := .cond (.tmp 43) c79_15 .skip
def c79_17 : A := .seq (.seq (.reg r79_8 [0, 7, 8, 9, 11, 43]) c79_16) (.seq (.keep [0, 7, 8, 9, 11]) (.reg r79_10 [0, 7, 8, 9]))
def c79_18 : A := .seq (.draw 7 r79_7 [0, 7, 8, 9, 11]) c79_17
def c79_19 : A := .cond (.tmp 33) c79_18 .skip
def c79_20 : A := .cond (.tmp 51) .skip (.exit 3)
def c79_21 : A := .raw (Go.Code.goto 0)
def c79_22 : A := .cond (.tmp 64) c79_21 .skip
def c79_23 : A := .seq (.draw 10 r79_14 [0, 7, 8, 9, 12, 64]) c79_22
def c79_24 : A := .seq (.block 4 c79_23) (.reg r79_13 [0, 7, 8, 9, 12])
def c79_25 : A := .seq (.seq (.reg r79_12 [0, 7, 8, 9, 12, 51]) c79_20) (.seq (.keep [0, 7, 8, 9, 12]) c79_24)
def c79_26 : A := .seq c79_25 (.keep [0, 7, 8, 9, 12])
def c79_27 : A := .loop c79_26
def c79_28 : A := .block 3 c79_27
def c79_29 : A := .raw (Go.Code.goto 1)
def c79_30 : A := .cond (.tmp 98) c79_29 .skip
def c79_31 : A := .seq (.reg r79_18 [0, 7, 8, 9, 98]) c79_30
def c79_32 : A := .seq (.reg r79_17 [0, 7, 8, 9, 10]) c79_31
def c79_33 : A := .seq (.reg r79_16 [0, 7, 8, 9, 10]) c79_32
def c79_34 : A := .seq .skip c79_33
def c79_35 : A := .seq (.seq (.reg r79_15 [4]) .ret) c79_34
def c79_36 : A := .seq (.seq (.reg r79_11 [0, 7, 8, 9, 12]) c79_28) c79_35
def c79_37 : A := .seq (.seq (.draw 6 r79_6 [0, 7, 8, 9, 33]) c79_19) (.seq (.keep [0, 7, 8, 9]) c79_36)
def c79_38 : A := .block 2 c79_37
def c79_39 : A := .seq (.seq (.reg r79_5 [0, 7, 8, 9, 26]) c79_14) (.seq (.keep [0, 7, 8, 9]) c79_38)
def c79_40 : A := .seq c79_39 (.keep [0, 7, 8, 9])
def c79_41 : A := .loop c79_40
def c79_42 : A := .seq (.reg r79_22 [4]) .ret
def c79_43 : A := .cond (.tmp 108) c79_42 .skip
def c79_44 : A := .seq (.reg r79_21 [8, 9, 13, 108]) c79_43
def c79_45 : A := .seq (.reg r79_20 [8, 9, 13]) c79_44
def c79_46 : A := .cond (.tmp 124) .skip (.exit 5)
def c79_47 : A := .cond (.tmp 143) .skip (.exit 7)
def c79_48 : A := .cond (.tmp 156) (.exit 6) .skip
def c79_49 : A := .seq (.draw 10 r79_31 [0, 7, 8, 9, 14, 15, 16, 156]) c79_48
def c79_50 : A := .seq (.block 8 c79_49) (.reg r79_30 [0, 7, 8, 9, 14, 15, 16])
def c79_51 : A := .seq (.seq (.reg r79_29 [0, 7, 8, 9, 14, 15, 16, 143]) c79_47) (.seq (.keep [0, 7, 8, 9, 14, 15, 16]) c79_50)
def c79_52 : A := .seq c79_51 (.keep [0, 7, 8, 9, 14, 15, 16])
def c79_53 : A := .loop c79_52
def c79_54 : A := .block 7 c79_53
def c79_55 : A := .seq (.reg r79_32 [4]) .ret
def c79_56 : A := .seq (.seq (.reg r79_28 [0, 7, 8, 9, 14, 15, 16]) c79_54) c79_55
def c79_57 : A := .cond (.tmp 139) c79_56 .skip
def c79_58 : A := .seq (.reg r79_27 [0, 7, 8, 9, 14, 15, 139]) c79_57
def c79_59 : A := .seq (.block 6 c79_58) (.reg r79_26 [0, 7, 8, 9, 14, 15])
def c79_60 : A := .seq (.seq (.reg r79_25 [0, 7, 8, 9, 14, 15, 124]) c79_46) (.seq (.keep [0, 7, 8, 9, 14, 15]) c79_59)
def c79_61 : A := .seq c79_60 (.keep [0, 7, 8, 9, 14, 15])
def c79_62 : A := .loop c79_61
def c79_63 : A := .block 5 c79_62
def c79_64 : A := .seq .skip c79_63
def c79_65 : A := .seq (.reg r79_24 [0, 7, 8, 9, 14, 15]) c79_64
def c79_66 : A := .seq (.reg r79_23 [0, 7, 8, 9, 14]) c79_65
def c79_67 : A := .seq (.reg r79_33 [4]) .ret
def c79_68 : A := .seq (.cond (.const (.bool true)) c79_45 c79_66) (.seq (.keep []) c79_67)
def c79_69 : A := .seq .skip c79_68
def c79_70 : A := .seq (.seq (.reg r79_19 [4]) .ret) c79_69
def c79_71 : A := .seq (.block 1 c79_41) c79_70
def c79_72 : A := .seq (.reg r79_4 [0, 7, 8, 9]) c79_71
def c79_73 : A := .seq (.reg r79_3 [0, 7, 8, 9]) c79_72
def c79_74 : A := .seq (.reg r79_2 [0, 7, 8]) c79_73
def c79_75 : A := .seq (.reg r79_1 [0, 7]) c79_74
def c79_76 : A := .cond (.tmp 183) c79_13 c79_75
def c79_77 : A := .seq (.reg r79_43 [0, 1, 183]) c79_76
def c79_78 : A := .cond (.tmp 171) c79_12 c79_77
def c79_79 : A := .seq (.reg r79_36 [0, 1, 171]) c79_78
def c79_80 : A := .cond (.tmp 160) c79_0 c79_79
def c79_81 : A := .seq (.reg r79_34 [0, 1, 160]) c79_80
def c79_82 : A := .block 0 c79_81
def c79 : A := .seq (.reg r79_0 [0, 1]) c79_82
theorem B79 : Body Tryd.prog 79 187 [.tmp 4] c79 := ⟨by kernel_rfl, _, _, [(0, [0, 1]), (1, [0, 7]), (2, [0, 7, 8]), (3, [0, 7, 8, 9]), (4, [0, 7, 8, 9]), (5, [0, 7, 8, 9, 26]), (6, [0, 7, 8, 9, 33]), (7, [0, 7, 8, 9, 11]), (8, [0, 7, 8, 9, 11, 43]), (9, [4]), (10, [0, 7, 8, 9]), (11, [0, 7, 8, 9, 12]), (12, [0, 7, 8, 9, 12, 51]), (13, [0, 7, 8, 9, 12]), (14, [0, 7, 8, 9, 12, 64]), (15, [4]), (16, [0, 7, 8, 9, 10]), (17, [0, 7, 8, 9, 10]), (18, [0, 7, 8, 9, 98]), (19, [4]), (20, [8, 9, 13]), (21, [8, 9, 13, 108]), (22, [4]), (23, [0, 7, 8, 9, 14]), (24, [0, 7, 8, 9, 14, 15]), (25, [0, 7, 8, 9, 14, 15, 124]), (26, [0, 7, 8, 9, 14, 15]), (27, [0, 7, 8, 9, 14, 15, 139]), (28, [0, 7, 8, 9, 14, 15, 16]), (29, [0, 7, 8, 9, 14, 15, 16, 143]), (30, [0, 7, 8, 9, 14, 15, 16]), (31, [0, 7, 8, 9, 14, 15, 16, 156]), (32, [4]), (33, [4]), (34, [0, 1, 160]), (35, [4]), (36, [0, 1, 171]), (37, [175]), (38, [175, 176, 177]), (39, [5, 6, 175]), (40, [5, 175, 181]), (41, [4]), (42, [4]), (43, [0, 1, 183]), (44, [4]), (1005, [0, 7, 8, 9]), (1012, [0, 7, 8, 9, 12]), (1025, [0, 7, 8, 9, 14, 15]), (1029, [0, 7, 8, 9, 14, 15, 16]), (1038, [175]), (2006, [0, 7, 8, 9]), (2010, [0, 7, 8, 9, 11]), (2011, [0, 7, 8, 9]), (2014, [0, 7, 8, 9, 12]), (2027, [0, 7, 8, 9, 14, 15]), (2031, [0, 7, 8, 9, 14, 15, 16]), (2033, []), (2039, [175, 176])], Tryd.func79, rfl, rfl, rfl, by kernel_rfl⟩
/-! ### 57 strings.IndexAny -/
def r57_0 : List O := [⟨some 4, .assign (.const (.int .i64 0)), 3, none⟩]
def r57_1 : List O := [⟨some 11, .move (.tmp 1), 9, none⟩,
  ⟨some 12, .binOp .eql 9 (.tmp 11) (.const (.string ⟨#[]⟩)) 9, 4, none⟩]
def r57_2 : List O := [⟨some 4, .assign (.const (.int .i64 (-1))), 3, none⟩]
def r57_3 : List O := [⟨some 13, .move (.tmp 1), 9, none⟩,
  ⟨some 14, .call { callee := .builtin .len, args := #[.tmp 13], argTypes := #[9] }, 3, none⟩,
  ⟨some 15, .binOp .eql 3 (.tmp 14) (.const (.int .i64 1)) 3, 4, none⟩]
def r57_4 : List O := [⟨some 16, .move (.tmp 1), 9, none⟩,
  ⟨some 17, .index 9 (.tmp 16) (.const (.int .i64 0)), 5, none⟩,
  ⟨some 18, .convert 5 21 (.tmp 17), 21, none⟩,
  ⟨some 5, .assign (.tmp 18), 21, none⟩]
def r57_5 : List O := [⟨some 19, .move (.tmp 5), 21, none⟩,
  ⟨some 20, .binOp .geq 21 (.tmp 19) (.const (.int .i32 128)) 21, 4, none⟩]
def r57_6 : List O := [⟨some 5, .assign (.const (.int .i32 65533)), 21, none⟩]
def r57_7 : List O := [⟨some 21, .move (.tmp 0), 9, none⟩,
  ⟨some 22, .move (.tmp 5), 21, none⟩,
  ⟨some 23, .call { callee := .value (.func 79), args := #[.tmp 21, .tmp 22], argTypes := #[9, 21] }, 3, none⟩,
  ⟨some 4, .assign (.tmp 23), 3, none⟩]
def r57_8 : List O := [⟨some 24, .move (.tmp 0), 9, none⟩,
  ⟨some 25, .call { callee := .builtin .len, args := #[.tmp 24], argTypes := #[9] }, 3, none⟩,
  ⟨some 26, .call { callee := .value (.func 80), args := #[.tmp 25], argTypes := #[3] }, 4, none⟩]
def r57_9 : List O := [⟨some 28, .move (.tmp 1), 9, none⟩,
  ⟨some 29, .call { callee := .value (.func 46), args := #[.tmp 28], argTypes := #[9] }, 91, none⟩,
  ⟨some 27, .move (.tmp 29), 91, none⟩,
  ⟨some 30, .extract (.tmp 27) 0, 90, none⟩,
  ⟨some 31, .extract (.tmp 27) 1, 4, none⟩,
  ⟨some 6, .alloc 90, 0, none⟩,
  ⟨none, .store 90 (.tmp 6) (.tmp 30), 0, none⟩,
  ⟨some 7, .assign (.tmp 31), 4, none⟩]
def r57_10 : List O := [⟨some 32, .move (.tmp 7), 4, none⟩]
def r57_11 : List O := [⟨some 8, .assign (.const (.int .i64 0)), 3, none⟩]
def r57_12 : List O := [⟨some 33, .move (.tmp 8), 3, none⟩,
  ⟨some 34, .move (.tmp 0), 9, none⟩,
  ⟨some 35, .call { callee := .builtin .len, args := #[.tmp 34], argTypes := #[9] }, 3, none⟩,
  ⟨some 36, .binOp .lss 3 (.tmp 33) (.tmp 35) 3, 4, none⟩]
def r57_14 : List O := [⟨some 39, .move (.tmp 0), 9, none⟩,
  ⟨some 40, .move (.tmp 8), 3, none⟩,
  ⟨some 41, .index 9 (.tmp 39) (.tmp 40), 5, none⟩,
  ⟨some 42, .call { callee := .value (.func 67), args := #[.tmp 6, .tmp 41], argTypes := #[90, 5] }, 4, none⟩]
def r57_15 : List O := [⟨some 43, .move (.tmp 8), 3, none⟩,
  ⟨some 4, .assign (.tmp 43), 3, none⟩]
def r57_13 : List O := [⟨some 37, .move (.tmp 8), 3, none⟩,
  ⟨some 38, .binOp .add 3 (.tmp 37) (.const (.int .i64 1)) 3, 3, none⟩,
  ⟨some 8, .assign (.tmp 38), 3, none⟩]
def r57_16 : List O := [⟨some 4, .assign (.const (.int .i64 (-1))), 3, none⟩]
def r57_17 : List O := [⟨some 44, .move (.tmp 0), 9, none⟩,
  ⟨some 45, .range 9 (.tmp 44), 0, none⟩]
def r57_18 : List O := [⟨some 46, .next (.tmp 45) true, 0, none⟩,
  ⟨some 47, .extract (.tmp 46) 0, 4, none⟩]
def r57_19 : List O := [⟨some 48, .extract (.tmp 46) 1, 3, none⟩,
  ⟨some 49, .extract (.tmp 46) 2, 21, none⟩,
  ⟨some 9, .assign (.tmp 48), 3, none⟩,
  ⟨some 10, .assign (.tmp 49), 21, none⟩]
def r57_20 : List O := [⟨some 50, .move (.tmp 1), 9, none⟩,
  ⟨some 51, .move (.tmp 10), 21, none⟩,
  ⟨some 52, .call { callee := .value (.func 79), args := #[.tmp 50, .tmp 51], argTypes := #[9, 21] }, 3, none⟩,
  ⟨some 53, .binOp .geq 3 (.tmp 52) (.const (.int .i64 0)) 3, 4, none⟩]
def r57_21 : List O := [⟨some 54, .move (.tmp 9), 3, none⟩,
  ⟨some 4, .assign (.tmp 54), 3, none⟩]
def r57_22 : List O := [⟨some 4, .assign (.const (.int .i64 (-1))), 3, none⟩]
def c57_0 : A := .seq (.reg r57_2 [4]) .ret
def c57_1 : A := .cond (.tmp 12) c57_0 .skip
def c57_2 : A := .cond (.tmp 20) (.reg r57_6 [0, 5]) .skip
def c57_3 : A := .seq (.reg r57_7 [4]) .ret
def c57_4 : A := .seq (.seq (.reg r57_5 [0, 5, 20]) c57_2) (.seq (.keep [0, 5]) c57_3)
def c57_5 : A := .seq (.reg r57_4 [0, 5]) c57_4
def c57_6 : A := .cond (.tmp 15) c57_5 .skip
def c57_7 : A := .cond (.tmp 36) .skip (.exit 0)
def c57_8 : A := .seq (.reg r57_15 [4]) .ret
def c57_9 : A := .cond (.tmp 42) c57_8 .skip
def c57_10 : A := .seq (.reg r57_14 [0, 6, 8, 42]) c57_9
def c57_11 : A := .seq (.block 1 c57_10) (.reg r57_13 [0, 6, 8])
def c57_12 : A := .seq (.seq (.reg r57_12 [0, 6, 8, 36]) c57_7) (.seq (.keep [0, 6, 8]) c57_11)
def c57_13 : A := .seq c57_12 (.keep [0, 6, 8])
def c57_14 : A := .loop c57_13
def c57_15 : A := .block 0 c57_14
def c57_16 : A := .seq (.reg r57_16 [4]) .ret
def c57_17 : A := .seq (.seq (.reg r57_11 [0, 6, 8]) c57_15) c57_16
def c57_18 : A := .cond (.tmp 32) c57_17 .skip
def c57_19 : A := .seq (.reg r57_10 [0, 1, 6, 32]) c57_18
def c57_20 : A := .seq (.reg r57_9 [0, 1, 6, 7]) c57_19
def c57_21 : A := .cond (.tmp 26) c57_20 .skip
def c57_22 : A := .seq (.reg r57_21 [4]) .ret
def c57_23 : A := .cond (.tmp 53) c57_22 .skip
def c57_24 : A := .seq (.reg r57_20 [1, 9, 45, 53]) c57_23
def c57_25 : A := .seq (.reg r57_19 [1, 9, 10, 45]) c57_24
def c57_26 : A := .block 3 c57_25
def c57_27 : A := .seq (.cond (.tmp 47) .skip (.exit 2)) (.seq (.keep [1, 45, 46]) c57_26)
def c57_28 : A := .seq (.reg r57_18 [1, 45, 46, 47]) c57_27
def c57_29 : A := .seq c57_28 (.keep [1, 45])
def c57_30 : A := .loop c57_29
def c57_31 : A := .block 2 c57_30
def c57_32 : A := .seq (.reg r57_22 [4]) .ret
def c57_33 : A := .seq (.seq (.reg r57_17 [1, 45]) c57_31) c57_32
def c57_34 : A := .seq (.seq (.reg r57_8 [0, 1, 26]) c57_21) (.seq (.keep [0, 1]) c57_33)
def c57_35 : A := .seq (.seq (.reg r57_3 [0, 1, 15]) c57_6) (.seq (.keep [0, 1]) c57_34)
def c57_36 : A := .seq (.seq (.reg r57_1 [0, 1, 12]) c57_1) (.seq (.keep [0, 1]) c57_35)
def c57 : A := .seq (.reg r57_0 [0, 1]) c57_36
theorem B57 : Body Tryd.prog 57 55 [.tmp 4] c57 := ⟨by kernel_rfl, _, _, [(0, [0, 1]), (1, [0, 1, 12]), (2, [4]), (3, [0, 1, 15]), (4, [0, 5]), (5, [0, 5, 20]), (6, [0, 5]), (7, [4]), (8, [0, 1, 26]), (9, [0, 1, 6, 7]), (10, [0, 1, 6, 32]), (11, [0, 6, 8]), (12, [0, 6, 8, 36]), (13, [0, 6, 8]), (14, [0, 6, 8, 42]), (15, [4]), (16, [4]), (17, [1, 45]), (18, [1, 45, 46, 47]), (19, [1, 9, 10, 45]), (20, [1, 9, 45, 53]), (21, [4]), (22, [4]), (1012, [0, 6, 8]), (1018, [1, 45]), (2003, [0, 1]), (2007, [0, 5]), (2008, [0, 1]), (2014, [0, 6, 8]), (2017, [0, 1]), (2019, [1, 45, 46])], Tryd.func57, rfl, rfl, rfl, by kernel_rfl⟩
/-! ### 34 strings.ContainsAny -/
def r34_0 : List O := [⟨some 4, .assign (.const (.bool false)), 4, none⟩]
def r34_1 : List O := [⟨some 5, .move (.tmp 0), 9, none⟩,
  ⟨some 6, .move (.tmp 1), 9, none⟩,
  ⟨some 7, .call { callee := .value (.func 57), args := #[.tmp 5, .tmp 6], argTypes := #[9, 9] }, 3, none⟩,
  ⟨some 8, .binOp .geq 3 (.tmp 7) (.const (.int .i64 0)) 3, 4, none⟩,
  ⟨some 4, .assign (.tmp 8), 4, none⟩]
def c34_0 : A := .seq (.reg r34_1 [4]) .ret
def c34 : A := .seq (.reg r34_0 [0, 1]) c34_0
theorem B34 : Body Tryd.prog 34 9 [.tmp 4] c34 := ⟨by kernel_rfl, _, _, [(0, [0, 1]), (1, [4])], Tryd.func34, rfl, rfl, rfl, by kernel_rfl⟩
end Go.Proofs.YtoabcmhiaknjiaaDoor

/- IndexAny and ContainsAny for a blank and an apostrophe, at any bytes. -/
set_option maxRecDepth 100000
set_option linter.unusedSimpArgs false
set_option linter.unusedVariables false
namespace Go.Proofs.YtoabcmhiaknjiaaDoor
open Go.Hw
variable {H : Hp} {K : Ending → Hp → Prop}
theorem uI32 : Tryd.prog.underlying 21 = some (.int .i32) := Tryd.underlying21
theorem uU8' : Tryd.prog.underlying 5 = some (.int .u8) := Tryd.underlying5

/-- Where bytes beyond ASCII are decoded, all that is taken is beyond ASCII. -/
theorem decode_span {l : List UInt8} {i : Nat} {c : UInt8} (h : l[i]? = some c) (hc : 128 ≤ c.toNat) :
    i + (Utf8.decode (B l) i).2 ≤ l.length ∧ ∀ j, i ≤ j → j < i + (Utf8.decode (B l) i).2 → ∃ b, l[j]? = some b ∧ 128 ≤ b.toNat := by
  have hi : i < l.length := by
    rcases Nat.lt_or_ge i l.length with h1 | h1
    · exact h1
    · rw [List.getElem?_eq_none h1] at h; cases h
  have hget : ∀ k, i + k < l.length → ((B l).get! (i + k)) = l.getD (i + k) 0 := by
    intro k hk
    show l.toArray[i + k]! = l.getD (i + k) 0
    rw [List.getD_eq_getElem?_getD, List.getElem?_eq_getElem hk]
    simp [hk]
  have hcont : ∀ k, (i + k < (B l).size && ((B l).get! (i + k)).toNat / 64 == 2) = true → i + k < l.length ∧ ∃ b, l[i + k]? = some b ∧ 128 ≤ b.toNat := by
    intro k hk
    rw [Bool.and_eq_true, decide_eq_true_eq, B_size, beq_iff_eq] at hk
    obtain ⟨h1, h2⟩ := hk
    rw [hget k h1] at h2
    refine ⟨h1, l[i + k], List.getElem?_eq_getElem h1, ?_⟩
    rw [getD_lt h1] at h2
    omega
  have one : i + 1 ≤ l.length ∧ ∀ j, i ≤ j → j < i + 1 → ∃ b, l[j]? = some b ∧ 128 ≤ b.toNat :=
    ⟨hi, fun j h1 h2 => ⟨c, by rw [show j = i by omega]; exact h, hc⟩⟩
  unfold Utf8.decode
  simp only
  split
  · exact one
  · split
    · rename_i h1 h2
      rw [Bool.and_eq_true] at h2
      obtain ⟨l1, b1⟩ := hcont 1 h2.2
      split
      · refine ⟨by show i + 2 ≤ _; omega, fun j h3 h4 => ?_⟩
        have h4 : j < i + 2 := h4
        rcases Nat.lt_or_ge j (i + 1) with h5 | h5
        · exact one.2 j h3 h5
        · rw [show j = i + 1 by omega]; exact b1
      · exact one
    · split
      · rename_i h1 h2 h3
        rw [Bool.and_eq_true, Bool.and_eq_true] at h3
        obtain ⟨l1, b1⟩ := hcont 1 h3.1.2
        obtain ⟨l2, b2⟩ := hcont 2 h3.2
        split
        · refine ⟨by show i + 3 ≤ _; omega, fun j h4 h5 => ?_⟩
          have h5 : j < i + 3 := h5
          rcases Nat.lt_or_ge j (i + 1) with h6 | h6
          · exact one.2 j h4 h6
          · rcases Nat.lt_or_ge j (i + 2) with h7 | h7
            · rw [show j = i + 1 by omega]; exact b1
            · rw [show j = i + 2 by omega]; exact b2
        · exact one
      · split
        · rename_i h1 h2 h3 h4
          rw [Bool.and_eq_true, Bool.and_eq_true, Bool.and_eq_true] at h4
          obtain ⟨l1, b1⟩ := hcont 1 h4.1.1.2
          obtain ⟨l2, b2⟩ := hcont 2 h4.1.2
          obtain ⟨l3, b3⟩ := hcont 3 h4.2
          split
          · refine ⟨by show i + 4 ≤ _; omega, fun j h5 h6 => ?_⟩
            have h6 : j < i + 4 := h6
            rcases Nat.lt_or_ge j (i + 1) with h7 | h7
            · exact one.2 j h5 h7
            · rcases Nat.lt_or_ge j (i + 2) with h8 | h8
              · rw [show j = i + 1 by omega]; exact b1
              · rcases Nat.lt_or_ge j (i + 3) with h9 | h9
                · rw [show j = i + 2 by omega]; exact b2
                · rw [show j = i + 3 by omega]; exact b3
          · exact one
        · exact one

/-- The bytes of a rune beyond ASCII. -/
theorem encode_high (r : Int) (h : 128 ≤ r) : ∃ e : List UInt8, Utf8.encode r = B e ∧ 2 ≤ e.length ∧ e.length ≤ 4 ∧ ∀ b ∈ e, 128 ≤ b.toNat := by
  have key : ∀ n : Nat, 128 ≤ n → n < 256 → 128 ≤ (UInt8.ofNat n).toNat := by
    intro n h1 h2
    rw [UInt8.toNat_ofNat']
    omega
  unfold Utf8.encode
  simp only
  have hc : 128 ≤ (if Utf8.valid r = true then r.toNat else Utf8.runeError) ∧ (if Utf8.valid r = true then r.toNat else Utf8.runeError) ≤ 1114111 := by
    split
    · rename_i hv
      unfold Utf8.valid at hv
      simp only [Bool.or_eq_true, Bool.and_eq_true, decide_eq_true_eq] at hv
      omega
    · unfold Utf8.runeError; omega
  generalize (if Utf8.valid r = true then r.toNat else Utf8.runeError) = c at hc
  rw [if_neg (by omega)]
  split
  · refine ⟨_, rfl, by simp, by simp, ?_⟩
    intro b hb
    simp only [List.mem_cons, List.not_mem_nil, or_false] at hb
    rcases hb with rfl | rfl <;> exact key _ (by omega) (by omega)
  · split
    · refine ⟨_, rfl, by simp, by simp, ?_⟩
      intro b hb
      simp only [List.mem_cons, List.not_mem_nil, or_false] at hb
      rcases hb with rfl | rfl | rfl <;> exact key _ (by omega) (by omega)
    · refine ⟨_, rfl, by simp, by simp, ?_⟩
      intro b hb
      simp only [List.mem_cons, List.not_mem_nil, or_false] at hb
      rcases hb with rfl | rfl | rfl | rfl <;> exact key _ (by omega) (by omega)

theorem cnvA_i2s {P : Program} {K : Value → Hp → Prop} {X : List PanicEntry → Hp → Prop} {H : Hp} {s t : TypeId} {k j : IntKind} {n : Int} (hs : P.underlying s = some (.int k)) (ht : P.underlying t = some .string) : cnvA P s t (.int j n) K X H = K (.string (Utf8.encode n)) H := by
  unfold cnvA hv convert
  show hwx P ((underlying s).bind _) _ _ H = _
  rw [hw_und hs]
  show hwx P ((underlying t).bind _) _ _ H = _
  rw [hw_und ht]
  rfl

theorem validRune_c (r : Int) (h : K (.returned (.bool (Lib.validRune r))) H) : HCall Tryd.prog 96 #[.int .i32 r] H K := HCall.of_same (fun w _ => Tryd.utf8_ValidRune r w) h

theorem indexRune_c (c : Int) (hc0 : 0 ≤ c) (h : ∀ r G, Ext H G → (decide (0 ≤ r) = (decide (c = 32) || decide (c = 39))) → K (.returned (.int .i64 r)) G) : HCall Tryd.prog 79 #[.string (B [32, 39]), .int .i32 c] H K := by
  refine hcall mixed B79 (args := [.string (B [32, 39]), .int .i32 c]) (by simp) ?_
  have e0 : decide ((0 : Int) ≤ c) = true := decide_eq_true hc0
  have none_ : ¬ (c = 32) → ¬ (c = 39) → ∀ G, Ext H G → K (.returned (.int .i64 (-1))) G := by
    intro h1 h2 G hE
    refine h (-1) G hE ?_
    rw [decide_eq_false h1, decide_eq_false h2]; rfl
  by_cases h1 : c < 128
  · simp only [go_sem, reduceCtorEq, Nat.reduceEqDiff, Nat.reduceAdd, c79, r79_0, c79_82, c79_81, r79_34, e0, decide_eq_true h1, c79_80, c79_0, r79_35]
    rw [cnvA_int uI32 uU8', wrap_u8 (by omega) (by omega)]
    simp only [go_sem, reduceCtorEq, Nat.reduceEqDiff, Nat.reduceAdd, callA_fn0 pl25]
    have e : c = ((UInt8.ofNat c.toNat).toNat : Int) := by rw [UInt8.toNat_ofNat']; omega
    generalize UInt8.ofNat c.toNat = u at e
    subst e
    refine indexByte_c [32, 39] u ?_
    simp only [go_sem, reduceCtorEq, Nat.reduceEqDiff, Nat.reduceAdd, ]
    refine h _ H (Ext.refl _) ?_
    unfold Lib.indexByte Lib.indexByte Lib.indexByte
    by_cases hu : u = 32
    · subst hu; rfl
    · by_cases hu2 : u = 39
      · subst hu2; rfl
      · have e1 : ((32 : UInt8) == u) = false := by simpa using fun h => hu h.symm
        have e2 : ((39 : UInt8) == u) = false := by simpa using fun h => hu2 h.symm
        have e3 : ¬ ((u.toNat : Int) = 32) := fun h => hu (UInt8.toNat_inj.1 (by simpa using Int.ofNat_inj.1 h))
        have e4 : ¬ ((u.toNat : Int) = 39) := fun h => hu2 (UInt8.toNat_inj.1 (by simpa using Int.ofNat_inj.1 h))
        rw [e1, e2, decide_eq_false e3, decide_eq_false e4]
        rfl
  have h1f := decide_eq_false h1
  by_cases h2 : c = 65533
  · simp only [go_sem, reduceCtorEq, Nat.reduceEqDiff, Nat.reduceAdd, c79, r79_0, c79_82, c79_81, r79_34, e0, h1f, c79_80, c79_79, r79_36, decide_eq_true h2, c79_78, c79_12, r79_37]
    rw [rngA_string uStr]
    simp only [go_sem, reduceCtorEq, Nat.reduceEqDiff, Nat.reduceAdd, c79_10]
    have hr0 : (H.push (.stringIter (B [32, 39]) 0))[H.size]? = some (.stringIter (B [32, 39]) 0) := by simp
    have hE0 : Ext H (H.push (.stringIter (B [32, 39]) 0)) := Ext.push _ _
    have d0 : Utf8.decode (B [32, 39]) 0 = (32, 1) := decode_low (c := 32) rfl (by decide)
    have d1 : Utf8.decode (B [32, 39]) 1 = (39, 1) := decode_low (c := 39) rfl (by decide)
    refine aw_loopq (L := c79_9) rfl ?_
    simp only [go_sem, reduceCtorEq, Nat.reduceEqDiff, Nat.reduceAdd, c79_8, c79_7, r79_38]
    rw [nxtA_string hr0 (by rw [B_size]; decide), d0]
    simp only [go_sem, reduceCtorEq, Nat.reduceEqDiff, Nat.reduceAdd, c79_6, c79_5, c79_4, r79_39, c79_3, r79_40, show decide (((32 : Nat) : Int) = 65533) = false from rfl, c79_2]
    refine aw_loopq (L := c79_9) rfl ?_
    have hr1 := get_set (o := .stringIter (B [32, 39]) (0 + 1)) hr0
    simp only [go_sem, reduceCtorEq, Nat.reduceEqDiff, Nat.reduceAdd, c79_8, c79_7, r79_38]
    rw [nxtA_string hr1 (by rw [B_size]; decide), d1]
    simp only [go_sem, reduceCtorEq, Nat.reduceEqDiff, Nat.reduceAdd, c79_6, c79_5, c79_4, r79_39, c79_3, r79_40, show decide (((39 : Nat) : Int) = 65533) = false from rfl, c79_2]
    refine aw_loopq (L := c79_9) rfl ?_
    have hr2 := get_set (o := .stringIter (B [32, 39]) (0 + 1 + 1)) hr1
    simp only [go_sem, reduceCtorEq, Nat.reduceEqDiff, Nat.reduceAdd, c79_8, c79_7, r79_38]
    rw [nxtA_string_end hr2 (by rw [B_size]; decide)]
    simp only [go_sem, reduceCtorEq, Nat.reduceEqDiff, Nat.reduceAdd, c79_6, c79_11, r79_42]
    refine none_ (by omega) (by omega) _ ?_
    exact (hE0.set (Nat.le_refl _)).set (Nat.le_refl _)
  have h2f := decide_eq_false h2
  simp only [go_sem, reduceCtorEq, Nat.reduceEqDiff, Nat.reduceAdd, c79, r79_0, c79_82, c79_81, r79_34, e0, h1f, c79_80, c79_79, r79_36, h2f, c79_78, c79_77, r79_43, callA_fn0 pl96]
  refine validRune_c c ?_
  cases hv : Lib.validRune c with
  | false =>
    simp only [go_sem, reduceCtorEq, Nat.reduceEqDiff, Nat.reduceAdd, c79_76, c79_13, r79_44]
    exact none_ (by omega) (by omega) _ (Ext.refl _)
  | true =>
    simp only [go_sem, reduceCtorEq, Nat.reduceEqDiff, Nat.reduceAdd, c79_76, c79_75, r79_1]
    rw [cnvA_i2s uI32 uStr]
    obtain ⟨e, he, hl2, hl4, hb⟩ := encode_high c (by omega)
    rw [he]
    simp only [go_sem, reduceCtorEq, Nat.reduceEqDiff, Nat.reduceAdd, c79_74, r79_2, len_B uStr]
    rw [wrap_i64 (by omega) (by omega)]
    simp only [go_sem, reduceCtorEq, Nat.reduceEqDiff, Nat.reduceAdd, c79_73, r79_3, c79_72, r79_4, c79_71]
    refine aw_loopq (L := c79_41) rfl ?_
    by_cases h3 : e.length = 2
    · have e3 : decide ((e.length : Int) - 1 < (([32, 39] : List UInt8).length : Int)) = true := by rw [h3]; rfl
      simp only [go_sem, reduceCtorEq, Nat.reduceEqDiff, Nat.reduceAdd, c79_40, c79_39, r79_5, len_B uStr, e3, c79_14, c79_38, c79_37, r79_6]
      rw [idxQ_B uStr (by omega) (by rw [h3]; decide)]
      simp only [go_sem, reduceCtorEq, Nat.reduceEqDiff, Nat.reduceAdd, ]
      rw [idxQ_B uStr (by omega) (by omega)]
      simp only [go_sem, reduceCtorEq, Nat.reduceEqDiff, Nat.reduceAdd, ]
      have hl : (e.getD ((e.length : Int) - 1).toNat 0) ∈ e := by
        rw [getD_lt (by omega)]; exact List.getElem_mem _
      have hb2 := hb _ hl
      generalize hu' : e.getD ((e.length : Int) - 1).toNat 0 = u at hb2
      have e4 : ([32, 39] : List UInt8).getD ((e.length : Int) - 1).toNat 0 = 39 := by rw [h3]; rfl
      rw [e4]
      have e5 : decide (((39 : UInt8).toNat : Int) = (u.toNat : Int)) = false := by
        rw [decide_eq_false_iff_not]
        have : (39 : UInt8).toNat = 39 := rfl
        rw [this]; omega
      have hu : (e.getD ((e.length : Int) - 1).toNat 0) = u := hu'
      simp only [go_sem, reduceCtorEq, Nat.reduceEqDiff, Nat.reduceAdd, e5, c79_19, c79_18, r79_7]
      rw [wrap_i64 (by omega) (by omega)]
      rw [sliQ_lo uStr (by omega) (by rw [h3]; decide)]
      simp only [go_sem, reduceCtorEq, Nat.reduceEqDiff, Nat.reduceAdd, ]
      rw [idxQ_B uStr (by omega) (by omega), hu]
      have e6 : ([32, 39] : List UInt8).drop ((e.length : Int) - 1 + 1).toNat = [] := by rw [h3]; rfl
      rw [e6]
      simp only [go_sem, reduceCtorEq, Nat.reduceEqDiff, Nat.reduceAdd, callA_fn0 pl25]
      refine indexByte_c [] u ?_
      have e7 : Lib.indexByte [] u = -1 := rfl
      rw [e7]
      simp only [go_sem, reduceCtorEq, Nat.reduceEqDiff, Nat.reduceAdd, c79_17, r79_8, show decide ((-1 : Int) < 0) = true from rfl, c79_16, c79_15, r79_9]
      exact none_ (by omega) (by omega) _ (Ext.refl _)
    · have e3 : decide ((e.length : Int) - 1 < (([32, 39] : List UInt8).length : Int)) = false := by
        rw [decide_eq_false_iff_not]
        have : (([32, 39] : List UInt8).length : Int) = 2 := rfl
        rw [this]; omega
      simp only [go_sem, reduceCtorEq, Nat.reduceEqDiff, Nat.reduceAdd, c79_40, c79_39, r79_5, len_B uStr, e3, c79_14, c79_70, r79_19]
      exact none_ (by omega) (by omega) _ (Ext.refl _)


theorem shouldUse_c (n : Int) (h : K (.returned (.bool (decide (8 < n)))) H) : HCall Tryd.prog 80 #[.int .i64 n] H K := HCall.of_same (fun w _ => Tryd.strings_shouldUseASCIISet n w) h

/-- Has it a blank or an apostrophe? -/
def hasSq (l : List UInt8) : Bool := l.any fun b => b == 32 || b == 39

theorem indexAny_sq : ∀ l : List UInt8, decide (0 ≤ Lib.indexAny l [32, 39]) = hasSq l
  | [] => rfl
  | b :: r => by
    have ih := indexAny_sq r
    have hge := Lib.indexAny_ge [32, 39] r
    have hs : hasSq (b :: r) = ((b == 32 || b == 39) || hasSq r) := rfl
    unfold Lib.indexAny
    have e : ([32, 39] : List UInt8).contains b = (b == 32 || b == 39) := by simp only [List.contains_cons, List.contains_nil, Bool.or_false]
    rw [hs, e]
    cases (b == 32 || b == 39) with
    | true => rfl
    | false =>
      simp only [Bool.false_eq_true, if_false, Bool.false_or]
      rw [← ih]
      by_cases h1 : Lib.indexAny r [32, 39] = -1
      · rw [h1]; rfl
      · rw [if_neg (by simpa using h1)]
        have : 0 ≤ Lib.indexAny r [32, 39] := by omega
        rw [decide_eq_true this, decide_eq_true (by omega)]

theorem indexAny_c (l : List UInt8) (hl : l.length < 100000000) (h : ∀ r G, Ext H G → (decide (0 ≤ r) = hasSq l) → K (.returned (.int .i64 r)) G) : HCall Tryd.prog 57 #[.string (B l), .string (B [32, 39])] H K := by
  by_cases h8 : 8 < l.length
  · intro w hw
    subst hw
    refine (Tryd.strings_IndexAny_long (Tryd.zeroValue90) (B l) (B [32, 39]) w (by rw [B_size]; decide) (by rw [B_size]; exact h8) (by rw [B_size]; omega) (by rw [B_size]; decide) ?_).mono ?_
    · rw [B_list]
      intro j b hb
      match j, hb with
      | 0, hb => cases hb; decide
      | 1, hb => cases hb; decide
    · rintro e w' ⟨rfl, rfl⟩
      refine ⟨(EnvEq.push w _).trans (EnvEq.push _ _), ?_⟩
      rw [B_list, B_list]
      exact h _ _ ((Ext.push _ _).trans (Ext.push _ _)) (indexAny_sq l)
  · refine hcall mixed B57 (args := [.string (B l), .string (B [32, 39])]) (by simp) ?_
    have e1 : (([32, 39] : List UInt8) == []) = false := rfl
    have e2 : decide ((([32, 39] : List UInt8).length : Int) = 1) = false := rfl
    have e3 : decide ((8 : Int) < (l.length : Int)) = false := by rw [decide_eq_false_iff_not]; omega
    simp only [go_sem, reduceCtorEq, Nat.reduceEqDiff, Nat.reduceAdd, c57, r57_0, c57_36, r57_1, B_lit, B_toList, e1, c57_1, c57_35, r57_3, len_B uStr, e2, c57_6, c57_34, r57_8, callA_fn0 pl80]
    refine shouldUse_c _ ?_
    simp only [go_sem, reduceCtorEq, Nat.reduceEqDiff, Nat.reduceAdd, e3, c57_21, c57_33, r57_17]
    rw [rngA_string uStr]
    simp only [go_sem, reduceCtorEq, Nat.reduceEqDiff, Nat.reduceAdd, c57_31]
    have hr0 : (H.push (.stringIter (B l) 0))[H.size]? = some (.stringIter (B l) 0) := by simp
    have hE0 : Ext H (H.push (.stringIter (B l) 0)) := Ext.push _ _
    refine aw_while (L := c57_30) rfl (fun m F G => ∃ i : Nat, m = l.length - i ∧ F = [(1, .string (B [32, 39])), (45, .pointer (some ⟨H.size, 0, none⟩))] ∧ G[H.size]? = some (.stringIter (B l) i) ∧ Ext H G ∧ i ≤ l.length ∧ hasSq l = hasSq (l.drop i)) (m := l.length)
      ⟨0, rfl, rfl, hr0, hE0, Nat.zero_le _, rfl⟩ ?_
    rintro m F G ih ⟨i, rfl, rfl, hr, hE, hi, hq⟩
    by_cases hlt : i < l.length
    · simp only [go_sem, reduceCtorEq, Nat.reduceEqDiff, Nat.reduceAdd, c57_29, c57_28, r57_18]
      rw [nxtA_string hr (by rw [B_size]; exact hlt)]
      have hc : l[i]? = some l[i] := List.getElem?_eq_getElem hlt
      have hdrop : l.drop i = l[i] :: l.drop (i + 1) := List.drop_eq_getElem_cons hlt
      have hr1 := get_set (o := .stringIter (B l) (i + (Utf8.decode (B l) i).2)) hr
      have hE1 : Ext H (G.setIfInBounds H.size (.stringIter (B l) (i + (Utf8.decode (B l) i).2))) := hE.set (Nat.le_refl _)
      simp only [go_sem, reduceCtorEq, Nat.reduceEqDiff, Nat.reduceAdd, c57_27, c57_26, c57_25, r57_19, c57_24, r57_20, callA_fn0 pl79]
      refine indexRune_c _ (by omega) fun r G2 he2 hr2 => ?_
      have hE2 := hE1.trans he2
      have hr3 := he2.get hr1
      by_cases hlow : l[i].toNat < 128
      · rw [decode_low hc hlow] at hr2 hr3 ⊢
        simp only at hr2 hr3
        have hq2 : hasSq l = ((l[i] == 32 || l[i] == 39) || hasSq (l.drop (i + 1))) := by rw [hq, hdrop]; rfl
        have e4 : decide ((l[i].toNat : Int) = 32) = (l[i] == 32) := by
          rw [Bool.eq_iff_iff]; simp only [decide_eq_true_eq, beq_iff_eq]
          exact ⟨fun h => UInt8.toNat_inj.1 (by simpa using Int.ofNat_inj.1 h), fun h => by rw [h]; rfl⟩
        have e5 : decide ((l[i].toNat : Int) = 39) = (l[i] == 39) := by
          rw [Bool.eq_iff_iff]; simp only [decide_eq_true_eq, beq_iff_eq]
          exact ⟨fun h => UInt8.toNat_inj.1 (by simpa using Int.ofNat_inj.1 h), fun h => by rw [h]; rfl⟩
        rw [e4, e5] at hr2
        cases hyes : (l[i] == 32 || l[i] == 39) with
        | true =>
          rw [hyes] at hr2 hq2
          simp only [go_sem, reduceCtorEq, Nat.reduceEqDiff, Nat.reduceAdd, hr2, c57_23, c57_22, r57_21]
          refine h _ G2 hE2 ?_
          rw [hq2]; simp
        | false =>
          rw [hyes] at hr2 hq2
          simp only [go_sem, reduceCtorEq, Nat.reduceEqDiff, Nat.reduceAdd, hr2, c57_23]
          exact ih _ _ _ (by omega) ⟨i + 1, rfl, rfl, hr3, hE2, by omega, by rw [hq2]; rfl⟩
      · obtain ⟨d1, d2⟩ := Go.Hw.dec_high hc (by omega)
        obtain ⟨s1, s2⟩ := decode_span hc (by omega)
        have e4 : decide (((Utf8.decode (B l) i).1 : Int) = 32) = false := by rw [decide_eq_false_iff_not]; omega
        have e5 : decide (((Utf8.decode (B l) i).1 : Int) = 39) = false := by rw [decide_eq_false_iff_not]; omega
        rw [e4, e5] at hr2
        have skip : ∀ k, k ≤ (Utf8.decode (B l) i).2 → hasSq (l.drop i) = hasSq (l.drop (i + k)) := by
          intro k
          induction k with
          | zero => intro _; rfl
          | succ k ihk =>
            intro hk
            rw [ihk (by omega)]
            obtain ⟨b, hb1, hb2⟩ := s2 (i + k) (by omega) (by omega)
            have hb3 : i + k < l.length := by omega
            rw [List.getElem?_eq_getElem hb3] at hb1
            have hb4 := Option.some.inj hb1
            rw [List.drop_eq_getElem_cons hb3, hb4]
            have hb5 : (b == 32 || b == 39) = false := by
              rw [Bool.or_eq_false_iff]
              constructor
              · rw [beq_eq_false_iff_ne]; intro h; rw [h] at hb2; exact absurd hb2 (by decide)
              · rw [beq_eq_false_iff_ne]; intro h; rw [h] at hb2; exact absurd hb2 (by decide)
            show ((b == 32 || b == 39) || hasSq (l.drop (i + k + 1))) = _
            rw [hb5]
            rfl
        simp only [go_sem, reduceCtorEq, Nat.reduceEqDiff, Nat.reduceAdd, hr2, Bool.or_self, c57_23]
        exact ih _ _ _ (by omega) ⟨i + (Utf8.decode (B l) i).2, rfl, rfl, hr3, hE2, s1, by rw [hq]; exact skip _ (Nat.le_refl _)⟩
    · simp only [go_sem, reduceCtorEq, Nat.reduceEqDiff, Nat.reduceAdd, c57_29, c57_28, r57_18]
      rw [nxtA_string_end hr (by rw [B_size]; exact hlt)]
      simp only [go_sem, reduceCtorEq, Nat.reduceEqDiff, Nat.reduceAdd, c57_27, c57_32, r57_22]
      refine h _ G hE ?_
      rw [hq, List.drop_eq_nil_of_le (by omega)]
      rfl

theorem containsAny_c (l : List UInt8) (hl : l.length < 100000000) (h : ∀ G, Ext H G → K (.returned (.bool (hasSq l))) G) : HCall Tryd.prog 34 #[.string (B l), .string (B [32, 39])] H K := by
  refine hcall mixed B34 (args := [.string (B l), .string (B [32, 39])]) (by simp) ?_
  simp only [go_sem, reduceCtorEq, Nat.reduceEqDiff, Nat.reduceAdd, c34, r34_0, c34_0, r34_1, callA_fn0 pl57]
  refine indexAny_c l hl fun r G hE hr => ?_
  simp only [go_sem, reduceCtorEq, Nat.reduceEqDiff, Nat.reduceAdd, hr]
  exact h G hE
end Go.Proofs.YtoabcmhiaknjiaaDoor

set_option maxRecDepth 100000
namespace Go.Proofs.YtoabcmhiaknjiaaDoor
open Go.Hw
/-! ### 15 dasd/jobtext.Quote -/
def r15_0 : List O := [⟨some 2, .assign (.const (.string ⟨#[]⟩)), 9, none⟩]
def r15_1 : List O := [⟨some 3, .move (.tmp 0), 9, none⟩,
  ⟨some 4, .binOp .neq 9 (.tmp 3) (.const (.string ⟨#[]⟩)) 9, 4, none⟩,
  ⟨some 5, .move (.tmp 4), 4, none⟩,
  ⟨some 6, .move (.tmp 0), 9, some (5, true)⟩,
  ⟨some 7, .call { callee := .value (.func 34), args := #[.tmp 6, .const (.string ⟨#[32, 39]⟩)], argTypes := #[9, 9] }, 4, some (5, true)⟩,
  ⟨some 8, .unOp .not 4 (.tmp 7), 4, some (5, true)⟩,
  ⟨some 9, .pick (.tmp 5) (.tmp 8) (.const (.bool false)), 4, none⟩]
def r15_2 : List O := [⟨some 10, .move (.tmp 0), 9, none⟩,
  ⟨some 2, .assign (.tmp 10), 9, none⟩]
def r15_3 : List O := [⟨some 11, .move (.tmp 0), 9, none⟩,
  ⟨some 12, .call { callee := .value (.func 17), args := #[.tmp 11, .const (.string ⟨#[39]⟩), .const (.string ⟨#[39, 39]⟩)], argTypes := #[9, 9, 9] }, 9, none⟩,
  ⟨some 13, .binOp .add 9 (.const (.string ⟨#[39]⟩)) (.tmp 12) 9, 9, none⟩,
  ⟨some 14, .binOp .add 9 (.tmp 13) (.const (.string ⟨#[39]⟩)) 9, 9, none⟩,
  ⟨some 2, .assign (.tmp 14), 9, none⟩]
def c15_0 : A := .seq (.reg r15_2 [2]) .ret
def c15_1 : A := .cond (.tmp 9) c15_0 .skip
def c15_2 : A := .seq (.reg r15_3 [2]) .ret
def c15_3 : A := .seq (.seq (.reg r15_1 [0, 9]) c15_1) (.seq (.keep [0]) c15_2)
def c15 : A := .seq (.reg r15_0 [0]) c15_3
theorem B15 : Body Tryd.prog 15 15 [.tmp 2] c15 := ⟨by kernel_rfl, _, _, [(0, [0]), (1, [0, 9]), (2, [2]), (3, [2]), (2003, [0])], Tryd.func15, rfl, rfl, rfl, by kernel_rfl⟩
end Go.Proofs.YtoabcmhiaknjiaaDoor

/- The contract of Quote. -/
set_option maxRecDepth 100000
set_option linter.unusedSimpArgs false
set_option linter.unusedVariables false
namespace Go.Proofs.YtoabcmhiaknjiaaDoor
open Go.Hw
variable {H : Hp} {K : Ending → Hp → Prop}

/-- A word as it can be written. -/
def quoteW (l : List UInt8) : List UInt8 := if l ≠ [] ∧ hasSq l = false then l else 39 :: (Lib.replaceAll l [39] [39, 39] ++ [39])

theorem replaceK_len (old new : List UInt8) : ∀ (k : Nat) (s : List UInt8), (Lib.replaceK old new k s).length ≤ s.length + k * new.length
  | 0, s => by simp [Lib.replaceK]
  | k + 1, s => by
    unfold Lib.replaceK
    split
    · omega
    · have := replaceK_len old new k (s.drop ((Lib.index s old).toNat + old.length))
      simp only [List.length_append, List.length_take, List.length_drop, Nat.succ_mul] at this ⊢
      omega

theorem replaceAll_len (s old new : List UInt8) : (Lib.replaceAll s old new).length ≤ s.length + (s.length + 1) * new.length := by
  unfold Lib.replaceAll Lib.replace
  split
  · exact Nat.le_add_right _ _
  · refine Nat.le_trans (replaceK_len old new _ s) ?_
    have : Lib.replaceNum s old (-1) ≤ s.length + 1 := by
      unfold Lib.replaceNum
      have := Lib.count_le s old
      simp
      omega
    exact Nat.add_le_add_left (Nat.mul_le_mul_right _ this) _

theorem quote_c (l : List UInt8) (hl : l.length < 100000000) (g : G0 H) (h : ∀ G, Ext H G → K (.returned (.string (B (quoteW l)))) G) : HCall Tryd.prog 15 #[.string (B l)] H K := by
  refine hcall mixed B15 (args := [.string (B l)]) (by simp) ?_
  have tail : ∀ (G : Hp) (x : Nat), Ext H G → quoteW l = 39 :: (Lib.replaceAll l [39] [39, 39] ++ [39]) → aw Tryd.prog 15 c15_1 (seqQ Tryd.prog 15 (.seq (.keep [0]) c15_2) (retK Tryd.prog [.tmp 2] K)) [(0, .string (B l)), (9, .bool false)] G := by
    intro G x hE hq
    simp only [go_sem, reduceCtorEq, Nat.reduceEqDiff, Nat.reduceAdd, c15_1, c15_2, r15_3, callA_fn0 pl17, B_lit]
    have hcl := Lib.count_le l [39]
    have hrl := replaceAll_len l [39] [39, 39]
    refine replaceAll_c l [39] [39, 39] (by omega) (g.ext hE) (by simp) (by simp; omega) fun G2 he2 => ?_
    simp only [go_sem, reduceCtorEq, Nat.reduceEqDiff, Nat.reduceAdd, ]
    simp only [List.length_cons, List.length_nil] at hrl
    rw [binA_cat (by simp; omega)]
    simp only [go_sem, reduceCtorEq, Nat.reduceEqDiff, Nat.reduceAdd, ]
    rw [binA_cat (by simp; omega)]
    simp only [go_sem, reduceCtorEq, Nat.reduceEqDiff, Nat.reduceAdd, ]
    have := h G2 (hE.trans he2)
    rw [hq] at this
    exact this
  match l, hl, h, tail with
  | [], hl, h, tail =>
    have e1 : (([] : List UInt8) == []) = true := rfl
    simp only [go_sem, reduceCtorEq, Nat.reduceEqDiff, Nat.reduceAdd, c15, r15_0, c15_3, r15_1, B_lit, B_toList, e1]
    exact tail H 0 (Ext.refl _) rfl
  | b :: r, hl, h, tail =>
    have e1 : ((b :: r : List UInt8) == []) = false := rfl
    simp only [go_sem, reduceCtorEq, Nat.reduceEqDiff, Nat.reduceAdd, c15, r15_0, c15_3, r15_1, B_lit, B_toList, e1, callA_fn0 pl34]
    refine containsAny_c (b :: r) hl fun G hE => ?_
    cases hs : hasSq (b :: r) with
    | true =>
      simp only [go_sem, reduceCtorEq, Nat.reduceEqDiff, Nat.reduceAdd, ]
      refine tail G 0 hE ?_
      unfold quoteW
      rw [if_neg (by rw [hs]; simp)]
    | false =>
      simp only [go_sem, reduceCtorEq, Nat.reduceEqDiff, Nat.reduceAdd, c15_1, c15_0, r15_2]
      have := h G hE
      unfold quoteW at this
      rw [if_pos ⟨by simp, hs⟩] at this
      exact this
end Go.Proofs.YtoabcmhiaknjiaaDoor

/- The example of chapter 39: what the functions answer there. -/
set_option maxRecDepth 100000
set_option linter.unusedVariables false
namespace Go.Proofs.YtoabcmhiaknjiaaDoor
open Go.Hw

def exScan : List UInt8 := [115, 116, 101, 112, 32, 83, 49, 32, 112, 114, 111, 103, 114, 97, 109, 32, 115, 111, 114, 116, 32, 112, 97, 114, 109, 32, 39, 98, 121, 32, 49, 32, 56, 39]
def exRepl : List UInt8 := [100, 100, 32, 79, 85, 84, 32, 100, 97, 116, 97, 32, 80, 65, 89, 46, 68, 38, 68, 65, 89, 59, 32, 110, 101, 119]
def exStep : List UInt8 := [115, 116, 101, 112, 32, 83, 49, 32, 112, 114, 111, 103, 114, 97, 109, 32, 99, 111, 112, 121]
def exText : List UInt8 := exStep ++ [10]

theorem exScan_eq : scanF exScan = some [[115, 116, 101, 112], [83, 49], [112, 114, 111, 103, 114, 97, 109], [115, 111, 114, 116], [112, 97, 114, 109], [98, 121, 32, 49, 32, 56]] := by
  have e : exScan.dropWhile blank = exScan := rfl
  unfold scanF
  rw [e, scanT_step _ (by decide) (by decide) (by decide)]
  rw [show ((firstV exScan).2.1.dropWhile blank) = exScan.drop 5 from rfl, scanT_step _ (by decide) (by decide) (by decide)]
  rw [show ((firstV (exScan.drop 5)).2.1.dropWhile blank) = exScan.drop 8 from rfl, scanT_step _ (by decide) (by decide) (by decide)]
  rw [show ((firstV (exScan.drop 8)).2.1.dropWhile blank) = exScan.drop 16 from rfl, scanT_step _ (by decide) (by decide) (by decide)]
  rw [show ((firstV (exScan.drop 16)).2.1.dropWhile blank) = exScan.drop 21 from rfl, scanT_step _ (by decide) (by decide) (by decide)]
  rw [show ((firstV (exScan.drop 21)).2.1.dropWhile blank) = exScan.drop 26 from rfl]
  have e6 : firstV (exScan.drop 26) = ([98, 121, 32, 49, 32, 56], [], true) := by
    show firstV (39 :: [98, 121, 32, 49, 32, 56, 39]) = _
    rw [firstV_quote]
    simp [quoteF]
  rw [scanT_step _ (by decide) (by rw [e6]) (by rw [e6]; simp), e6]
  show scanT [] _ = _
  rw [scanT_nil]
  rfl
theorem exStep_scan : scanF exStep = some [[115, 116, 101, 112], [83, 49], [112, 114, 111, 103, 114, 97, 109], [99, 111, 112, 121]] := by
  have e : exStep.dropWhile blank = exStep := rfl
  unfold scanF
  rw [e, scanT_step _ (by decide) (by decide) (by decide)]
  rw [show ((firstV exStep).2.1.dropWhile blank) = exStep.drop 5 from rfl, scanT_step _ (by decide) (by decide) (by decide)]
  rw [show ((firstV (exStep.drop 5)).2.1.dropWhile blank) = exStep.drop 8 from rfl, scanT_step _ (by decide) (by decide) (by decide)]
  rw [show ((firstV (exStep.drop 8)).2.1.dropWhile blank) = exStep.drop 16 from rfl, scanT_step _ (by decide) (by decide) (by decide)]
  show scanT [] _ = _
  rw [scanT_nil]
  rfl
theorem exRepl_eq : replR (List.lookup · [([68, 65, 89], [55])]) exRepl = ([100, 100, 32, 79, 85, 84, 32, 100, 97, 116, 97, 32, 80, 65, 89, 46, 68, 55, 32, 110, 101, 119], 0) := by decide
theorem exStep_repl : replR (fun x => List.lookup x ([] : List (List UInt8 × List UInt8))) exStep = (exStep, 0) := by decide
theorem exQuote_eq : quoteW [97, 32, 98] = [39, 97, 32, 98, 39] := by decide
theorem exText_lines : linesF exText = [exStep] := by decide
theorem exStep_word : lineW (fun x => List.lookup x ([] : List (List UInt8 × List UInt8))) exStep = .ok [[115, 116, 101, 112], [83, 49], [112, 114, 111, 103, 114, 97, 109], [99, 111, 112, 121]] := by
  unfold lineW
  rw [if_neg (by decide), exStep_repl, if_pos rfl]
  simp only [exStep_scan]
end Go.Proofs.YtoabcmhiaknjiaaDoor

/- What the handlers of jobtext do. -/
set_option linter.unusedVariables false
set_option linter.unusedSimpArgs false
namespace Go.Proofs.YtoabcmhiaknjiaaDoor
open Go.Hw

def putS (k b : List UInt8) : Sym → Sym
  | [] => [(k, b)]
  | p :: r => if k = p.1 then (k, b) :: r else p :: putS k b r
theorem lookup_putS (k b : List UInt8) : ∀ (l : Sym) (x : List UInt8), (putS k b l).lookup x = if x = k then some b else l.lookup x
  | [], x => by
    show ([(k, b)] : Sym).lookup x = _
    rw [List.lookup_cons]
    by_cases h : x = k
    · subst h; simp
    · have : (x == k) = false := by simpa using h
      simp [this, h]
  | p :: r, x => by
    unfold putS
    by_cases hk : k = p.1
    · rw [if_pos hk, List.lookup_cons, List.lookup_cons]
      by_cases h : x = k
      · subst h; simp
      · have e1 : (x == k) = false := by simpa using h
        have e2 : (x == p.1) = false := by rw [← hk]; exact e1
        simp [e1, e2, h]
    · rw [if_neg hk, List.lookup_cons, List.lookup_cons, lookup_putS k b r x]
      by_cases h : x = k
      · subst h
        have e2 : (x == p.1) = false := by simpa using hk
        simp [e2]
      · simp only [if_neg h]
theorem putS_mem {k b : List UInt8} : ∀ {l : Sym} {p : List UInt8 × List UInt8}, p ∈ putS k b l → p = (k, b) ∨ p ∈ l
  | [], p, h => by simp [putS] at h; exact .inl h
  | q :: r, p, h => by
    unfold putS at h
    split at h
    · rcases List.mem_cons.1 h with h | h
      · exact .inl h
      · exact .inr (List.mem_cons_of_mem _ h)
    · rcases List.mem_cons.1 h with h | h
      · exact .inr (by rw [h]; exact List.mem_cons_self ..)
      · rcases putS_mem h with h | h
        · exact .inl h
        · exact .inr (List.mem_cons_of_mem _ h)
theorem lookup_none {α : Type} {k : List UInt8} : ∀ {l : List (List UInt8 × α)}, l.lookup k = none → ∀ p ∈ l, p.1 ≠ k
  | q :: r, h, p, hp => by
    rw [List.lookup_cons] at h
    by_cases hk : k == q.1
    · rw [hk] at h; cases h
    · have hk' : (k == q.1) = false := by simpa using hk
      rw [hk'] at h
      rcases List.mem_cons.1 hp with rfl | hp
      · intro e; rw [e] at hk'; simp at hk'
      · exact lookup_none h p hp
theorem putS_new {k b : List UInt8} : ∀ {l : Sym}, l.lookup k = none → putS k b l = l ++ [(k, b)]
  | [], _ => rfl
  | q :: r, h => by
    have hq := lookup_none h q (List.mem_cons_self ..)
    unfold putS
    rw [if_neg (fun e => hq e.symm)]
    rw [List.lookup_cons] at h
    have hk' : (k == q.1) = false := by simpa using fun e => hq e.symm
    rw [hk'] at h
    rw [putS_new h]
    rfl
theorem lookup_append' {α : Type} (k : List UInt8) : ∀ (a b : List (List UInt8 × α)), (a ++ b).lookup k = (a.lookup k).or (b.lookup k)
  | [], b => rfl
  | q :: r, b => by
    rw [List.cons_append, List.lookup_cons, List.lookup_cons]
    cases k == q.1 with
    | true => rfl
    | false => exact lookup_append' k r b

def valuesF : List (List UInt8) → Sym → Option Sym
  | [], acc => some acc
  | w :: r, acc => if (Lib.cut w [61]).2.2 = false ∨ (acc.lookup (Lib.cut w [61]).1).isSome = true ∨ symF (Lib.cut w [61]).1 = false then none else valuesF r (acc ++ [((Lib.cut w [61]).1, (Lib.cut w [61]).2.1)])

theorem valuesF_cons (w : List UInt8) (r : List (List UInt8)) (acc : Sym) : valuesF (w :: r) acc = if (Lib.cut w [61]).2.2 = false ∨ (acc.lookup (Lib.cut w [61]).1).isSome = true ∨ symF (Lib.cut w [61]).1 = false then none else valuesF r (acc ++ [((Lib.cut w [61]).1, (Lib.cut w [61]).2.1)]) := rfl
theorem lookup_nodup {α : Type} {k : List UInt8} {b : α} : ∀ {l : List (List UInt8 × α)}, (l.map (·.1)).Nodup → (k, b) ∈ l → l.lookup k = some b
  | q :: r, hn, h => by
    rw [List.map_cons, List.nodup_cons] at hn
    rw [List.lookup_cons]
    rcases List.mem_cons.1 h with h | h
    · rw [← h]; simp
    · have : (k == q.1) = false := by
        simp only [beq_eq_false_iff_ne]
        intro e
        exact hn.1 (List.mem_map.2 ⟨_, h, e⟩)
      rw [this]
      exact lookup_nodup hn.2 h
/-- Symbols of a procedure: no name twice. -/
def goodS (l : Sym) : Prop := (l.map (·.1)).Nodup ∧ ∀ q ∈ l, q.2.length ≤ 1000
theorem goodS_snoc {acc : Sym} {k b : List UInt8} (h : goodS acc) (hk : acc.lookup k = none) (hb : b.length ≤ 1000) : goodS (acc ++ [(k, b)]) := by
  refine ⟨?_, ?_⟩
  · rw [List.map_append, List.nodup_append]
    refine ⟨h.1, by simp, ?_⟩
    intro a ha c hc
    obtain ⟨q, hq, rfl⟩ := List.mem_map.1 ha
    simp at hc
    subst hc
    exact lookup_none hk q hq
  · intro q hq
    rcases List.mem_append.1 hq with hq | hq
    · exact h.2 q hq
    · simp at hq; subst hq; exact hb
theorem valuesF_good : ∀ (ws : List (List UInt8)) (acc v : Sym), goodS acc → (∀ w ∈ ws, w.length ≤ 1000) → valuesF ws acc = some v → goodS v
  | [], acc, v, h, _, hv => by cases hv; exact h
  | w :: r, acc, v, h, hw, hv => by
    unfold valuesF at hv
    split at hv
    · cases hv
    · rename_i hn
      refine valuesF_good r _ v (goodS_snoc h ?_ ?_) (fun x hx => hw x (List.mem_cons_of_mem _ hx)) hv
      · cases hl : acc.lookup (Lib.cut w [61]).1 with
        | none => rfl
        | some y => exact absurd (.inr (.inl (by rw [hl]; rfl))) hn
      · have := (cut_len w [61]).1
        have := hw w (List.mem_cons_self ..)
        omega

/-- The first line that has the only word end. -/
def endAt : List Row → Option Nat
  | [] => none
  | x :: r => if scanF x.2 = some [[101, 110, 100]] then some 0 else (endAt r).map (· + 1)
theorem endAt_lt : ∀ {l : List Row} {i : Nat}, endAt l = some i → i < l.length
  | x :: r, i, h => by
    unfold endAt at h
    split at h
    · cases h; simp
    · cases he : endAt r with
      | none => rw [he] at h; cases h
      | some j =>
        rw [he] at h
        cases h
        have := endAt_lt he
        simp; omega

def setF (inn : Bool) (s : RS) (k : Nat) : List (List UInt8) → RS × HR
  | [_, a, b] => if inn = true then (s, ⟨0, k, 9⟩) else if symF a = true then ({ s with syms := (a, b) :: s.syms }, ⟨0, 0, 0⟩) else (s, ⟨0, k, 3⟩)
  | _ => if inn = true then (s, ⟨0, k, 9⟩) else (s, ⟨0, k, 3⟩)
def procF (inn : Bool) (s : RS) (k : Nat) (rest : List Row) : List (List UInt8) → RS × HR
  | _ :: a :: r => if inn = true then (s, ⟨0, k, 9⟩) else if symF a = false then (s, ⟨0, k, 3⟩) else
    match valuesF r [] with
    | none => (s, ⟨0, k, 3⟩)
    | some v => if (s.procs.lookup a).isSome = true then (s, ⟨0, k, 5⟩) else
      match endAt rest with
      | none => (s, ⟨0, k, 3⟩)
      | some i => ({ s with procs := s.procs ++ [(a, v, rest.take i)] }, ⟨i + 1, 0, 0⟩)
  | _ => if inn = true then (s, ⟨0, k, 9⟩) else (s, ⟨0, k, 3⟩)
/-- LI: what a line inside of a call comes to. -/
def callF (LI : List UInt8 → RS → Row → List Row → RS × HR) (inn : Bool) (s : RS) (k : Nat) : List (List UInt8) → RS × HR
  | _ :: a :: b :: r => if inn = true then (s, ⟨0, k, 9⟩) else if symF a = false ∨ symF b = false then (s, ⟨0, k, 3⟩) else
    match valuesF r [] with
    | none => (s, ⟨0, k, 3⟩)
    | some v => match s.procs.lookup b with
      | none => (s, ⟨0, k, 4⟩)
      | some (pv, rows) => if (v.all fun q => (pv.lookup q.1).isSome) = true then
          ({ (readT (LI a) rows.length { s with syms := v ++ (pv ++ s.syms) } rows).1 with syms := s.syms }, ⟨0, (readT (LI a) rows.length { s with syms := v ++ (pv ++ s.syms) } rows).2.1, (readT (LI a) rows.length { s with syms := v ++ (pv ++ s.syms) } rows).2.2⟩)
        else (s, ⟨0, k, 4⟩)
  | _ => if inn = true then (s, ⟨0, k, 9⟩) else (s, ⟨0, k, 3⟩)
/-- A line of words. -/
def hfF (LI : List UInt8 → RS → Row → List Row → RS × HR) (inn : Bool) (call : List UInt8) (s : RS) (k : Nat) (rest : List Row) (ws : List (List UInt8)) : RS × HR :=
  if ws.head? = some [115, 101, 116] then setF inn s k ws
  else if ws.head? = some [112, 114, 111, 99] then procF inn s k rest ws
  else if ws.head? = some [101, 110, 100] then (s, ⟨0, k, 9⟩)
  else if ws.head? = some [99, 97, 108, 108] then callF LI inn s k ws
  else ({ s with out := (stmF s.out call k rest ws).1 }, (stmF s.out call k rest ws).2)
/-- Words that have a handler. -/
def knownW (w : List UInt8) : Bool := w == [115, 101, 116] || (w == [112, 114, 111, 99] || (w == [101, 110, 100] || (w == [99, 97, 108, 108] || (w == [106, 111, 98] || (w == [115, 116, 101, 112] || w == [100, 100])))))
/-- A line inside of a call, and outside. -/
def LFi (call : List UInt8) (s : RS) (x : Row) (rest : List Row) : RS × HR := lineR s x.1 x.2 knownW (hfF (fun _ s _ _ => (s, ⟨0, 0, 0⟩)) true call s x.1 rest)
def LFo (s : RS) (x : Row) (rest : List Row) : RS × HR := lineR s x.1 x.2 knownW (hfF LFi false [] s x.1 rest)
end Go.Proofs.YtoabcmhiaknjiaaDoor

set_option maxRecDepth 100000
namespace Go.Proofs.YtoabcmhiaknjiaaDoor
open Go.Hw
/-! ### 26 (*strings.Builder).WriteString -/
def r26_0 : List O := [⟨some 4, .assign (.const (.int .i64 0)), 3, none⟩,
  ⟨some 5, .assign (.const .nilIface), 57, none⟩]
def r26_1 : List O := [⟨some 6, .move (.tmp 0), 51, none⟩,
  ⟨some 7, .call { callee := .value (.func 52), args := #[.tmp 6], argTypes := #[51] }, 0, none⟩]
def r26_2 : List O := [⟨some 8, .move (.tmp 0), 51, none⟩,
  ⟨some 9, .move (.tmp 0), 51, none⟩,
  ⟨some 10, .nilCheck (.tmp 9), 0, none⟩,
  ⟨some 11, .fieldAddr 54 (.tmp 10) 1, 0, none⟩,
  ⟨some 12, .load 52 (.tmp 11), 52, none⟩,
  ⟨some 13, .move (.tmp 1), 9, none⟩,
  ⟨some 14, .call { callee := .builtin .append, args := #[.tmp 12, .tmp 13], argTypes := #[52, 9] }, 52, none⟩,
  ⟨some 15, .nilCheck (.tmp 8), 0, none⟩,
  ⟨some 16, .fieldAddr 54 (.tmp 15) 1, 0, none⟩,
  ⟨none, .store 52 (.tmp 16) (.tmp 14), 0, none⟩]
def r26_3 : List O := [⟨some 17, .move (.tmp 1), 9, none⟩,
  ⟨some 18, .call { callee := .builtin .len, args := #[.tmp 17], argTypes := #[9] }, 3, none⟩,
  ⟨some 4, .assign (.tmp 18), 3, none⟩,
  ⟨some 5, .assign (.const .nilIface), 57, none⟩]
def c26_0 : A := .seq (.reg r26_3 [4, 5]) .ret
def c26_1 : A := .seq (.reg r26_2 [1]) c26_0
def c26_2 : A := .seq (.reg r26_1 [0, 1]) c26_1
def c26 : A := .seq (.reg r26_0 [0, 1]) c26_2
theorem B26 : Body Tryd.prog 26 19 [.tmp 4, .tmp 5] c26 := ⟨by kernel_rfl, _, _, [(0, [0, 1]), (1, [0, 1]), (2, [1]), (3, [4, 5])], Tryd.func26, rfl, rfl, rfl, by kernel_rfl⟩
/-! ### 28 (*strings.Builder).WriteByte -/
def r28_0 : List O := [⟨some 4, .assign (.const .nilIface), 57, none⟩]
def r28_1 : List O := [⟨some 5, .move (.tmp 0), 51, none⟩,
  ⟨some 6, .call { callee := .value (.func 52), args := #[.tmp 5], argTypes := #[51] }, 0, none⟩]
def r28_2 : List O := [⟨some 7, .move (.tmp 0), 51, none⟩,
  ⟨some 8, .move (.tmp 0), 51, none⟩,
  ⟨some 9, .nilCheck (.tmp 8), 0, none⟩,
  ⟨some 10, .fieldAddr 54 (.tmp 9) 1, 0, none⟩,
  ⟨some 11, .load 52 (.tmp 10), 52, none⟩,
  ⟨some 12, .move (.tmp 1), 5, none⟩,
  ⟨some 13, .buildSlice 52 1 #[(0, .tmp 12)], 52, none⟩,
  ⟨some 14, .call { callee := .builtin .append, args := #[.tmp 11, .tmp 13], argTypes := #[52, 52] }, 52, none⟩,
  ⟨some 15, .nilCheck (.tmp 7), 0, none⟩,
  ⟨some 16, .fieldAddr 54 (.tmp 15) 1, 0, none⟩,
  ⟨none, .store 52 (.tmp 16) (.tmp 14), 0, none⟩]
def r28_3 : List O := [⟨some 4, .assign (.const .nilIface), 57, none⟩]
def c28_0 : A := .seq (.reg r28_3 [4]) .ret
def c28_1 : A := .seq (.reg r28_2 []) c28_0
def c28_2 : A := .seq (.reg r28_1 [0, 1]) c28_1
def c28 : A := .seq (.reg r28_0 [0, 1]) c28_2
theorem B28 : Body Tryd.prog 28 17 [.tmp 4] c28 := ⟨by kernel_rfl, _, _, [(0, [0, 1]), (1, [0, 1]), (2, []), (3, [4])], Tryd.func28, rfl, rfl, rfl, by kernel_rfl⟩
/-! ### 32 (*strings.Builder).String -/
def r32_0 : List O := [⟨some 2, .assign (.const (.string ⟨#[]⟩)), 9, none⟩]
def r32_1 : List O := [⟨some 3, .move (.tmp 0), 51, none⟩,
  ⟨some 4, .nilCheck (.tmp 3), 0, none⟩,
  ⟨some 5, .fieldAddr 54 (.tmp 4) 1, 0, none⟩,
  ⟨some 6, .load 52 (.tmp 5), 52, none⟩,
  ⟨some 7, .call { callee := .builtin .unsafeSliceData, args := #[.tmp 6], argTypes := #[52] }, 97, none⟩,
  ⟨some 8, .move (.tmp 0), 51, none⟩,
  ⟨some 9, .nilCheck (.tmp 8), 0, none⟩,
  ⟨some 10, .fieldAddr 54 (.tmp 9) 1, 0, none⟩,
  ⟨some 11, .load 52 (.tmp 10), 52, none⟩,
  ⟨some 12, .call { callee := .builtin .len, args := #[.tmp 11], argTypes := #[52] }, 3, none⟩,
  ⟨some 13, .call { callee := .builtin .unsafeString, args := #[.tmp 7, .tmp 12], argTypes := #[97, 3] }, 9, none⟩,
  ⟨some 2, .assign (.tmp 13), 9, none⟩]
def c32_0 : A := .seq (.draw 10 r32_1 [2]) .ret
def c32 : A := .seq (.reg r32_0 [0]) c32_0
theorem B32 : Body Tryd.prog 32 14 [.tmp 2] c32 := ⟨by kernel_rfl, _, _, [(0, [0]), (1, [2])], Tryd.func32, rfl, rfl, rfl, by kernel_rfl⟩
/-! ### 31 (*strings.Builder).Len -/
def r31_0 : List O := [⟨some 2, .assign (.const (.int .i64 0)), 3, none⟩]
def r31_1 : List O := [⟨some 3, .move (.tmp 0), 51, none⟩,
  ⟨some 4, .nilCheck (.tmp 3), 0, none⟩,
  ⟨some 5, .fieldAddr 54 (.tmp 4) 1, 0, none⟩,
  ⟨some 6, .load 52 (.tmp 5), 52, none⟩,
  ⟨some 7, .call { callee := .builtin .len, args := #[.tmp 6], argTypes := #[52] }, 3, none⟩,
  ⟨some 2, .assign (.tmp 7), 3, none⟩]
def c31_0 : A := .seq (.reg r31_1 [2]) .ret
def c31 : A := .seq (.reg r31_0 [0]) c31_0
theorem B31 : Body Tryd.prog 31 8 [.tmp 2] c31 := ⟨by kernel_rfl, _, _, [(0, [0]), (1, [2])], Tryd.func31, rfl, rfl, rfl, by kernel_rfl⟩
end Go.Proofs.YtoabcmhiaknjiaaDoor

/- The shelf's contracts for writing into a strings.Builder, laid from the numbers of strings.Replace's closure. -/
set_option linter.unusedVariables false
set_option linter.unusedSimpArgs false
set_option maxRecDepth 100000
namespace Go.Proofs
theorem Tryd.layz240 : Go.Proofs.Lays.n240 Tryd.prog Tryd.lays154_ren := {mixed := Tryd.lays154.mixed, f240 := Tryd.lays154.f240, f276 := Tryd.lays154.f276, t0 := Tryd.lays154.t0, a0 := Tryd.lays154.a0, z0 := Tryd.lays154.z0, v0 := Tryd.lays154.v0, t4 := Tryd.lays154.t4, a4 := Tryd.lays154.a4, z4 := Tryd.lays154.z4, v4 := Tryd.lays154.v4, t9 := Tryd.lays154.t9, a9 := Tryd.lays154.a9, z9 := Tryd.lays154.z9, v9 := Tryd.lays154.v9, t20 := Tryd.lays154.t20, a20 := Tryd.lays154.a20, z20 := Tryd.lays154.z20, v20 := Tryd.lays154.v20, t70 := Tryd.lays154.t70, a70 := Tryd.lays154.a70, z70 := Tryd.lays154.z70, v70 := Tryd.lays154.v70, t72 := Tryd.lays154.t72, a72 := Tryd.lays154.a72, z72 := Tryd.lays154.z72, v72 := Tryd.lays154.v72, t164 := Tryd.lays154.t164, a164 := Tryd.lays154.a164, z164 := Tryd.lays154.z164, v164 := Tryd.lays154.v164 }
end Go.Proofs

namespace Go.Proofs.YtoabcmhiaknjiaaDoor
open Go.Hw Go.RowKit
/-- Below B0 all is as it was. -/
def BelowH (B0 : Nat) (H H' : Hp) : Prop := H.size ≤ H'.size ∧ ∀ k, k < B0 → H'[k]? = H[k]?
/-- A strings.Builder at block b that holds bs; it and its buffer lie at or behind B0. -/
def Bld (B0 b : Nat) (bs : List UInt8) (H : Hp) : Prop :=
  B0 ≤ b ∧ ∃ p v, (p = .pointer none ∨ p = .pointer (some ⟨b, 0, none⟩)) ∧ H[b]? = some (.cells #[p, v] 54 (0, 0)) ∧ OwnS (fun g => B0 ≤ g ∧ g ≠ b) 5 1 H v bs.length (bytesV bs) ∧ (v = .slice none 0 0 ∨ ∃ a n c, v = .slice (some a) n c ∧ c ≠ 0)
theorem Bld.ext {B0 b : Nat} {bs : List UInt8} {H H' : Hp} (h : Bld B0 b bs H) (e : Ext H H') : Bld B0 b bs H' := by
  obtain ⟨h0, p, v, h1, h2, h3, h4⟩ := h
  exact ⟨h0, p, v, h1, e.get h2, h3.ext e, h4⟩
theorem Bld.new {H : Hp} : Bld H.size H.size [] (H.push (.cells #[.pointer none, .slice none 0 0] 54 (0, 0))) :=
  ⟨Nat.le_refl _, .pointer none, .slice none 0 0, .inl rfl, get_push_eq, OwnS.nil _ _ _ _, .inl rfl⟩
theorem _root_.Go.Hw.Ext.belowH {H G G' : Hp} (h : Ext H G) (b : BelowH H.size G G') : Ext H G' := ⟨Nat.le_trans h.size b.1, fun k hk => (b.2 k hk).trans (h.blk k hk)⟩

section
variable {H : Hp} {K : Ending → Hp → Prop} {B0 b : Nat} {bs : List UInt8}
theorem set_self {H : Hp} {b : Nat} {o : Obj} (h : H[b]? = some o) : H.setIfInBounds b o = H := by
  apply Array.ext_getElem?
  intro j
  rw [Array.getElem?_setIfInBounds]
  by_cases hj : b = j
  · subst hj; have := get_lt h; simp [get_eq h, this]
  · simp [hj]
theorem copyCheck_c {p v : Value} (hp : p = .pointer none ∨ p = .pointer (some ⟨b, 0, none⟩)) (hb : H[b]? = some (.cells #[p, v] 54 (0, 0))) (k : K (.returned (.tuple #[])) (H.setIfInBounds b (.cells #[.pointer (some ⟨b, 0, none⟩), v] 54 (0, 0)))) :
    HCall Tryd.prog 52 #[.pointer (some ⟨b, 0, none⟩)] H K := by
  intro w hw
  subst hw
  have c0 : w.cell? ⟨b, 0, none⟩ = some p := by rw [cellH_eq, cell_of_blk hb]; rfl
  rcases hp with rfl | rfl
  · refine (Any.Builder_copyCheck_fresh Tryd.layz240 Tryd.Builder_Extra_154.toX72 b w c0 (by simp [World.shape?, hb]; rfl) (by simp [World.frozen?, hb])).mono ?_
    rintro e w' ⟨rfl, rfl⟩
    refine ⟨EnvEq.modify w _ _ fun d => rfl, ?_⟩
    have : (w.setCell ⟨b, 0, none⟩ (.pointer (some ⟨b, 0, none⟩))).heap = w.heap.setIfInBounds b (.cells #[.pointer (some ⟨b, 0, none⟩), v] 54 (0, 0)) := setCell_blk hb
    rw [this]
    exact k
  · refine (Any.Builder_copyCheck_used Tryd.layz240 Tryd.Builder_Extra_154.toX72 b w c0).mono ?_
    rintro e w' ⟨rfl, rfl⟩
    rw [set_self hb] at k
    exact ⟨.refl _, k⟩

theorem uBy : Tryd.prog.underlying 52 = some (.slice 5) := Tryd.underlying52
theorem bld_put {B0 b : Nat} {bs' : List UInt8} {G : Hp} {p v' : Value} (h0 : B0 ≤ b) (hG : G[b]? = some (.cells #[.pointer (some ⟨b, 0, none⟩), p] 54 (0, 0))) (own : OwnS (fun g => B0 ≤ g ∧ g ≠ b) 5 1 G v' bs'.length (bytesV bs')) (hv : v' = .slice none 0 0 ∨ ∃ a n c, v' = .slice (some a) n c ∧ c ≠ 0) :
    Bld B0 b bs' (G.setIfInBounds b (.cells #[.pointer (some ⟨b, 0, none⟩), v'] 54 (0, 0))) := by
  refine ⟨h0, _, v', .inr rfl, ?_, ?_, hv⟩
  · rw [Array.getElem?_setIfInBounds]
    have := get_lt hG
    simp [this]
  · refine own.keep (S := fun x => x = b) ⟨by simp, fun i hi hn => ?_⟩ fun g hg hgb => (own.ok g hg).2 hgb
    rw [Array.getElem?_setIfInBounds_ne (fun e => hn e.symm)]

theorem bWriteString (s : List UInt8) (h : Bld B0 b bs H) (hl : bs.length + s.length ≤ 140000000000000) (hB : B0 ≤ H.size) (k : ∀ H', Bld B0 b (bs ++ s) H' → BelowH B0 H H' → K (.returned (.tuple #[.int .i64 s.length, .nilIface])) H') :
    HCall Tryd.prog 26 #[.pointer (some ⟨b, 0, none⟩), .string (B s)] H K := by
  obtain ⟨h0, p, v, hp, hb, own, hv⟩ := h
  refine hcall mixed B26 (args := [.pointer (some ⟨b, 0, none⟩), .string (B s)]) (by simp) ?_
  simp only [go_sem, reduceCtorEq, Nat.reduceEqDiff, Nat.reduceAdd, c26, r26_0, c26_2, r26_1, callA_fn0 pl52]
  refine copyCheck_c hp hb ?_
  have hlt := get_lt hb
  have hG1 : (H.setIfInBounds b (.cells #[.pointer (some ⟨b, 0, none⟩), v] 54 (0, 0)))[b]? = some (.cells #[.pointer (some ⟨b, 0, none⟩), v] 54 (0, 0)) := by
    rw [Array.getElem?_setIfInBounds]; simp [hlt]
  have own1 : OwnS (fun g => B0 ≤ g ∧ g ≠ b) 5 1 (H.setIfInBounds b (.cells #[.pointer (some ⟨b, 0, none⟩), v] 54 (0, 0))) v bs.length (bytesV bs) :=
    own.keep (S := fun x => x = b) ⟨by simp, fun i hi hn => by rw [Array.getElem?_setIfInBounds_ne (fun e => hn e.symm)]⟩ fun g hg hgb => (own.ok g hg).2 hgb
  have hBel : BelowH B0 H (H.setIfInBounds b (.cells #[.pointer (some ⟨b, 0, none⟩), v] 54 (0, 0))) := ⟨by simp, fun k hk => by rw [Array.getElem?_setIfInBounds_ne (by omega)]⟩
  have hsz1 : (H.setIfInBounds b (.cells #[.pointer (some ⟨b, 0, none⟩), v] 54 (0, 0))).size = H.size := by simp
  generalize (H.setIfInBounds b (.cells #[.pointer (some ⟨b, 0, none⟩), v] 54 (0, 0))) = G at *
  simp only [go_sem, reduceCtorEq, Nat.reduceEqDiff, Nat.reduceAdd, c26_1, r26_2, fadA_ok fld54_1, add_none]
  rw [loadA_cell (v := v) uBy rfl (by rw [cell_of_blk hG1]; rfl)]
  simp only [go_sem, reduceCtorEq, Nat.reduceEqDiff, Nat.reduceAdd, ]
  have fin : ∀ (v' : Value) (G' : Hp), G'[b]? = some (.cells #[.pointer (some ⟨b, 0, none⟩), v] 54 (0, 0)) → OwnS (fun g => B0 ≤ g ∧ g ≠ b) 5 1 G' v' (bs ++ s).length (bytesV (bs ++ s)) → (v' = .slice none 0 0 ∨ ∃ a n c, v' = .slice (some a) n c ∧ c ≠ 0) → BelowH B0 H G' →
      K (.returned (.tuple #[.int .i64 s.length, .nilIface])) (G'.setIfInBounds b (.cells #[.pointer (some ⟨b, 0, none⟩), v'] 54 (0, 0))) := by
    intro v' G' g1 g2 g3 g4
    refine k _ (bld_put h0 g1 g2 g3) ⟨by simpa using g4.1, fun j hj => ?_⟩
    rw [Array.getElem?_setIfInBounds_ne (by omega)]
    exact g4.2 j hj
  have hput : ∀ (v' : Value) (G' : Hp), (∃ a n c, v' = .slice a n c) → G'[b]? = some (.cells #[.pointer (some ⟨b, 0, none⟩), v] 54 (0, 0)) → putH G' ⟨b, 1, none⟩ 0 v'.cells.toList = some (G'.setIfInBounds b (.cells #[.pointer (some ⟨b, 0, none⟩), v'] 54 (0, 0))) := by
    rintro v' G' ⟨a, n, c, rfl⟩ hg
    have := putH_blk (b := b) (off := 1) (e := 54) (f := (0, 0)) [.slice a n c] 0 G' #[.pointer (some ⟨b, 0, none⟩), v] hg (by simp [oneC]) (by simp) (by simp)
    simpa [Value.cells, splice] using this
  by_cases hs : s = []
  · subst hs
    obtain ⟨a, n, c, rfl⟩ : ∃ a n c, v = .slice a n c := by
      obtain ⟨a, c, h⟩ := own.form; exact ⟨a, _, c, h⟩
    have hnc : n ≤ c := by
      rcases own with ⟨h, _, _⟩ | ⟨b', cap, c', f, h1, _, _, _, h5, _⟩
      · cases h; omega
      · cases h1; exact h5
    rw [append_empty hnc uBy ty5 uStr rfl]
    simp only [go_sem, reduceCtorEq, Nat.reduceEqDiff, Nat.reduceAdd, fadA_ok fld54_1, add_none]
    rw [storeA_put ty52 rfl (hput _ _ ⟨_, _, _, rfl⟩ hG1)]
    simp only [go_sem, reduceCtorEq, Nat.reduceEqDiff, Nat.reduceAdd, c26_0, r26_3, len_B uStr]
    exact fin _ _ hG1 (by simpa using own1) hv hBel
  · have hs0 := List.length_pos_iff.2 hs
    refine append_own (ok := fun g => B0 ≤ g ∧ g ≠ b) own1 (l2 := bytesV s) (m := s.length) (.inr (.inr ⟨B s, rfl, (B_size s).symm, by rw [B_list]; rfl⟩)) uBy ty5 uStr rfl rfl (fun _ => rfl) (by intro u hu; simp only [bytesV, List.mem_map] at hu; obtain ⟨c, _, rfl⟩ := hu; rfl) (fun g hg => ⟨by omega, by omega⟩) (by omega) (by omega) ?_
    intro v' G' o1 o2 o3
    have hG2 : G'[b]? = some (.cells #[.pointer (some ⟨b, 0, none⟩), v] 54 (0, 0)) := o2.get hG1 (fun hb' => (own1.ok b hb').2 rfl)
    obtain ⟨a, c, rfl⟩ := o1.form
    have hc : a.isSome = true ∧ c ≠ 0 := by
      rcases o1 with ⟨h, h2, _⟩ | ⟨b', cap, c', f, h1, _, _, _, h5, _⟩
      · omega
      · cases h1; exact ⟨rfl, by omega⟩
    simp only [go_sem, reduceCtorEq, Nat.reduceEqDiff, Nat.reduceAdd, fadA_ok fld54_1, add_none]
    rw [storeA_put ty52 rfl (hput _ _ ⟨_, _, _, rfl⟩ hG2)]
    simp only [go_sem, reduceCtorEq, Nat.reduceEqDiff, Nat.reduceAdd, c26_0, r26_3, len_B uStr]
    refine fin _ _ hG2 ?_ ?_ ⟨Nat.le_trans hBel.1 o2.size, fun j hj => ?_⟩
    · have e1 : bytesV (bs ++ s) = bytesV bs ++ bytesV s := by simp [bytesV]
      rw [e1, List.length_append]; exact o1
    · obtain ⟨a, rfl⟩ := Option.isSome_iff_exists.1 hc.1
      exact .inr ⟨a, _, c, rfl, hc.2⟩
    · rw [← hBel.2 j hj]
      refine o2.blk j (by omega) fun hb' => ?_
      have := (own1.ok j hb').1
      omega

theorem bWriteByte (c : UInt8) (h : Bld B0 b bs H) (hl : bs.length + 1 ≤ 140000000000000) (hB : B0 ≤ H.size) (k : ∀ H', Bld B0 b (bs ++ [c]) H' → BelowH B0 H H' → K (.returned .nilIface) H') :
    HCall Tryd.prog 28 #[.pointer (some ⟨b, 0, none⟩), .int .u8 c.toNat] H K := by
  obtain ⟨h0, p, v, hp, hb, own, hv⟩ := h
  refine hcall mixed B28 (args := [.pointer (some ⟨b, 0, none⟩), .int .u8 c.toNat]) (by simp) ?_
  simp only [go_sem, reduceCtorEq, Nat.reduceEqDiff, Nat.reduceAdd, c28, r28_0, c28_2, r28_1, callA_fn0 pl52]
  refine copyCheck_c hp hb ?_
  have hlt := get_lt hb
  have hG1 : (H.setIfInBounds b (.cells #[.pointer (some ⟨b, 0, none⟩), v] 54 (0, 0)))[b]? = some (.cells #[.pointer (some ⟨b, 0, none⟩), v] 54 (0, 0)) := by
    rw [Array.getElem?_setIfInBounds]; simp [hlt]
  have own1 : OwnS (fun g => B0 ≤ g ∧ g ≠ b) 5 1 (H.setIfInBounds b (.cells #[.pointer (some ⟨b, 0, none⟩), v] 54 (0, 0))) v bs.length (bytesV bs) :=
    own.keep (S := fun x => x = b) ⟨by simp, fun i hi hn => by rw [Array.getElem?_setIfInBounds_ne (fun e => hn e.symm)]⟩ fun g hg hgb => (own.ok g hg).2 hgb
  have hBel : BelowH B0 H (H.setIfInBounds b (.cells #[.pointer (some ⟨b, 0, none⟩), v] 54 (0, 0))) := ⟨by simp, fun k hk => by rw [Array.getElem?_setIfInBounds_ne (by omega)]⟩
  have hsz1 : (H.setIfInBounds b (.cells #[.pointer (some ⟨b, 0, none⟩), v] 54 (0, 0))).size = H.size := by simp
  generalize (H.setIfInBounds b (.cells #[.pointer (some ⟨b, 0, none⟩), v] 54 (0, 0))) = G at *
  simp only [go_sem, reduceCtorEq, Nat.reduceEqDiff, Nat.reduceAdd, c28_1, r28_2, fadA_ok fld54_1, add_none]
  rw [loadA_cell (v := v) uBy rfl (by rw [cell_of_blk hG1]; rfl)]
  simp only [go_sem, reduceCtorEq, Nat.reduceEqDiff, Nat.reduceAdd, ]
  rw [bslA_one uBy ty5 rfl]
  simp only [go_sem, reduceCtorEq, Nat.reduceEqDiff, Nat.reduceAdd, ]
  refine append_lit (ok := fun g => B0 ≤ g ∧ g ≠ b) (m := 1) own1 uBy ty5 rfl rfl (by intro u hu; simp at hu; subst hu; rfl) (fun g hg => ⟨by omega, by omega⟩) (by omega) (by omega) ?_
  intro v' G' o1 o2 o3
  have hG2 : G'[b]? = some (.cells #[.pointer (some ⟨b, 0, none⟩), v] 54 (0, 0)) := o2.get hG1 (fun hb' => (own1.ok b hb').2 rfl)
  obtain ⟨a, cp, rfl⟩ := o1.form
  have hc : a.isSome = true ∧ cp ≠ 0 := by
    rcases o1 with ⟨h, h2, _⟩ | ⟨b', cap, c', f, h1, _, _, _, h5, _⟩
    · omega
    · cases h1; exact ⟨rfl, by omega⟩
  have hput : putH G' ⟨b, 1, none⟩ 0 (Value.slice a (bs.length + 1) cp).cells.toList = some (G'.setIfInBounds b (.cells #[.pointer (some ⟨b, 0, none⟩), .slice a (bs.length + 1) cp] 54 (0, 0))) := by
    have := putH_blk (b := b) (off := 1) (e := 54) (f := (0, 0)) [.slice a (bs.length + 1) cp] 0 G' #[.pointer (some ⟨b, 0, none⟩), v] hG2 (by simp [oneC]) (by simp) (by simp)
    simpa [Value.cells, splice] using this
  simp only [go_sem, reduceCtorEq, Nat.reduceEqDiff, Nat.reduceAdd, fadA_ok fld54_1, add_none]
  rw [storeA_put ty52 rfl hput]
  simp only [go_sem, reduceCtorEq, Nat.reduceEqDiff, Nat.reduceAdd, c28_0, r28_3]
  refine k _ (bld_put h0 hG2 ?_ ?_) ⟨?_, fun j hj => ?_⟩
  · have e1 : bytesV (bs ++ [c]) = bytesV bs ++ [.int .u8 c.toNat] := by simp [bytesV]
    rw [e1, List.length_append]; exact o1
  · obtain ⟨a, rfl⟩ := Option.isSome_iff_exists.1 hc.1
    exact .inr ⟨a, _, cp, rfl, hc.2⟩
  · simpa using Nat.le_trans hBel.1 o2.size
  · rw [Array.getElem?_setIfInBounds_ne (by omega), ← hBel.2 j hj]
    refine o2.blk j (by omega) fun hb' => ?_
    have := (own1.ok j hb').1
    omega

theorem bLen (h : Bld B0 b bs H) (k : K (.returned (.int .i64 bs.length)) H) : HCall Tryd.prog 31 #[.pointer (some ⟨b, 0, none⟩)] H K := by
  obtain ⟨h0, p, v, hp, hb, own, hv⟩ := h
  obtain ⟨a, c, rfl⟩ := own.form
  refine hcall mixed B31 (args := [.pointer (some ⟨b, 0, none⟩)]) (by simp) ?_
  simp only [go_sem, reduceCtorEq, Nat.reduceEqDiff, Nat.reduceAdd, c31, r31_0, c31_0, r31_1, fadA_ok fld54_1, add_none]
  rw [loadA_cell (v := .slice a bs.length c) uBy rfl (by rw [cell_of_blk hb]; rfl)]
  simp only [go_sem, reduceCtorEq, Nat.reduceEqDiff, Nat.reduceAdd, len_slice uBy]
  exact k

theorem bString (h : Bld B0 b bs H) (hl : bs.length ≤ 140000000000000) (hB : B0 ≤ H.size) (k : ∀ H', BelowH B0 H H' → K (.returned (.string (B bs))) H') : HCall Tryd.prog 32 #[.pointer (some ⟨b, 0, none⟩)] H K := by
  obtain ⟨h0, p, v, hp, hb, own, hv⟩ := h
  obtain ⟨a, c, rfl⟩ := own.form
  refine hcall mixed B32 (args := [.pointer (some ⟨b, 0, none⟩)]) (by simp) ?_
  simp only [go_sem, reduceCtorEq, Nat.reduceEqDiff, Nat.reduceAdd, c32, r32_0, c32_0, r32_1, fadQ_ok fld54_1, add_none]
  rw [loadQ_cell (v := .slice a bs.length c) uBy rfl (by rw [cell_of_blk hb]; rfl)]
  simp only [go_sem, reduceCtorEq, Nat.reduceEqDiff, Nat.reduceAdd, ]
  have hcell : cellH H ⟨b, 1, none⟩ = some (.slice a bs.length c) := by rw [cell_of_blk hb]; rfl
  rcases own with ⟨h1, h2, h3⟩ | ⟨g, cap, cs, f, h1, h2, h3, h4, h5, h6, h7, h8⟩
  · have hbs : bs = [] := List.length_eq_zero_iff.1 h2
    subst hbs
    cases h1
    simp only [go_sem, reduceCtorEq, Nat.reduceEqDiff, Nat.reduceAdd, callQ_usd0, fadQ_ok fld54_1, add_none]
    rw [loadQ_cell uBy rfl hcell]
    simp only [go_sem, reduceCtorEq, Nat.reduceEqDiff, Nat.reduceAdd, lenQ_slice uBy]
    simp only [go_sem, reduceCtorEq, Nat.reduceEqDiff, Nat.reduceAdd, List.length_nil, Int.natCast_zero, callA_ustr0]
    exact k H ⟨Nat.le_refl _, fun _ _ => rfl⟩
  · cases h1
    have hc : c ≠ 0 := by
      rcases hv with h | ⟨a', n', c', h, h'⟩
      · cases h
      · cases h; exact h'
    simp only [go_sem, reduceCtorEq, Nat.reduceEqDiff, Nat.reduceAdd, callQ_usd hc, fadQ_ok fld54_1, add_none]
    rw [loadQ_cell uBy rfl hcell]
    simp only [go_sem, reduceCtorEq, Nat.reduceEqDiff, Nat.reduceAdd, lenQ_slice uBy]
    by_cases hbs : bs = []
    · subst hbs
      simp only [go_sem, reduceCtorEq, Nat.reduceEqDiff, Nat.reduceAdd, List.length_nil, Int.natCast_zero, callA_ustr0]
      exact k H ⟨Nat.le_refl _, fun _ _ => rfl⟩
    · rw [callA_ustr Tryd.underlying97 (by kernel_rfl) h3 hbs (by simp only [Nat.mul_one] at h4; omega) (by simpa using h7) (by omega)]
      simp only [go_sem, reduceCtorEq, Nat.reduceEqDiff, Nat.reduceAdd, ]
      refine k _ ⟨?_, fun j hj => ?_⟩
      · unfold freezeH; split <;> simp
      · unfold freezeH
        split
        · rfl
        · rw [Array.getElem?_modify, if_neg (by have := h2.1; simp only; omega)]
end
end Go.Proofs.YtoabcmhiaknjiaaDoor

set_option maxRecDepth 100000
namespace Go.Proofs.YtoabcmhiaknjiaaDoor
open Go.Hw
/-! ### 75 dasd/dsname.upper -/
def r75_0 : List O := [⟨some 2, .assign (.const (.bool false)), 4, none⟩]
def r75_1 : List O := [⟨some 3, .move (.tmp 0), 5, none⟩,
  ⟨some 4, .binOp .geq 5 (.tmp 3) (.const (.int .u8 65)) 5, 4, none⟩,
  ⟨some 5, .move (.tmp 4), 4, none⟩,
  ⟨some 6, .move (.tmp 0), 5, some (5, true)⟩,
  ⟨some 7, .binOp .leq 5 (.tmp 6) (.const (.int .u8 90)) 5, 4, some (5, true)⟩,
  ⟨some 8, .pick (.tmp 5) (.tmp 7) (.const (.bool false)), 4, none⟩,
  ⟨some 2, .assign (.tmp 8), 4, none⟩]
def c75_0 : A := .seq (.reg r75_1 [2]) .ret
def c75 : A := .seq (.reg r75_0 [0]) c75_0
theorem B75 : Body Tryd.prog 75 9 [.tmp 2] c75 := ⟨by kernel_rfl, _, _, [(0, [0]), (1, [2])], Tryd.func75, rfl, rfl, rfl, by kernel_rfl⟩
/-! ### 94 dasd/dsname.digit -/
def r94_0 : List O := [⟨some 2, .assign (.const (.bool false)), 4, none⟩]
def r94_1 : List O := [⟨some 3, .move (.tmp 0), 5, none⟩,
  ⟨some 4, .binOp .geq 5 (.tmp 3) (.const (.int .u8 48)) 5, 4, none⟩,
  ⟨some 5, .move (.tmp 4), 4, none⟩,
  ⟨some 6, .move (.tmp 0), 5, some (5, true)⟩,
  ⟨some 7, .binOp .leq 5 (.tmp 6) (.const (.int .u8 57)) 5, 4, some (5, true)⟩,
  ⟨some 8, .pick (.tmp 5) (.tmp 7) (.const (.bool false)), 4, none⟩,
  ⟨some 2, .assign (.tmp 8), 4, none⟩]
def c94_0 : A := .seq (.reg r94_1 [2]) .ret
def c94 : A := .seq (.reg r94_0 [0]) c94_0
theorem B94 : Body Tryd.prog 94 9 [.tmp 2] c94 := ⟨by kernel_rfl, _, _, [(0, [0]), (1, [2])], Tryd.func94, rfl, rfl, rfl, by kernel_rfl⟩
/-! ### 76 dasd/dsname.plain -/
def r76_0 : List O := [⟨some 2, .assign (.const (.bool false)), 4, none⟩]
def r76_1 : List O := [⟨some 3, .move (.tmp 0), 5, none⟩,
  ⟨some 4, .call { callee := .value (.func 75), args := #[.tmp 3], argTypes := #[5] }, 4, none⟩,
  ⟨some 5, .move (.tmp 4), 4, none⟩,
  ⟨some 6, .move (.tmp 0), 5, some (5, false)⟩,
  ⟨some 7, .call { callee := .value (.func 94), args := #[.tmp 6], argTypes := #[5] }, 4, some (5, false)⟩,
  ⟨some 8, .pick (.tmp 5) (.const (.bool true)) (.tmp 7), 4, none⟩,
  ⟨some 2, .assign (.tmp 8), 4, none⟩]
def c76_0 : A := .seq (.reg r76_1 [2]) .ret
def c76 : A := .seq (.reg r76_0 [0]) c76_0
theorem B76 : Body Tryd.prog 76 9 [.tmp 2] c76 := ⟨by kernel_rfl, _, _, [(0, [0]), (1, [2])], Tryd.func76, rfl, rfl, rfl, by kernel_rfl⟩
/-! ### 74 dasd/dsname.qualifier -/
def r74_0 : List O := [⟨some 6, .assign (.const (.bool false)), 4, none⟩]
def r74_1 : List O := [⟨some 8, .move (.tmp 0), 9, none⟩,
  ⟨some 9, .call { callee := .builtin .len, args := #[.tmp 8], argTypes := #[9] }, 3, none⟩,
  ⟨some 10, .binOp .lss 3 (.tmp 9) (.const (.int .i64 1)) 3, 4, none⟩,
  ⟨some 11, .move (.tmp 10), 4, none⟩,
  ⟨some 12, .move (.tmp 0), 9, some (11, false)⟩,
  ⟨some 13, .call { callee := .builtin .len, args := #[.tmp 12], argTypes := #[9] }, 3, some (11, false)⟩,
  ⟨some 14, .binOp .gtr 3 (.tmp 13) (.const (.int .i64 8)) 3, 4, some (11, false)⟩,
  ⟨some 15, .pick (.tmp 11) (.const (.bool true)) (.tmp 14), 4, none⟩,
  ⟨some 16, .move (.tmp 15), 4, none⟩,
  ⟨some 17, .move (.tmp 1), 110, some (16, false)⟩,
  ⟨some 18, .move (.tmp 0), 9, some (16, false)⟩,
  ⟨some 19, .index 9 (.tmp 18) (.const (.int .i64 0)), 5, some (16, false)⟩,
  ⟨some 20, .call { callee := .value (.tmp 17), args := #[.tmp 19], argTypes := #[5] }, 4, some (16, false)⟩,
  ⟨some 21, .unOp .not 4 (.tmp 20), 4, some (16, false)⟩,
  ⟨some 22, .pick (.tmp 16) (.const (.bool true)) (.tmp 21), 4, none⟩]
def r74_2 : List O := [⟨some 6, .assign (.const (.bool false)), 4, none⟩]
def r74_3 : List O := [⟨some 7, .assign (.const (.int .i64 1)), 3, none⟩]
def r74_4 : List O := [⟨some 23, .move (.tmp 7), 3, none⟩,
  ⟨some 24, .move (.tmp 0), 9, none⟩,
  ⟨some 25, .call { callee := .builtin .len, args := #[.tmp 24], argTypes := #[9] }, 3, none⟩,
  ⟨some 26, .binOp .lss 3 (.tmp 23) (.tmp 25) 3, 4, none⟩]
def r74_6 : List O := [⟨some 29, .move (.tmp 2), 110, none⟩,
  ⟨some 30, .move (.tmp 0), 9, none⟩,
  ⟨some 31, .move (.tmp 7), 3, none⟩,
  ⟨some 32, .index 9 (.tmp 30) (.tmp 31), 5, none⟩,
  ⟨some 33, .call { callee := .value (.tmp 29), args := #[.tmp 32], argTypes := #[5] }, 4, none⟩,
  ⟨some 34, .unOp .not 4 (.tmp 33), 4, none⟩]
def r74_7 : List O := [⟨some 6, .assign (.const (.bool false)), 4, none⟩]
def r74_5 : List O := [⟨some 27, .move (.tmp 7), 3, none⟩,
  ⟨some 28, .binOp .add 3 (.tmp 27) (.const (.int .i64 1)) 3, 3, none⟩,
  ⟨some 7, .assign (.tmp 28), 3, none⟩]
def r74_8 : List O := [⟨some 6, .assign (.const (.bool true)), 4, none⟩]
def c74_0 : A := .seq (.reg r74_2 [6]) .ret
def c74_1 : A := .cond (.tmp 22) c74_0 .skip
def c74_2 : A := .cond (.tmp 26) .skip (.exit 0)
def c74_3 : A := .seq (.reg r74_7 [6]) .ret
def c74_4 : A := .cond (.tmp 34) c74_3 .skip
def c74_5 : A := .seq (.reg r74_6 [0, 2, 7, 34]) c74_4
def c74_6 : A := .seq (.block 1 c74_5) (.reg r74_5 [0, 2, 7])
def c74_7 : A := .seq (.seq (.reg r74_4 [0, 2, 7, 26]) c74_2) (.seq (.keep [0, 2, 7]) c74_6)
def c74_8 : A := .seq c74_7 (.keep [0, 2, 7])
def c74_9 : A := .loop c74_8
def c74_10 : A := .block 0 c74_9
def c74_11 : A := .seq (.reg r74_8 [6]) .ret
def c74_12 : A := .seq (.seq (.reg r74_3 [0, 2, 7]) c74_10) c74_11
def c74_13 : A := .seq (.seq (.reg r74_1 [0, 2, 22]) c74_1) (.seq (.keep [0, 2]) c74_12)
def c74 : A := .seq (.reg r74_0 [0, 1, 2]) c74_13
theorem B74 : Body Tryd.prog 74 35 [.tmp 6] c74 := ⟨by kernel_rfl, _, _, [(0, [0, 1, 2]), (1, [0, 2, 22]), (2, [6]), (3, [0, 2, 7]), (4, [0, 2, 7, 26]), (5, [0, 2, 7]), (6, [0, 2, 7, 34]), (7, [6]), (8, [6]), (1004, [0, 2, 7]), (2003, [0, 2]), (2006, [0, 2, 7])], Tryd.func74, rfl, rfl, rfl, by kernel_rfl⟩
/-! ### 73 dasd/dsname.Valid$1 -/
def r73_0 : List O := [⟨some 2, .assign (.const (.bool false)), 4, none⟩]
def r73_1 : List O := [⟨some 3, .move (.tmp 0), 9, none⟩,
  ⟨some 4, .call { callee := .value (.func 74), args := #[.tmp 3, .func 75, .func 76], argTypes := #[9, 110, 110] }, 4, none⟩,
  ⟨some 2, .assign (.tmp 4), 4, none⟩]
def c73_0 : A := .seq (.reg r73_1 [2]) .ret
def c73 : A := .seq (.reg r73_0 [0]) c73_0
theorem B73 : Body Tryd.prog 73 5 [.tmp 2] c73 := ⟨by kernel_rfl, _, _, [(0, [0]), (1, [2])], Tryd.func73, rfl, rfl, rfl, by kernel_rfl⟩
/-! ### 72 dasd/dsname.all -/
def r72_0 : List O := [⟨some 6, .assign (.const (.bool false)), 4, none⟩]
def r72_1 : List O := [⟨some 9, .move (.tmp 0), 9, none⟩,
  ⟨some 10, .call { callee := .builtin .len, args := #[.tmp 9], argTypes := #[9] }, 3, none⟩,
  ⟨some 11, .binOp .lss 3 (.tmp 10) (.const (.int .i64 1)) 3, 4, none⟩,
  ⟨some 12, .move (.tmp 11), 4, none⟩,
  ⟨some 13, .move (.tmp 0), 9, some (12, false)⟩,
  ⟨some 14, .call { callee := .builtin .len, args := #[.tmp 13], argTypes := #[9] }, 3, some (12, false)⟩,
  ⟨some 15, .move (.tmp 1), 3, some (12, false)⟩,
  ⟨some 16, .binOp .gtr 3 (.tmp 14) (.tmp 15) 3, 4, some (12, false)⟩,
  ⟨some 17, .pick (.tmp 12) (.const (.bool true)) (.tmp 16), 4, none⟩]
def r72_2 : List O := [⟨some 6, .assign (.const (.bool false)), 4, none⟩]
def r72_3 : List O := [⟨some 18, .move (.tmp 0), 9, none⟩,
  ⟨some 19, .call { callee := .value (.func 93), args := #[.tmp 18, .const (.string ⟨#[46]⟩)], argTypes := #[9, 9] }, 24, none⟩,
  ⟨some 20, .call { callee := .builtin .len, args := #[.tmp 19], argTypes := #[24] }, 3, none⟩,
  ⟨some 21, .move (.const (.int .i64 0)), 3, none⟩]
def r72_4 : List O := [⟨some 22, .binOp .lss 3 (.tmp 21) (.tmp 20) 3, 0, none⟩]
def r72_5 : List O := [⟨some 23, .indexAddr 24 (.tmp 19) (.tmp 21), 0, none⟩,
  ⟨some 24, .load 9 (.tmp 23), 9, none⟩,
  ⟨some 8, .assign (.tmp 24), 9, none⟩]
def r72_6 : List O := [⟨some 25, .move (.tmp 2), 62, none⟩,
  ⟨some 26, .move (.tmp 8), 9, none⟩,
  ⟨some 27, .call { callee := .value (.tmp 25), args := #[.tmp 26], argTypes := #[9] }, 4, none⟩,
  ⟨some 28, .unOp .not 4 (.tmp 27), 4, none⟩]
def r72_7 : List O := [⟨some 6, .assign (.const (.bool false)), 4, none⟩]
def r72_8 : List O := [⟨some 29, .binOp .add 3 (.tmp 21) (.const (.int .i64 1)) 3, 3, none⟩,
  ⟨some 21, .move (.tmp 29), 3, none⟩]
def r72_9 : List O := [⟨some 6, .assign (.const (.bool true)), 4, none⟩]
def c72_0 : A := .seq (.reg r72_2 [6]) .ret
def c72_1 : A := .cond (.tmp 17) c72_0 .skip
def c72_2 : A := .seq (.reg r72_7 [6]) .ret
def c72_3 : A := .cond (.tmp 28) c72_2 .skip
def c72_4 : A := .seq (.reg r72_6 [2, 19, 20, 21, 28]) c72_3
def c72_5 : A := .seq (.reg r72_5 [2, 8, 19, 20, 21]) c72_4
def c72_6 : A := .seq (.block 1 c72_5) (.reg r72_8 [2, 19, 20, 21])
def c72_7 : A := .seq (.cond (.tmp 22) .skip (.exit 0)) (.seq (.keep [2, 19, 20, 21]) c72_6)
def c72_8 : A := .seq (.reg r72_4 [2, 19, 20, 21, 22]) c72_7
def c72_9 : A := .seq c72_8 (.keep [2, 19, 20, 21])
def c72_10 : A := .loop c72_9
def c72_11 : A := .block 0 c72_10
def c72_12 : A := .seq (.reg r72_9 [6]) .ret
def c72_13 : A := .seq (.seq (.reg r72_3 [2, 19, 20, 21]) c72_11) c72_12
def c72_14 : A := .seq (.seq (.reg r72_1 [0, 2, 17]) c72_1) (.seq (.keep [0, 2]) c72_13)
def c72 : A := .seq (.reg r72_0 [0, 1, 2]) c72_14
theorem B72 : Body Tryd.prog 72 30 [.tmp 6] c72 := ⟨by kernel_rfl, _, _, [(0, [0, 1, 2]), (1, [0, 2, 17]), (2, [6]), (3, [2, 19, 20, 21]), (4, [2, 19, 20, 21, 22]), (5, [2, 8, 19, 20, 21]), (6, [2, 19, 20, 21, 28]), (7, [6]), (8, [2, 19, 20, 21]), (9, [6]), (1004, [2, 19, 20, 21]), (2003, [0, 2]), (2005, [2, 19, 20, 21])], Tryd.func72, rfl, rfl, rfl, by kernel_rfl⟩
/-! ### 55 dasd/dsname.Valid -/
def r55_0 : List O := [⟨some 2, .assign (.const (.bool false)), 4, none⟩]
def r55_1 : List O := [⟨some 3, .move (.tmp 0), 9, none⟩,
  ⟨some 4, .call { callee := .value (.func 72), args := #[.tmp 3, .const (.int .i64 31), .func 73], argTypes := #[9, 3, 62] }, 4, none⟩,
  ⟨some 2, .assign (.tmp 4), 4, none⟩]
def c55_0 : A := .seq (.reg r55_1 [2]) .ret
def c55 : A := .seq (.reg r55_0 [0]) c55_0
theorem B55 : Body Tryd.prog 55 5 [.tmp 2] c55 := ⟨by kernel_rfl, _, _, [(0, [0]), (1, [2])], Tryd.func55, rfl, rfl, rfl, by kernel_rfl⟩
/-! ### 30 dasd/jobtext.symbol -/
def r30_0 : List O := [⟨some 2, .assign (.const (.bool false)), 4, none⟩]
def r30_1 : List O := [⟨some 3, .move (.tmp 0), 9, none⟩,
  ⟨some 4, .call { callee := .value (.func 55), args := #[.tmp 3], argTypes := #[9] }, 4, none⟩,
  ⟨some 5, .move (.tmp 4), 4, none⟩,
  ⟨some 6, .move (.tmp 0), 9, some (5, true)⟩,
  ⟨some 7, .call { callee := .value (.func 18), args := #[.tmp 6, .const (.string ⟨#[46]⟩)], argTypes := #[9, 9] }, 4, some (5, true)⟩,
  ⟨some 8, .unOp .not 4 (.tmp 7), 4, some (5, true)⟩,
  ⟨some 9, .pick (.tmp 5) (.tmp 8) (.const (.bool false)), 4, none⟩,
  ⟨some 2, .assign (.tmp 9), 4, none⟩]
def c30_0 : A := .seq (.reg r30_1 [2]) .ret
def c30 : A := .seq (.reg r30_0 [0]) c30_0
theorem B30 : Body Tryd.prog 30 10 [.tmp 2] c30 := ⟨by kernel_rfl, _, _, [(0, [0]), (1, [2])], Tryd.func30, rfl, rfl, rfl, by kernel_rfl⟩
end Go.Proofs.YtoabcmhiaknjiaaDoor
