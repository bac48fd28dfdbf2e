/- Contracts and laws that the claim leans on, part 2. -/
import Derived.Test.YtoabcmhiaknjiaaDoorS39P1
import Derived.Lib.UnsafeStr
import Derived.Below
import Derived.Carry
import Derived.ChangeMaps5
import Derived.ChangeShapes
import Derived.Deep.Quiet
import Derived.Handed
import Derived.IntWalk
import Derived.JoinedOf
import Derived.KernelRfl
import Derived.LaidLaws
import Derived.Laws.Sem
import Derived.Lay
import Derived.MakeChecks
import Derived.Maps.StringElems
import Derived.OrdersIn
import Derived.ProofKit
import Derived.RangeFuncCalls
import Derived.RangeFuncLeaves
import Derived.RangeFuncRecord
import Derived.SevenTiedAt
import Derived.Shelf.Bits.Mul64
import Derived.Shelf.LaysM
import Derived.Shelf.Small.Strs
import Derived.Shelf.Small.Utf8
import Derived.Shelf.Strings.AsciiSet
import Derived.Shelf.Strings.Builder1
import Derived.Shelf.Strings.Builder2
import Derived.Shelf.Strings.Builder2Cap
import Derived.Shelf.Strings.BuilderF
import Derived.Shelf.Strings.BuilderK
import Derived.Shelf.Strings.Count
import Derived.Shelf.Strings.Cut
import Derived.Shelf.Strings.Explode
import Derived.Shelf.Strings.IndexAny
import Derived.Shelf.Strings.IndexAnyAll
import Derived.Shelf.Strings.Prefix
import Derived.Shelf.Strings.Repeat
import Derived.Shelf.Strings.Replace
import Derived.Shelf.Strings.RuneCount
import Derived.Shelf.Strings.Runes
import Derived.Shelf.Strings.Search1
import Derived.Shelf.Strings.Search2
import Derived.Shelf.Strings.Search3
import Derived.Shelf.Strings.Shaped
import Derived.Shelf.Strings.Split
import Derived.Shelf.Strings.SplitShaped
import Derived.Shelf.Strings.Trim
import Derived.Shelf.Unicode.Decode
import Derived.Shelf.Unicode.DecodeAny
import Derived.Shelf.Unicode.DecodeSlow
import Derived.Shelf.Utf8.RuneCount
import Derived.Shelf.Vars
import Derived.SliceStrings
import Derived.StillTail
import Derived.Stop.Joined
import Derived.StringKeys
import Derived.Tactics
import Derived.TacticsIn
import Derived.WideKeyElems2
import Derived.Test.YtoabcmhiaknjiaaDoorProg
/- Elements of slices that are read; symbolic conditions. -/
set_option linter.unusedSimpArgs false
set_option linter.unusedVariables false
namespace Go.Hw

theorem cellsH_get {H : Hp} {a : Addr} : ∀ (n i : Nat) {l : List Value}, cellsH H a i n = some l → ∀ j, j < n → ∃ v, l[j]? = some v ∧ cellH H (a.add (i + j)) = some v
  | 0, _, _, _, j, hj => absurd hj (by omega)
  | n + 1, i, l, h, j, hj => by
    unfold cellsH at h
    cases hc : cellH H (a.add i) with
    | none => rw [hc] at h; cases h
    | some v =>
      rw [hc] at h
      simp only at h
      cases hr : cellsH H a (i + 1) n with
      | none => rw [hr] at h; cases h
      | some r =>
        rw [hr] at h
        simp only [Option.map_some, Option.some.injEq] at h
        subst h
        cases j with
        | zero => exact ⟨v, rfl, hc⟩
        | succ j =>
          obtain ⟨u, h1, h2⟩ := cellsH_get n (i + 1) hr j (by omega)
          exact ⟨u, by simpa using h1, by rw [show i + (j + 1) = i + 1 + j by omega]; exact h2⟩

/-- A cell of a slice that is read. -/
theorem src1_cell {H : Hp} {v : Value} {m i : Nat} {l : List Value} (h : Src H 1 v m l) (hv : ∃ a c, v = .slice a m c) (hi : i < m) : ∃ a c u, v = .slice (some a) m c ∧ l[i]? = some u ∧ cellH H (a.add (i * 1)) = some u := by
  obtain ⟨a0, c0, rfl⟩ := hv
  rcases h with ⟨a, c, h1, h2⟩ | ⟨c, h1, h2, _⟩ | ⟨s, h1, _⟩
  · obtain ⟨u, h3, h4⟩ := cellsH_get _ _ h2 i (by omega)
    cases h1
    exact ⟨a, c0, u, rfl, h3, by simpa using h4⟩
  · omega
  · cases h1

/-- Cells of an element of several cells. -/
theorem srcn_cell {H : Hp} {v : Value} {sz m i j : Nat} {l : List Value} (h : Src H sz v m l) (hv : ∃ a c, v = .slice a m c) (hi : i < m) (hj : j < sz) : ∃ a c u, v = .slice (some a) m c ∧ l[i * sz + j]? = some u ∧ cellH H (a.add (i * sz + j)) = some u := by
  obtain ⟨a0, c0, rfl⟩ := hv
  have hlt : i * sz + j < m * sz := by
    have : (i + 1) * sz ≤ m * sz := Nat.mul_le_mul_right _ hi
    rw [Nat.succ_mul] at this
    omega
  rcases h with ⟨a, c, h1, h2⟩ | ⟨c, h1, h2, _⟩ | ⟨s, h1, _⟩
  · obtain ⟨u, h3, h4⟩ := cellsH_get _ _ h2 (i * sz + j) hlt
    cases h1
    exact ⟨a, c0, u, rfl, h3, by simpa using h4⟩
  · omega
  · cases h1

end Go.Hw

/- Maps with string keys. -/
set_option linter.unusedSimpArgs false
set_option linter.unusedVariables false
namespace Go.Hw
open Go.Instr

section
variable {P : Program} {F : Fr} {H : Hp} {K : Value → Hp → Prop} {X : List PanicEntry → Hp → Prop} {KQ : Value → Prop} {d : Option Nat} {ty : TypeId} {g : Option (Nat × Bool)}

theorem binA_cat {t : TypeId} {x y : Operand} {a b : List UInt8} (h : a.length + b.length ≤ 9223372036854775807) : binA P .add t x y (.string (B a)) (.string (B b)) K X H = K (.string (B (a ++ b))) H := by
  rw [binA_sadd, B_size, B_size, B_append]
  have : ((a.length + b.length : Nat) : Int) ≤ IntKind.i64.max := by
    have : IntKind.i64.max = 9223372036854775807 := by decide
    omega
  exact propext ⟨fun h => h.2, fun h => ⟨this, h⟩⟩
def lkpA (P : Program) (t : TypeId) (m k : Value) (ok : Bool) (K : Value → Hp → Prop) (X : List PanicEntry → Hp → Prop) (H : Hp) : Prop := hv P (Instr.lookup t m k ok) K X H
theorem opA_lookup (t : TypeId) (x y : Operand) (ok : Bool) : opA P ⟨d, .lookup t x y ok, ty, g⟩ F H K X = withv F x fun m => withv F y fun k => lkpA P t m k ok K X H := by
  rw [opA_2 rfl (f := fun m k => do pure (.value (← Instr.lookup t m k ok))) fun _ => rfl]
  exact congrArg (withv F x) (funext fun v => congrArg (withv F y) (funext fun j => hv_next _))

def mkmA (P : Program) (t : TypeId) (r : Option Value) (K : Value → Hp → Prop) (X : List PanicEntry → Hp → Prop) (H : Hp) : Prop := hv P (Instr.makeMap t r) K X H

/-- A map's entries: keys and values. -/
def MapO (H : Hp) (r : Nat) (l : List (List UInt8 × Value)) : Prop :=
  ∃ es clk, H[r]? = some (.map es clk) ∧ es.toList.map (fun e => (e.key, e.val)) = l.map fun p => (.string (B p.1), p.2)

theorem MapO.ext {H H' : Hp} {r : Nat} {l : List (List UInt8 × Value)} (h : MapO H r l) (e : Ext H H') : MapO H' r l := by
  obtain ⟨es, clk, h1, h2⟩ := h
  exact ⟨es, clk, e.get h1, h2⟩

theorem BA_beq (a b : List UInt8) : (B a == B b) = (a == b) := by
  show ((B a).data == (B b).data) = (a == b)
  rw [Bool.eq_iff_iff, beq_iff_eq, beq_iff_eq]
  simp [B]

/-- Where a key first stands, and its value. -/
def findM (k : List UInt8) : List (List UInt8 × Value) → Nat → Option (Nat × Value)
  | [], _ => none
  | p :: r, i => if k = p.1 then some (i, p.2) else findM k r (i + 1)

theorem findNow_str (k : List UInt8) : ∀ (es : List MapEntry) (l : List (List UInt8 × Value)) (i : Nat), es.map (fun e => (e.key, e.val)) = l.map (fun p => (.string (B p.1), p.2)) →
    findNow .string (.string (B k)) es i = some (findM k l i)
  | [], [], _, _ => rfl
  | [], p :: r, _, h => by simp at h
  | e :: es, [], _, h => by simp at h
  | e :: es, p :: r, i, h => by
    simp only [List.map_cons, List.cons.injEq, Prod.mk.injEq] at h
    obtain ⟨⟨h1, h2⟩, h3⟩ := h
    unfold findNow findM
    rw [h1]
    simp only [sameNow, BA_beq]
    by_cases hk : k = p.1
    · simp [hk, h2]
    · have : (k == p.1) = false := by simpa using hk
      rw [this, if_neg hk]
      exact findNow_str k es r (i + 1) h3

theorem findM_lookup (k : List UInt8) : ∀ (l : List (List UInt8 × Value)) (i : Nat), (findM k l i).map (·.2) = l.lookup k
  | [], _ => rfl
  | p :: r, i => by
    unfold findM
    rw [List.lookup_cons]
    by_cases hk : k = p.1
    · simp [hk]
    · have : (k == p.1) = false := by simpa using hk
      rw [if_neg hk, this]
      exact findM_lookup k r (i + 1)

theorem findKey_str {kt : TypeId} (hk : P.underlying kt = some .string) (k : List UInt8) {es : List MapEntry} {l : List (List UInt8 × Value)} (h : es.map (fun e => (e.key, e.val)) = l.map fun p => (.string (B p.1), p.2)) {α : Type} {KK : α → Hp → Prop} {XX : Value → Hp → Prop} (f : Option (Nat × Value) → Sem α) :
    hwx P ((findKey kt (.string (B k)) es).bind f) KK XX H = hwx P (f (findM k l 0)) KK XX H := by
  unfold findKey
  show hwx P (((underlying kt).bind _).bind f) _ _ H = _
  rw [hwx_bind, hw_und hk]
  rw [findNow_str k es l 0 h]
  rfl

theorem checkKey_str {kt : TypeId} (hk : P.underlying kt = some .string) (b : Bool) (k : ByteArray) {α : Type} {KK : α → Hp → Prop} {XX : Value → Hp → Prop} (f : Unit → Sem α) :
    hwx P ((checkKey b 10000 kt (.string k)).bind f) KK XX H = hwx P (f ()) KK XX H := by
  show hwx P (((underlying kt).bind _).bind f) _ _ H = _
  rw [hwx_bind, hw_und hk]
  rfl

theorem lkpA_ok {t kt et : TypeId} {z : Value} {sz by_ r : Nat} {k : List UInt8} {l : List (List UInt8 × Value)} (ht : P.underlying t = some (.map kt et)) (hk : P.underlying kt = some .string) (he : TyOK P et (some z) sz by_) (hm : MapO H r l) :
    lkpA P t (.map (some r)) (.string (B k)) true K X H = K (.tuple #[((l.lookup k).getD z), .bool (l.lookup k).isSome]) H := by
  obtain ⟨es, clk, h1, h2⟩ := hm
  unfold lkpA hv Instr.lookup
  show hwx P ((underlying t).bind _) _ _ H = _
  rw [hw_und ht]
  show hwx P (((getObj r).bind _).bind _) _ _ H = _
  rw [hwx_bind, hwx_bind]
  simp only [getObj, hwx, h1, isCells, true_and, Bool.false_eq_true, not_false_eq_true]
  show hwx P ((checkKey _ _ kt _).bind _) _ _ H = _
  rw [checkKey_str hk]
  show hwx P ((findKey kt _ _).bind _) _ _ H = _
  rw [findKey_str hk k h2]
  rw [← findM_lookup k l 0]
  cases hf : findM k l 0 with
  | none =>
    show hwx P ((zeroValue et).bind _) _ _ H = _
    rw [zeroValue_eq he]
    rfl
  | some p => rfl
theorem lkpA_nil {t kt et : TypeId} {z : Value} {sz by_ : Nat} {k : List UInt8} (ht : P.underlying t = some (.map kt et)) (hk : P.underlying kt = some .string) (he : TyOK P et (some z) sz by_) :
    lkpA P t (.map none) (.string (B k)) true K X H = K (.tuple #[z, .bool false]) H := by
  unfold lkpA hv Instr.lookup
  show hwx P ((underlying t).bind _) _ _ H = _
  rw [hw_und ht]
  show hwx P ((checkKey _ _ kt _).bind _) _ _ H = _
  rw [checkKey_str hk]
  show hwx P ((findKey kt _ _).bind _) _ _ H = _
  rw [findKey_str (l := []) hk k rfl]
  show hwx P ((zeroValue et).bind _) _ _ H = _
  rw [zeroValue_eq he]
  rfl
end
end Go.Hw

/- Strings at places that are known: lemmas without side goals, to be handed to the walk. -/
set_option linter.unusedSimpArgs false
set_option linter.unusedVariables false
namespace Go.Hw
section
variable {P : Program} {H : Hp} {K : Value → Hp → Prop} {X : List PanicEntry → Hp → Prop} {KQ : Value → Prop} {t : TypeId} {l : List UInt8} {c : UInt8} {k k2 : IntKind} {i j : Nat}

theorem binQ_cat {x y : Operand} {a b : List UInt8} (h : a.length + b.length ≤ 9223372036854775807) : binQ P .add t x y (.string (B a)) (.string (B b)) KQ H = KQ (.string (B (a ++ b))) := by
  have h1 : binQ P .add t x y (.string (B a)) (.string (B b)) KQ H = qv P (Op.stringOp .add (B a) (B b)) KQ H := (rfl)
  rw [h1]
  unfold Op.stringOp
  have h2 : ¬ (((B a).size + (B b).size : Nat) : Int) > IntKind.i64.max := by
    have : IntKind.i64.max = 9223372036854775807 := by decide
    rw [B_size, B_size]
    omega
  simp only [h2, if_false, B_append]
  exact qv_rd rfl
theorem some_lt {α : Type} {l : List α} {i : Nat} {c : α} (h : l[i]? = some c) : i < l.length := by
  rcases Nat.lt_or_ge i l.length with h1 | h1
  · exact h1
  · rw [List.getElem?_eq_none h1] at h; cases h
theorem getD_some {α : Type} {l : List α} {i : Nat} {c d : α} (h : l[i]? = some c) : l.getD i d = c := by
  rw [List.getD_eq_getElem?_getD, h]; rfl
theorem drop_some {α : Type} {l : List α} {i : Nat} {c : α} (h : l[i]? = some c) : l.drop i = c :: l.drop (i + 1) := by
  have hi := some_lt h
  rw [List.drop_eq_getElem_cons hi]
  rw [List.getElem?_eq_getElem hi] at h
  rw [Option.some.inj h]
theorem idxA_at (h : P.underlying t = some .string) (hc : l[i]? = some c) : idxA P t (.string (B l)) (.int k i) K X H = K (.int .u8 c.toNat) H := by
  rw [idxA_B h (by omega) (by have := some_lt hc; omega), Int.toNat_natCast, getD_some hc]
theorem idxQ_at (h : P.underlying t = some .string) (hc : l[i]? = some c) : idxQ P t (.string (B l)) (.int k i) KQ H = KQ (.int .u8 c.toNat) := by
  rw [idxQ_B h (by omega) (by have := some_lt hc; omega), Int.toNat_natCast, getD_some hc]
theorem sliA_one (h : P.underlying t = some .string) (hc : l[i]? = some c) : sliA P t (.string (B l)) (some (.int k i)) (some (.int k2 ((i + 1 : Nat) : Int))) none K X H = K (.string (B [c])) H := by
  have := some_lt hc
  rw [sliA_lohi h (by omega) (by omega) (by omega), Int.toNat_natCast, Int.toNat_natCast, drop_some hc, show i + 1 - i = 1 by omega]
  rfl
theorem sliQ_one (h : P.underlying t = some .string) (hc : l[i]? = some c) : sliQ P t (.string (B l)) (some (.int k i)) (some (.int k2 ((i + 1 : Nat) : Int))) none KQ H = KQ (.string (B [c])) := by
  have := some_lt hc
  rw [sliQ_lohi h (by omega) (by omega) (by omega), Int.toNat_natCast, Int.toNat_natCast, drop_some hc, show i + 1 - i = 1 by omega]
  rfl
theorem wrap_add (h : i + j ≤ 9223372036854775807) : IntKind.wrap .i64 ((i : Int) + (j : Int)) = ((i + j : Nat) : Int) := by
  rw [wrap_i64 (by omega) (by omega)]; omega
theorem wrap_one (h : i + 1 ≤ 9223372036854775807) : IntKind.wrap .i64 ((i : Int) + 1) = ((i + 1 : Nat) : Int) := by
  rw [wrap_i64 (by omega) (by omega)]; omega
theorem wrap_two (h : i + 2 ≤ 9223372036854775807) : IntKind.wrap .i64 ((i : Int) + 2) = ((i + 2 : Nat) : Int) := by
  rw [wrap_i64 (by omega) (by omega)]; omega
theorem dlt (h : i < j) : decide ((i : Int) < (j : Int)) = true := by rw [decide_eq_true_eq]; omega
theorem dge (h : j ≤ i) : decide ((i : Int) < (j : Int)) = false := by rw [decide_eq_false_iff_not]; omega
theorem u8_ne {a b : UInt8} (h : a ≠ b) : decide ((a.toNat : Int) = (b.toNat : Int)) = false := by
  rw [decide_eq_false_iff_not]; intro he; exact h (UInt8.toNat_inj.1 (by omega))

/-- Setting an element of a slice of the call's own. -/
theorem own_set {ok : Nat → Prop} {E : TypeId} {v u : Value} {n by_ : Nat} {l : List Value} {z : Option Value} (own : OwnS ok E 1 H v n l) (hi : i < n) (ht : TyOK P t z 1 by_) (hu : u.cells = #[u]) (h1 : oneC u = true)
    (k : ∀ H', OwnS ok E 1 H' v n (l.set i u) → Keep (blkOf v) H H' → K undef H') : ∃ a c, v = .slice (some a) n c ∧ storeA P t (.pointer (some (a.add (i * 1)))) u K X H := by
  rcases own with ⟨_, rfl, _⟩ | ⟨b, cap, c, f, rfl, h2, h3, h4, h5, h6, h7, h8⟩
  · omega
  refine ⟨⟨b, 0, none⟩, cap, rfl, ?_⟩
  have ha : (⟨b, 0, none⟩ : Addr).add (i * 1) = ⟨b, i, none⟩ := by
    unfold Addr.add
    split
    · rename_i h; have : i = 0 := by omega
      subst this; rfl
    · simp
  rw [ha]
  have hp := putH_blk (e := E) (f := f) [u] 0 H c (off := i) h3 (by intro w hw; simp at hw; subst hw; exact h1) (by simp; omega) (fun j _ _ => h8 j)
  rw [storeA_put ht (by rw [hu]; rfl) (by rw [hu]; exact hp)]
  have hb := get_lt h3
  refine k _ (.inr ⟨b, cap, splice c (i + 0) [u], f, rfl, h2, by rw [Array.getElem?_setIfInBounds]; simp [hb], by rw [size_splice]; exact h4, h5, by rw [List.length_set]; exact h6, ?_, h8⟩) ⟨by simp, fun j hj hn => ?_⟩
  · have : (splice c (i + 0) [u]).toList = c.toList.set i u := by
      simp [splice, Array.toList_setIfInBounds]
    rw [this, ← h7, List.take_set]
  · rw [Array.getElem?_setIfInBounds, if_neg]
    intro hbj
    exact hn ⟨0, n, cap, by rw [hbj]⟩
theorem own_setA {ok : Nat → Prop} {E : TypeId} {u : Value} {n by_ cp : Nat} {a : Addr} {l : List Value} {z : Option Value} (own : OwnS ok E 1 H (.slice (some a) n cp) n l) (hi : i < n) (ht : TyOK P t z 1 by_) (hu : u.cells = #[u]) (h1 : oneC u = true)
    (k : ∀ H', OwnS ok E 1 H' (.slice (some a) n cp) n (l.set i u) → Keep (blkOf (.slice (some a) n cp)) H H' → K undef H') : storeA P t (.pointer (some (a.add (i * 1)))) u K X H := by
  obtain ⟨a', c', h, hs⟩ := own_set (X := X) own hi ht hu h1 k
  cases h
  exact hs
end
end Go.Hw

/- Ranging over a map. -/
set_option linter.unusedSimpArgs false
set_option linter.unusedVariables false
namespace Go.Hw
section
variable {P : Program} {H : Hp} {K : Value → Hp → Prop} {X : List PanicEntry → Hp → Prop} {t : TypeId}

theorem rngA_map {m clk : Nat} {es : Array MapEntry} {kt et : TypeId} (h : P.underlying t = some (.map kt et)) (hm : H[m]? = some (.map es clk)) :
    rngA P t (.map (some m)) K X H = K (.pointer (some ⟨H.size, 0, none⟩)) (H.push (.mapIter (some m) clk #[] clk)) := by
  unfold rngA hv Instr.range
  show hwx P ((underlying t).bind _) _ _ H = _
  rw [hw_und h]
  show hwx P ((getObj m).bind _) _ _ H = _
  simp only [getObj, Sem.bind, hwx, hm, isCells, true_and]
  rfl
theorem rngA_mapnil {kt et : TypeId} (h : P.underlying t = some (.map kt et)) :
    rngA P t (.map none) K X H = K (.pointer (some ⟨H.size, 0, none⟩)) (H.push (.mapIter none 0 #[] 0)) := by
  unfold rngA hv Instr.range
  show hwx P ((underlying t).bind _) _ _ H = _
  rw [hw_und h]
  rfl
theorem nxtA_mapnil {r a b : Nat} {s : Array Nat} (h : H[r]? = some (.mapIter none a s b)) : nxtA P (.pointer (some ⟨r, 0, none⟩)) false t K X H = K (.tuple #[.bool false]) H := by
  unfold nxtA hv Instr.next
  show hwx P ((getObj r).bind _) _ _ H = _
  simp only [getObj, Sem.bind, hwx, h, isCells, true_and]
  rfl
theorem nxtA_map {r m clk : Nat} {seen : Array Nat} {es : Array MapEntry} (hit : H[r]? = some (.mapIter (some m) clk seen clk)) (hm : H[m]? = some (.map es clk)) (hborn : ∀ e ∈ es, e.born < clk)
    (hnext : ∀ e ∈ es, e.born ∉ seen → K (.tuple #[.bool true, e.key, e.val]) (H.setIfInBounds r (.mapIter (some m) clk (seen.push e.born) clk)))
    (hover : (∀ e ∈ es, e.born ∈ seen) → K (.tuple #[.bool false]) H) : nxtA P (.pointer (some ⟨r, 0, none⟩)) false t K X H := by
  unfold nxtA hv Instr.next
  show hwx P ((getObj r).bind _) _ _ H
  simp only [getObj, Sem.bind, hwx, hit, isCells, true_and]
  show hwx P ((getObj m).bind _) _ _ H
  simp only [getObj, Sem.bind, hwx, hm, isCells, true_and]
  have hc : (!seen.isEmpty && !es.isEmpty && es.all fun e => decide (e.born ≥ clk)) = false := by
    cases hE : es.isEmpty with
    | true => simp
    | false =>
      have hne : es ≠ #[] := by intro h0; rw [h0] at hE; cases hE
      obtain ⟨e, he⟩ : ∃ e, e ∈ es := by
        cases hl : es.toList with
        | nil => exact absurd (by cases es; simp at hl; rw [hl]) hne
        | cons a l => exact ⟨a, by rw [← Array.mem_toList_iff, hl]; simp⟩
      have : (es.all fun e => decide (e.born ≥ clk)) = false := by
        rw [Bool.eq_false_iff]
        intro hall
        rw [Array.all_eq_true_iff_forall_mem] at hall
        have h1 := hall e he
        have h2 := hborn e he
        simp at h1
        omega
      rw [this]; simp
  rw [hc, if_neg (by simp)]
  have hold : ((es.filter fun e => !seen.contains e.born).filter fun x => decide (x.born < clk)) = es.filter fun e => !seen.contains e.born := by
    rw [Array.filter_eq_self]
    intro e he
    exact decide_eq_true (hborn e (Array.mem_filter.1 he).1)
  have hnew : ((es.filter fun e => !seen.contains e.born).filter fun x => decide (x.born ≥ clk)) = #[] := by
    rw [Array.filter_eq_empty_iff]
    intro e he
    have := hborn e (Array.mem_filter.1 he).1
    simp; omega
  rw [hold, hnew]
  obtain ⟨cs, hcs⟩ : ∃ cs, ((if (es.filter fun e => !seen.contains e.born).isEmpty = true then #[none] else #[]) ++ Array.map some ((es.filter fun e => !seen.contains e.born) ++ #[])) = cs := ⟨_, rfl⟩
  rw [hcs]
  have key : 0 < cs.size ∧ ∀ i, i < cs.size → (∃ e ∈ es, e.born ∉ seen ∧ cs[i]? = some (some e)) ∨ ((∀ e ∈ es, e.born ∈ seen) ∧ cs[i]? = some none) := by
    cases hE : (es.filter fun e => !seen.contains e.born).isEmpty with
    | true =>
      have h0 : (es.filter fun e => !seen.contains e.born) = #[] := by simpa using hE
      rw [h0] at hcs
      simp at hcs
      subst hcs
      refine ⟨by simp, fun i hi => .inr ⟨fun e he => ?_, by simp at hi; subst hi; rfl⟩⟩
      have := (Array.filter_eq_empty_iff.1 h0) e he
      simpa using this
    | false =>
      rw [hE] at hcs
      simp only [Bool.false_eq_true, if_false, Array.append_empty, Array.empty_append] at hcs
      subst hcs
      have hpos : 0 < (es.filter fun e => !seen.contains e.born).size := by
        rcases Nat.eq_zero_or_pos (es.filter fun e => !seen.contains e.born).size with h0 | h0
        · rw [Array.isEmpty, h0] at hE; cases hE
        · exact h0
      refine ⟨by simpa using hpos, fun i hi => .inl ?_⟩
      have hi' : i < (es.filter fun e => !seen.contains e.born).size := by simpa using hi
      have hm' := Array.getElem_mem hi'
      obtain ⟨m1, m2⟩ := Array.mem_filter.1 hm'
      exact ⟨_, m1, by simpa using m2, by rw [Array.getElem?_map, Array.getElem?_eq_getElem hi']; rfl⟩
  obtain ⟨hpos, key⟩ := key
  show hwx P ((choose (.mapNext cs.size)).bind _) _ _ H
  simp only [choose, Sem.bind, hwx]
  have fin : ∀ i, i < cs.size → hwx P (match cs[i]? with
      | some (some e) => (setObj r (.mapIter (some m) clk (seen.push e.born) clk)).bind fun _ => pure (.tuple #[.bool true, e.key, e.val])
      | some none => (pure (.tuple #[.bool false]) : Sem Value)
      | none => stuck "Next: no such candidate") K (fun v H' => X [{ v, recovered := false }] H') H := by
    intro i hi
    rcases key i hi with ⟨e, h1, h2, h3⟩ | ⟨h1, h3⟩
    · rw [h3]
      simp only [setObj, Sem.bind, hwx, hit, isCells, true_and]
      exact hnext e h1 h2
    · rw [h3]
      exact hover h1
  split
  · exact fin 0 hpos
  · intro t
    exact fin _ (Nat.mod_lt _ hpos)

/-- Making a map. -/
theorem opA_makeMap {F : Fr} {d : Option Nat} {ty tt : TypeId} {g : Option (Nat × Bool)} : opA P ⟨d, .makeMap tt none, ty, g⟩ F H K X = K (.map (some H.size)) (H.push (.map #[] 0)) := by
  rw [opA_0 rfl (f := do pure (.value (← Instr.makeMap tt none))) fun _ => rfl, hv_next]
  rfl

/-- A map of the call's own: its entries, older than its clock. -/
def MapC (H : Hp) (r : Nat) (l : List (List UInt8 × Value)) : Prop :=
  ∃ es clk, H[r]? = some (.map es clk) ∧ es.toList.map (fun e => (e.key, e.val)) = (l.map fun p => (.string (B p.1), p.2)) ∧ ∀ e ∈ es, e.born < clk
theorem MapC.o {r : Nat} {l : List (List UInt8 × Value)} (h : MapC H r l) : MapO H r l := by
  obtain ⟨es, clk, h1, h2, _⟩ := h
  exact ⟨es, clk, h1, h2⟩
theorem MapC.new : MapC (H.push (.map #[] 0)) H.size [] := ⟨#[], 0, by simp, rfl, by simp⟩
theorem MapC.ext {H' : Hp} {r : Nat} {l : List (List UInt8 × Value)} (h : MapC H r l) (e : Ext H H') : MapC H' r l := by
  obtain ⟨es, clk, h1, h2⟩ := h
  exact ⟨es, clk, e.get h1, h2⟩

def putM (k : List UInt8) (v : Value) : List (List UInt8 × Value) → List (List UInt8 × Value)
  | [] => [(k, v)]
  | p :: r => if k = p.1 then (k, v) :: r else p :: putM k v r

theorem findM_put (k : List UInt8) (v : Value) : ∀ (l : List (List UInt8 × Value)) (i : Nat), match findM k l i with
    | some (j, _) => i ≤ j ∧ j < i + l.length ∧ putM k v l = l.set (j - i) (k, v)
    | none => putM k v l = l ++ [(k, v)]
  | [], i => by unfold findM; rfl
  | p :: r, i => by
    unfold findM putM
    by_cases hk : k = p.1
    · rw [if_pos hk, if_pos hk]; simp
    · rw [if_neg hk, if_neg hk]
      have := findM_put k v r (i + 1)
      cases hf : findM k r (i + 1) with
      | none => rw [hf] at this; simp only at this ⊢; rw [this]; rfl
      | some q =>
        obtain ⟨j, u⟩ := q
        rw [hf] at this
        simp only at this ⊢
        obtain ⟨h1, h2, h3⟩ := this
        refine ⟨by omega, by simp only [List.length_cons]; omega, ?_⟩
        rw [h3, show j - i = (j - (i + 1)) + 1 by omega]
        rfl

theorem findM_key (k : List UInt8) : ∀ (l : List (List UInt8 × Value)) (i j : Nat) (u : Value), findM k l i = some (j, u) → i ≤ j ∧ l[j - i]? = some (k, u)
  | [], i, j, u, h => by unfold findM at h; cases h
  | p :: r, i, j, u, h => by
    unfold findM at h
    by_cases hk : k = p.1
    · rw [if_pos hk] at h
      cases h
      exact ⟨Nat.le_refl _, by simp [hk]⟩
    · rw [if_neg hk] at h
      obtain ⟨h1, h2⟩ := findM_key k r (i + 1) j u h
      refine ⟨by omega, ?_⟩
      rw [show j - i = (j - (i + 1)) + 1 by omega, List.getElem?_cons_succ]
      exact h2
def mupA (P : Program) (t : TypeId) (m k v : Value) (K : Value → Hp → Prop) (X : List PanicEntry → Hp → Prop) (H : Hp) : Prop := hwx P (Instr.mapUpdate t m k v) (fun _ H' => K undef H') (fun v H' => X [{ v, recovered := false }] H') H
theorem opA_mapUpdate {F : Fr} {d : Option Nat} {ty : TypeId} {g : Option (Nat × Bool)} (t : TypeId) (x y z : Operand) : opA P ⟨d, .mapUpdate t x y z, ty, g⟩ F H K X = withv F x fun m => withv F y fun k => withv F z fun v => mupA P t m k v K X H := by
  rw [opA_3 rfl (f := fun m k v => do Instr.mapUpdate t m k v; pure .skip) fun _ => rfl]
  congr; funext a; congr; funext b; congr; funext v; exact hu_next _
theorem opA_insert {F : Fr} {d : Option Nat} {ty : TypeId} {g : Option (Nat × Bool)} (t : TypeId) (x y z : Operand) : opA P ⟨d, .insert t x y z, ty, g⟩ F H K X = withv F x fun m => withv F y fun k => withv F z fun v => mupA P t m k v K X H := by
  rw [opA_3 rfl (f := fun m k v => do Instr.mapUpdate t m k v; pure .skip) fun _ => rfl]
  congr; funext a; congr; funext b; congr; funext v; exact hu_next _

theorem mupA_ok {kt et : TypeId} {r : Nat} {k : List UInt8} {v : Value} {l : List (List UInt8 × Value)} (ht : P.underlying t = some (.map kt et)) (hk : P.underlying kt = some .string) (hm : MapC H r l)
    (kk : ∀ H', MapC H' r (putM k v l) → Keep (· = r) H H' → K undef H') : mupA P t (.map (some r)) (.string (B k)) v K X H := by
  obtain ⟨es, clk, h1, h2, h3⟩ := hm
  unfold mupA Instr.mapUpdate
  show hwx P ((underlying t).bind _) _ _ H
  rw [hw_und ht]
  show hwx P ((getObj r).bind _) _ _ H
  simp only [getObj, Sem.bind, hwx, h1, isCells, true_and]
  show hwx P ((Instr.checkKey _ _ kt _).bind _) _ _ H
  rw [checkKey_str hk]
  show hwx P ((Instr.findKey kt _ _).bind _) _ _ H
  rw [findKey_str hk k h2]
  have hr := get_lt h1
  have hput := findM_put k v l 0
  cases hf : findM k l 0 with
  | none =>
    rw [hf] at hput
    simp only at hput ⊢
    simp only [setObj, hwx, h1, isCells, true_and]
    refine kk _ ⟨_, _, get_set h1, ?_, ?_⟩ ⟨by simp, fun b hb hn => get_set_ne (fun h => hn h.symm)⟩
    · rw [hput]; simp [h2]
    · intro e he
      rcases Array.mem_push.1 he with he | he
      · have := h3 e he; omega
      · subst he; simp
  | some q =>
    obtain ⟨j, u⟩ := q
    rw [hf] at hput
    simp only at hput ⊢
    obtain ⟨_, hj⟩ := findM_key k l 0 j u hf
    rw [Nat.sub_zero] at hj hput
    have hpair : (es[j]?).map (fun e => (e.key, e.val)) = some (.string (B k), u) := by
      have := congrArg (fun x => x[j]?) h2
      simp only [List.getElem?_map, Array.getElem?_toList, hj, Option.map_some] at this
      exact this
    have hkey : ((es[j]?).map (fun e => e.key)).getD (.string (B k)) = .string (B k) := by
      cases he : es[j]? with
      | none => rfl
      | some e => rw [he] at hpair; simp at hpair; simp [hpair.1]
    rw [hkey]
    have hsame : Instr.sameBits 10000 (.string (B k)) (.string (B k)) = true := by
      show (B k == B k) = true
      rw [BA_beq]; simp
    unfold Instr.keyThatStays
    rw [if_pos hsame]
    show hwx P (setObj r _) _ _ H
    simp only [setObj, hwx, h1, isCells, true_and]
    refine kk _ ⟨_, _, get_set h1, ?_, ?_⟩ ⟨by simp, fun b hb hn => get_set_ne (fun h => hn h.symm)⟩
    · rw [hput.2.2]
      apply List.ext_getElem?
      intro n
      have h2n := congrArg (fun x => x[n]?) h2
      simp only [List.getElem?_map, Array.getElem?_toList] at h2n ⊢
      rw [Array.getElem?_modify, List.getElem?_set]
      by_cases hn : j = n
      · subst hn
        rw [if_pos rfl, if_pos rfl, if_pos (by omega)]
        cases he : es[j]? with
        | none => rw [he] at hpair; simp at hpair
        | some e => rfl
      · rw [if_neg hn, if_neg hn]; exact h2n
    · intro e he
      obtain ⟨n, hn, hen⟩ := Array.getElem_of_mem he
      rw [Array.getElem_modify] at hen
      have hn' : n < es.size := by simpa using hn
      have := h3 es[n] (Array.getElem_mem hn')
      split at hen <;> (subst hen; exact this)
end
end Go.Hw

/- What a strings.Builder needs: appending nothing; unsafe.SliceData, unsafe.String over a row of bytes. -/
set_option linter.unusedSimpArgs false
set_option linter.unusedVariables false
namespace Go.Hw

section
variable {P : Program} {H : Hp} {K : Value → Hp → Prop} {X : List PanicEntry → Hp → Prop} {KQ : Value → Prop} {ty : TypeId}

theorem append_empty {T T2 E : TypeId} {d2 : TypeDesc} {z : Option Value} {by_ : Nat} {cs : Array Bool} {a : Option Addr} {n c : Nat} (hn : n ≤ c)
    (hT : P.underlying T = some (.slice E)) (hE : TyOK P E z 1 by_) (hT2 : P.underlying T2 = some d2) (hd2 : notInt d2 = true) :
    callA P (.builtin .append) #[T, T2] ty cs [.slice a n c, .string (B [])] K X H = K (.slice a n c) H := by
  show hwx P (do let v ← Builtin.append_ #[T, T2] ty #[.slice a n c, .string (B [])]; pure (Next.value v)) _ _ H = _
  rw [hv_next]
  unfold hv Builtin.append_
  show hwx P ((underlying T).bind _) _ _ H = _
  rw [hw_und hT]
  show hwx P ((sizeOf E).bind _) _ _ H = _
  rw [sizeOf_eq hE]
  show hwx P ((underlying T2).bind _) _ _ H = _
  rw [hw_und hT2]
  have hzb : isIntB d2 = false := by cases d2 <;> first | rfl | cases hd2
  show hwx P ((Sem.pure (isIntB d2)).bind _) _ _ H = _
  rw [hzb]
  simp only [Sem.bind, Bool.false_eq_true, if_false, Bool.not_false, if_true]
  have e0 : (B []).size = 0 := rfl
  show hwx P ((Sem.pure (B []).size).bind _) _ _ H = _
  simp only [Sem.bind, e0, Nat.add_zero, hn, if_true]
  show hwx P ((Builtin.firstCells 1 0 (.string (B []))).bind _) _ _ H = _
  have hsrc : Src H 1 (.string (B [])) 0 [] := .inr (.inr ⟨B [], rfl, rfl, rfl⟩)
  rw [hw_firstCells hsrc (fun _ => rfl)]
  cases a <;> rfl

theorem callQ_usd {ats : Array TypeId} {cs : Array Bool} {a : Addr} {n c : Nat} (hc : c ≠ 0) : callQ P (.builtin .unsafeSliceData) ats ty cs [.slice (some a) n c] KQ H = KQ (.pointer (some a)) := by
  obtain ⟨k, rfl⟩ : ∃ k, c = k + 1 := ⟨c - 1, by omega⟩
  rfl
theorem callQ_usd0 {ats : Array TypeId} {cs : Array Bool} {n c : Nat} : callQ P (.builtin .unsafeSliceData) ats ty cs [.slice none n c] KQ H = KQ (.pointer none) := (rfl)

theorem callA_ustr0 {pt it : TypeId} {cs : Array Bool} {p : Option Addr} : callA P (.builtin .unsafeString) #[pt, it] ty cs [.pointer p, .int .i64 0] K X H = K (.string (B [])) H := by
  cases p <;> rfl

theorem hw_loadBytes {a : Addr} {K : ByteArray → Hp → Prop} {X : Value → Hp → Prop} : ∀ (l : List UInt8) (i : Nat) (acc : ByteArray), cellsH H a i l.length = some (bytesV l) → hwx P (loadBytes (a.add i) acc l.length) K X H = K ⟨acc.data ++ l.toArray⟩ H
  | [], i, acc, h => by
    show K acc H = _
    simp
  | c :: l, i, acc, h => by
    simp only [List.length_cons, cellsH] at h
    cases hc : cellH H (a.add i) with
    | none => rw [hc] at h; cases h
    | some v =>
      rw [hc] at h
      simp only [Option.map_eq_some_iff] at h
      obtain ⟨m, hm, hm2⟩ := h
      have hv : v = .int .u8 c.toNat ∧ m = bytesV l := by simpa [bytesV] using hm2
      obtain ⟨rfl, rfl⟩ := hv
      simp only [List.length_cons, loadBytes]
      show hwx P ((load (a.add i)).bind _) K X H = _
      simp only [load, Sem.bind, hwx, hc]
      have hadd : (a.add i).add 1 = a.add (i + 1) := by
        unfold Addr.add
        by_cases hi : i = 0
        · subst hi; simp
        · simp [hi]; omega
      have hx : ((c.toNat : Int).toNat).toUInt8 = c := by simp
      show hwx P (loadBytes ((a.add i).add 1) (acc.push ((c.toNat : Int).toNat).toUInt8) l.length) K X H = _
      rw [hadd, hx, hw_loadBytes l (i + 1) _ hm]
      congr 1
      apply ByteArray.ext
      simp [ByteArray.push]

theorem callA_ustr {pt it E : TypeId} {cs : Array Bool} {g : Nat} {c : Array Value} {f : Nat × Nat} {l : List UInt8} (hpt : P.underlying pt = some (.pointer E)) (hE : P.cellsOf E = 1) (hg : H[g]? = some (.cells c E f)) (h0 : l ≠ []) (hl : l.length ≤ c.size) (hc : c.toList.take l.length = bytesV l) (hmax : l.length ≤ 9223372036854775807) :
    callA P (.builtin .unsafeString) #[pt, it] ty cs [.pointer (some ⟨g, 0, none⟩), .int .i64 l.length] K X H = K (.string (B l)) (freezeH H ⟨g, 0, none⟩ l.length) := by
  have hlen := List.length_pos_iff.2 h0
  show hwx P (do let v ← Builtin.unsafeString_ #[pt, it] ty #[.pointer (some ⟨g, 0, none⟩), .int .i64 l.length]; pure (Next.value v)) _ _ H = _
  rw [hv_next]
  have hdef : ∀ n : Int, Builtin.unsafeString_ #[pt, it] ty #[.pointer (some ⟨g, 0, none⟩), .int .i64 n] =
      (do
        let n ← asInt (.int .i64 n)
        if n < 0 then runtimePanic (.error "unsafe.String: len out of range")
        if n > IntKind.i64.max then unsupported (.unsafePointer "String: a length above the largest int")
        if n = 0 then pure (.string .empty)
        else if ← variablesAt ⟨g, 0, none⟩ (← elemOf pt) n.toNat then do
          let s ← loadBytes ⟨g, 0, none⟩ .empty n.toNat
          freeze ⟨g, 0, none⟩ n.toNat
          pure (.string s)
        else unsupported (.unsafePointer "String: not so many bytes at ptr")) := fun n => rfl
  rw [hdef]
  unfold hv
  have hm : IntKind.i64.max = 9223372036854775807 := rfl
  have e1 : ¬ ((l.length : Int) < 0) := by omega
  have e2 : ¬ ((l.length : Int) > IntKind.i64.max) := by rw [hm]; omega
  have e3 : ¬ ((l.length : Int) = 0) := by omega
  have hasInt : asInt (.int .i64 (l.length : Int)) = (pure (l.length : Int) : Sem Int) := rfl
  simp only [hasInt, pure_bind, e1, e2, e3, if_false]
  have hel : ∀ (k : TypeId → Sem Value), hwx P ((elemOf pt).bind k) K (fun v H' => X [{ v, recovered := false }] H') H = hwx P (k E) K (fun v H' => X [{ v, recovered := false }] H') H := by
    intro k
    unfold elemOf
    show hwx P (((underlying pt).bind _).bind _) _ _ H = _
    rw [hwx_bind, hw_und hpt]
    rfl
  show hwx P ((elemOf pt).bind _) _ _ H = _
  rw [hel]
  show hwx P ((variablesAt ⟨g, 0, none⟩ E (l.length : Int).toNat).bind _) _ _ H = _
  have hva : ∀ (k : Bool → Sem Value), hwx P ((variablesAt ⟨g, 0, none⟩ E l.length).bind k) K (fun v H' => X [{ v, recovered := false }] H') H = hwx P (k true) K (fun v H' => X [{ v, recovered := false }] H') H := by
    intro k
    unfold variablesAt
    show hwx P ((Sem.program fun p => (shape g).bind _).bind k) _ _ H = _
    simp only [Sem.bind, hwx, shape, shapeH, hg]
    rw [Lib.liesAt_bytes hE _ _ (by rw [hE]; simpa using hl)]
    rfl
  rw [Int.toNat_natCast, hva]
  simp only [if_true]
  show hwx P ((loadBytes ⟨g, 0, none⟩ .empty l.length).bind _) _ _ H = _
  rw [hwx_bind]
  have hcs : cellsH H ⟨g, 0, none⟩ 0 l.length = some (bytesV l) := by rw [cellsH_of_blk hg _ _ (by omega)]; simpa using hc
  have := hw_loadBytes (P := P) (K := fun a H' => hwx P ((freeze ⟨g, 0, none⟩ l.length).bind fun _ => Sem.pure (Value.string a)) K (fun v H' => X [{ v, recovered := false }] H') H') (X := fun v H' => X [{ v, recovered := false }] H') l 0 .empty hcs
  rw [add_none] at this
  refine Eq.trans this ?_
  show K (.string ⟨ByteArray.empty.data ++ l.toArray⟩) (freezeH H ⟨g, 0, none⟩ l.length) = _
  have : (⟨ByteArray.empty.data ++ l.toArray⟩ : ByteArray) = B l := by
    have e : ByteArray.empty.data = #[] := rfl
    rw [e, Array.empty_append]
    rfl
  rw [this]

/-! ### nilCheck, as an equation -/

def nckA (P : Program) (v : Value) (K : Value → Hp → Prop) (X : List PanicEntry → Hp → Prop) (H : Hp) : Prop :=
  hwx P (execOp (fun _ => v) (O.oper ⟨none, .nilCheck (.const v), 0, none⟩)) (nextK P K X) (fun v H' => X [{ v, recovered := false }] H') H
theorem opA_nck {F : Fr} {d : Option Nat} {g : Option (Nat × Bool)} (x : Operand) : opA P ⟨d, .nilCheck x, ty, g⟩ F H K X = withv F x fun v => nckA P v K X H :=
  opA_1 rfl (f := fun v => execOp (fun _ => v) (O.oper ⟨none, .nilCheck (.const v), 0, none⟩)) fun _ => rfl
theorem nckA_ptr {a : Addr} : nckA P (.pointer (some a)) K X H = K (.pointer (some a)) H := (rfl)
theorem nckA_fn {f : FuncId} {a b : Array Value} : nckA P (.func (.func f) a b) K X H = K (.func (.func f) a b) H := (rfl)
theorem nckA_y {l : Nat} {a b : Array Value} : nckA P (.func (.yield l) a b) K X H = K (.func (.yield l) a b) H := (rfl)
theorem nckA_iface {t : TypeId} {v : Value} : nckA P (.iface t v) K X H = K (.iface t v) H := (rfl)

def nckQ (P : Program) (v : Value) (K : Value → Prop) (H : Hp) : Prop := nextQ P K H (rd P (execOp (fun _ => v) (O.oper ⟨none, .nilCheck (.const v), 0, none⟩)) H)
theorem qA_nck {F : Fr} {d : Option Nat} {g : Option (Nat × Bool)} (x : Operand) : qA P ⟨d, .nilCheck x, ty, g⟩ F H KQ = withv F x fun v => nckQ P v KQ H :=
  qA_1 rfl (f := fun v => execOp (fun _ => v) (O.oper ⟨none, .nilCheck (.const v), 0, none⟩)) fun _ => rfl
theorem nckQ_ptr {a : Addr} : nckQ P (.pointer (some a)) KQ H = KQ (.pointer (some a)) := (rfl)
theorem nckQ_fn {f : FuncId} {a b : Array Value} : nckQ P (.func (.func f) a b) KQ H = KQ (.func (.func f) a b) := (rfl)
end
end Go.Hw

/- Calls of yield, loops over functions; loads, stores, results by facts on the blocks at hand. -/
set_option linter.unusedSimpArgs false
set_option linter.unusedVariables false
namespace Go.Hw

section
variable {P : Program} {H : Hp} {K : Value → Hp → Prop} {X : List PanicEntry → Hp → Prop} {KQ : Value → Prop} {ty : TypeId} {F : Fr}

/-- A call of yield is a round. -/
theorem callA_yield {l : Nat} {lp : Loop} {o : Operand} {ats : Array TypeId} {cs : Array Bool} {vs : List Value} (h : H[l]? = some (.loop lp)) (hn : vs.length = lp.params.size) :
    callA P (.value o) ats ty cs (.func (.yield l) #[] #[] :: vs) K X H = HYield P l lp vs H (callK K X) := by
  unfold callA callSem
  simp only [List.headD_cons, List.tail_cons]
  show hwx P (Instr.yield l (#[] ++ vs.toArray)) _ _ H = _
  have e : (#[] ++ vs.toArray : Array Value) = vs.toArray := by simp
  rw [e]
  unfold Instr.yield Instr.getLoop
  show hwx P (((getObj l).bind _).bind _) _ _ H = _
  simp only [getObj, Sem.bind, hwx, h, isCells, true_and]
  have hs : ¬ (vs.toArray.size ≠ lp.params.size) := by simpa using hn
  show hwx P ((Sem.pure lp).bind _) _ _ H = _
  simp only [Sem.bind, hs, if_false]
  rfl

theorem aw_rf {n : Nat} {g : Operand} {ps : List Nat} {a b : A} {Q : E → Fr → Hp → Prop} {it : FuncId} {first cap : Array Value} (hg : evo F g = some (.func (.func it) first cap)) (hpl : Plain P it) (hf : (flat a && flat b && ps.all fun p => decide (p < n)) = true)
    (h : ∀ lp : Loop, LoopR ps H.size lp →
          (∀ (vs : List Value) (H' : Hp) (K : Ending → Hp → Prop), vs.length = ps.length → H'[H.size + 1]? = some (.loop lp) →
            aw P n a (noE fun F1 H1 => H1[H.size + 1]? = some (.loop lp) ∧ aw P n b (rndK (H.size + 1) lp K) F1 (H1.setIfInBounds (H.size + 1) (.loop { lp with state := .busy }))) (bindF ps vs F) H' →
            HYield P (H.size + 1) lp vs H' K) →
          HCall P it (first ++ #[.func (.yield (H.size + 1)) #[] #[]] ++ cap) ((H.push (.deferred (some []))).push (.loop lp)) (rfK (H.size + 1) Q F)) : aw P n (.rf g ps a b) Q F H := by
  simp only [aw, withv, hg]
  exact ⟨⟨hpl, hf⟩, h⟩

theorem noE_normal {K : Fr → Hp → Prop} : noE K .normal F H = K F H := (rfl)

/-! ### Loads as equations -/

def withc (o : Option Value) (K : Value → Prop) : Prop :=
  match o with
  | some v => K v
  | none => False
theorem withc_some {v : Value} {K : Value → Prop} : withc (some v) K = K v := (rfl)

def withcs (o : Option (List Value)) (K : List Value → Prop) : Prop :=
  match o with
  | some v => K v
  | none => False
theorem withcs_some {v : List Value} {K : List Value → Prop} : withcs (some v) K = K v := (rfl)

theorem loadA_1 {t : TypeId} {dd : TypeDesc} (h : P.underlying t = some dd) (hd : aggD dd = false) {a : Addr} : loadA P t (.pointer (some a)) K X H = withc (cellH H a) fun v => K v H := by
  unfold loadA hv Instr.loadAt
  show hwx P (loadVar t a) _ _ H = _
  unfold loadVar
  show hwx P ((isAgg t).bind _) _ _ H = _
  rw [isAgg_eq h, hd]
  simp only [Bool.false_eq_true, if_false, load, hwx]
  cases cellH H a <;> rfl

theorem hw_loadCellsFrom_none {a : Addr} {α : Type} {k : Array Value → Sem α} {K : α → Hp → Prop} {X : Value → Hp → Prop} : ∀ (n i : Nat) (acc : Array Value), cellsH H a i n = none → ¬ hwx P ((loadCellsFrom a i n acc).bind k) K X H
  | 0, i, acc, h => by simp [cellsH] at h
  | n + 1, i, acc, h => by
    simp only [cellsH] at h
    intro hh
    have hh' : hwx P (((load (a.add i)).bind fun v => loadCellsFrom a (i + 1) n (acc.push v)).bind k) K X H := hh
    cases hc : cellH H (a.add i) with
    | none => simp [load, Sem.bind, hwx, hc] at hh'
    | some v =>
      rw [hc] at h
      simp only [load, Sem.bind, hwx, hc] at hh'
      refine hw_loadCellsFrom_none n (i + 1) (acc.push v) ?_ hh'
      simpa using h

theorem loadA_n {t : TypeId} {dd : TypeDesc} {z : Option Value} {sz by_ : Nat} (h : P.underlying t = some dd) (hd : aggD dd = true) (ht : TyOK P t z sz by_) {a : Addr} : loadA P t (.pointer (some a)) K X H = withcs (cellsH H a 0 sz) fun l => K (.agg l.toArray) H := by
  cases hc : cellsH H a 0 sz with
  | some l => exact loadA_agg h hd ht hc
  | none =>
    refine propext ⟨fun hh => ?_, fun hh => hh.elim⟩
    unfold loadA hv Instr.loadAt at hh
    have h1 : hwx P ((isAgg t).bind fun b => if b = true then (sizeOf t).bind fun n => (loadCells a n).bind fun cs => Sem.pure (Value.agg cs) else load a) K (fun v H' => X [{ v, recovered := false }] H') H := hh
    rw [isAgg_eq h, hd] at h1
    simp only [if_true] at h1
    rw [sizeOf_eq ht] at h1
    exact hw_loadCellsFrom_none _ _ _ hc h1

theorem loadQ_1 {t : TypeId} {dd : TypeDesc} (h : P.underlying t = some dd) (hd : aggD dd = false) {a : Addr} {v : Value} (hc : cellH H a = some v) : loadQ P t (.pointer (some a)) KQ H = KQ v := loadQ_cell h hd hc

/-- A quiet load. -/
theorem loadQ_w {t : TypeId} {dd : TypeDesc} (h : P.underlying t = some dd) (hd : aggD dd = false) {a : Addr} : withc (cellH H a) KQ → loadQ P t (.pointer (some a)) KQ H := by
  cases hc : cellH H a with
  | none => exact fun h => h.elim
  | some v => intro hk; rw [loadQ_cell h hd hc]; exact hk
theorem loadQ_e {t : TypeId} {dd : TypeDesc} (h : P.underlying t = some dd) (hd : aggD dd = false) {a : Addr} : loadQ P t (.pointer (some a)) KQ H = withc (cellH H a) KQ := by
  cases hc : cellH H a with
  | some v => exact loadQ_cell h hd hc
  | none =>
    refine propext ⟨fun hh => ?_, fun hh => hh.elim⟩
    unfold loadQ qv at hh
    have : rd P (Instr.loadAt t (.pointer (some a))) H = none := by
      show rd P (loadVar t a) H = none
      unfold loadVar
      show rd P ((isAgg t).bind _) H = none
      rw [rd_bind]
      have hi : rd P (isAgg t) H = some false := by
        show rd P ((underlying t).bind fun d => match d with | .struct _ | .array _ _ => Sem.pure true | _ => Sem.pure false) H = _
        rw [rd_bind]
        have hu : rd P (underlying t) H = some dd := by
          show rd P (match P.underlying t with | some d => Sem.pure d | none => stuck _) H = _
          rw [h]; rfl
        rw [hu]
        cases dd <;> first | rfl | cases hd
      rw [hi]
      simp only [Option.bind_some, Bool.false_eq_true, if_false, load, rd, hc]
    rw [this] at hh
    exact hh

theorem cells_0 {a : Addr} {i : Nat} : cellsH H a i 0 = some [] := (rfl)
theorem cells_s {b off i n : Nat} : cellsH H ⟨b, off, none⟩ i (n + 1) = (cellH H ⟨b, off + i, none⟩).bind fun v => (cellsH H ⟨b, off, none⟩ (i + 1) n).map (v :: ·) := by
  simp only [cellsH, add_none]
  cases cellH H ⟨b, off + i, none⟩ <;> rfl
theorem cells_2 {b off : Nat} : cellsH H ⟨b, off, none⟩ 0 2 = (cellH H ⟨b, off, none⟩).bind fun v => (cellH H ⟨b, off + 1, none⟩).bind fun u => some [v, u] := by
  simp only [cellsH, add_none, Nat.add_zero, Nat.zero_add]
  cases cellH H ⟨b, off, none⟩ <;> cases cellH H ⟨b, off + 1, none⟩ <;> rfl

/-! ### Boxes and stores -/

theorem box_k {t : TypeId} {v : Value} {K : Value → Hp → Prop} (k : ∀ (b : Nat) (G : Hp), b = H.size → G.size = H.size + 1 → G[b]? = some (.cells v.cells t (0, 0)) → Ext H G → K (.pointer (some ⟨b, 0, none⟩)) G) : boxA P t v K H :=
  k H.size _ rfl (by simp) get_push_eq (Ext.push _ _)

theorem store_k {t : TypeId} {z : Option Value} {sz by_ b off : Nat} {v : Value} {c : Array Value} {e : TypeId} (hb : H[b]? = some (.cells c e (0, 0))) (ht : TyOK P t z sz by_) (hv : v.cells.size = sz) (h1 : (v.cells.toList.all oneC) = true) (hoff : off + sz ≤ c.size)
    (k : ∀ G : Hp, G[b]? = some (.cells (splice c off v.cells.toList) e (0, 0)) → Keep (· = b) H G → G.size = H.size → K undef G) : storeA P t (.pointer (some ⟨b, off, none⟩)) v K X H := by
  have hp := putH_blk (b := b) (off := off) (e := e) (f := (0, 0)) v.cells.toList 0 H c hb (fun u hu => List.all_eq_true.1 h1 u hu) (by simp [hv]; omega) (by simp)
  rw [storeA_put ht hv hp]
  have hlt := get_lt hb
  refine k _ ?_ ⟨by simp, fun i hi hn => ?_⟩ (by simp)
  · rw [Array.getElem?_setIfInBounds]; simp [hlt]
  · rw [Array.getElem?_setIfInBounds_ne (fun e => hn e.symm)]

theorem Keep.two {b : Nat} {H0 H G : Hp} (h : Ext H0 H) (k : Keep (· = b) H G) (hb : H0.size ≤ b) : Ext H0 G := h.then k fun x hx => by omega

/-! ### Results in variables -/

def rcA (P : Program) (t : TypeId) (v : Value) (H : Hp) (K : Value → Prop) : Prop :=
  match v with
  | .pointer (some ad) => match rd P (loadVar t ad) H with
    | some u => K u
    | none => False
  | _ => False
theorem resW_cell {K : List Value → Prop} {a : Nat} {t : TypeId} {r : List ResultVar} : resW P F H K (.cell a t :: r) = withv F (.tmp a) fun v => rcA P t v H fun u => resW P F H (fun vs => K (u :: vs)) r := by
  simp only [resW]
  unfold rcA
  rfl
theorem rcA_1 {t : TypeId} {dd : TypeDesc} (h : P.underlying t = some dd) (hd : aggD dd = false) {a : Addr} {K : Value → Prop} (hk : withc (cellH H a) K) : rcA P t (.pointer (some a)) H K := by
  cases hc : cellH H a with
  | none => rw [hc] at hk; exact hk.elim
  | some v => rw [hc] at hk; unfold rcA; simp only [rd_loadVar_cell h hd hc]; exact hk
theorem rcA_n {t : TypeId} {dd : TypeDesc} {z : Option Value} {sz by_ : Nat} (h : P.underlying t = some dd) (hd : aggD dd = true) (ht : TyOK P t z sz by_) {a : Addr} {K : Value → Prop} {l : List Value} (hc : cellsH H a 0 sz = some l) : rcA P t (.pointer (some a)) H K = K (.agg l.toArray) := by
  unfold rcA; simp only [rd_loadVar_agg h hd ht hc]

end
end Go.Hw

/- Literals of structs as equations; slices with their blocks. -/
set_option linter.unusedSimpArgs false
set_option linter.unusedVariables false
namespace Go.Hw

def bfill (pl : List (Nat × Nat)) (cells : List Value) : List (Nat × Value) → Option (List Value)
  | [] => some cells
  | (i, v) :: rest => match pl[i]? with
    | none => none
    | some (off, size) => if v.cells.toList.length = size ∧ off + size ≤ cells.length then bfill pl (cells.take off ++ (v.cells.toList ++ cells.drop (off + size))) rest else none

theorem bfill_nil {pl : List (Nat × Nat)} {cells : List Value} : bfill pl cells [] = some cells := (rfl)
def bstep (pl : List (Nat × Nat)) (cells : List Value) (v : Value) (rest : List (Nat × Value)) (p : Option (Nat × Nat)) : Option (List Value) :=
  match p with
  | none => none
  | some (off, size) => if v.cells.toList.length = size ∧ off + size ≤ cells.length then bfill pl (cells.take off ++ (v.cells.toList ++ cells.drop (off + size))) rest else none
theorem bfill_cons {pl : List (Nat × Nat)} {cells : List Value} {i : Nat} {v : Value} {rest : List (Nat × Value)} : bfill pl cells ((i, v) :: rest) = bstep pl cells v rest pl[i]? := (rfl)
theorem bstep_some {pl : List (Nat × Nat)} {cells : List Value} {v : Value} {rest : List (Nat × Value)} {off size : Nat} : bstep pl cells v rest (some (off, size)) = if v.cells.toList.length = size ∧ off + size ≤ cells.length then bfill pl (cells.take off ++ (v.cells.toList ++ cells.drop (off + size))) rest else none := (rfl)

theorem put_zip (off : Nat) : ∀ (l : List Value) (k : Nat) (cells : Array Value), off + k + l.length ≤ cells.size →
    (l.toArray.zipIdx k).foldl (fun cs x => cs.setIfInBounds (off + x.2) x.1) cells = (cells.toList.take (off + k) ++ (l ++ cells.toList.drop (off + k + l.length))).toArray
  | [], k, cells, h => by
    have e : (#[] : Array Value).zipIdx k = #[] := by apply Array.ext'; simp
    rw [e]
    apply Array.ext'
    simp
  | v :: r, k, cells, h => by
    simp only [List.length_cons] at h
    have e : ((v :: r).toArray.zipIdx k) = #[(v, k)] ++ (r.toArray.zipIdx (k + 1)) := by
      apply Array.ext'
      simp [List.zipIdx_cons]
    rw [e, Array.foldl_append]
    show (r.toArray.zipIdx (k + 1)).foldl _ (cells.setIfInBounds (off + k) v) = _
    rw [put_zip off r (k + 1) (cells.setIfInBounds (off + k) v) (by simp; omega)]
    apply Array.ext'
    simp only [List.length_cons]
    apply List.ext_getElem?
    intro i
    have hlt : off + k < cells.toList.length := by simp; omega
    simp only [Array.toList_setIfInBounds]
    rw [show off + (k + 1) = off + k + 1 by omega, List.take_succ_eq_append_getElem (by simpa using hlt)]
    simp only [List.getElem_set_self, List.take_set_of_le (Nat.le_refl _), List.append_assoc, List.cons_append, List.nil_append]
    rw [List.drop_set_of_lt (by omega)]
    rw [show off + k + 1 + r.length = off + k + (r.length + 1) by omega]

theorem fill_eq (pl : List (Nat × Nat)) : ∀ (ps : List (Nat × Value)) (cells : List Value), Instr.fill (pl.toArray[·]?) cells.toArray ps = (bfill pl cells ps).map List.toArray
  | [], cells => rfl
  | (i, v) :: rest, cells => by
    unfold Instr.fill bfill
    have e : pl.toArray[i]? = pl[i]? := by simp
    rw [e]
    cases hp : pl[i]? with
    | none => rfl
    | some p =>
      obtain ⟨off, size⟩ := p
      simp only []
      by_cases hc : v.cells.toList.length = size ∧ off + size ≤ cells.length
      · have h1 : ¬ ((decide (v.cells.size ≠ size) || decide (off + v.cells.size > cells.toArray.size)) = true) := by
          have := hc.1
          simp only [Array.length_toList] at this
          simp [this]; exact hc.2
        rw [if_neg h1, if_pos hc]
        have hz := put_zip off v.cells.toList 0 cells.toArray (by simpa [hc.1] using hc.2)
        simp only [Nat.add_zero] at hz
        have hz2 : Array.foldl (fun cs (x : Value × Nat) => match x with | (c, j) => cs.setIfInBounds (off + j) c) cells.toArray v.cells.zipIdx = (cells.take off ++ (v.cells.toList ++ cells.drop (off + size))).toArray := by
          have : v.cells.toList.toArray = v.cells := by simp
          rw [this] at hz
          rw [← hc.1]
          simpa using hz
        rw [hz2]
        exact fill_eq pl rest _
      · have h1 : (decide (v.cells.size ≠ size) || decide (off + v.cells.size > cells.toArray.size)) = true := by
          simp only [Array.length_toList] at hc
          simp only [Bool.or_eq_true, decide_eq_true_eq, List.size_toArray]
          omega
        rw [if_pos h1, if_neg hc]
        rfl

def placesO (P : Program) : List Field → Option (List (Nat × Nat))
  | [] => some []
  | f :: r => match P.info? f.type, placesO P r with
    | some i, some l => some ((f.offset, i.size) :: l)
    | _, _ => none

def fldG (f : Field) : Sem (Nat × Nat) := (sizeOf f.type).bind fun s => Sem.pure (f.offset, s)

theorem places_rd {P : Program} {H : Hp} : ∀ (fs : List Field) {l : List (Nat × Nat)}, placesO P fs = some l → rd P (fs.mapM fldG) H = some l
  | [], l, h => by simp only [placesO, Option.some.injEq] at h; subst h; rfl
  | f :: r, l, h => by
    simp only [placesO] at h
    cases hi : P.info? f.type with
    | none => rw [hi] at h; cases h
    | some i =>
      cases hr : placesO P r with
      | none => rw [hi, hr] at h; cases h
      | some l' =>
        rw [hi, hr] at h
        simp only [Option.some.injEq] at h
        subst h
        have hs : rd P (fldG f) H = some (f.offset, i.size) := by
          show rd P (((match P.info? f.type with | some i => Sem.pure i | none => stuck "no such type").bind fun i => Sem.pure i.size).bind fun s => Sem.pure (f.offset, s)) H = _
          rw [hi]; rfl
        rw [List.mapM_cons]
        show rd P ((fldG f).bind fun b => (r.mapM fldG).bind fun bs => Sem.pure (b :: bs)) H = _
        rw [rd_bind, hs]
        show rd P ((r.mapM fldG).bind fun bs => Sem.pure ((f.offset, i.size) :: bs)) H = _
        rw [rd_bind, places_rd r hr]
        rfl

theorem rd_zero {P : Program} {H : Hp} {t : TypeId} {z : Value} {sz by_ : Nat} (ht : TyOK P t (some z) sz by_) : rd P (zeroValue t) H = some z := by
  obtain ⟨i, hi, h1, _, _⟩ := ht.info
  show rd P ((match P.info? t with | some i => Sem.pure i | none => stuck "no such type").bind fun i => match i.zero with | some v => Sem.pure v | none => unsupported _) H = _
  rw [hi]
  simp only [Sem.bind, h1]
  rfl
theorem rd_und0 {P : Program} {H : Hp} {t : TypeId} {d : TypeDesc} (h : P.underlying t = some d) : rd P (underlying t) H = some d := by
  show rd P (match P.underlying t with | some d => Sem.pure d | none => stuck _) H = _
  rw [h]; rfl

def withO (o : Option (List Value)) (K : Value → Prop) : Prop :=
  match o with
  | some c => K (.agg c.toArray)
  | none => False
theorem withO_some {c : List Value} {K : Value → Prop} : withO (some c) K = K (.agg c.toArray) := (rfl)

section
variable {P : Program} {H : Hp} {K : Value → Hp → Prop} {X : List PanicEntry → Hp → Prop} {KQ : Value → Prop}

theorem hwx_rd {α : Type} : ∀ (s : Sem α) (H : Hp) (v : α) {K : α → Hp → Prop} {X : Value → Hp → Prop}, rd P s H = some v → hwx P s K X H = K v H := by
  intro s
  induction s with
  | pure a => intro H v K X h; simp only [rd, Option.some.injEq] at h; subst h; rfl
  | load m a k ih =>
    intro H v K X h
    simp only [rd, hwx] at h ⊢
    cases hc : cellH H a with
    | none => rw [hc] at h; cases h
    | some u => rw [hc] at h; exact ih u H v h
  | shape r k ih => intro H v K X h; simp only [rd] at h; split at h; exact ih _ H v h; cases h
  | frozen a k ih => intro H v K X h; simp only [rd] at h; split at h; exact ih _ H v h; cases h
  | getObj r k ih =>
    intro H v K X h
    simp only [rd, hwx] at h ⊢
    cases ho : H[r]? with
    | none => rw [ho] at h; cases h
    | some o =>
      rw [ho] at h
      simp only at h
      split at h
      · cases h
      · rename_i hc
        have hc' : isCells o = false := by simpa using hc
        simp only [hc', true_and]
        exact ih o H v h
  | program k ih => intro H v K X h; exact ih _ H v h
  | mark m k ih => intro H v K X h; exact ih H v h
  | store m a u k ih => intro H v K X h; cases h
  | new o k ih => intro H v K X h; cases h
  | freeze a n k ih => intro H v K X h; cases h
  | setObj r o k ih => intro H v K X h; cases h
  | choose q k ih => intro H v K X h; cases h
  | sys c k ih => intro H v K X h; cases h
  | halt x => intro H v K X h; cases h

theorem rd_places {fs : Array Field} {pl : List (Nat × Nat)} (hp : placesO P fs.toList = some pl) : rd P (fs.mapM fldG) H = some pl.toArray := by
  have e2 : (fs.mapM fldG : Sem (Array (Nat × Nat))) = (fs.toList.mapM fldG).bind fun l => Sem.pure l.toArray := by
    rw [Array.mapM_eq_mapM_toList]
    exact map_eq_pure_bind _ _
  rw [e2, rd_bind, places_rd _ hp]
  rfl

theorem rd_build {t : TypeId} {fs : Array Field} {zc : Array Value} {sz by_ : Nat} {pl : List (Nat × Nat)} (h : P.underlying t = some (.struct fs)) (ht : TyOK P t (some (.agg zc)) sz by_) (hp : placesO P fs.toList = some pl) (ps : List (Nat × Value)) :
    rd P (Instr.build t ps.toArray) H = (bfill pl zc.toList ps).map fun c => .agg c.toArray := by
  unfold Instr.build
  show rd P ((zeroValue t).bind _) H = _
  rw [rd_bind, rd_zero ht, Option.bind_some]
  show rd P ((underlying t).bind _) H = _
  rw [rd_bind, rd_und0 h, Option.bind_some]
  show rd P ((fs.mapM fldG).bind _) H = _
  rw [rd_bind, rd_places hp, Option.bind_some]
  have e3 : (Value.agg zc).cells = zc.toList.toArray := by simp [Value.cells]
  rw [e3, fill_eq]
  cases bfill pl zc.toList ps <;> rfl

theorem bldA_e {t : TypeId} {fs : Array Field} {zc : Array Value} {sz by_ : Nat} {pl : List (Nat × Nat)} (h : P.underlying t = some (.struct fs)) (ht : TyOK P t (some (.agg zc)) sz by_) (hp : placesO P fs.toList = some pl) {ps : List (Nat × Value)} :
    bldA P t ps K X H = withO (bfill pl zc.toList ps) fun v => K v H := by
  unfold bldA hv Instr.build
  show hwx P ((zeroValue t).bind _) _ _ H = _
  rw [hwx_bind, hwx_rd _ _ _ (rd_zero ht)]
  show hwx P ((underlying t).bind _) _ _ H = _
  rw [hwx_bind, hwx_rd _ _ _ (rd_und0 h)]
  show hwx P ((fs.mapM fldG).bind _) _ _ H = _
  rw [hwx_bind, hwx_rd _ _ _ (rd_places hp)]
  have e3 : (Value.agg zc).cells = zc.toList.toArray := by simp [Value.cells]
  rw [e3, fill_eq]
  cases bfill pl zc.toList ps <;> rfl

theorem bldQ_e {t : TypeId} {fs : Array Field} {zc : Array Value} {sz by_ : Nat} {pl : List (Nat × Nat)} (h : P.underlying t = some (.struct fs)) (ht : TyOK P t (some (.agg zc)) sz by_) (hp : placesO P fs.toList = some pl) {ps : List (Nat × Value)} :
    bldQ P t ps KQ H = withO (bfill pl zc.toList ps) KQ := by
  unfold bldQ qv
  rw [rd_build h ht hp]
  cases bfill pl zc.toList ps <;> rfl

end

theorem box_kA {P : Program} {H : Hp} {t : TypeId} {cs : Array Value} {K : Value → Hp → Prop} (k : ∀ (b : Nat) (G : Hp), b = H.size → G.size = H.size + 1 → G[b]? = some (.cells cs t (0, 0)) → Ext H G → K (.pointer (some ⟨b, 0, none⟩)) G) : boxA P t (.agg cs) K H := box_k k
theorem box_k1 {P : Program} {H : Hp} {t : TypeId} {v : Value} {K : Value → Hp → Prop} (k : ∀ (b : Nat) (G : Hp), b = H.size → G.size = H.size + 1 → G[b]? = some (.cells #[v] t (0, 0)) → Ext H G → K (.pointer (some ⟨b, 0, none⟩)) G) (hv : v.cells = #[v] := by rfl) : boxA P t v K H :=
  box_k (by rw [hv]; exact k)
/-- A store of a struct. -/
theorem store_kA {P : Program} {H : Hp} {K : Value → Hp → Prop} {X : List PanicEntry → Hp → Prop} {t : TypeId} {z : Option Value} {sz by_ b off : Nat} {l : List Value} {c : Array Value} {e : TypeId} (hb : H[b]? = some (.cells c e (0, 0))) (ht : TyOK P t z sz by_) (hv : l.length = sz := by rfl) (h1 : (l.all oneC) = true := by rfl) (hoff : off + sz ≤ c.size := by simp)
    (k : ∀ G : Hp, G[b]? = some (.cells (splice c off l) e (0, 0)) → Keep (· = b) H G → G.size = H.size → K undef G) : storeA P t (.pointer (some ⟨b, off, none⟩)) (.agg ⟨l⟩) K X H :=
  store_k hb ht (by simpa [Value.cells] using hv) (by simpa [Value.cells] using h1) hoff (by simpa [Value.cells] using k)
/-- A store of a value of one cell. -/
theorem store_k1 {P : Program} {H : Hp} {K : Value → Hp → Prop} {X : List PanicEntry → Hp → Prop} {t : TypeId} {z : Option Value} {by_ b off : Nat} {v : Value} {c : Array Value} {e : TypeId} (hb : H[b]? = some (.cells c e (0, 0))) (ht : TyOK P t z 1 by_) (hv : v.cells = #[v] := by rfl) (h1 : oneC v = true := by rfl) (hoff : off + 1 ≤ c.size := by simp)
    (k : ∀ G : Hp, G[b]? = some (.cells (c.setIfInBounds off v) e (0, 0)) → Keep (· = b) H G → G.size = H.size → K undef G) : storeA P t (.pointer (some ⟨b, off, none⟩)) v K X H :=
  store_k hb ht (by rw [hv]; rfl) (by rw [hv]; simp [h1]) hoff (by rw [hv]; exact k)

/-! ### A slice with the kind of its block -/

/-- v: n elements of type E (sz cells each), their cells l. -/
def SlE (E sz : Nat) (H : Hp) (v : Value) (n : Nat) (l : List Value) : Prop :=
  (∃ c, v = .slice none n c ∧ n = 0 ∧ l = []) ∨
  ∃ b off cap c f, v = .slice (some ⟨b, off, none⟩) n cap ∧ H[b]? = some (.cells c E f) ∧ l.length = n * sz ∧ off + n * sz ≤ c.size ∧ n ≤ cap ∧ (c.toList.drop off).take (n * sz) = l

theorem SlE.own {ok : Nat → Prop} {E sz : Nat} {H : Hp} {v : Value} {n : Nat} {l : List Value} (h : OwnS ok E sz H v n l) : SlE E sz H v n l := by
  rcases h with ⟨h1, h2, h3⟩ | ⟨b, cap, c, f, h1, h2, h3, h4, h5, h6, h7, h8⟩
  · subst h2; exact .inl ⟨0, h1, rfl, h3⟩
  · have : n * sz ≤ cap * sz := Nat.mul_le_mul_right _ h5
    exact .inr ⟨b, 0, cap, c, f, h1, h3, h6, by omega, h5, by simpa using h7⟩
theorem SlE.nil {E sz : Nat} {H : Hp} {c : Nat} : SlE E sz H (.slice none 0 c) 0 [] := .inl ⟨c, rfl, rfl, rfl⟩
theorem SlE.form {E sz : Nat} {H : Hp} {v : Value} {n : Nat} {l : List Value} (h : SlE E sz H v n l) : ∃ a c, v = .slice a n c := by
  rcases h with ⟨c, h1, _⟩ | ⟨b, off, cap, c, f, h1, _⟩
  · exact ⟨_, _, h1⟩
  · exact ⟨_, _, h1⟩
theorem SlE.length {E sz : Nat} {H : Hp} {v : Value} {n : Nat} {l : List Value} (h : SlE E sz H v n l) : l.length = n * sz := by
  rcases h with ⟨c, _, h1, h2⟩ | ⟨b, off, cap, c, f, _, _, h1, _⟩
  · subst h1 h2; simp
  · exact h1
theorem SlE.src {E sz : Nat} {H : Hp} {v : Value} {n : Nat} {l : List Value} (h : SlE E sz H v n l) : Src H sz v n l := by
  rcases h with ⟨c, rfl, rfl, rfl⟩ | ⟨b, off, cap, c, f, rfl, h2, h3, h4, h5, h6⟩
  · exact .inr (.inl ⟨c, rfl, by simp, rfl⟩)
  · refine .inl ⟨⟨b, off, none⟩, cap, rfl, ?_⟩
    rw [cellsH_of_blk h2 _ _ (by omega)]
    simp [h6]
theorem SlE.mono {E sz : Nat} {H H' : Hp} {v : Value} {n : Nat} {l : List Value} (h : SlE E sz H v n l) (hk : ∀ (b : Nat) (c : Array Value) (f : Nat × Nat), H[b]? = some (Obj.cells c E f) → H'[b]? = some (Obj.cells c E f)) : SlE E sz H' v n l := by
  rcases h with h | ⟨b, off, cap, c, f, h1, h2, h3⟩
  · exact .inl h
  · exact .inr ⟨b, off, cap, c, f, h1, hk b c f h2, h3⟩
theorem SlE.ext {E sz : Nat} {H H' : Hp} {v : Value} {n : Nat} {l : List Value} (h : SlE E sz H v n l) (e : Ext H H') : SlE E sz H' v n l := h.mono fun _ _ _ hb => e.get hb

/-- Element i, its cell j. -/
theorem SlE.cell {E sz : Nat} {H : Hp} {v : Value} {n : Nat} {l : List Value} (h : SlE E sz H v n l) {i : Nat} (hi : i < n) :
    ∃ b off c, v = .slice (some ⟨b, off, none⟩) n c ∧ ∀ j, j < sz → ∃ u, l[i * sz + j]? = some u ∧ cellH H ⟨b, off + (i * sz + j), none⟩ = some u := by
  rcases h with ⟨c, _, h1, _⟩ | ⟨b, off, cap, c, f, h1, h2, h3, h4, h5, h6⟩
  · omega
  · refine ⟨b, off, cap, h1, fun j hj => ?_⟩
    have hlt : i * sz + j < n * sz := by
      have : (i + 1) * sz ≤ n * sz := Nat.mul_le_mul_right _ hi
      rw [Nat.succ_mul] at this
      omega
    have hl : i * sz + j < l.length := by omega
    refine ⟨l[i * sz + j], List.getElem?_eq_getElem hl, ?_⟩
    rw [cell_of_blk h2]
    have : l[i * sz + j]? = c.toList[off + (i * sz + j)]? := by rw [← h6, List.getElem?_take_of_lt hlt, List.getElem?_drop]
    rw [List.getElem?_eq_getElem hl] at this
    rw [this]; simp

/-- A part of it. -/
theorem SlE.part {E sz : Nat} {H : Hp} {a : Option Addr} {n c : Nat} {l : List Value} (h : SlE E sz H (.slice a n c) n l) {lo hi : Nat} (h1 : lo ≤ hi) (h2 : hi ≤ n) :
    n ≤ c ∨ n = 0 := by
  rcases h with ⟨c', h1, h3, _⟩ | ⟨b, off, cap, c', f, h1, _, _, _, h5, _⟩
  · exact .inr h3
  · cases h1; exact .inl h5
theorem SlE.drop {E sz : Nat} {H : Hp} {a : Option Addr} {n c : Nat} {l : List Value} (h : SlE E sz H (.slice a n c) n l) {lo : Nat} (h2 : lo ≤ n) :
    SlE E sz H (.slice (subAddr a sz lo c) (n - lo) (c - lo)) (n - lo) (l.drop (lo * sz)) := by
  rcases h with ⟨c', h1, h3, h4⟩ | ⟨b, off, cap, cs, f, h1, h3, h4, h5, h6, h7⟩
  · cases h1
    subst h3 h4
    have : lo = 0 := by omega
    subst this
    refine .inl ⟨c, ?_, by omega, by simp⟩
    simp [subAddr]
  · cases h1
    have hls : lo * sz ≤ n * sz := Nat.mul_le_mul_right _ h2
    by_cases hc : c = lo
    · have hn : n = lo := by omega
      subst hc hn
      refine .inr ⟨b, off, 0, cs, f, by simp [subAddr], h3, by simp [h4], by simp; omega, by omega, ?_⟩
      simp [h4]
    · refine .inr ⟨b, off + lo * sz, c - lo, cs, f, by simp [subAddr, hc, add_none], h3, ?_, ?_, by omega, ?_⟩
      · rw [List.length_drop, h4, Nat.sub_mul]
      · rw [Nat.sub_mul]; omega
      · rw [← h7, List.drop_take, List.drop_drop, Nat.sub_mul]
theorem SlE.take {E sz : Nat} {H : Hp} {a : Option Addr} {n c : Nat} {l : List Value} (h : SlE E sz H (.slice a n c) n l) {hi : Nat} (h2 : hi ≤ n) :
    SlE E sz H (.slice a hi c) hi (l.take (hi * sz)) := by
  rcases h with ⟨c', h1, h3, h4⟩ | ⟨b, off, cap, cs, f, h1, h3, h4, h5, h6, h7⟩
  · cases h1
    subst h3 h4
    have : hi = 0 := by omega
    subst this
    exact .inl ⟨c, rfl, rfl, by simp⟩
  · cases h1
    have hls : hi * sz ≤ n * sz := Nat.mul_le_mul_right _ h2
    refine .inr ⟨b, off, c, cs, f, rfl, h3, ?_, by omega, by omega, ?_⟩
    · rw [List.length_take, h4]; omega
    · rw [← h7, List.take_take]; congr 1; omega

/-! ### Drawn regions by a plan -/

def dwQ (P : Program) (Q : E → Fr → Hp → Prop) (keep : List Nat) (l : List (Nat × O)) (F : Fr) (H : Hp) : Prop := dwk P (fun F' H' => Q .normal (trim keep F') H') (panQ Q) l F H
def contW (P : Program) (Q : E → Fr → Hp → Prop) (keep : List Nat) (d : Nat) (r : List (Nat × O)) (F : Fr) (v : Value) (H : Hp) : Prop := dwQ P Q keep r ((d, v) :: F) H
def contWn (P : Program) (Q : E → Fr → Hp → Prop) (keep : List Nat) (r : List (Nat × O)) (F : Fr) (v : Value) (H : Hp) : Prop := dwQ P Q keep r F H
def contX (P : Program) (Q : E → Fr → Hp → Prop) (keep : List Nat) (d : Nat) (r : List (Nat × O)) (F : Fr) (H : Hp) (v : Value) (H' : Hp) : Prop := Ext H H' ∧ dwQ P Q keep r ((d, v) :: F) H'
def contXn (P : Program) (Q : E → Fr → Hp → Prop) (keep : List Nat) (r : List (Nat × O)) (F : Fr) (H : Hp) (v : Value) (H' : Hp) : Prop := Ext H H' ∧ dwQ P Q keep r F H'
def contY (P : Program) (Q : E → Fr → Hp → Prop) (keep : List Nat) (d : Nat) (r : List (Nat × O)) (F : Fr) (H : Hp) (v : Value) : Prop := dwQ P Q keep r ((d, v) :: F) H
def contYn (P : Program) (Q : E → Fr → Hp → Prop) (keep : List Nat) (r : List (Nat × O)) (F : Fr) (H : Hp) (v : Value) : Prop := dwQ P Q keep r F H
def guardW (P : Program) (Q : E → Fr → Hp → Prop) (keep : List Nat) (k : Nat) (c : Option Value) (b : Bool) (d : Option Nat) (op : Op) (t : TypeId) (r : List (Nat × O)) (F : Fr) (H : Hp) : Prop :=
  match c with
  | some (.bool c) => if c = b then dwQ P Q keep ((k, ⟨d, op, t, none⟩) :: r) F H else dwQ P Q keep r (upd d undef F) H
  | some _ => dwQ P Q keep r (upd d undef F) H
  | none => False
section
variable {P : Program} {Q : E → Fr → Hp → Prop} {keep : List Nat} {r : List (Nat × O)} {F : Fr} {H : Hp} {op : Op} {t : TypeId} {n : Nat}
theorem aw_dwQ {ops : List (Nat × O)} : aw P n (.drn ops keep) Q F H = dwQ P Q keep ops F H := (rfl)
theorem dwQ_nil : dwQ P Q keep [] F H = Q .normal (trim keep F) H := (rfl)
theorem dwQ_0 {d : Nat} : dwQ P Q keep ((0, ⟨some d, op, t, none⟩) :: r) F H = opA P ⟨some d, op, t, none⟩ F H (contW P Q keep d r F) (panQ Q) := (rfl)
theorem dwQ_0n : dwQ P Q keep ((0, ⟨none, op, t, none⟩) :: r) F H = opA P ⟨none, op, t, none⟩ F H (contWn P Q keep r F) (panQ Q) := (rfl)
theorem dwQ_3 {d : Nat} : dwQ P Q keep ((3, ⟨some d, op, t, none⟩) :: r) F H = opA P ⟨some d, op, t, none⟩ F H (contX P Q keep d r F H) (panQ Q) := (rfl)
theorem dwQ_3n : dwQ P Q keep ((3, ⟨none, op, t, none⟩) :: r) F H = opA P ⟨none, op, t, none⟩ F H (contXn P Q keep r F H) (panQ Q) := (rfl)
theorem dwQ_1 {d : Nat} : dwQ P Q keep ((1, ⟨some d, op, t, none⟩) :: r) F H = qA P ⟨some d, op, t, none⟩ F H (contY P Q keep d r F H) := (rfl)
theorem dwQ_1n : dwQ P Q keep ((1, ⟨none, op, t, none⟩) :: r) F H = qA P ⟨none, op, t, none⟩ F H (contYn P Q keep r F H) := (rfl)
theorem dwQ_2 {d : Nat} : dwQ P Q keep ((2, ⟨some d, op, t, none⟩) :: r) F H = qA P ⟨some d, op, t, none⟩ F #[] (contY P Q keep d r F H) := (rfl)
theorem dwQ_2n : dwQ P Q keep ((2, ⟨none, op, t, none⟩) :: r) F H = qA P ⟨none, op, t, none⟩ F #[] (contYn P Q keep r F H) := (rfl)
theorem contW_app {d : Nat} {v : Value} : contW P Q keep d r F v H = dwQ P Q keep r ((d, v) :: F) H := (rfl)
theorem contWn_app {v : Value} : contWn P Q keep r F v H = dwQ P Q keep r F H := (rfl)
theorem contX_app {d : Nat} {v : Value} {H' : Hp} : contX P Q keep d r F H v H' = (Ext H H' ∧ dwQ P Q keep r ((d, v) :: F) H') := (rfl)
theorem contXn_app {v : Value} {H' : Hp} : contXn P Q keep r F H v H' = (Ext H H' ∧ dwQ P Q keep r F H') := (rfl)
theorem contY_app {d : Nat} {v : Value} : contY P Q keep d r F H v = dwQ P Q keep r ((d, v) :: F) H := (rfl)
theorem contYn_app {v : Value} : contYn P Q keep r F H v = dwQ P Q keep r F H := (rfl)
theorem dwQ_guard {k : Nat} {d : Option Nat} {s : Nat} {b : Bool} : dwQ P Q keep ((k, ⟨d, op, t, some (s, b)⟩) :: r) F H = withg F s fun c => guardW P Q keep k c b d op t r F H := by
  unfold withg guardW dwQ
  simp only [dwk]
  cases look? F s with
  | none => rfl
  | some v => cases v <;> rfl
theorem guardW_true {k : Nat} {d : Option Nat} {b : Bool} : guardW P Q keep k (some (.bool b)) b d op t r F H = dwQ P Q keep ((k, ⟨d, op, t, none⟩) :: r) F H := by simp [guardW]
theorem guardW_tf {k : Nat} {d : Option Nat} : guardW P Q keep k (some (.bool true)) false d op t r F H = dwQ P Q keep r (upd d undef F) H := (rfl)
theorem guardW_ft {k : Nat} {d : Option Nat} : guardW P Q keep k (some (.bool false)) true d op t r F H = dwQ P Q keep r (upd d undef F) H := (rfl)
theorem guardW_un {k : Nat} {d : Option Nat} {b : Bool} : guardW P Q keep k (some undef) b d op t r F H = dwQ P Q keep r (upd d undef F) H := (rfl)
end
end Go.Hw

/- All of the core. -/

/- Quotients; a law's row: how a contract over the heap alone gives the statement. -/
set_option linter.unusedVariables false
set_option linter.unusedSimpArgs false
namespace Go.Hw
open Go
section
variable {P : Program} {t : TypeId} {x y : Operand} {k : IntKind} {a b : Int} {K : Value → Hp → Prop} {X : List PanicEntry → Hp → Prop} {H : Hp} {KQ : Value → Prop}
theorem binA_rem (hb : b ≠ 0) : binA P .rem t x y (.int k a) (.int k b) K X H = K (.int k (a.tmod b)) H := by
  unfold binA hv
  cases k <;> (show hwx P (Op.intDiv .rem _ a b) _ _ H = _; unfold Op.intDiv; rw [if_neg hb]; rfl)
theorem binA_quo (hb : b ≠ 0) : binA P .quo t x y (.int k a) (.int k b) K X H = K (.int k (k.wrap (a.tdiv b))) H := by
  unfold binA hv
  cases k <;> (show hwx P (Op.intDiv .quo _ a b) _ _ H = _; unfold Op.intDiv; rw [if_neg hb]; rfl)
end
end Go.Hw

/- A range's entry; the length of a map. -/
set_option linter.unusedSimpArgs false
set_option linter.unusedVariables false
namespace Go.Hw
section
variable {P : Program} {H : Hp} {K : Value → Hp → Prop} {X : List PanicEntry → Hp → Prop} {t ty : TypeId} {F : Fr} {d : Option Nat} {g : Option (Nat × Bool)} {cs : Array Bool}
def entA (P : Program) (v : Value) (K : Value → Hp → Prop) (X : List PanicEntry → Hp → Prop) (H : Hp) : Prop := hv P (Instr.entry v) K X H
theorem opA_entry (x : Operand) : opA P ⟨d, .entry x, ty, g⟩ F H K X = withv F x fun v => entA P v K X H := by
  rw [opA_1 rfl (f := fun v => do pure (.value (← Instr.entry v))) fun _ => rfl]
  exact congrArg (withv F x) (funext fun v => hv_next _)
theorem entA_map {r m c s clk : Nat} {seen : Array Nat} {es : Array MapEntry} (hit : H[r]? = some (.mapIter (some m) c seen clk)) (hb : seen.back? = some s) (hm : H[m]? = some (.map es clk)) (hx : ∃ e ∈ es, e.born = s)
    (k : ∀ e ∈ es, e.born = s → K (.tuple #[e.key, e.val]) H) : entA P (.pointer (some ⟨r, 0, none⟩)) K X H := by
  unfold entA hv Instr.entry
  show hwx P ((getObj r).bind _) _ _ H
  simp only [getObj, Sem.bind, hwx, hit, isCells, true_and, hb]
  show hwx P ((getObj m).bind _) _ _ H
  simp only [getObj, Sem.bind, hwx, hm, isCells, true_and]
  have hc : (clk != clk) = false := by simp
  rw [hc, if_neg (by simp)]
  cases hf : es.find? (fun e => e.born == s) with
  | none =>
    obtain ⟨e, he, h1⟩ := hx
    have := Array.find?_eq_none.1 hf e he
    simp [h1] at this
  | some e =>
    have h1 := Array.mem_of_find?_eq_some hf
    have h2 := Array.find?_some hf
    exact k e h1 (by simpa using h2)
theorem len_map {m : Nat} {es : Array MapEntry} {clk : Nat} {kt et : TypeId} (h : P.underlying t = some (.map kt et)) (hm : H[m]? = some (.map es clk)) : callA P (.builtin .len) #[t] ty cs [.map (some m)] K X H = K (.int .i64 es.size) H := by
  show hwx P (do let v ← Builtin.len_ #[t] ty #[.map (some m)]; pure (Next.value v)) _ _ H = _
  rw [hv_next]
  unfold hv Builtin.len_
  show hwx P ((underlying t).bind _) _ _ H = _
  rw [hw_und h]
  show hwx P ((getObj m).bind _) _ _ H = _
  simp only [getObj, Sem.bind, hwx, hm, isCells, true_and]
  rfl
theorem len_mapnil {kt et : TypeId} (h : P.underlying t = some (.map kt et)) : callA P (.builtin .len) #[t] ty cs [.map none] K X H = K (.int .i64 0) H := by
  show hwx P (do let v ← Builtin.len_ #[t] ty #[.map none]; pure (Next.value v)) _ _ H = _
  rw [hv_next]
  unfold hv Builtin.len_
  show hwx P ((underlying t).bind _) _ _ H = _
  rw [hw_und h]
  rfl
end
@[congr] theorem entA_congr {P : Program} {v : Value} {K : Value → Hp → Prop} {X : List PanicEntry → Hp → Prop} {H : Hp} {v' : Value} (hv : v = v') : entA P v K X H = entA P v' K X H := by subst hv; rfl
end Go.Hw

/- The walk's equations, gathered under one name. -/
namespace Go.Hw
attribute [go_sem ↓]
  aw_seqQ panQ_eq aw_regQ aw_drwQ regQ_nil contR_app contN_app contD_app contE_app guardR_true guardR_tf guardR_ft
  guardR_un guardR_tfn guardR_ftn guardR_unn guardD_true guardD_tf guardD_ft guardD_un aw_condR condR_true condR_false withg_tl
  withg_hd drwQ_consn regQ_guardn regQ_consn regQ_cons regQ_guard drwQ_zero drwQ_nil drwQ_cons drwQ_guard aw_skip aw_ret
  aw_exit aw_block aw_keep resW_nil resW_tmp pack_one pack_two pack_three pack_four pack_nil opA_move opA_assign
  opA_pick opA_extract opA_unOp opA_binOp opA_call opA_index opA_slice opA_load opA_box opA_store opA_buildSlice opA_build
  opA_convert opA_fieldAddr opA_indexAddr opA_field opA_range opA_next opA_entry qA_move qA_assign qA_pick qA_extract qA_unOp qA_binOp
  qA_call qA_index qA_slice qA_load qA_build qA_convert qA_fieldAddr qA_indexAddr withv_const withv_func withv_global withv_hd
  withv_tl withvs_nil withvs_cons withov_none withov_some withps_nil withps_cons pickA_true pickA_false extrA_0 extrA_1 extrA_2
  extrA_3 nilA_ptr nilA_fn nilA_iface unA_not unA_neg unQ_not unQ_neg binA_add binA_sub binA_mul binA_lss
  binA_leq binA_gtr binA_geq binA_eql binA_neq binA_seql binA_sneq binA_slss binA_sleq binA_sgtr binA_sgeq binQ_add
  binQ_sub binQ_mul binQ_lss binQ_leq binQ_gtr binQ_geq binQ_eql binQ_neq binQ_seql binQ_sneq binQ_slss binQ_sleq
  binQ_sgtr binQ_sgeq callK_ret enumF_nil enumF_cons opA_nck nckA_ptr nckA_fn nckA_y nckA_iface qA_nck nckQ_ptr
  nckQ_fn aw_dwQ contW_app contWn_app contX_app contXn_app contY_app contYn_app guardW_true guardW_tf guardW_ft guardW_un
  dwQ_nil dwQ_0 dwQ_0n dwQ_3 dwQ_3n dwQ_1 dwQ_1n dwQ_2 dwQ_2n dwQ_guard
attribute [go_sem]
  aw_seqQ seqQ_normal seqQ_ret seqQ_exit seqQ_panic blkE_panic panQ_eq aw_regQ aw_drwQ regQ_nil contR_app contN_app
  contD_app contE_app guardR_true guardR_tf guardR_ft guardR_un guardR_tfn guardR_ftn guardR_unn guardD_true guardD_tf guardD_ft
  guardD_un aw_condR condR_true condR_false withg_tl withg_hd drwQ_consn regQ_guardn regQ_consn regQ_cons regQ_guard drwQ_zero
  drwQ_nil drwQ_cons drwQ_guard aw_skip aw_ret aw_exit aw_block aw_keep blkE_normal blkE_exit blkE_ret retK_normal
  retK_ret resW_nil resW_tmp pack_one pack_two pack_three pack_four pack_nil opA_move opA_assign opA_pick opA_extract
  opA_unOp opA_binOp opA_call opA_index opA_slice opA_load opA_box opA_store opA_buildSlice opA_build opA_convert opA_fieldAddr
  opA_indexAddr opA_field opA_range opA_next opA_entry qA_move qA_assign qA_pick qA_extract qA_unOp qA_binOp qA_call qA_index
  qA_slice qA_load qA_build qA_convert qA_fieldAddr qA_indexAddr withv_const withv_func withv_global withv_hd withv_tl look_hd
  look_tl look_nil trim_nil trim_cons addO_some addO_none upd_some upd_none withvs_nil withvs_cons withov_none withov_some
  withps_nil withps_cons pickA_true pickA_false pickA_b extrA_0 extrA_1 extrA_2 extrA_3 nilA_ptr nilA_fn nilA_iface
  unA_not unA_neg unQ_not unQ_neg binA_add binA_sub binA_mul binA_lss binA_leq binA_gtr binA_geq binA_eql
  binA_neq binA_seql binA_sneq binA_slss binA_sleq binA_sgtr binA_sgeq binQ_add binQ_sub binQ_mul binQ_lss binQ_leq
  binQ_gtr binQ_geq binQ_eql binQ_neq binQ_seql binQ_sneq binQ_slss binQ_sleq binQ_sgtr binQ_sgeq callOps_fn callOps_b
  callOps_i callK_ret enumF_nil enumF_cons if_true if_false Bool.not_true Bool.not_false Bool.false_eq_true not_false_eq_true opA_nck nckA_ptr
  nckA_fn nckA_y nckA_iface qA_nck nckQ_ptr nckQ_fn aw_dwQ contW_app contWn_app contX_app contXn_app contY_app
  contYn_app guardW_true guardW_tf guardW_ft guardW_un dwQ_nil dwQ_0 dwQ_0n dwQ_3 dwQ_3n dwQ_1 dwQ_1n
  dwQ_2 dwQ_2n dwQ_guard
end Go.Hw

set_option linter.unusedVariables false
namespace Go.Proofs.YtoabcmhiaknjiaaDoor
open Go.Hw

/-- What ends a word. -/
def stopP (c : Int) : Bool := decide (c ≤ 32) || (decide (126 < c) || decide (c = 39))

/-- Behind an apostrophe: the word, and what follows. -/
def quoteF (l acc : List UInt8) : Option (List UInt8 × List UInt8) :=
  match l with
  | [] => none
  | c :: r =>
    if c.toNat < 32 ∨ 126 < c.toNat then none
    else if c ≠ 39 then quoteF r (acc ++ [c])
    else match r with
      | d :: r' => if d = 39 then quoteF r' (acc ++ [39]) else some (acc, d :: r')
      | [] => some (acc, [])
termination_by l.length

theorem quoteF_nil (acc : List UInt8) : quoteF [] acc = none := by unfold quoteF; rfl
theorem quoteF_bad {c : UInt8} (r acc : List UInt8) (h : c.toNat < 32 ∨ 126 < c.toNat) : quoteF (c :: r) acc = none := by
  unfold quoteF; simp only [if_pos h]
theorem quoteF_plain {c : UInt8} (r acc : List UInt8) (h : ¬ (c.toNat < 32 ∨ 126 < c.toNat)) (h2 : c ≠ 39) : quoteF (c :: r) acc = quoteF r (acc ++ [c]) := by
  conv => lhs; unfold quoteF
  simp only [if_neg h, if_pos h2]
theorem quoteF_two (r acc : List UInt8) : quoteF (39 :: 39 :: r) acc = quoteF r (acc ++ [39]) := by
  conv => lhs; unfold quoteF
  rfl
theorem quoteF_end {r acc : List UInt8} (h : r.headD 0 ≠ 39) : quoteF (39 :: r) acc = some (acc, r) := by
  unfold quoteF
  match r, h with
  | [], _ => rfl
  | d :: r', h => 
    have : d ≠ 39 := h
    simp [this]

/-- The first word of a line, what stands behind it, and whether there is one. -/
def firstV (l : List UInt8) : List UInt8 × List UInt8 × Bool :=
  match l with
  | 39 :: r => match quoteF r [] with
    | some (w, t) => (w, t, true)
    | none => ([], [], false)
  | l => (l.takeWhile (fun b => !stopP b.toNat), l.dropWhile (fun b => !stopP b.toNat), !(l.takeWhile (fun b => !stopP b.toNat)).isEmpty)

def blank (b : UInt8) : Bool := b == 32

/-- The words of a line without blanks ahead. -/
def scanT (l : List UInt8) (acc : List (List UInt8)) : Option (List (List UInt8)) :=
  if l = [] then some acc
  else
    let (w, r, ok) := firstV l
    if ok = false then none
    else if r ≠ [] ∧ r.headD 0 ≠ 32 then none
    else if h : (r.dropWhile blank).length < l.length then scanT (r.dropWhile blank) (acc ++ [w]) else none
termination_by l.length

/-- The words of a line. -/
def scanF (l : List UInt8) : Option (List (List UInt8)) := scanT (l.dropWhile blank) []

theorem quoteF_len : ∀ (n : Nat) (l acc : List UInt8), l.length = n → ∀ w r, quoteF l acc = some (w, r) → r.length < l.length := by
  intro n
  induction n using Nat.strongRecOn with
  | _ n ih =>
    intro l acc hn w r h
    unfold quoteF at h
    match l with
    | [] => cases h
    | c :: t =>
      simp only at h
      split at h
      · cases h
      · split at h
        · have := ih t.length (by subst hn; simp) t (acc ++ [c]) rfl w r h
          simp only [List.length_cons]; omega
        · match t with
          | [] => simp only [Option.some.injEq, Prod.mk.injEq] at h; obtain ⟨_, rfl⟩ := h; simp
          | d :: r' =>
            simp only at h
            split at h
            · have := ih r'.length (by subst hn; simp only [List.length_cons]; omega) r' (acc ++ [39]) rfl w r h
              simp only [List.length_cons]; omega
            · simp only [Option.some.injEq, Prod.mk.injEq] at h; obtain ⟨_, rfl⟩ := h; simp

theorem length_dropWhile_le {α : Type} (p : α → Bool) (l : List α) : (l.dropWhile p).length ≤ l.length := (List.dropWhile_suffix p).length_le
theorem length_takeWhile_le {α : Type} (p : α → Bool) (l : List α) : (l.takeWhile p).length ≤ l.length := (List.takeWhile_prefix p).length_le

theorem firstV_quote (r : List UInt8) : firstV (39 :: r) = match quoteF r [] with | some (w, t) => (w, t, true) | none => ([], [], false) := rfl
theorem firstV_plain {l : List UInt8} (h : l.headD 0 ≠ 39) : firstV l = (l.takeWhile (fun b => !stopP b.toNat), l.dropWhile (fun b => !stopP b.toNat), !(l.takeWhile (fun b => !stopP b.toNat)).isEmpty) := by
  unfold firstV
  split
  · exact absurd rfl h
  · rfl

theorem firstV_len {l w r : List UInt8} (h : firstV l = (w, r, true)) : r.length < l.length := by
  by_cases hh : l.headD 0 = 39
  · match l, hh with
    | c :: t, hh =>
      have hc : c = 39 := hh
      subst hc
      rw [firstV_quote] at h
      cases hq : quoteF t [] with
      | none => rw [hq] at h; cases h
      | some p =>
        obtain ⟨w', t'⟩ := p
        rw [hq] at h
        simp only [Prod.mk.injEq] at h
        obtain ⟨rfl, rfl, _⟩ := h
        have := quoteF_len _ _ _ rfl _ _ hq
        simp only [List.length_cons]; omega
  · rw [firstV_plain hh] at h
    simp only [Prod.mk.injEq] at h
    obtain ⟨rfl, rfl, h3⟩ := h
    have e := congrArg List.length (List.takeWhile_append_dropWhile (p := fun b : UInt8 => !stopP b.toNat) (l := l))
    rw [List.length_append] at e
    have : (l.takeWhile fun b => !stopP b.toNat) ≠ [] := by
      intro hn; rw [hn] at h3; cases h3
    have := List.length_pos_iff.2 this
    omega

theorem scanT_nil (acc : List (List UInt8)) : scanT [] acc = some acc := by unfold scanT; rfl
theorem scanT_bad {l : List UInt8} (acc : List (List UInt8)) (hl : l ≠ []) (h : (firstV l).2.2 = false ∨ ((firstV l).2.1 ≠ [] ∧ (firstV l).2.1.headD 0 ≠ 32)) : scanT l acc = none := by
  unfold scanT
  rw [if_neg hl]
  rcases hf : firstV l with ⟨w, r, ok⟩
  rw [hf] at h
  simp only at h ⊢
  rcases h with h | h
  · rw [if_pos h]
  · rw [if_pos h]; split <;> rfl
theorem scanT_step {l : List UInt8} (acc : List (List UInt8)) (hl : l ≠ []) (h1 : (firstV l).2.2 = true) (h2 : ¬ ((firstV l).2.1 ≠ [] ∧ (firstV l).2.1.headD 0 ≠ 32)) : scanT l acc = scanT ((firstV l).2.1.dropWhile blank) (acc ++ [(firstV l).1]) := by
  conv => lhs; unfold scanT
  rw [if_neg hl]
  rcases hf : firstV l with ⟨w, r, ok⟩
  rw [hf] at h1 h2
  simp only at h1 h2 ⊢
  subst h1
  have := firstV_len hf
  have h3 := length_dropWhile_le blank r
  rw [if_neg (by simp), if_neg h2, dif_pos (by omega)]

theorem takeWhile_drop (p : UInt8 → Bool) (l : List UInt8) : l.take (l.takeWhile p).length = l.takeWhile p ∧ l.drop (l.takeWhile p).length = l.dropWhile p := by
  have := List.takeWhile_append_dropWhile (p := p) (l := l)
  constructor
  · conv => lhs; arg 2; rw [← this]
    exact List.take_left' rfl
  · conv => lhs; arg 2; rw [← this]
    exact List.drop_left' rfl

/-- Strings as values. -/
def strs (ws : List (List UInt8)) : List Value := ws.map fun w => .string (B w)

end Go.Proofs.YtoabcmhiaknjiaaDoor

/- The contracts of Go's library that the shelf's tools have laid at this program (lay-shelf.mjs, lay-plain.mjs). -/
/-
  DERIVED: THE SHELF's CONTRACTS AT THIS DUMP, IN PLAIN WORDS (tools/lay-plain.mjs out of 'TrydShelf.lean', which tools/lay-shelf.mjs wrote): THE SAME DECLARATIONS UNDER THE SAME NAMES: 'import', 'namespace', 'open', 'def', 'theorem' AND NOTHING ELSE: no command of the shelf's: FOR A HAND-IN. Each laying: the table of numbers ('.._ren') and one theorem, a field a fact of the dump's own or the kernel's comparison; each contract: ONE APPLICATION.
-/
namespace Go.Proofs
open Go.Shelf
def Tryd.lays170_ren : Go.Shelf.Ren := ⟨fun | 170 => 31 | n => n, fun | 70 => 51 | 3 => 3 | 0 => 0 | 72 => 54 | 37 => 52 | 5 => 5 | n => n, fun | n => n⟩
theorem Tryd.lays170 : Go.Proofs.Lays.n170 Tryd.prog Tryd.lays170_ren := {
  mixed := by kernel_rfl
  f170 := Tryd.func31.trans (congrArg some (by kernel_rfl))
  t0 := Tryd.underlying0
  a0 := Tryd.isAgg0
  z0 := Tryd.sizeOf0
  v0 := Tryd.zeroValue0
  t3 := Tryd.underlying3
  a3 := Tryd.isAgg3
  z3 := Tryd.sizeOf3
  v3 := Tryd.zeroValue3
  t37 := Tryd.underlying52
  a37 := Tryd.isAgg52
  z37 := Tryd.sizeOf52
  v37 := Tryd.zeroValue52
  t70 := Tryd.underlying51
  a70 := Tryd.isAgg51
  z70 := Tryd.sizeOf51
  v70 := Tryd.zeroValue51
  t72 := Tryd.underlying54
  a72 := Tryd.isAgg54
  z72 := Tryd.sizeOf54
  v72 := Tryd.zeroValue54 }
open Go.RowKit in
/-- (*strings.Builder).Len: "Len returns the number of accumulated bytes; b.Len() == len(b.String()).": the world is as it was. (LAID: no walk: one application.) -/
theorem Tryd.Builder_Len (B b : Nat) (bs : List Value) (w : World) (h : Lib.IsBuilder 54 5 B b bs w) :
    Calls Tryd.prog 31 #[.pointer (some ⟨b, 0, none⟩)] w fun e w' => e = .returned (.int .i64 bs.length) ∧ w' = w := Any.Builder_Len Tryd.lays170 B b bs w h
def Tryd.lays169_ren : Go.Shelf.Ren := ⟨fun | 169 => 32 | n => n, fun | 70 => 51 | 9 => 9 | 0 => 0 | 72 => 54 | 37 => 52 | 127 => 97 | 3 => 3 | 5 => 5 | n => n, fun | n => n⟩
theorem Tryd.lays169 : Go.Proofs.Lays.n169 Tryd.prog Tryd.lays169_ren := {
  mixed := by kernel_rfl
  f169 := Tryd.func32.trans (congrArg some (by kernel_rfl))
  t0 := Tryd.underlying0
  a0 := Tryd.isAgg0
  z0 := Tryd.sizeOf0
  v0 := Tryd.zeroValue0
  t3 := Tryd.underlying3
  a3 := Tryd.isAgg3
  z3 := Tryd.sizeOf3
  v3 := Tryd.zeroValue3
  t9 := Tryd.underlying9
  a9 := Tryd.isAgg9
  z9 := Tryd.sizeOf9
  v9 := Tryd.zeroValue9
  t37 := Tryd.underlying52
  a37 := Tryd.isAgg52
  z37 := Tryd.sizeOf52
  v37 := Tryd.zeroValue52
  t70 := Tryd.underlying51
  a70 := Tryd.isAgg51
  z70 := Tryd.sizeOf51
  v70 := Tryd.zeroValue51
  t72 := Tryd.underlying54
  a72 := Tryd.isAgg54
  z72 := Tryd.sizeOf54
  v72 := Tryd.zeroValue54
  t127 := Tryd.underlying97
  a127 := Tryd.isAgg97
  z127 := Tryd.sizeOf97
  v127 := Tryd.zeroValue97 }
theorem Tryd.Builder_Extra_169 : Builder.Extra Tryd.prog Tryd.lays169_ren := {
  sizeBuilder := by kernel_rfl
  liesBuilder := by kernel_rfl
  t5 := Tryd.underlying5
  a5 := Tryd.isAgg5
  z5 := Tryd.sizeOf5
  v5 := Tryd.zeroValue5
  infoByte := by kernel_rfl
  cellsByte := by kernel_rfl
  sizeByte := by kernel_rfl
  neB5 := by decide }
open Go.RowKit in
/-- (*strings.Builder).String: "String returns the accumulated string.": OF A BUILDER THAT HOLDS AT LEAST ONE BYTE. ✋ THE MODEL FREEZES THOSE BYTES IN THE BUFFER (unsafe.String): a later write INTO them ends the model's run without an answer; a later append BEHIND them goes on. The statement's order of evaluation is drawn: one draw. (LAID: no walk: one application.) -/
theorem Tryd.Builder_String (B b : Nat) (l : List UInt8) (w : World) (h : Lib.IsBuilder 54 5 B b (Lib.byteCells l) w) (h0 : l ≠ []) :
    Calls Tryd.prog 32 #[.pointer (some ⟨b, 0, none⟩)] w fun e w' => e = .returned (.string ⟨l.toArray⟩) ∧ Below B w w' := Any.Builder_String Tryd.lays169 Tryd.Builder_Extra_169 B b l w h h0
open Go.RowKit in
/-- (*strings.Builder).String OF A BUILDER THAT HOLDS NO BYTE: the empty string. (Its buffer is nil, or a row of which it has taken nothing yet; where that row has NO capacity the model lays one new block for unsafe.SliceData's 'some address'.) One draw. (LAID: no walk: one application.) -/
theorem Tryd.Builder_String_empty (B b : Nat) (w : World) (h : Lib.IsBuilder 54 5 B b [] w) (hBw : B ≤ w.heap.size) :
    Calls Tryd.prog 32 #[.pointer (some ⟨b, 0, none⟩)] w fun e w' => e = .returned (.string ⟨#[]⟩) ∧ Below B w w' := Any.Builder_String_empty Tryd.lays169 Tryd.Builder_Extra_169 B b w h hBw
open Go.RowKit in
/-- (*strings.Builder).String: "String returns the accumulated string.": WHATEVER THE BUILDER HOLDS. (LAID: no walk: one application.) -/
theorem Tryd.Builder_String_any (B b : Nat) (l : List UInt8) (w : World) (h : Lib.IsBuilder 54 5 B b (Lib.byteCells l) w) (hBw : B ≤ w.heap.size) :
    Calls Tryd.prog 32 #[.pointer (some ⟨b, 0, none⟩)] w fun e w' => e = .returned (.string ⟨l.toArray⟩) ∧ Below B w w' := Any.Builder_String_any Tryd.lays169 Tryd.Builder_Extra_169 B b l w h hBw
def Tryd.lays241_ren : Go.Shelf.Ren := ⟨fun | 241 => 66 | 277 => 92 | n => n, fun | 70 => 51 | 3 => 3 | 0 => 0 | 72 => 54 | 37 => 52 | 5 => 5 | n => n, fun | n => n⟩
theorem Tryd.lays241 : Go.Proofs.Lays.n241 Tryd.prog Tryd.lays241_ren := {
  mixed := by kernel_rfl
  f241 := Tryd.func66.trans (congrArg some (by kernel_rfl))
  f277 := Tryd.func92.trans (congrArg some (by kernel_rfl))
  t0 := Tryd.underlying0
  a0 := Tryd.isAgg0
  z0 := Tryd.sizeOf0
  v0 := Tryd.zeroValue0
  t3 := Tryd.underlying3
  a3 := Tryd.isAgg3
  z3 := Tryd.sizeOf3
  v3 := Tryd.zeroValue3
  t37 := Tryd.underlying52
  a37 := Tryd.isAgg52
  z37 := Tryd.sizeOf52
  v37 := Tryd.zeroValue52
  t70 := Tryd.underlying51
  a70 := Tryd.isAgg51
  z70 := Tryd.sizeOf51
  v70 := Tryd.zeroValue51
  t72 := Tryd.underlying54
  a72 := Tryd.isAgg54
  z72 := Tryd.sizeOf54
  v72 := Tryd.zeroValue54 }
theorem Tryd.Builder_Extra_241 : Builder.Extra Tryd.prog Tryd.lays241_ren := {
  sizeBuilder := by kernel_rfl
  liesBuilder := by kernel_rfl
  t5 := Tryd.underlying5
  a5 := Tryd.isAgg5
  z5 := Tryd.sizeOf5
  v5 := Tryd.zeroValue5
  infoByte := by kernel_rfl
  cellsByte := by kernel_rfl
  sizeByte := by kernel_rfl
  neB5 := by decide }
open Go.RowKit in
/-- (*strings.Builder).grow (no doc but "grow copies the buffer to a new, larger buffer so that there are at least n bytes of capacity beyond len(b.buf)."): AT A BUILDER WITHOUT A BUFFER: a new row of whatever bytes for its buffer, none of them its own yet. Three draws. (LAID: no walk: one application.) -/
theorem Tryd.Builder_grow_fresh (B b n : Nat) (w : World) (hB : B ≤ b) (hbk : w.heap[b]? = some (.cells #[.pointer (some ⟨b, 0, none⟩), .slice none 0 0] 54 (0, 0))) (hBw : B ≤ w.heap.size) (hn : n ≤ 281474976710656) :
    Calls Tryd.prog 66 #[.pointer (some ⟨b, 0, none⟩), .int .i64 n] w fun e w' => e = .returned (.tuple #[]) ∧ (Lib.BuilderAt 54 5 B b (.pointer (some ⟨b, 0, none⟩)) [] w' ∧ Below B w w') := Any.Builder_grow_fresh Tryd.lays241 Tryd.Builder_Extra_241 B b n w hB hbk hBw hn
def Tryd.lays165_ren : Go.Shelf.Ren := ⟨fun | 165 => 42 | 240 => 52 | 241 => 66 | 276 => 71 | 277 => 92 | n => n, fun | 70 => 51 | 3 => 3 | 0 => 0 | 4 => 4 | 9 => 9 | 20 => 20 | 72 => 54 | 37 => 52 | 164 => 113 | 5 => 5 | n => n, fun | n => n⟩
theorem Tryd.lays165 : Go.Proofs.Lays.n165 Tryd.prog Tryd.lays165_ren := {
  mixed := by kernel_rfl
  f165 := Tryd.func42.trans (congrArg some (by kernel_rfl))
  f240 := Tryd.func52.trans (congrArg some (by kernel_rfl))
  f241 := Tryd.func66.trans (congrArg some (by kernel_rfl))
  f276 := Tryd.func71.trans (congrArg some (by kernel_rfl))
  f277 := Tryd.func92.trans (congrArg some (by kernel_rfl))
  t0 := Tryd.underlying0
  a0 := Tryd.isAgg0
  z0 := Tryd.sizeOf0
  v0 := Tryd.zeroValue0
  t3 := Tryd.underlying3
  a3 := Tryd.isAgg3
  z3 := Tryd.sizeOf3
  v3 := Tryd.zeroValue3
  t4 := Tryd.underlying4
  a4 := Tryd.isAgg4
  z4 := Tryd.sizeOf4
  v4 := Tryd.zeroValue4
  t9 := Tryd.underlying9
  a9 := Tryd.isAgg9
  z9 := Tryd.sizeOf9
  v9 := Tryd.zeroValue9
  t20 := Tryd.underlying20
  a20 := Tryd.isAgg20
  z20 := Tryd.sizeOf20
  v20 := Tryd.zeroValue20
  t37 := Tryd.underlying52
  a37 := Tryd.isAgg52
  z37 := Tryd.sizeOf52
  v37 := Tryd.zeroValue52
  t70 := Tryd.underlying51
  a70 := Tryd.isAgg51
  z70 := Tryd.sizeOf51
  v70 := Tryd.zeroValue51
  t72 := Tryd.underlying54
  a72 := Tryd.isAgg54
  z72 := Tryd.sizeOf54
  v72 := Tryd.zeroValue54
  t164 := Tryd.underlying113
  a164 := Tryd.isAgg113
  z164 := Tryd.sizeOf113
  v164 := Tryd.zeroValue113 }
theorem Tryd.Builder_Extra_165 : Builder.Extra Tryd.prog Tryd.lays165_ren := {
  sizeBuilder := by kernel_rfl
  liesBuilder := by kernel_rfl
  t5 := Tryd.underlying5
  a5 := Tryd.isAgg5
  z5 := Tryd.sizeOf5
  v5 := Tryd.zeroValue5
  infoByte := by kernel_rfl
  cellsByte := by kernel_rfl
  sizeByte := by kernel_rfl
  neB5 := by decide }
open Go.RowKit in
/-- (*strings.Builder).Grow AT A BUILDER THAT HAS NOT BEEN WRITTEN ('var b strings.Builder; b.Grow(n)'): "Grow grows b's capacity, if necessary, to guarantee space for another n bytes.": it holds no byte behind it as before it. (LAID: no walk: one application.) -/
theorem Tryd.Builder_Grow_fresh (B b n : Nat) (w : World) (hB : B ≤ b) (hbk : w.heap[b]? = some (.cells #[.pointer none, .slice none 0 0] 54 (0, 0))) (hBw : B ≤ w.heap.size) (hn : n ≤ 281474976710656) :
    Calls Tryd.prog 42 #[.pointer (some ⟨b, 0, none⟩), .int .i64 n] w fun e w' => e = .returned (.tuple #[]) ∧ (Lib.BuilderAt 54 5 B b (.pointer (some ⟨b, 0, none⟩)) [] w' ∧ Below B w w') := Any.Builder_Grow_fresh Tryd.lays165 Tryd.Builder_Extra_165 B b n w hB hbk hBw hn
def Tryd.lays231_ren : Go.Shelf.Ren := ⟨fun | 231 => 45 | n => n, fun | 9 => 9 | 5 => 5 | 3 => 3 | 4 => 4 | n => n, fun | n => n⟩
theorem Tryd.lays231 : Go.Proofs.Lays.n231 Tryd.prog Tryd.lays231_ren := {
  mixed := by kernel_rfl
  f231 := Tryd.func45.trans (congrArg some (by kernel_rfl))
  t3 := Tryd.underlying3
  a3 := Tryd.isAgg3
  z3 := Tryd.sizeOf3
  v3 := Tryd.zeroValue3
  t4 := Tryd.underlying4
  a4 := Tryd.isAgg4
  z4 := Tryd.sizeOf4
  v4 := Tryd.zeroValue4
  t5 := Tryd.underlying5
  a5 := Tryd.isAgg5
  z5 := Tryd.sizeOf5
  v5 := Tryd.zeroValue5
  t9 := Tryd.underlying9
  a9 := Tryd.isAgg9
  z9 := Tryd.sizeOf9
  v9 := Tryd.zeroValue9 }
open Go.RowKit in
/-- strings.trimLeftByte (no doc; what TrimLeft and Trim call at a cutset of one ASCII byte): the leading bytes that are c are cut off. The world is as it was. (LAID: no walk: one application.) -/
theorem Tryd.strings_trimLeftByte (s : ByteArray) (c : UInt8) (w : World) :
    Calls Tryd.prog 45 #[.string s, .int .u8 c.toNat] w fun e w' => e = .returned (.string ⟨(Lib.trimLeftB s.data.toList c).toArray⟩) ∧ w' = w := Any.strings_trimLeftByte Tryd.lays231 s c w
def Tryd.lays161_ren : Go.Shelf.Ren := ⟨fun | 161 => 23 | 231 => 45 | 227 => 46 | 233 => 47 | 235 => 48 | 228 => 67 | 197 => 58 | 151 => 68 | 260 => 81 | 152 => 79 | 137 => 25 | 119 => 96 | 224 => 83 | 225 => 82 | 217 => 51 | 266 => 70 | n => n, fun | 9 => 9 | 4 => 4 | 3 => 3 | 5 => 5 | 117 => 91 | 116 => 90 | 0 => 0 | 124 => 94 | 105 => 98 | 21 => 21 | 119 => 129 | 46 => 84 | 139 => 132 | 138 => 131 | n => n, fun | 3 => 1 | 4 => 2 | n => n⟩
theorem Tryd.lays161 : Go.Proofs.Lays.n161 Tryd.prog Tryd.lays161_ren := {
  mixed := by kernel_rfl
  f119 := Tryd.func96.trans (congrArg some (by kernel_rfl))
  f137 := Tryd.func25.trans (congrArg some (by kernel_rfl))
  f151 := Tryd.func68.trans (congrArg some (by kernel_rfl))
  f152 := Tryd.func79.trans (congrArg some (by kernel_rfl))
  f161 := Tryd.func23.trans (congrArg some (by kernel_rfl))
  f197 := Tryd.func58.trans (congrArg some (by kernel_rfl))
  f217 := Tryd.func51.trans (congrArg some (by kernel_rfl))
  f224 := Tryd.func83.trans (congrArg some (by kernel_rfl))
  f225 := Tryd.func82.trans (congrArg some (by kernel_rfl))
  f227 := Tryd.func46.trans (congrArg some (by kernel_rfl))
  f228 := Tryd.func67.trans (congrArg some (by kernel_rfl))
  f231 := Tryd.func45.trans (congrArg some (by kernel_rfl))
  f233 := Tryd.func47.trans (congrArg some (by kernel_rfl))
  f235 := Tryd.func48.trans (congrArg some (by kernel_rfl))
  f260 := Tryd.func81.trans (congrArg some (by kernel_rfl))
  f266 := Tryd.func70.trans (congrArg some (by kernel_rfl))
  t0 := Tryd.underlying0
  a0 := Tryd.isAgg0
  z0 := Tryd.sizeOf0
  v0 := Tryd.zeroValue0
  t3 := Tryd.underlying3
  a3 := Tryd.isAgg3
  z3 := Tryd.sizeOf3
  v3 := Tryd.zeroValue3
  t4 := Tryd.underlying4
  a4 := Tryd.isAgg4
  z4 := Tryd.sizeOf4
  v4 := Tryd.zeroValue4
  t5 := Tryd.underlying5
  a5 := Tryd.isAgg5
  z5 := Tryd.sizeOf5
  v5 := Tryd.zeroValue5
  t9 := Tryd.underlying9
  a9 := Tryd.isAgg9
  z9 := Tryd.sizeOf9
  v9 := Tryd.zeroValue9
  t21 := Tryd.underlying21
  a21 := Tryd.isAgg21
  z21 := Tryd.sizeOf21
  v21 := Tryd.zeroValue21
  t46 := Tryd.underlying84
  a46 := Tryd.isAgg84
  z46 := Tryd.sizeOf84
  v46 := Tryd.zeroValue84
  t105 := Tryd.underlying98
  a105 := Tryd.isAgg98
  z105 := Tryd.sizeOf98
  v105 := Tryd.zeroValue98
  t116 := Tryd.underlying90
  a116 := Tryd.isAgg90
  z116 := Tryd.sizeOf90
  t117 := Tryd.underlying91
  a117 := Tryd.isAgg91
  z117 := Tryd.sizeOf91
  v117 := Tryd.zeroValue91
  t119 := Tryd.underlying129
  a119 := Tryd.isAgg129
  z119 := Tryd.sizeOf129
  t124 := Tryd.underlying94
  a124 := Tryd.isAgg94
  z124 := Tryd.sizeOf94
  v124 := Tryd.zeroValue94
  t138 := Tryd.underlying131
  a138 := Tryd.isAgg131
  z138 := Tryd.sizeOf131
  v138 := Tryd.zeroValue131
  t139 := Tryd.underlying132
  a139 := Tryd.isAgg132
  z139 := Tryd.sizeOf132
  v139 := Tryd.zeroValue132
  g3 := by kernel_rfl
  g4 := by kernel_rfl }
open Go.RowKit in
/-- strings.TrimLeft: "TrimLeft returns a slice of the string s with all leading Unicode code points contained in cutset removed.": AT A cutset OF ONE ASCII BYTE. The world is as it was. (LAID: no walk: one application.) -/
theorem Tryd.strings_TrimLeft_one (s : ByteArray) (c : UInt8) (hc : c.toNat < 128) (w : World) :
    Calls Tryd.prog 23 #[.string s, .string ⟨#[c]⟩] w fun e w' => e = .returned (.string ⟨(Lib.trimLeftB s.data.toList c).toArray⟩) ∧ w' = w := Any.strings_TrimLeft_one Tryd.lays161 s c hc w
def Tryd.lays119_ren : Go.Shelf.Ren := ⟨fun | 119 => 96 | n => n, fun | 21 => 21 | 4 => 4 | n => n, fun | n => n⟩
theorem Tryd.lays119 : Go.Proofs.Lays.n119 Tryd.prog Tryd.lays119_ren := {
  mixed := by kernel_rfl
  f119 := Tryd.func96.trans (congrArg some (by kernel_rfl))
  t4 := Tryd.underlying4
  a4 := Tryd.isAgg4
  z4 := Tryd.sizeOf4
  v4 := Tryd.zeroValue4
  t21 := Tryd.underlying21
  a21 := Tryd.isAgg21
  z21 := Tryd.sizeOf21
  v21 := Tryd.zeroValue21 }
/-- utf8.ValidRune: "ValidRune reports whether r can be legally encoded as UTF-8. Code points that are out of range or a surrogate half are illegal.": IT RETURNS 'Lib.validRune r'; the world is as it was. (LAID: no walk: one application.) -/
theorem Tryd.utf8_ValidRune (r : Int) (w : World) :
    Calls Tryd.prog 96 #[.int .i32 r] w fun e w' => e = .returned (.bool (Lib.validRune r)) ∧ w' = w := Any.utf8_ValidRune Tryd.lays119 r w
def Tryd.lays137_ren : Go.Shelf.Ren := ⟨fun | 137 => 25 | 217 => 51 | 266 => 70 | n => n, fun | 9 => 9 | 5 => 5 | 3 => 3 | n => n, fun | n => n⟩
theorem Tryd.lays137 : Go.Proofs.Lays.n137 Tryd.prog Tryd.lays137_ren := {
  mixed := by kernel_rfl
  f137 := Tryd.func25.trans (congrArg some (by kernel_rfl))
  f217 := Tryd.func51.trans (congrArg some (by kernel_rfl))
  f266 := Tryd.func70.trans (congrArg some (by kernel_rfl))
  t3 := Tryd.underlying3
  a3 := Tryd.isAgg3
  z3 := Tryd.sizeOf3
  v3 := Tryd.zeroValue3
  t5 := Tryd.underlying5
  a5 := Tryd.isAgg5
  z5 := Tryd.sizeOf5
  v5 := Tryd.zeroValue5
  t9 := Tryd.underlying9
  a9 := Tryd.isAgg9
  z9 := Tryd.sizeOf9
  v9 := Tryd.zeroValue9 }
open Go.RowKit in
/-- strings.IndexByte: "IndexByte returns the index of the first instance of c in s, or -1 if c is not present in s.": IT RETURNS 'Lib.indexByte s c'; the world is as it was. (LAID: no walk: one application.) -/
theorem Tryd.strings_IndexByte (s : ByteArray) (c : Int) (w : World) :
    Calls Tryd.prog 25 #[.string s, .int .u8 c] w fun e w' => e = .returned (.int .i64 (Lib.indexByte s.data.toList c.toNat.toUInt8)) ∧ w' = w := Any.strings_IndexByte Tryd.lays137 s c w
open Go.RowKit in
/-- (*strings.Builder).Len: "Len returns the number of accumulated bytes; b.Len() == len(b.String()).": the world is as it was. (THE FORM '_f': 'Lib.IsBuilderF'.) (LAID: no walk: one application.) -/
theorem Tryd.Builder_Len_f (B b : Nat) (bs : List Value) (w : World) (h : Lib.IsBuilderF 54 5 B b bs w) :
    Calls Tryd.prog 31 #[.pointer (some ⟨b, 0, none⟩)] w fun e w' => e = .returned (.int .i64 bs.length) ∧ w' = w := Any.Builder_Len_f Tryd.lays170 B b bs w h
open Go.RowKit in
/-- (*strings.Builder).String: "String returns the accumulated string.": OF A BUILDER THAT HOLDS AT LEAST ONE BYTE. ✋ THE MODEL FREEZES THOSE BYTES IN THE BUFFER (unsafe.String): a later write INTO them ends the model's run without an answer; a later append BEHIND them goes on. The statement's order of evaluation is drawn: one draw. THE FORM '_f': IT SAYS BESIDES THAT THE BUILDER IS A BUILDER STILL ('Lib.IsBuilderF', the same bytes): SO IT CAN BE WRITTEN ON: 'b.WriteString(b.String()[:k])'. (LAID: no walk: one application.) -/
theorem Tryd.Builder_String_f (B b : Nat) (l : List UInt8) (w : World) (h : Lib.IsBuilderF 54 5 B b (Lib.byteCells l) w) (h0 : l ≠ []) :
    Calls Tryd.prog 32 #[.pointer (some ⟨b, 0, none⟩)] w fun e w' => e = .returned (.string ⟨l.toArray⟩) ∧ (Lib.IsBuilderF 54 5 B b (Lib.byteCells l) w' ∧ Below B w w') := Any.Builder_String_f Tryd.lays169 Tryd.Builder_Extra_169 B b l w h h0
open Go.RowKit in
/-- (*strings.Builder).String OF A BUILDER THAT HOLDS NO BYTE: the empty string; THE FORM '_f': a builder still. (LAID: no walk: one application.) -/
theorem Tryd.Builder_String_empty_f (B b : Nat) (w : World) (h : Lib.IsBuilderF 54 5 B b [] w) (hBw : B ≤ w.heap.size) :
    Calls Tryd.prog 32 #[.pointer (some ⟨b, 0, none⟩)] w fun e w' => e = .returned (.string ⟨#[]⟩) ∧ (Lib.IsBuilderF 54 5 B b [] w' ∧ Below B w w') := Any.Builder_String_empty_f Tryd.lays169 Tryd.Builder_Extra_169 B b w h hBw
open Go.RowKit in
/-- (*strings.Builder).String: "String returns the accumulated string.": WHATEVER THE BUILDER HOLDS; THE FORM '_f': OF A BUILDER THAT MAY HAVE BEEN READ BEFORE; AND IT IS A BUILDER STILL, holding the same bytes: it can be written on. (LAID: no walk: one application.) -/
theorem Tryd.Builder_String_any_f (B b : Nat) (l : List UInt8) (w : World) (h : Lib.IsBuilderF 54 5 B b (Lib.byteCells l) w) (hBw : B ≤ w.heap.size) :
    Calls Tryd.prog 32 #[.pointer (some ⟨b, 0, none⟩)] w fun e w' => e = .returned (.string ⟨l.toArray⟩) ∧ (Lib.IsBuilderF 54 5 B b (Lib.byteCells l) w' ∧ Below B w w') := Any.Builder_String_any_f Tryd.lays169 Tryd.Builder_Extra_169 B b l w h hBw
open Go.RowKit in
/-- (*strings.Builder).String: "String returns the accumulated string.": OF A BUILDER THAT HOLDS AT LEAST ONE BYTE. ✋ THE MODEL FREEZES THOSE BYTES IN THE BUFFER (unsafe.String): a later write INTO them ends the model's run without an answer; a later append BEHIND them goes on. The statement's order of evaluation is drawn: one draw. THE FORM '_k': OVER 'Lib.IsBuilderF' (a builder that 'String()' may have read), AND WITH THE FRAME THAT REACHES ABOVE THE BUILDER: 'Lib.OthersKept': every block that is not b and is no row of uint8's stands as it stood: the iterator of a range among them. (LAID: no walk: one application.) -/
theorem Tryd.Builder_String_k (B b : Nat) (l : List UInt8) (w : World) (h : Lib.IsBuilderF 54 5 B b (Lib.byteCells l) w) (h0 : l ≠ []) :
    Calls Tryd.prog 32 #[.pointer (some ⟨b, 0, none⟩)] w fun e w' => e = .returned (.string ⟨l.toArray⟩) ∧ (Lib.IsBuilderF 54 5 B b (Lib.byteCells l) w' ∧ Below B w w' ∧ Lib.OthersKept 5 (some b) w w') := Any.Builder_String_k Tryd.lays169 Tryd.Builder_Extra_169 B b l w h h0
open Go.RowKit in
/-- (*strings.Builder).String OF A BUILDER THAT HOLDS NO BYTE: the empty string; THE FORM '_k': OVER 'Lib.IsBuilderF' (a builder that 'String()' may have read), AND WITH THE FRAME THAT REACHES ABOVE THE BUILDER: 'Lib.OthersKept': every block that is not b and is no row of uint8's stands as it stood: the iterator of a range among them. (LAID: no walk: one application.) -/
theorem Tryd.Builder_String_empty_k (B b : Nat) (w : World) (h : Lib.IsBuilderF 54 5 B b [] w) (hBw : B ≤ w.heap.size) :
    Calls Tryd.prog 32 #[.pointer (some ⟨b, 0, none⟩)] w fun e w' => e = .returned (.string ⟨#[]⟩) ∧ (Lib.IsBuilderF 54 5 B b [] w' ∧ Below B w w' ∧ Lib.OthersKept 5 (some b) w w') := Any.Builder_String_empty_k Tryd.lays169 Tryd.Builder_Extra_169 B b w h hBw
open Go.RowKit in
/-- (*strings.Builder).String: "String returns the accumulated string.": WHATEVER THE BUILDER HOLDS; THE FORM '_k': OVER 'Lib.IsBuilderF' (a builder that 'String()' may have read), AND WITH THE FRAME THAT REACHES ABOVE THE BUILDER: 'Lib.OthersKept': every block that is not b and is no row of uint8's stands as it stood: the iterator of a range among them. (LAID: no walk: one application.) -/
theorem Tryd.Builder_String_any_k (B b : Nat) (l : List UInt8) (w : World) (h : Lib.IsBuilderF 54 5 B b (Lib.byteCells l) w) (hBw : B ≤ w.heap.size) :
    Calls Tryd.prog 32 #[.pointer (some ⟨b, 0, none⟩)] w fun e w' => e = .returned (.string ⟨l.toArray⟩) ∧ (Lib.IsBuilderF 54 5 B b (Lib.byteCells l) w' ∧ Below B w w' ∧ Lib.OthersKept 5 (some b) w w') := Any.Builder_String_any_k Tryd.lays169 Tryd.Builder_Extra_169 B b l w h hBw
def Tryd.lays195_ren : Go.Shelf.Ren := ⟨fun | 195 => 43 | n => n, fun | 9 => 9 | 3 => 3 | 0 => 0 | 4 => 4 | n => n, fun | n => n⟩
theorem Tryd.lays195 : Go.Proofs.Lays.n195 Tryd.prog Tryd.lays195_ren := {
  mixed := by kernel_rfl
  f195 := Tryd.func43.trans (congrArg some (by kernel_rfl))
  t0 := Tryd.underlying0
  a0 := Tryd.isAgg0
  z0 := Tryd.sizeOf0
  v0 := Tryd.zeroValue0
  t3 := Tryd.underlying3
  a3 := Tryd.isAgg3
  z3 := Tryd.sizeOf3
  v3 := Tryd.zeroValue3
  t4 := Tryd.underlying4
  a4 := Tryd.isAgg4
  z4 := Tryd.sizeOf4
  v4 := Tryd.zeroValue4
  t9 := Tryd.underlying9
  a9 := Tryd.isAgg9
  z9 := Tryd.sizeOf9
  v9 := Tryd.zeroValue9 }
open Go.RowKit in
/-- unicode/utf8.RuneCountInString: "RuneCountInString is like RuneCount but its input is a string." ("RuneCount returns the number of runes in p. Erroneous and short encodings are treated as single runes of width 1 byte."): EVERY STRING, valid UTF-8 or not: 'Lib.runeCount s' (plain Lean over the model's own 'Utf8.decode'; 'Lib.runeCount_le': at most len(s); 'Lib.runeCount_ascii': on ASCII: len(s)). THE ONE CONDITION: len(s) below 2^63 - 1 (the counter does not wrap): the form's reach pays it. THE WORLD BEHIND THE CALL: ONE BLOCK MORE: the model's iterator over s, at its end: all else as it was. (LAID: no walk: one application.) -/
theorem Tryd.utf8_RuneCountInString (s : ByteArray) (w : World) (hs : s.size < 9223372036854775807) :
    Calls Tryd.prog 43 #[.string s] w fun e w' => e = .returned (.int .i64 (Lib.runeCount s)) ∧ ∃ pos, w' = w.iter s pos := Any.utf8_RuneCountInString Tryd.lays195 s w hs
open Go.RowKit in
/-- (*strings.Builder).grow (no doc but "grow copies the buffer to a new, larger buffer so that there are at least n bytes of capacity beyond len(b.buf)."): AT A BUILDER WITHOUT A BUFFER: a new row of whatever bytes for its buffer, none of them its own yet. Three draws. (LAID: no walk: one application.) -/
theorem Tryd.Builder_grow_fresh_cap (B b n : Nat) (w : World) (hB : B ≤ b) (hbk : w.heap[b]? = some (.cells #[.pointer (some ⟨b, 0, none⟩), .slice none 0 0] 54 (0, 0))) (hBw : B ≤ w.heap.size) (hn : n ≤ 281474976710656) :
    Calls Tryd.prog 66 #[.pointer (some ⟨b, 0, none⟩), .int .i64 n] w fun e w' => e = .returned (.tuple #[]) ∧ (Lib.BuilderAt 54 5 B b (.pointer (some ⟨b, 0, none⟩)) [] w' ∧ Below B w w') ∧ ∃ p cap, w'.cell? ⟨b, 1, none⟩ = some (.slice p 0 cap) ∧ n ≤ cap := Any.Builder_grow_fresh_cap Tryd.lays241 Tryd.Builder_Extra_241 B b n w hB hbk hBw hn
open Go.RowKit in
/-- (*strings.Builder).Grow AT A BUILDER THAT HAS NOT BEEN WRITTEN ('var b strings.Builder; b.Grow(n)'): "Grow grows b's capacity, if necessary, to guarantee space for another n bytes.": it holds no byte behind it as before it. (LAID: no walk: one application.) -/
theorem Tryd.Builder_Grow_fresh_cap (B b n : Nat) (w : World) (hB : B ≤ b) (hbk : w.heap[b]? = some (.cells #[.pointer none, .slice none 0 0] 54 (0, 0))) (hBw : B ≤ w.heap.size) (hn : n ≤ 281474976710656) :
    Calls Tryd.prog 42 #[.pointer (some ⟨b, 0, none⟩), .int .i64 n] w fun e w' => e = .returned (.tuple #[]) ∧ (Lib.BuilderAt 54 5 B b (.pointer (some ⟨b, 0, none⟩)) [] w' ∧ Below B w w') ∧ ∃ p cap, w'.cell? ⟨b, 1, none⟩ = some (.slice p 0 cap) ∧ n ≤ cap := Any.Builder_Grow_fresh_cap Tryd.lays165 Tryd.Builder_Extra_165 B b n w hB hbk hBw hn
def Tryd.lays217_ren : Go.Shelf.Ren := ⟨fun | 217 => 51 | 266 => 70 | n => n, fun | 9 => 9 | 5 => 5 | 3 => 3 | n => n, fun | n => n⟩
theorem Tryd.lays217 : Go.Proofs.Lays.n217 Tryd.prog Tryd.lays217_ren := {
  mixed := by kernel_rfl
  f217 := Tryd.func51.trans (congrArg some (by kernel_rfl))
  f266 := Tryd.func70.trans (congrArg some (by kernel_rfl))
  t3 := Tryd.underlying3
  a3 := Tryd.isAgg3
  z3 := Tryd.sizeOf3
  v3 := Tryd.zeroValue3
  t5 := Tryd.underlying5
  a5 := Tryd.isAgg5
  z5 := Tryd.sizeOf5
  v5 := Tryd.zeroValue5
  t9 := Tryd.underlying9
  a9 := Tryd.isAgg9
  z9 := Tryd.sizeOf9
  v9 := Tryd.zeroValue9 }
open Go.RowKit Go.Lib in
/-- internal/stringslite.IndexByte (what strings.IndexByte calls): IT RETURNS 'Lib.indexByte s c'; the world is as it was. (LAID: no walk: one application.) -/
theorem Tryd.stringslite_IndexByte (s : ByteArray) (c : Int) (w : World) :
    Calls Tryd.prog 51 #[.string s, .int .u8 c] w fun e w' => e = .returned (.int .i64 (Lib.indexByte s.data.toList c.toNat.toUInt8)) ∧ w' = w := Any.stringslite_IndexByte Tryd.lays217 s c w
def Tryd.lays224_ren : Go.Shelf.Ren := ⟨fun | 224 => 83 | n => n, fun | 3 => 3 | n => n, fun | n => n⟩
theorem Tryd.lays224 : Go.Proofs.Lays.n224 Tryd.prog Tryd.lays224_ren := {
  mixed := by kernel_rfl
  f224 := Tryd.func83.trans (congrArg some (by kernel_rfl))
  t3 := Tryd.underlying3
  a3 := Tryd.isAgg3
  z3 := Tryd.sizeOf3
  v3 := Tryd.zeroValue3 }
open Go.RowKit Go.Lib in
/-- internal/bytealg.Cutover: "Cutover reports the number of failures of IndexByte we should tolerate before switching over to Index. n is the number of bytes processed so far.": on amd64: (n + 16) / 8. (LAID: no walk: one application.) -/
theorem Tryd.bytealg_Cutover (n : Int) (h0 : 0 ≤ n) (h1 : n < 4611686018427387904) (w : World) :
    Calls Tryd.prog 83 #[.int .i64 n] w fun e w' => e = .returned (.int .i64 ((n + 16) / 8)) ∧ w' = w := Any.bytealg_Cutover Tryd.lays224 n h0 h1 w
def Tryd.lays314_ren : Go.Shelf.Ren := ⟨fun | 314 => 97 | n => n, fun | 9 => 9 | 51 => 104 | 3 => 3 | 4 => 4 | 5 => 5 | 46 => 84 | n => n, fun | n => n⟩
theorem Tryd.lays314 : Go.Proofs.Lays.n314 Tryd.prog Tryd.lays314_ren := {
  mixed := by kernel_rfl
  f314 := Tryd.func97.trans (congrArg some (by kernel_rfl))
  t3 := Tryd.underlying3
  a3 := Tryd.isAgg3
  z3 := Tryd.sizeOf3
  v3 := Tryd.zeroValue3
  t4 := Tryd.underlying4
  a4 := Tryd.isAgg4
  z4 := Tryd.sizeOf4
  v4 := Tryd.zeroValue4
  t5 := Tryd.underlying5
  a5 := Tryd.isAgg5
  z5 := Tryd.sizeOf5
  v5 := Tryd.zeroValue5
  t9 := Tryd.underlying9
  a9 := Tryd.isAgg9
  z9 := Tryd.sizeOf9
  v9 := Tryd.zeroValue9
  t46 := Tryd.underlying84
  a46 := Tryd.isAgg84
  z46 := Tryd.sizeOf84
  v46 := Tryd.zeroValue84
  t51 := Tryd.underlying104
  a51 := Tryd.isAgg104
  z51 := Tryd.sizeOf104
  v51 := Tryd.zeroValue104 }
open Go.RowKit Go.Lib in
/-- hashStr: "returns the hash and the appropriate multiplicative factor for use in Rabin-Karp algorithm": THE HASH OF ALL OF sep, AND 16777619 ^ len(sep), both in uint32. (LAID: no walk: one application.) -/
theorem Tryd.bytealg_hashStr (sep : ByteArray) (hs : sep.size < 4294967281) (w : World) :
    Calls Tryd.prog 97 #[.string sep] w fun e w' => e = .returned (.tuple #[.int .u32 (RK.H sep.data.toList % 4294967296), .int .u32 (16777619 ^ sep.size % 4294967296)]) ∧ w' = w := Any.bytealg_hashStr Tryd.lays314 sep hs w
def Tryd.lays267_ren : Go.Shelf.Ren := ⟨fun | 267 => 84 | 314 => 97 | n => n, fun | 9 => 9 | 3 => 3 | 146 => 105 | 51 => 104 | 4 => 4 | 5 => 5 | 46 => 84 | n => n, fun | n => n⟩
theorem Tryd.lays267 : Go.Proofs.Lays.n267 Tryd.prog Tryd.lays267_ren := {
  mixed := by kernel_rfl
  f267 := Tryd.func84.trans (congrArg some (by kernel_rfl))
  f314 := Tryd.func97.trans (congrArg some (by kernel_rfl))
  t3 := Tryd.underlying3
  a3 := Tryd.isAgg3
  z3 := Tryd.sizeOf3
  v3 := Tryd.zeroValue3
  t4 := Tryd.underlying4
  a4 := Tryd.isAgg4
  z4 := Tryd.sizeOf4
  v4 := Tryd.zeroValue4
  t5 := Tryd.underlying5
  a5 := Tryd.isAgg5
  z5 := Tryd.sizeOf5
  v5 := Tryd.zeroValue5
  t9 := Tryd.underlying9
  a9 := Tryd.isAgg9
  z9 := Tryd.sizeOf9
  v9 := Tryd.zeroValue9
  t46 := Tryd.underlying84
  a46 := Tryd.isAgg84
  z46 := Tryd.sizeOf84
  v46 := Tryd.zeroValue84
  t51 := Tryd.underlying104
  a51 := Tryd.isAgg104
  z51 := Tryd.sizeOf104
  v51 := Tryd.zeroValue104
  t146 := Tryd.underlying105
  a146 := Tryd.isAgg105
  z146 := Tryd.sizeOf105
  v146 := Tryd.zeroValue105 }
open Go.RowKit Go.Lib in
theorem Tryd.bytealg_IndexRabinKarp (s sep : ByteArray) (h1 : 1 ≤ sep.size) (h2 : sep.size ≤ s.size) (hs : s.size < 4294967281) (w : World) :
    Calls Tryd.prog 84 #[.string s, .string sep] w fun e w' => e = .returned (.int .i64 (Lib.index s.data.toList sep.data.toList)) ∧ w' = w := Any.bytealg_IndexRabinKarp Tryd.lays267 s sep h1 h2 hs w
def Tryd.lays219_ren : Go.Shelf.Ren := ⟨fun | 219 => 59 | 217 => 51 | 225 => 82 | 224 => 83 | 267 => 84 | 266 => 70 | 314 => 97 | n => n, fun | 9 => 9 | 3 => 3 | 4 => 4 | 5 => 5 | 46 => 84 | 146 => 105 | 51 => 104 | n => n, fun | 1 => 0 | n => n⟩
theorem Tryd.lays219 : Go.Proofs.Lays.n219 Tryd.prog Tryd.lays219_ren := {
  mixed := by kernel_rfl
  f217 := Tryd.func51.trans (congrArg some (by kernel_rfl))
  f219 := Tryd.func59.trans (congrArg some (by kernel_rfl))
  f224 := Tryd.func83.trans (congrArg some (by kernel_rfl))
  f225 := Tryd.func82.trans (congrArg some (by kernel_rfl))
  f266 := Tryd.func70.trans (congrArg some (by kernel_rfl))
  f267 := Tryd.func84.trans (congrArg some (by kernel_rfl))
  f314 := Tryd.func97.trans (congrArg some (by kernel_rfl))
  t3 := Tryd.underlying3
  a3 := Tryd.isAgg3
  z3 := Tryd.sizeOf3
  v3 := Tryd.zeroValue3
  t4 := Tryd.underlying4
  a4 := Tryd.isAgg4
  z4 := Tryd.sizeOf4
  v4 := Tryd.zeroValue4
  t5 := Tryd.underlying5
  a5 := Tryd.isAgg5
  z5 := Tryd.sizeOf5
  v5 := Tryd.zeroValue5
  t9 := Tryd.underlying9
  a9 := Tryd.isAgg9
  z9 := Tryd.sizeOf9
  v9 := Tryd.zeroValue9
  t46 := Tryd.underlying84
  a46 := Tryd.isAgg84
  z46 := Tryd.sizeOf84
  v46 := Tryd.zeroValue84
  t51 := Tryd.underlying104
  a51 := Tryd.isAgg104
  z51 := Tryd.sizeOf104
  v51 := Tryd.zeroValue104
  t146 := Tryd.underlying105
  a146 := Tryd.isAgg105
  z146 := Tryd.sizeOf105
  v146 := Tryd.zeroValue105
  g1 := by kernel_rfl }
open Go.RowKit Go.Lib in
/-- internal/stringslite.Index (what strings.Index calls) AT A substr OF ONE BYTE c: IT RETURNS 'Lib.indexByte s c'; the world is as it was. (LAID: no walk: one application.) -/
theorem Tryd.stringslite_Index_one (s : ByteArray) (c : UInt8) (w : World) :
    Calls Tryd.prog 59 #[.string s, .string ⟨#[c]⟩] w fun e w' => e = .returned (.int .i64 (Lib.indexByte s.data.toList c)) ∧ w' = w := Any.stringslite_Index_one Tryd.lays219 s c w
open Go.RowKit Go.Lib in
/-- internal/stringslite.Index (what strings.Index calls) AT A substr OF WHATEVER LENGTH: IT RETURNS 'Lib.index s substr'; the world is as it was. 'm': what internal/bytealg.MaxLen holds: whatever. (LAID: no walk: one application.) -/
theorem Tryd.stringslite_Index (s sub : ByteArray) (m : Int) (w : World) (hs : s.size < 4294967281) (hm : w.cell? ⟨0, 0, none⟩ = some (.int .i64 m)) :
    Calls Tryd.prog 59 #[.string s, .string sub] w fun e w' => e = .returned (.int .i64 (Lib.index s.data.toList sub.data.toList)) ∧ w' = w := Any.stringslite_Index Tryd.lays219 s sub m w hs hm
def Tryd.lays143_ren : Go.Shelf.Ren := ⟨fun | 143 => 36 | 219 => 59 | 217 => 51 | 225 => 82 | 224 => 83 | 267 => 84 | 266 => 70 | 314 => 97 | n => n, fun | 9 => 9 | 3 => 3 | 4 => 4 | 5 => 5 | 46 => 84 | 146 => 105 | 51 => 104 | n => n, fun | 1 => 0 | n => n⟩
theorem Tryd.lays143 : Go.Proofs.Lays.n143 Tryd.prog Tryd.lays143_ren := {
  mixed := by kernel_rfl
  f143 := Tryd.func36.trans (congrArg some (by kernel_rfl))
  f217 := Tryd.func51.trans (congrArg some (by kernel_rfl))
  f219 := Tryd.func59.trans (congrArg some (by kernel_rfl))
  f224 := Tryd.func83.trans (congrArg some (by kernel_rfl))
  f225 := Tryd.func82.trans (congrArg some (by kernel_rfl))
  f266 := Tryd.func70.trans (congrArg some (by kernel_rfl))
  f267 := Tryd.func84.trans (congrArg some (by kernel_rfl))
  f314 := Tryd.func97.trans (congrArg some (by kernel_rfl))
  t3 := Tryd.underlying3
  a3 := Tryd.isAgg3
  z3 := Tryd.sizeOf3
  v3 := Tryd.zeroValue3
  t4 := Tryd.underlying4
  a4 := Tryd.isAgg4
  z4 := Tryd.sizeOf4
  v4 := Tryd.zeroValue4
  t5 := Tryd.underlying5
  a5 := Tryd.isAgg5
  z5 := Tryd.sizeOf5
  v5 := Tryd.zeroValue5
  t9 := Tryd.underlying9
  a9 := Tryd.isAgg9
  z9 := Tryd.sizeOf9
  v9 := Tryd.zeroValue9
  t46 := Tryd.underlying84
  a46 := Tryd.isAgg84
  z46 := Tryd.sizeOf84
  v46 := Tryd.zeroValue84
  t51 := Tryd.underlying104
  a51 := Tryd.isAgg104
  z51 := Tryd.sizeOf104
  v51 := Tryd.zeroValue104
  t146 := Tryd.underlying105
  a146 := Tryd.isAgg105
  z146 := Tryd.sizeOf105
  v146 := Tryd.zeroValue105
  g1 := by kernel_rfl }
open Go.RowKit Go.Lib in
/-- strings.Index: "Index returns the index of the first instance of substr in s, or -1 if substr is not present in s.": AT A substr OF ONE BYTE c: IT RETURNS 'Lib.indexByte s c'; the world is as it was. (LAID: no walk: one application.) -/
theorem Tryd.strings_Index_one (s : ByteArray) (c : UInt8) (w : World) :
    Calls Tryd.prog 36 #[.string s, .string ⟨#[c]⟩] w fun e w' => e = .returned (.int .i64 (Lib.indexByte s.data.toList c)) ∧ w' = w := Any.strings_Index_one Tryd.lays143 s c w
open Go.RowKit Go.Lib in
/-- strings.Index: "Index returns the index of the first instance of substr in s, or -1 if substr is not present in s.": IT RETURNS 'Lib.index s substr'; the world is as it was. (LAID: no walk: one application.) -/
theorem Tryd.strings_Index (s sub : ByteArray) (m : Int) (w : World) (hs : s.size < 4294967281) (hm : w.cell? ⟨0, 0, none⟩ = some (.int .i64 m)) :
    Calls Tryd.prog 36 #[.string s, .string sub] w fun e w' => e = .returned (.int .i64 (Lib.index s.data.toList sub.data.toList)) ∧ w' = w := Any.strings_Index Tryd.lays143 s sub m w hs hm
def Tryd.lays144_ren : Go.Shelf.Ren := ⟨fun | 144 => 18 | 143 => 36 | 219 => 59 | 217 => 51 | 225 => 82 | 224 => 83 | 267 => 84 | 266 => 70 | 314 => 97 | n => n, fun | 9 => 9 | 4 => 4 | 3 => 3 | 5 => 5 | 46 => 84 | 146 => 105 | 51 => 104 | n => n, fun | 1 => 0 | n => n⟩
theorem Tryd.lays144 : Go.Proofs.Lays.n144 Tryd.prog Tryd.lays144_ren := {
  mixed := by kernel_rfl
  f143 := Tryd.func36.trans (congrArg some (by kernel_rfl))
  f144 := Tryd.func18.trans (congrArg some (by kernel_rfl))
  f217 := Tryd.func51.trans (congrArg some (by kernel_rfl))
  f219 := Tryd.func59.trans (congrArg some (by kernel_rfl))
  f224 := Tryd.func83.trans (congrArg some (by kernel_rfl))
  f225 := Tryd.func82.trans (congrArg some (by kernel_rfl))
  f266 := Tryd.func70.trans (congrArg some (by kernel_rfl))
  f267 := Tryd.func84.trans (congrArg some (by kernel_rfl))
  f314 := Tryd.func97.trans (congrArg some (by kernel_rfl))
  t3 := Tryd.underlying3
  a3 := Tryd.isAgg3
  z3 := Tryd.sizeOf3
  v3 := Tryd.zeroValue3
  t4 := Tryd.underlying4
  a4 := Tryd.isAgg4
  z4 := Tryd.sizeOf4
  v4 := Tryd.zeroValue4
  t5 := Tryd.underlying5
  a5 := Tryd.isAgg5
  z5 := Tryd.sizeOf5
  v5 := Tryd.zeroValue5
  t9 := Tryd.underlying9
  a9 := Tryd.isAgg9
  z9 := Tryd.sizeOf9
  v9 := Tryd.zeroValue9
  t46 := Tryd.underlying84
  a46 := Tryd.isAgg84
  z46 := Tryd.sizeOf84
  v46 := Tryd.zeroValue84
  t51 := Tryd.underlying104
  a51 := Tryd.isAgg104
  z51 := Tryd.sizeOf104
  v51 := Tryd.zeroValue104
  t146 := Tryd.underlying105
  a146 := Tryd.isAgg105
  z146 := Tryd.sizeOf105
  v146 := Tryd.zeroValue105
  g1 := by kernel_rfl }
open Go.RowKit Go.Lib in
/-- strings.Contains: "Contains reports whether substr is within s.": AT A substr OF ONE BYTE c: IT RETURNS 'decide (0 ≤ Lib.indexByte s c)'; the world is as it was. (LAID: no walk: one application.) -/
theorem Tryd.strings_Contains_one (s : ByteArray) (c : UInt8) (w : World) :
    Calls Tryd.prog 18 #[.string s, .string ⟨#[c]⟩] w fun e w' => e = .returned (.bool (decide (0 ≤ Lib.indexByte s.data.toList c))) ∧ w' = w := Any.strings_Contains_one Tryd.lays144 s c w
open Go.RowKit Go.Lib in
/-- strings.Contains: "Contains reports whether substr is within s.": IT RETURNS 'Lib.contains s substr'; the world is as it was. (LAID: no walk: one application.) -/
theorem Tryd.strings_Contains (s sub : ByteArray) (m : Int) (w : World) (hs : s.size < 4294967281) (hm : w.cell? ⟨0, 0, none⟩ = some (.int .i64 m)) :
    Calls Tryd.prog 18 #[.string s, .string sub] w fun e w' => e = .returned (.bool (Lib.contains s.data.toList sub.data.toList)) ∧ w' = w := Any.strings_Contains Tryd.lays144 s sub m w hs hm
def Tryd.lays220_ren : Go.Shelf.Ren := ⟨fun | 220 => 54 | 219 => 59 | 217 => 51 | 225 => 82 | 224 => 83 | 267 => 84 | 266 => 70 | 314 => 97 | n => n, fun | 9 => 9 | 4 => 4 | 3 => 3 | 5 => 5 | 46 => 84 | 146 => 105 | 51 => 104 | n => n, fun | 1 => 0 | n => n⟩
theorem Tryd.lays220 : Go.Proofs.Lays.n220 Tryd.prog Tryd.lays220_ren := {
  mixed := by kernel_rfl
  f217 := Tryd.func51.trans (congrArg some (by kernel_rfl))
  f219 := Tryd.func59.trans (congrArg some (by kernel_rfl))
  f220 := Tryd.func54.trans (congrArg some (by kernel_rfl))
  f224 := Tryd.func83.trans (congrArg some (by kernel_rfl))
  f225 := Tryd.func82.trans (congrArg some (by kernel_rfl))
  f266 := Tryd.func70.trans (congrArg some (by kernel_rfl))
  f267 := Tryd.func84.trans (congrArg some (by kernel_rfl))
  f314 := Tryd.func97.trans (congrArg some (by kernel_rfl))
  t3 := Tryd.underlying3
  a3 := Tryd.isAgg3
  z3 := Tryd.sizeOf3
  v3 := Tryd.zeroValue3
  t4 := Tryd.underlying4
  a4 := Tryd.isAgg4
  z4 := Tryd.sizeOf4
  v4 := Tryd.zeroValue4
  t5 := Tryd.underlying5
  a5 := Tryd.isAgg5
  z5 := Tryd.sizeOf5
  v5 := Tryd.zeroValue5
  t9 := Tryd.underlying9
  a9 := Tryd.isAgg9
  z9 := Tryd.sizeOf9
  v9 := Tryd.zeroValue9
  t46 := Tryd.underlying84
  a46 := Tryd.isAgg84
  z46 := Tryd.sizeOf84
  v46 := Tryd.zeroValue84
  t51 := Tryd.underlying104
  a51 := Tryd.isAgg104
  z51 := Tryd.sizeOf104
  v51 := Tryd.zeroValue104
  t146 := Tryd.underlying105
  a146 := Tryd.isAgg105
  z146 := Tryd.sizeOf105
  v146 := Tryd.zeroValue105
  g1 := by kernel_rfl }
open Go.RowKit Go.Lib in
/-- internal/stringslite.Cut (what strings.Cut calls): IT RETURNS 'Lib.cut s sep'; the world is as it was but for the count of draws. (LAID: no walk: one application.) -/
theorem Tryd.stringslite_Cut (s sep : ByteArray) (m : Int) (w : World) (hs : s.size < 4294967281) (hm : w.cell? ⟨0, 0, none⟩ = some (.int .i64 m)) :
    Calls Tryd.prog 54 #[.string s, .string sep] w fun e w' => e = .returned (.tuple #[.string ⟨(Lib.cut s.data.toList sep.data.toList).1.toArray⟩, .string ⟨(Lib.cut s.data.toList sep.data.toList).2.1.toArray⟩, .bool (Lib.cut s.data.toList sep.data.toList).2.2]) ∧ ∃ n, w' = w.drewN n := Any.stringslite_Cut Tryd.lays220 s sep m w hs hm
def Tryd.lays145_ren : Go.Shelf.Ren := ⟨fun | 145 => 29 | 220 => 54 | 219 => 59 | 217 => 51 | 225 => 82 | 224 => 83 | 267 => 84 | 266 => 70 | 314 => 97 | n => n, fun | 9 => 9 | 4 => 4 | 59 => 49 | 3 => 3 | 5 => 5 | 46 => 84 | 146 => 105 | 51 => 104 | n => n, fun | 1 => 0 | n => n⟩
theorem Tryd.lays145 : Go.Proofs.Lays.n145 Tryd.prog Tryd.lays145_ren := {
  mixed := by kernel_rfl
  f145 := Tryd.func29.trans (congrArg some (by kernel_rfl))
  f217 := Tryd.func51.trans (congrArg some (by kernel_rfl))
  f219 := Tryd.func59.trans (congrArg some (by kernel_rfl))
  f220 := Tryd.func54.trans (congrArg some (by kernel_rfl))
  f224 := Tryd.func83.trans (congrArg some (by kernel_rfl))
  f225 := Tryd.func82.trans (congrArg some (by kernel_rfl))
  f266 := Tryd.func70.trans (congrArg some (by kernel_rfl))
  f267 := Tryd.func84.trans (congrArg some (by kernel_rfl))
  f314 := Tryd.func97.trans (congrArg some (by kernel_rfl))
  t3 := Tryd.underlying3
  a3 := Tryd.isAgg3
  z3 := Tryd.sizeOf3
  v3 := Tryd.zeroValue3
  t4 := Tryd.underlying4
  a4 := Tryd.isAgg4
  z4 := Tryd.sizeOf4
  v4 := Tryd.zeroValue4
  t5 := Tryd.underlying5
  a5 := Tryd.isAgg5
  z5 := Tryd.sizeOf5
  v5 := Tryd.zeroValue5
  t9 := Tryd.underlying9
  a9 := Tryd.isAgg9
  z9 := Tryd.sizeOf9
  v9 := Tryd.zeroValue9
  t46 := Tryd.underlying84
  a46 := Tryd.isAgg84
  z46 := Tryd.sizeOf84
  v46 := Tryd.zeroValue84
  t51 := Tryd.underlying104
  a51 := Tryd.isAgg104
  z51 := Tryd.sizeOf104
  v51 := Tryd.zeroValue104
  t59 := Tryd.underlying49
  a59 := Tryd.isAgg49
  z59 := Tryd.sizeOf49
  v59 := Tryd.zeroValue49
  t146 := Tryd.underlying105
  a146 := Tryd.isAgg105
  z146 := Tryd.sizeOf105
  v146 := Tryd.zeroValue105
  g1 := by kernel_rfl }
open Go.RowKit Go.Lib in
/-- strings.Cut: "Cut slices s around the first instance of sep, returning the text before and after sep. The found result reports whether sep appears in s. If sep does not appear in s, cut returns s, "", false.": IT RETURNS 'Lib.cut s sep'; the world is as it was but for the count of draws. (LAID: no walk: one application.) -/
theorem Tryd.strings_Cut (s sep : ByteArray) (m : Int) (w : World) (hs : s.size < 4294967281) (hm : w.cell? ⟨0, 0, none⟩ = some (.int .i64 m)) :
    Calls Tryd.prog 29 #[.string s, .string sep] w fun e w' => e = .returned (.tuple #[.string ⟨(Lib.cut s.data.toList sep.data.toList).1.toArray⟩, .string ⟨(Lib.cut s.data.toList sep.data.toList).2.1.toArray⟩, .bool (Lib.cut s.data.toList sep.data.toList).2.2]) ∧ ∃ n, w' = w.drewN n := Any.strings_Cut Tryd.lays145 s sep m w hs hm
def Tryd.lays138_ren : Go.Shelf.Ren := ⟨fun | 138 => 22 | 195 => 43 | 218 => 44 | 143 => 36 | 219 => 59 | 217 => 51 | 225 => 82 | 224 => 83 | 267 => 84 | 266 => 70 | 314 => 97 | n => n, fun | 9 => 9 | 3 => 3 | 4 => 4 | 5 => 5 | 0 => 0 | 46 => 84 | 146 => 105 | 51 => 104 | n => n, fun | 1 => 0 | n => n⟩
theorem Tryd.lays138 : Go.Proofs.Lays.n138 Tryd.prog Tryd.lays138_ren := {
  mixed := by kernel_rfl
  f138 := Tryd.func22.trans (congrArg some (by kernel_rfl))
  f143 := Tryd.func36.trans (congrArg some (by kernel_rfl))
  f195 := Tryd.func43.trans (congrArg some (by kernel_rfl))
  f217 := Tryd.func51.trans (congrArg some (by kernel_rfl))
  f218 := Tryd.func44.trans (congrArg some (by kernel_rfl))
  f219 := Tryd.func59.trans (congrArg some (by kernel_rfl))
  f224 := Tryd.func83.trans (congrArg some (by kernel_rfl))
  f225 := Tryd.func82.trans (congrArg some (by kernel_rfl))
  f266 := Tryd.func70.trans (congrArg some (by kernel_rfl))
  f267 := Tryd.func84.trans (congrArg some (by kernel_rfl))
  f314 := Tryd.func97.trans (congrArg some (by kernel_rfl))
  t0 := Tryd.underlying0
  a0 := Tryd.isAgg0
  z0 := Tryd.sizeOf0
  v0 := Tryd.zeroValue0
  t3 := Tryd.underlying3
  a3 := Tryd.isAgg3
  z3 := Tryd.sizeOf3
  v3 := Tryd.zeroValue3
  t4 := Tryd.underlying4
  a4 := Tryd.isAgg4
  z4 := Tryd.sizeOf4
  v4 := Tryd.zeroValue4
  t5 := Tryd.underlying5
  a5 := Tryd.isAgg5
  z5 := Tryd.sizeOf5
  v5 := Tryd.zeroValue5
  t9 := Tryd.underlying9
  a9 := Tryd.isAgg9
  z9 := Tryd.sizeOf9
  v9 := Tryd.zeroValue9
  t46 := Tryd.underlying84
  a46 := Tryd.isAgg84
  z46 := Tryd.sizeOf84
  v46 := Tryd.zeroValue84
  t51 := Tryd.underlying104
  a51 := Tryd.isAgg104
  z51 := Tryd.sizeOf104
  v51 := Tryd.zeroValue104
  t146 := Tryd.underlying105
  a146 := Tryd.isAgg105
  z146 := Tryd.sizeOf105
  v146 := Tryd.zeroValue105
  g1 := by kernel_rfl }
open Go.RowKit Go.Lib in
/-- strings.Count AT A substr OF ONE BYTE ('hp'): "Count counts the number of non-overlapping instances of substr in s.": IT RETURNS 'Lib.countByte s (that byte)'; the world is as it was. ✋ NO CONTRACT HERE YET at an empty substr (utf8.RuneCountInString) or at a longer one (a loop over strings.Index). (LAID: no walk: one application.) -/
theorem Tryd.strings_Count_one (s : ByteArray) (c : UInt8) (w : World) :
    Calls Tryd.prog 22 #[.string s, .string ⟨#[c]⟩] w fun e w' => e = .returned (.int .i64 (Lib.countByte s.data.toList c)) ∧ w' = w := Any.strings_Count_one Tryd.lays138 s c w
open Go.RowKit Go.Lib in
/-- strings.Count AT A substr OF TWO BYTES OR MORE: "Count counts the number of non-overlapping instances of substr in s.": IT RETURNS 'Lib.count s substr'; the world is as it was. (LAID: no walk: one application.) -/
theorem Tryd.strings_Count (s sub : ByteArray) (m : Int) (w : World) (hs : s.size < 4294967281) (hm : w.cell? ⟨0, 0, none⟩ = some (.int .i64 m)) (h2 : 2 ≤ sub.size) :
    Calls Tryd.prog 22 #[.string s, .string sub] w fun e w' => e = .returned (.int .i64 (Lib.countB s sub)) ∧ w' = w := Any.strings_Count Tryd.lays138 s sub m w hs hm h2
def Tryd.laysM219_ren : Go.Shelf.Ren := ⟨fun | 219 => 59 | 217 => 51 | 225 => 82 | 224 => 83 | 267 => 84 | 266 => 70 | 314 => 97 | n => n, fun | 9 => 9 | 3 => 3 | 4 => 4 | 5 => 5 | 46 => 84 | 146 => 105 | 51 => 104 | n => n, fun | 1 => 0 | n => n⟩
theorem Tryd.laysM219 : Go.Proofs.LaysM.n219 Tryd.prog Tryd.laysM219_ren := {
  mixed := by kernel_rfl
  f217 := Tryd.func51.trans (congrArg some (by kernel_rfl))
  f219 := Tryd.func59.trans (congrArg some (by kernel_rfl))
  f224 := Tryd.func83.trans (congrArg some (by kernel_rfl))
  f225 := Tryd.func82.trans (congrArg some (by kernel_rfl))
  f266 := Tryd.func70.trans (congrArg some (by kernel_rfl))
  f267 := Tryd.func84.trans (congrArg some (by kernel_rfl))
  f314 := Tryd.func97.trans (congrArg some (by kernel_rfl))
  t3 := Tryd.underlying3
  a3 := Tryd.isAgg3
  z3 := Tryd.sizeOf3
  v3 := Tryd.zeroValue3
  t4 := Tryd.underlying4
  a4 := Tryd.isAgg4
  z4 := Tryd.sizeOf4
  v4 := Tryd.zeroValue4
  t5 := Tryd.underlying5
  a5 := Tryd.isAgg5
  z5 := Tryd.sizeOf5
  v5 := Tryd.zeroValue5
  t9 := Tryd.underlying9
  a9 := Tryd.isAgg9
  z9 := Tryd.sizeOf9
  v9 := Tryd.zeroValue9
  t46 := Tryd.underlying84
  a46 := Tryd.isAgg84
  z46 := Tryd.sizeOf84
  v46 := Tryd.zeroValue84
  t51 := Tryd.underlying104
  a51 := Tryd.isAgg104
  z51 := Tryd.sizeOf104
  v51 := Tryd.zeroValue104
  t146 := Tryd.underlying105
  a146 := Tryd.isAgg105
  z146 := Tryd.sizeOf105
  v146 := Tryd.zeroValue105
  g1 := by kernel_rfl
  i3 := by kernel_rfl
  i4 := by kernel_rfl
  i5 := by kernel_rfl
  i9 := by kernel_rfl
  i46 := by kernel_rfl
  i51 := by kernel_rfl
  i146 := by kernel_rfl
  m1 := by kernel_rfl
  s1_3 := fun w h => Go.Proofs.cell_of_shapedOpen_int (zero := #[.int .i64 0]) (t := 3) h (of_decide_eq_true (by kernel_rfl)) (by kernel_rfl) rfl (by kernel_rfl) (by kernel_rfl) Tryd.underlying3 }
open Go.RowKit Go.Lib in
theorem Tryd.stringslite_Index_shaped (s sub : ByteArray) (w : World) (h : w.ShapedOpen Tryd.prog) (hs : s.size < 4294967281) :
    Calls Tryd.prog 59 #[.string s, .string sub] w fun e w' => e = .returned (.int .i64 (Lib.index s.data.toList sub.data.toList)) ∧ w' = w := Any.stringslite_Index_shaped Tryd.laysM219 s sub w h hs
def Tryd.laysM143_ren : Go.Shelf.Ren := ⟨fun | 143 => 36 | 219 => 59 | 217 => 51 | 225 => 82 | 224 => 83 | 267 => 84 | 266 => 70 | 314 => 97 | n => n, fun | 9 => 9 | 3 => 3 | 4 => 4 | 5 => 5 | 46 => 84 | 146 => 105 | 51 => 104 | n => n, fun | 1 => 0 | n => n⟩
theorem Tryd.laysM143 : Go.Proofs.LaysM.n143 Tryd.prog Tryd.laysM143_ren := {
  mixed := by kernel_rfl
  f143 := Tryd.func36.trans (congrArg some (by kernel_rfl))
  f217 := Tryd.func51.trans (congrArg some (by kernel_rfl))
  f219 := Tryd.func59.trans (congrArg some (by kernel_rfl))
  f224 := Tryd.func83.trans (congrArg some (by kernel_rfl))
  f225 := Tryd.func82.trans (congrArg some (by kernel_rfl))
  f266 := Tryd.func70.trans (congrArg some (by kernel_rfl))
  f267 := Tryd.func84.trans (congrArg some (by kernel_rfl))
  f314 := Tryd.func97.trans (congrArg some (by kernel_rfl))
  t3 := Tryd.underlying3
  a3 := Tryd.isAgg3
  z3 := Tryd.sizeOf3
  v3 := Tryd.zeroValue3
  t4 := Tryd.underlying4
  a4 := Tryd.isAgg4
  z4 := Tryd.sizeOf4
  v4 := Tryd.zeroValue4
  t5 := Tryd.underlying5
  a5 := Tryd.isAgg5
  z5 := Tryd.sizeOf5
  v5 := Tryd.zeroValue5
  t9 := Tryd.underlying9
  a9 := Tryd.isAgg9
  z9 := Tryd.sizeOf9
  v9 := Tryd.zeroValue9
  t46 := Tryd.underlying84
  a46 := Tryd.isAgg84
  z46 := Tryd.sizeOf84
  v46 := Tryd.zeroValue84
  t51 := Tryd.underlying104
  a51 := Tryd.isAgg104
  z51 := Tryd.sizeOf104
  v51 := Tryd.zeroValue104
  t146 := Tryd.underlying105
  a146 := Tryd.isAgg105
  z146 := Tryd.sizeOf105
  v146 := Tryd.zeroValue105
  g1 := by kernel_rfl
  i3 := by kernel_rfl
  i4 := by kernel_rfl
  i5 := by kernel_rfl
  i9 := by kernel_rfl
  i46 := by kernel_rfl
  i51 := by kernel_rfl
  i146 := by kernel_rfl
  m1 := by kernel_rfl
  s1_3 := fun w h => Go.Proofs.cell_of_shapedOpen_int (zero := #[.int .i64 0]) (t := 3) h (of_decide_eq_true (by kernel_rfl)) (by kernel_rfl) rfl (by kernel_rfl) (by kernel_rfl) Tryd.underlying3 }
open Go.RowKit Go.Lib in
theorem Tryd.strings_Index_shaped (s sub : ByteArray) (w : World) (h : w.ShapedOpen Tryd.prog) (hs : s.size < 4294967281) :
    Calls Tryd.prog 36 #[.string s, .string sub] w fun e w' => e = .returned (.int .i64 (Lib.index s.data.toList sub.data.toList)) ∧ w' = w := Any.strings_Index_shaped Tryd.laysM143 s sub w h hs
def Tryd.laysM144_ren : Go.Shelf.Ren := ⟨fun | 144 => 18 | 143 => 36 | 219 => 59 | 217 => 51 | 225 => 82 | 224 => 83 | 267 => 84 | 266 => 70 | 314 => 97 | n => n, fun | 9 => 9 | 4 => 4 | 3 => 3 | 5 => 5 | 46 => 84 | 146 => 105 | 51 => 104 | n => n, fun | 1 => 0 | n => n⟩
theorem Tryd.laysM144 : Go.Proofs.LaysM.n144 Tryd.prog Tryd.laysM144_ren := {
  mixed := by kernel_rfl
  f143 := Tryd.func36.trans (congrArg some (by kernel_rfl))
  f144 := Tryd.func18.trans (congrArg some (by kernel_rfl))
  f217 := Tryd.func51.trans (congrArg some (by kernel_rfl))
  f219 := Tryd.func59.trans (congrArg some (by kernel_rfl))
  f224 := Tryd.func83.trans (congrArg some (by kernel_rfl))
  f225 := Tryd.func82.trans (congrArg some (by kernel_rfl))
  f266 := Tryd.func70.trans (congrArg some (by kernel_rfl))
  f267 := Tryd.func84.trans (congrArg some (by kernel_rfl))
  f314 := Tryd.func97.trans (congrArg some (by kernel_rfl))
  t3 := Tryd.underlying3
  a3 := Tryd.isAgg3
  z3 := Tryd.sizeOf3
  v3 := Tryd.zeroValue3
  t4 := Tryd.underlying4
  a4 := Tryd.isAgg4
  z4 := Tryd.sizeOf4
  v4 := Tryd.zeroValue4
  t5 := Tryd.underlying5
  a5 := Tryd.isAgg5
  z5 := Tryd.sizeOf5
  v5 := Tryd.zeroValue5
  t9 := Tryd.underlying9
  a9 := Tryd.isAgg9
  z9 := Tryd.sizeOf9
  v9 := Tryd.zeroValue9
  t46 := Tryd.underlying84
  a46 := Tryd.isAgg84
  z46 := Tryd.sizeOf84
  v46 := Tryd.zeroValue84
  t51 := Tryd.underlying104
  a51 := Tryd.isAgg104
  z51 := Tryd.sizeOf104
  v51 := Tryd.zeroValue104
  t146 := Tryd.underlying105
  a146 := Tryd.isAgg105
  z146 := Tryd.sizeOf105
  v146 := Tryd.zeroValue105
  g1 := by kernel_rfl
  i3 := by kernel_rfl
  i4 := by kernel_rfl
  i5 := by kernel_rfl
  i9 := by kernel_rfl
  i46 := by kernel_rfl
  i51 := by kernel_rfl
  i146 := by kernel_rfl
  m1 := by kernel_rfl
  s1_3 := fun w h => Go.Proofs.cell_of_shapedOpen_int (zero := #[.int .i64 0]) (t := 3) h (of_decide_eq_true (by kernel_rfl)) (by kernel_rfl) rfl (by kernel_rfl) (by kernel_rfl) Tryd.underlying3 }
open Go.RowKit Go.Lib in
theorem Tryd.strings_Contains_shaped (s sub : ByteArray) (w : World) (h : w.ShapedOpen Tryd.prog) (hs : s.size < 4294967281) :
    Calls Tryd.prog 18 #[.string s, .string sub] w fun e w' => e = .returned (.bool (Lib.contains s.data.toList sub.data.toList)) ∧ w' = w := Any.strings_Contains_shaped Tryd.laysM144 s sub w h hs
def Tryd.laysM220_ren : Go.Shelf.Ren := ⟨fun | 220 => 54 | 219 => 59 | 217 => 51 | 225 => 82 | 224 => 83 | 267 => 84 | 266 => 70 | 314 => 97 | n => n, fun | 9 => 9 | 4 => 4 | 3 => 3 | 5 => 5 | 46 => 84 | 146 => 105 | 51 => 104 | n => n, fun | 1 => 0 | n => n⟩
theorem Tryd.laysM220 : Go.Proofs.LaysM.n220 Tryd.prog Tryd.laysM220_ren := {
  mixed := by kernel_rfl
  f217 := Tryd.func51.trans (congrArg some (by kernel_rfl))
  f219 := Tryd.func59.trans (congrArg some (by kernel_rfl))
  f220 := Tryd.func54.trans (congrArg some (by kernel_rfl))
  f224 := Tryd.func83.trans (congrArg some (by kernel_rfl))
  f225 := Tryd.func82.trans (congrArg some (by kernel_rfl))
  f266 := Tryd.func70.trans (congrArg some (by kernel_rfl))
  f267 := Tryd.func84.trans (congrArg some (by kernel_rfl))
  f314 := Tryd.func97.trans (congrArg some (by kernel_rfl))
  t3 := Tryd.underlying3
  a3 := Tryd.isAgg3
  z3 := Tryd.sizeOf3
  v3 := Tryd.zeroValue3
  t4 := Tryd.underlying4
  a4 := Tryd.isAgg4
  z4 := Tryd.sizeOf4
  v4 := Tryd.zeroValue4
  t5 := Tryd.underlying5
  a5 := Tryd.isAgg5
  z5 := Tryd.sizeOf5
  v5 := Tryd.zeroValue5
  t9 := Tryd.underlying9
  a9 := Tryd.isAgg9
  z9 := Tryd.sizeOf9
  v9 := Tryd.zeroValue9
  t46 := Tryd.underlying84
  a46 := Tryd.isAgg84
  z46 := Tryd.sizeOf84
  v46 := Tryd.zeroValue84
  t51 := Tryd.underlying104
  a51 := Tryd.isAgg104
  z51 := Tryd.sizeOf104
  v51 := Tryd.zeroValue104
  t146 := Tryd.underlying105
  a146 := Tryd.isAgg105
  z146 := Tryd.sizeOf105
  v146 := Tryd.zeroValue105
  g1 := by kernel_rfl
  i3 := by kernel_rfl
  i4 := by kernel_rfl
  i5 := by kernel_rfl
  i9 := by kernel_rfl
  i46 := by kernel_rfl
  i51 := by kernel_rfl
  i146 := by kernel_rfl
  m1 := by kernel_rfl
  s1_3 := fun w h => Go.Proofs.cell_of_shapedOpen_int (zero := #[.int .i64 0]) (t := 3) h (of_decide_eq_true (by kernel_rfl)) (by kernel_rfl) rfl (by kernel_rfl) (by kernel_rfl) Tryd.underlying3 }
open Go.RowKit Go.Lib in
theorem Tryd.stringslite_Cut_shaped (s sep : ByteArray) (w : World) (h : w.ShapedOpen Tryd.prog) (hs : s.size < 4294967281) :
    Calls Tryd.prog 54 #[.string s, .string sep] w fun e w' => e = .returned (.tuple #[.string ⟨(Lib.cut s.data.toList sep.data.toList).1.toArray⟩, .string ⟨(Lib.cut s.data.toList sep.data.toList).2.1.toArray⟩, .bool (Lib.cut s.data.toList sep.data.toList).2.2]) ∧ ∃ n, w' = w.drewN n := Any.stringslite_Cut_shaped Tryd.laysM220 s sep w h hs
def Tryd.laysM145_ren : Go.Shelf.Ren := ⟨fun | 145 => 29 | 220 => 54 | 219 => 59 | 217 => 51 | 225 => 82 | 224 => 83 | 267 => 84 | 266 => 70 | 314 => 97 | n => n, fun | 9 => 9 | 4 => 4 | 59 => 49 | 3 => 3 | 5 => 5 | 46 => 84 | 146 => 105 | 51 => 104 | n => n, fun | 1 => 0 | n => n⟩
theorem Tryd.laysM145 : Go.Proofs.LaysM.n145 Tryd.prog Tryd.laysM145_ren := {
  mixed := by kernel_rfl
  f145 := Tryd.func29.trans (congrArg some (by kernel_rfl))
  f217 := Tryd.func51.trans (congrArg some (by kernel_rfl))
  f219 := Tryd.func59.trans (congrArg some (by kernel_rfl))
  f220 := Tryd.func54.trans (congrArg some (by kernel_rfl))
  f224 := Tryd.func83.trans (congrArg some (by kernel_rfl))
  f225 := Tryd.func82.trans (congrArg some (by kernel_rfl))
  f266 := Tryd.func70.trans (congrArg some (by kernel_rfl))
  f267 := Tryd.func84.trans (congrArg some (by kernel_rfl))
  f314 := Tryd.func97.trans (congrArg some (by kernel_rfl))
  t3 := Tryd.underlying3
  a3 := Tryd.isAgg3
  z3 := Tryd.sizeOf3
  v3 := Tryd.zeroValue3
  t4 := Tryd.underlying4
  a4 := Tryd.isAgg4
  z4 := Tryd.sizeOf4
  v4 := Tryd.zeroValue4
  t5 := Tryd.underlying5
  a5 := Tryd.isAgg5
  z5 := Tryd.sizeOf5
  v5 := Tryd.zeroValue5
  t9 := Tryd.underlying9
  a9 := Tryd.isAgg9
  z9 := Tryd.sizeOf9
  v9 := Tryd.zeroValue9
  t46 := Tryd.underlying84
  a46 := Tryd.isAgg84
  z46 := Tryd.sizeOf84
  v46 := Tryd.zeroValue84
  t51 := Tryd.underlying104
  a51 := Tryd.isAgg104
  z51 := Tryd.sizeOf104
  v51 := Tryd.zeroValue104
  t59 := Tryd.underlying49
  a59 := Tryd.isAgg49
  z59 := Tryd.sizeOf49
  v59 := Tryd.zeroValue49
  t146 := Tryd.underlying105
  a146 := Tryd.isAgg105
  z146 := Tryd.sizeOf105
  v146 := Tryd.zeroValue105
  g1 := by kernel_rfl
  i3 := by kernel_rfl
  i4 := by kernel_rfl
  i5 := by kernel_rfl
  i9 := by kernel_rfl
  i46 := by kernel_rfl
  i51 := by kernel_rfl
  i59 := by kernel_rfl
  i146 := by kernel_rfl
  m1 := by kernel_rfl
  s1_3 := fun w h => Go.Proofs.cell_of_shapedOpen_int (zero := #[.int .i64 0]) (t := 3) h (of_decide_eq_true (by kernel_rfl)) (by kernel_rfl) rfl (by kernel_rfl) (by kernel_rfl) Tryd.underlying3 }
open Go.RowKit Go.Lib in
theorem Tryd.strings_Cut_shaped (s sep : ByteArray) (w : World) (h : w.ShapedOpen Tryd.prog) (hs : s.size < 4294967281) :
    Calls Tryd.prog 29 #[.string s, .string sep] w fun e w' => e = .returned (.tuple #[.string ⟨(Lib.cut s.data.toList sep.data.toList).1.toArray⟩, .string ⟨(Lib.cut s.data.toList sep.data.toList).2.1.toArray⟩, .bool (Lib.cut s.data.toList sep.data.toList).2.2]) ∧ ∃ n, w' = w.drewN n := Any.strings_Cut_shaped Tryd.laysM145 s sep w h hs
def Tryd.laysM138_ren : Go.Shelf.Ren := ⟨fun | 138 => 22 | 195 => 43 | 218 => 44 | 143 => 36 | 219 => 59 | 217 => 51 | 225 => 82 | 224 => 83 | 267 => 84 | 266 => 70 | 314 => 97 | n => n, fun | 9 => 9 | 3 => 3 | 4 => 4 | 5 => 5 | 0 => 0 | 46 => 84 | 146 => 105 | 51 => 104 | n => n, fun | 1 => 0 | n => n⟩
theorem Tryd.laysM138 : Go.Proofs.LaysM.n138 Tryd.prog Tryd.laysM138_ren := {
  mixed := by kernel_rfl
  f138 := Tryd.func22.trans (congrArg some (by kernel_rfl))
  f143 := Tryd.func36.trans (congrArg some (by kernel_rfl))
  f195 := Tryd.func43.trans (congrArg some (by kernel_rfl))
  f217 := Tryd.func51.trans (congrArg some (by kernel_rfl))
  f218 := Tryd.func44.trans (congrArg some (by kernel_rfl))
  f219 := Tryd.func59.trans (congrArg some (by kernel_rfl))
  f224 := Tryd.func83.trans (congrArg some (by kernel_rfl))
  f225 := Tryd.func82.trans (congrArg some (by kernel_rfl))
  f266 := Tryd.func70.trans (congrArg some (by kernel_rfl))
  f267 := Tryd.func84.trans (congrArg some (by kernel_rfl))
  f314 := Tryd.func97.trans (congrArg some (by kernel_rfl))
  t0 := Tryd.underlying0
  a0 := Tryd.isAgg0
  z0 := Tryd.sizeOf0
  v0 := Tryd.zeroValue0
  t3 := Tryd.underlying3
  a3 := Tryd.isAgg3
  z3 := Tryd.sizeOf3
  v3 := Tryd.zeroValue3
  t4 := Tryd.underlying4
  a4 := Tryd.isAgg4
  z4 := Tryd.sizeOf4
  v4 := Tryd.zeroValue4
  t5 := Tryd.underlying5
  a5 := Tryd.isAgg5
  z5 := Tryd.sizeOf5
  v5 := Tryd.zeroValue5
  t9 := Tryd.underlying9
  a9 := Tryd.isAgg9
  z9 := Tryd.sizeOf9
  v9 := Tryd.zeroValue9
  t46 := Tryd.underlying84
  a46 := Tryd.isAgg84
  z46 := Tryd.sizeOf84
  v46 := Tryd.zeroValue84
  t51 := Tryd.underlying104
  a51 := Tryd.isAgg104
  z51 := Tryd.sizeOf104
  v51 := Tryd.zeroValue104
  t146 := Tryd.underlying105
  a146 := Tryd.isAgg105
  z146 := Tryd.sizeOf105
  v146 := Tryd.zeroValue105
  g1 := by kernel_rfl
  i0 := by kernel_rfl
  i3 := by kernel_rfl
  i4 := by kernel_rfl
  i5 := by kernel_rfl
  i9 := by kernel_rfl
  i46 := by kernel_rfl
  i51 := by kernel_rfl
  i146 := by kernel_rfl
  m1 := by kernel_rfl
  s1_3 := fun w h => Go.Proofs.cell_of_shapedOpen_int (zero := #[.int .i64 0]) (t := 3) h (of_decide_eq_true (by kernel_rfl)) (by kernel_rfl) rfl (by kernel_rfl) (by kernel_rfl) Tryd.underlying3 }
open Go.RowKit Go.Lib in
theorem Tryd.strings_Count_shaped (s sub : ByteArray) (w : World) (h : w.ShapedOpen Tryd.prog) (hs : s.size < 4294967281) (h2 : 2 ≤ sub.size) :
    Calls Tryd.prog 22 #[.string s, .string sub] w fun e w' => e = .returned (.int .i64 (Lib.countB s sub)) ∧ w' = w := Any.strings_Count_shaped Tryd.laysM138 s sub w h hs h2
def Tryd.lays206_ren : Go.Shelf.Ren := ⟨fun | 206 => 53 | n => n, fun | 9 => 9 | 4 => 4 | 3 => 3 | n => n, fun | n => n⟩
theorem Tryd.lays206 : Go.Proofs.Lays.n206 Tryd.prog Tryd.lays206_ren := {
  mixed := by kernel_rfl
  f206 := Tryd.func53.trans (congrArg some (by kernel_rfl))
  t3 := Tryd.underlying3
  a3 := Tryd.isAgg3
  z3 := Tryd.sizeOf3
  v3 := Tryd.zeroValue3
  t4 := Tryd.underlying4
  a4 := Tryd.isAgg4
  z4 := Tryd.sizeOf4
  v4 := Tryd.zeroValue4
  t9 := Tryd.underlying9
  a9 := Tryd.isAgg9
  z9 := Tryd.sizeOf9
  v9 := Tryd.zeroValue9 }
open Go.RowKit Go.Lib in
/-- internal/stringslite.HasPrefix (what strings.HasPrefix calls). (LAID: no walk: one application.) -/
theorem Tryd.stringslite_HasPrefix (s p : ByteArray) (w : World) :
    Calls Tryd.prog 53 #[.string s, .string p] w fun e w' => e = .returned (.bool (Lib.hasPrefix s.data.toList p.data.toList)) ∧ w' = w := Any.stringslite_HasPrefix Tryd.lays206 s p w
def Tryd.lays99_ren : Go.Shelf.Ren := ⟨fun | 99 => 27 | 206 => 53 | n => n, fun | 9 => 9 | 4 => 4 | 3 => 3 | n => n, fun | n => n⟩
theorem Tryd.lays99 : Go.Proofs.Lays.n99 Tryd.prog Tryd.lays99_ren := {
  mixed := by kernel_rfl
  f99 := Tryd.func27.trans (congrArg some (by kernel_rfl))
  f206 := Tryd.func53.trans (congrArg some (by kernel_rfl))
  t3 := Tryd.underlying3
  a3 := Tryd.isAgg3
  z3 := Tryd.sizeOf3
  v3 := Tryd.zeroValue3
  t4 := Tryd.underlying4
  a4 := Tryd.isAgg4
  z4 := Tryd.sizeOf4
  v4 := Tryd.zeroValue4
  t9 := Tryd.underlying9
  a9 := Tryd.isAgg9
  z9 := Tryd.sizeOf9
  v9 := Tryd.zeroValue9 }
open Go.RowKit Go.Lib in
/-- strings.HasPrefix: "HasPrefix reports whether the string s begins with prefix.": IT RETURNS 'Lib.hasPrefix s prefix'; the world is as it was. (LAID: no walk: one application.) -/
theorem Tryd.strings_HasPrefix (s p : ByteArray) (w : World) :
    Calls Tryd.prog 27 #[.string s, .string p] w fun e w' => e = .returned (.bool (Lib.hasPrefix s.data.toList p.data.toList)) ∧ w' = w := Any.strings_HasPrefix Tryd.lays99 s p w
def Tryd.lays207_ren : Go.Shelf.Ren := ⟨fun | 207 => 85 | n => n, fun | 9 => 9 | 4 => 4 | 3 => 3 | n => n, fun | n => n⟩
theorem Tryd.lays207 : Go.Proofs.Lays.n207 Tryd.prog Tryd.lays207_ren := {
  mixed := by kernel_rfl
  f207 := Tryd.func85.trans (congrArg some (by kernel_rfl))
  t3 := Tryd.underlying3
  a3 := Tryd.isAgg3
  z3 := Tryd.sizeOf3
  v3 := Tryd.zeroValue3
  t4 := Tryd.underlying4
  a4 := Tryd.isAgg4
  z4 := Tryd.sizeOf4
  v4 := Tryd.zeroValue4
  t9 := Tryd.underlying9
  a9 := Tryd.isAgg9
  z9 := Tryd.sizeOf9
  v9 := Tryd.zeroValue9 }
open Go.RowKit Go.Lib in
/-- internal/stringslite.HasSuffix (what strings.HasSuffix calls). (LAID: no walk: one application.) -/
theorem Tryd.stringslite_HasSuffix (s p : ByteArray) (w : World) (hs : s.size ≤ 9223372036854775807) :
    Calls Tryd.prog 85 #[.string s, .string p] w fun e w' => e = .returned (.bool (Lib.hasSuffix s.data.toList p.data.toList)) ∧ w' = w := Any.stringslite_HasSuffix Tryd.lays207 s p w hs
def Tryd.lays209_ren : Go.Shelf.Ren := ⟨fun | 209 => 61 | 207 => 85 | n => n, fun | 9 => 9 | 4 => 4 | 3 => 3 | n => n, fun | n => n⟩
theorem Tryd.lays209 : Go.Proofs.Lays.n209 Tryd.prog Tryd.lays209_ren := {
  mixed := by kernel_rfl
  f207 := Tryd.func85.trans (congrArg some (by kernel_rfl))
  f209 := Tryd.func61.trans (congrArg some (by kernel_rfl))
  t3 := Tryd.underlying3
  a3 := Tryd.isAgg3
  z3 := Tryd.sizeOf3
  v3 := Tryd.zeroValue3
  t4 := Tryd.underlying4
  a4 := Tryd.isAgg4
  z4 := Tryd.sizeOf4
  v4 := Tryd.zeroValue4
  t9 := Tryd.underlying9
  a9 := Tryd.isAgg9
  z9 := Tryd.sizeOf9
  v9 := Tryd.zeroValue9 }
open Go.RowKit Go.Lib in
/-- internal/stringslite.TrimSuffix (what strings.TrimSuffix calls). (LAID: no walk: one application.) -/
theorem Tryd.stringslite_TrimSuffix (s p : ByteArray) (w : World) (hs : s.size ≤ 9223372036854775807) :
    Calls Tryd.prog 61 #[.string s, .string p] w fun e w' => e = .returned (.string ⟨(Lib.trimSuffix s.data.toList p.data.toList).toArray⟩) ∧ w' = w := Any.stringslite_TrimSuffix Tryd.lays209 s p w hs
def Tryd.lays102_ren : Go.Shelf.Ren := ⟨fun | 102 => 38 | 209 => 61 | 207 => 85 | n => n, fun | 9 => 9 | 4 => 4 | 3 => 3 | n => n, fun | n => n⟩
theorem Tryd.lays102 : Go.Proofs.Lays.n102 Tryd.prog Tryd.lays102_ren := {
  mixed := by kernel_rfl
  f102 := Tryd.func38.trans (congrArg some (by kernel_rfl))
  f207 := Tryd.func85.trans (congrArg some (by kernel_rfl))
  f209 := Tryd.func61.trans (congrArg some (by kernel_rfl))
  t3 := Tryd.underlying3
  a3 := Tryd.isAgg3
  z3 := Tryd.sizeOf3
  v3 := Tryd.zeroValue3
  t4 := Tryd.underlying4
  a4 := Tryd.isAgg4
  z4 := Tryd.sizeOf4
  v4 := Tryd.zeroValue4
  t9 := Tryd.underlying9
  a9 := Tryd.isAgg9
  z9 := Tryd.sizeOf9
  v9 := Tryd.zeroValue9 }
open Go.RowKit Go.Lib in
/-- strings.TrimSuffix: "TrimSuffix returns s without the provided trailing suffix string. If s doesn't end with suffix, s is returned unchanged.": IT RETURNS 'Lib.trimSuffix s suffix'; the world is as it was. (LAID: no walk: one application.) -/
theorem Tryd.strings_TrimSuffix (s p : ByteArray) (w : World) (hs : s.size ≤ 9223372036854775807) :
    Calls Tryd.prog 38 #[.string s, .string p] w fun e w' => e = .returned (.string ⟨(Lib.trimSuffix s.data.toList p.data.toList).toArray⟩) ∧ w' = w := Any.strings_TrimSuffix Tryd.lays102 s p w hs
open Go.RowKit Go.Lib in
/-- strings.Count at whatever sep that is not empty: the two roads under one statement. (LAID: no walk: one application.) -/
theorem Tryd.strings_Count_any (s sep : ByteArray) (m : Int) (w : World) (hs : s.size < 4294967281) (hm : w.cell? ⟨0, 0, none⟩ = some (.int .i64 m)) (h1 : 1 ≤ sep.size) :
    Calls Tryd.prog 22 #[.string s, .string sep] w fun e w' => e = .returned (.int .i64 (Lib.countB s sep)) ∧ w' = w := Any.strings_Count_any Tryd.lays138 s sep m w hs hm h1
def Tryd.lays221_ren : Go.Shelf.Ren := ⟨fun | 221 => 102 | 268 => 105 | 138 => 22 | 143 => 36 | 195 => 43 | 197 => 58 | 218 => 44 | 219 => 59 | 260 => 81 | 217 => 51 | 225 => 82 | 224 => 83 | 267 => 84 | 266 => 70 | 314 => 97 | n => n, fun | 9 => 9 | 3 => 3 | 31 => 24 | 4 => 4 | 0 => 0 | 105 => 98 | 21 => 21 | 5 => 5 | 46 => 84 | 119 => 129 | 139 => 132 | 138 => 131 | 146 => 105 | 51 => 104 | n => n, fun | 1 => 0 | 3 => 1 | 4 => 2 | n => n⟩
theorem Tryd.lays221 : Go.Proofs.Lays.n221 Tryd.prog Tryd.lays221_ren := {
  mixed := by kernel_rfl
  f138 := Tryd.func22.trans (congrArg some (by kernel_rfl))
  f143 := Tryd.func36.trans (congrArg some (by kernel_rfl))
  f195 := Tryd.func43.trans (congrArg some (by kernel_rfl))
  f197 := Tryd.func58.trans (congrArg some (by kernel_rfl))
  f217 := Tryd.func51.trans (congrArg some (by kernel_rfl))
  f218 := Tryd.func44.trans (congrArg some (by kernel_rfl))
  f219 := Tryd.func59.trans (congrArg some (by kernel_rfl))
  f221 := Tryd.func102.trans (congrArg some (by kernel_rfl))
  f224 := Tryd.func83.trans (congrArg some (by kernel_rfl))
  f225 := Tryd.func82.trans (congrArg some (by kernel_rfl))
  f260 := Tryd.func81.trans (congrArg some (by kernel_rfl))
  f266 := Tryd.func70.trans (congrArg some (by kernel_rfl))
  f267 := Tryd.func84.trans (congrArg some (by kernel_rfl))
  f268 := Tryd.func105.trans (congrArg some (by kernel_rfl))
  f314 := Tryd.func97.trans (congrArg some (by kernel_rfl))
  t0 := Tryd.underlying0
  a0 := Tryd.isAgg0
  z0 := Tryd.sizeOf0
  v0 := Tryd.zeroValue0
  t3 := Tryd.underlying3
  a3 := Tryd.isAgg3
  z3 := Tryd.sizeOf3
  v3 := Tryd.zeroValue3
  t4 := Tryd.underlying4
  a4 := Tryd.isAgg4
  z4 := Tryd.sizeOf4
  v4 := Tryd.zeroValue4
  t5 := Tryd.underlying5
  a5 := Tryd.isAgg5
  z5 := Tryd.sizeOf5
  v5 := Tryd.zeroValue5
  t9 := Tryd.underlying9
  a9 := Tryd.isAgg9
  z9 := Tryd.sizeOf9
  v9 := Tryd.zeroValue9
  t21 := Tryd.underlying21
  a21 := Tryd.isAgg21
  z21 := Tryd.sizeOf21
  v21 := Tryd.zeroValue21
  t31 := Tryd.underlying24
  a31 := Tryd.isAgg24
  z31 := Tryd.sizeOf24
  v31 := Tryd.zeroValue24
  t46 := Tryd.underlying84
  a46 := Tryd.isAgg84
  z46 := Tryd.sizeOf84
  v46 := Tryd.zeroValue84
  t51 := Tryd.underlying104
  a51 := Tryd.isAgg104
  z51 := Tryd.sizeOf104
  v51 := Tryd.zeroValue104
  t105 := Tryd.underlying98
  a105 := Tryd.isAgg98
  z105 := Tryd.sizeOf98
  v105 := Tryd.zeroValue98
  t119 := Tryd.underlying129
  a119 := Tryd.isAgg129
  z119 := Tryd.sizeOf129
  t138 := Tryd.underlying131
  a138 := Tryd.isAgg131
  z138 := Tryd.sizeOf131
  v138 := Tryd.zeroValue131
  t139 := Tryd.underlying132
  a139 := Tryd.isAgg132
  z139 := Tryd.sizeOf132
  v139 := Tryd.zeroValue132
  t146 := Tryd.underlying105
  a146 := Tryd.isAgg105
  z146 := Tryd.sizeOf105
  v146 := Tryd.zeroValue105
  g1 := by kernel_rfl
  g3 := by kernel_rfl
  g4 := by kernel_rfl }
open Go.RowKit Go.Lib in
theorem Tryd.strings_genSplit (s sep : ByteArray) (sv : Nat) (n : Int) (N : Nat) (m : Int) (w : World) (hs : s.size < 4294967281) (hm : w.cell? ⟨0, 0, none⟩ = some (.int .i64 m)) (h1 : 1 ≤ sep.size) (hsv : sv ≤ sep.size) (hn0 : n ≠ 0) (hn63 : n ≤ 9223372036854775807) (hN : (N : Int) = min (if n < 0 then (Lib.countB s sep : Int) + 1 else n) ((s.size : Int) + 1)) :
    Calls Tryd.prog 102 #[.string s, .string sep, .int .i64 sv, .int .i64 n] w fun e w' =>
      e = .returned (.slice (some ⟨w.heap.size, 0, none⟩) (Lib.splitB sep sv (N - 1) s).length N) ∧ w' = w.alloc (.cells (Lib.cellsOf (Lib.splitB sep sv (N - 1) s) N) 9) := Any.strings_genSplit Tryd.lays221 (by kernel_rfl) s sep sv n N m w hs hm h1 hsv hn0 hn63 hN
def Tryd.lays146_ren : Go.Shelf.Ren := ⟨fun | 146 => 93 | 221 => 102 | 268 => 105 | 138 => 22 | 143 => 36 | 195 => 43 | 197 => 58 | 218 => 44 | 219 => 59 | 260 => 81 | 217 => 51 | 225 => 82 | 224 => 83 | 267 => 84 | 266 => 70 | 314 => 97 | n => n, fun | 9 => 9 | 31 => 24 | 3 => 3 | 4 => 4 | 0 => 0 | 105 => 98 | 21 => 21 | 5 => 5 | 46 => 84 | 119 => 129 | 139 => 132 | 138 => 131 | 146 => 105 | 51 => 104 | n => n, fun | 1 => 0 | 3 => 1 | 4 => 2 | n => n⟩
theorem Tryd.lays146 : Go.Proofs.Lays.n146 Tryd.prog Tryd.lays146_ren := {
  mixed := by kernel_rfl
  f138 := Tryd.func22.trans (congrArg some (by kernel_rfl))
  f143 := Tryd.func36.trans (congrArg some (by kernel_rfl))
  f146 := Tryd.func93.trans (congrArg some (by kernel_rfl))
  f195 := Tryd.func43.trans (congrArg some (by kernel_rfl))
  f197 := Tryd.func58.trans (congrArg some (by kernel_rfl))
  f217 := Tryd.func51.trans (congrArg some (by kernel_rfl))
  f218 := Tryd.func44.trans (congrArg some (by kernel_rfl))
  f219 := Tryd.func59.trans (congrArg some (by kernel_rfl))
  f221 := Tryd.func102.trans (congrArg some (by kernel_rfl))
  f224 := Tryd.func83.trans (congrArg some (by kernel_rfl))
  f225 := Tryd.func82.trans (congrArg some (by kernel_rfl))
  f260 := Tryd.func81.trans (congrArg some (by kernel_rfl))
  f266 := Tryd.func70.trans (congrArg some (by kernel_rfl))
  f267 := Tryd.func84.trans (congrArg some (by kernel_rfl))
  f268 := Tryd.func105.trans (congrArg some (by kernel_rfl))
  f314 := Tryd.func97.trans (congrArg some (by kernel_rfl))
  t0 := Tryd.underlying0
  a0 := Tryd.isAgg0
  z0 := Tryd.sizeOf0
  v0 := Tryd.zeroValue0
  t3 := Tryd.underlying3
  a3 := Tryd.isAgg3
  z3 := Tryd.sizeOf3
  v3 := Tryd.zeroValue3
  t4 := Tryd.underlying4
  a4 := Tryd.isAgg4
  z4 := Tryd.sizeOf4
  v4 := Tryd.zeroValue4
  t5 := Tryd.underlying5
  a5 := Tryd.isAgg5
  z5 := Tryd.sizeOf5
  v5 := Tryd.zeroValue5
  t9 := Tryd.underlying9
  a9 := Tryd.isAgg9
  z9 := Tryd.sizeOf9
  v9 := Tryd.zeroValue9
  t21 := Tryd.underlying21
  a21 := Tryd.isAgg21
  z21 := Tryd.sizeOf21
  v21 := Tryd.zeroValue21
  t31 := Tryd.underlying24
  a31 := Tryd.isAgg24
  z31 := Tryd.sizeOf24
  v31 := Tryd.zeroValue24
  t46 := Tryd.underlying84
  a46 := Tryd.isAgg84
  z46 := Tryd.sizeOf84
  v46 := Tryd.zeroValue84
  t51 := Tryd.underlying104
  a51 := Tryd.isAgg104
  z51 := Tryd.sizeOf104
  v51 := Tryd.zeroValue104
  t105 := Tryd.underlying98
  a105 := Tryd.isAgg98
  z105 := Tryd.sizeOf98
  v105 := Tryd.zeroValue98
  t119 := Tryd.underlying129
  a119 := Tryd.isAgg129
  z119 := Tryd.sizeOf129
  t138 := Tryd.underlying131
  a138 := Tryd.isAgg131
  z138 := Tryd.sizeOf131
  v138 := Tryd.zeroValue131
  t139 := Tryd.underlying132
  a139 := Tryd.isAgg132
  z139 := Tryd.sizeOf132
  v139 := Tryd.zeroValue132
  t146 := Tryd.underlying105
  a146 := Tryd.isAgg105
  z146 := Tryd.sizeOf105
  v146 := Tryd.zeroValue105
  g1 := by kernel_rfl
  g3 := by kernel_rfl
  g4 := by kernel_rfl }
open Go.RowKit Go.Lib in
/-- strings.Split. (LAID: no walk: one application.) -/
theorem Tryd.strings_Split (s sep : ByteArray) (m : Int) (w : World) (hs : s.size < 4294967281) (hm : w.cell? ⟨0, 0, none⟩ = some (.int .i64 m)) (h1 : 1 ≤ sep.size) :
    Calls Tryd.prog 93 #[.string s, .string sep] w fun e w' =>
      e = .returned (.slice (some ⟨w.heap.size, 0, none⟩) (Lib.countB s sep + 1) (Lib.countB s sep + 1)) ∧ w' = w.alloc (.cells ((Lib.splitB sep 0 (Lib.countB s sep) s).map Value.string).toArray 9) := Any.strings_Split Tryd.lays146 (by kernel_rfl) s sep m w hs hm h1
def Tryd.lays154_ren : Go.Shelf.Ren := ⟨fun | 154 => 35 | 138 => 22 | 165 => 42 | 143 => 36 | 166 => 26 | 197 => 58 | 169 => 32 | 195 => 43 | 218 => 44 | 240 => 52 | 241 => 66 | 219 => 59 | 260 => 81 | 276 => 71 | 277 => 92 | 217 => 51 | 225 => 82 | 224 => 83 | 267 => 84 | 266 => 70 | 314 => 97 | n => n, fun | 9 => 9 | 3 => 3 | 4 => 4 | 72 => 54 | 0 => 0 | 76 => 58 | 105 => 98 | 21 => 21 | 5 => 5 | 70 => 51 | 20 => 20 | 37 => 52 | 75 => 57 | 127 => 97 | 164 => 113 | 46 => 84 | 119 => 129 | 139 => 132 | 138 => 131 | 146 => 105 | 51 => 104 | 80 => 65 | n => n, fun | 1 => 0 | 3 => 1 | 4 => 2 | n => n⟩
theorem Tryd.lays154 : Go.Proofs.Lays.n154 Tryd.prog Tryd.lays154_ren := {
  mixed := by kernel_rfl
  f138 := Tryd.func22.trans (congrArg some (by kernel_rfl))
  f143 := Tryd.func36.trans (congrArg some (by kernel_rfl))
  f154 := Tryd.func35.trans (congrArg some (by kernel_rfl))
  f165 := Tryd.func42.trans (congrArg some (by kernel_rfl))
  f166 := Tryd.func26.trans (congrArg some (by kernel_rfl))
  f169 := Tryd.func32.trans (congrArg some (by kernel_rfl))
  f195 := Tryd.func43.trans (congrArg some (by kernel_rfl))
  f197 := Tryd.func58.trans (congrArg some (by kernel_rfl))
  f217 := Tryd.func51.trans (congrArg some (by kernel_rfl))
  f218 := Tryd.func44.trans (congrArg some (by kernel_rfl))
  f219 := Tryd.func59.trans (congrArg some (by kernel_rfl))
  f224 := Tryd.func83.trans (congrArg some (by kernel_rfl))
  f225 := Tryd.func82.trans (congrArg some (by kernel_rfl))
  f240 := Tryd.func52.trans (congrArg some (by kernel_rfl))
  f241 := Tryd.func66.trans (congrArg some (by kernel_rfl))
  f260 := Tryd.func81.trans (congrArg some (by kernel_rfl))
  f266 := Tryd.func70.trans (congrArg some (by kernel_rfl))
  f267 := Tryd.func84.trans (congrArg some (by kernel_rfl))
  f276 := Tryd.func71.trans (congrArg some (by kernel_rfl))
  f277 := Tryd.func92.trans (congrArg some (by kernel_rfl))
  f314 := Tryd.func97.trans (congrArg some (by kernel_rfl))
  t0 := Tryd.underlying0
  a0 := Tryd.isAgg0
  z0 := Tryd.sizeOf0
  v0 := Tryd.zeroValue0
  t3 := Tryd.underlying3
  a3 := Tryd.isAgg3
  z3 := Tryd.sizeOf3
  v3 := Tryd.zeroValue3
  t4 := Tryd.underlying4
  a4 := Tryd.isAgg4
  z4 := Tryd.sizeOf4
  v4 := Tryd.zeroValue4
  t5 := Tryd.underlying5
  a5 := Tryd.isAgg5
  z5 := Tryd.sizeOf5
  v5 := Tryd.zeroValue5
  t9 := Tryd.underlying9
  a9 := Tryd.isAgg9
  z9 := Tryd.sizeOf9
  v9 := Tryd.zeroValue9
  t20 := Tryd.underlying20
  a20 := Tryd.isAgg20
  z20 := Tryd.sizeOf20
  v20 := Tryd.zeroValue20
  t21 := Tryd.underlying21
  a21 := Tryd.isAgg21
  z21 := Tryd.sizeOf21
  v21 := Tryd.zeroValue21
  t37 := Tryd.underlying52
  a37 := Tryd.isAgg52
  z37 := Tryd.sizeOf52
  v37 := Tryd.zeroValue52
  t46 := Tryd.underlying84
  a46 := Tryd.isAgg84
  z46 := Tryd.sizeOf84
  v46 := Tryd.zeroValue84
  t51 := Tryd.underlying104
  a51 := Tryd.isAgg104
  z51 := Tryd.sizeOf104
  v51 := Tryd.zeroValue104
  t70 := Tryd.underlying51
  a70 := Tryd.isAgg51
  z70 := Tryd.sizeOf51
  v70 := Tryd.zeroValue51
  t72 := Tryd.underlying54
  a72 := Tryd.isAgg54
  z72 := Tryd.sizeOf54
  v72 := Tryd.zeroValue54
  t75 := Tryd.underlying57
  a75 := Tryd.isAgg57
  z75 := Tryd.sizeOf57
  v75 := Tryd.zeroValue57
  t76 := Tryd.underlying58
  a76 := Tryd.isAgg58
  z76 := Tryd.sizeOf58
  v76 := Tryd.zeroValue58
  t105 := Tryd.underlying98
  a105 := Tryd.isAgg98
  z105 := Tryd.sizeOf98
  v105 := Tryd.zeroValue98
  t119 := Tryd.underlying129
  a119 := Tryd.isAgg129
  z119 := Tryd.sizeOf129
  t127 := Tryd.underlying97
  a127 := Tryd.isAgg97
  z127 := Tryd.sizeOf97
  v127 := Tryd.zeroValue97
  t138 := Tryd.underlying131
  a138 := Tryd.isAgg131
  z138 := Tryd.sizeOf131
  v138 := Tryd.zeroValue131
  t139 := Tryd.underlying132
  a139 := Tryd.isAgg132
  z139 := Tryd.sizeOf132
  v139 := Tryd.zeroValue132
  t146 := Tryd.underlying105
  a146 := Tryd.isAgg105
  z146 := Tryd.sizeOf105
  v146 := Tryd.zeroValue105
  t164 := Tryd.underlying113
  a164 := Tryd.isAgg113
  z164 := Tryd.sizeOf113
  v164 := Tryd.zeroValue113
  g1 := by kernel_rfl
  g3 := by kernel_rfl
  g4 := by kernel_rfl }
theorem Tryd.Builder_Extra_154 : Builder.Extra Tryd.prog Tryd.lays154_ren := {
  sizeBuilder := by kernel_rfl
  liesBuilder := by kernel_rfl
  t5 := Tryd.underlying5
  a5 := Tryd.isAgg5
  z5 := Tryd.sizeOf5
  v5 := Tryd.zeroValue5
  infoByte := by kernel_rfl
  cellsByte := by kernel_rfl
  sizeByte := by kernel_rfl
  neB5 := by decide }
open Go.RowKit Go.Lib in
/-- WHERE SOMETHING IS REPLACED: old is not new, n is not 0, there is an instance. (LAID: no walk: one application.) -/
theorem Tryd.strings_Replace_some (s old new : ByteArray) (n : Int) (m : Int) (w : World) (hs : s.size < 4294967281) (hm : w.cell? ⟨0, 0, none⟩ = some (.int .i64 m)) (h1 : 1 ≤ old.size) (hne : old ≠ new) (hn0 : n ≠ 0) (hc0 : Lib.countB s old ≠ 0) (hlen : s.size + Lib.countB s old * new.size ≤ 140737488355328) :
    Calls Tryd.prog 35 #[.string s, .string old, .string new, .int .i64 n] w fun e w' =>
      e = .returned (.string ⟨(Lib.replaceK old.data.toList new.data.toList (Lib.replaceNum s.data.toList old.data.toList n) s.data.toList).toArray⟩) ∧ Below w.heap.size w w' := Any.strings_Replace_some Tryd.lays154 Tryd.Builder_Extra_154 s old new n m w hs hm h1 hne hn0 hc0 hlen
open Go.RowKit Go.Lib in
/-- 'if old == new || n == 0 { return s }'. (LAID: no walk: one application.) -/
theorem Tryd.strings_Replace_none (s old new : ByteArray) (n : Int) (w : World) (h : old = new ∨ n = 0) :
    Calls Tryd.prog 35 #[.string s, .string old, .string new, .int .i64 n] w fun e w' => e = .returned (.string s) ∧ w' = w := Any.strings_Replace_none Tryd.lays154 s old new n w h
open Go.RowKit Go.Lib in
/-- 'if m := Count(s, old); m == 0 { return s }'. (LAID: no walk: one application.) -/
theorem Tryd.strings_Replace_absent (s old new : ByteArray) (n : Int) (m : Int) (w : World) (hs : s.size < 4294967281) (hm : w.cell? ⟨0, 0, none⟩ = some (.int .i64 m)) (h1 : 1 ≤ old.size) (hne : old ≠ new) (hn0 : n ≠ 0) (hc0 : Lib.countB s old = 0) :
    Calls Tryd.prog 35 #[.string s, .string old, .string new, .int .i64 n] w fun e w' => e = .returned (.string s) ∧ w' = w := Any.strings_Replace_absent Tryd.lays154 s old new n m w hs hm h1 hne hn0 hc0
open Go.RowKit Go.Lib in
/-- strings.Replace: "Replace returns a copy of the string s with the first n non-overlapping instances of old replaced by new. .. If n < 0, there is no limit on the number of replacements.": AT AN old THAT IS NOT EMPTY: IT RETURNS 'Lib.replace s old new n'. Below the heap's end the world is as it was. IT ASKS, as strings.Index's contract: 'len(s) < 4294967281', 'hm'; and that what comes out has room: 'len(s) + Count(s, old) * len(new) ≤ 2^47'. (LAID: no walk: one application.) -/
theorem Tryd.strings_Replace (s old new : ByteArray) (n : Int) (m : Int) (w : World) (hs : s.size < 4294967281) (hm : w.cell? ⟨0, 0, none⟩ = some (.int .i64 m)) (h1 : 1 ≤ old.size) (hlen : s.size + Lib.countB s old * new.size ≤ 140737488355328) :
    Calls Tryd.prog 35 #[.string s, .string old, .string new, .int .i64 n] w fun e w' =>
      e = .returned (.string ⟨(Lib.replace s.data.toList old.data.toList new.data.toList n).toArray⟩) ∧ Below w.heap.size w w' := Any.strings_Replace Tryd.lays154 Tryd.Builder_Extra_154 s old new n m w hs hm h1 hlen
def Tryd.lays155_ren : Go.Shelf.Ren := ⟨fun | 155 => 17 | 154 => 35 | 138 => 22 | 165 => 42 | 143 => 36 | 166 => 26 | 197 => 58 | 169 => 32 | 195 => 43 | 218 => 44 | 240 => 52 | 241 => 66 | 219 => 59 | 260 => 81 | 276 => 71 | 277 => 92 | 217 => 51 | 225 => 82 | 224 => 83 | 267 => 84 | 266 => 70 | 314 => 97 | n => n, fun | 9 => 9 | 3 => 3 | 4 => 4 | 72 => 54 | 0 => 0 | 76 => 58 | 105 => 98 | 21 => 21 | 5 => 5 | 70 => 51 | 20 => 20 | 37 => 52 | 75 => 57 | 127 => 97 | 164 => 113 | 46 => 84 | 119 => 129 | 139 => 132 | 138 => 131 | 146 => 105 | 51 => 104 | 80 => 65 | n => n, fun | 1 => 0 | 3 => 1 | 4 => 2 | n => n⟩
theorem Tryd.lays155 : Go.Proofs.Lays.n155 Tryd.prog Tryd.lays155_ren := {
  mixed := by kernel_rfl
  f138 := Tryd.func22.trans (congrArg some (by kernel_rfl))
  f143 := Tryd.func36.trans (congrArg some (by kernel_rfl))
  f154 := Tryd.func35.trans (congrArg some (by kernel_rfl))
  f155 := Tryd.func17.trans (congrArg some (by kernel_rfl))
  f165 := Tryd.func42.trans (congrArg some (by kernel_rfl))
  f166 := Tryd.func26.trans (congrArg some (by kernel_rfl))
  f169 := Tryd.func32.trans (congrArg some (by kernel_rfl))
  f195 := Tryd.func43.trans (congrArg some (by kernel_rfl))
  f197 := Tryd.func58.trans (congrArg some (by kernel_rfl))
  f217 := Tryd.func51.trans (congrArg some (by kernel_rfl))
  f218 := Tryd.func44.trans (congrArg some (by kernel_rfl))
  f219 := Tryd.func59.trans (congrArg some (by kernel_rfl))
  f224 := Tryd.func83.trans (congrArg some (by kernel_rfl))
  f225 := Tryd.func82.trans (congrArg some (by kernel_rfl))
  f240 := Tryd.func52.trans (congrArg some (by kernel_rfl))
  f241 := Tryd.func66.trans (congrArg some (by kernel_rfl))
  f260 := Tryd.func81.trans (congrArg some (by kernel_rfl))
  f266 := Tryd.func70.trans (congrArg some (by kernel_rfl))
  f267 := Tryd.func84.trans (congrArg some (by kernel_rfl))
  f276 := Tryd.func71.trans (congrArg some (by kernel_rfl))
  f277 := Tryd.func92.trans (congrArg some (by kernel_rfl))
  f314 := Tryd.func97.trans (congrArg some (by kernel_rfl))
  t0 := Tryd.underlying0
  a0 := Tryd.isAgg0
  z0 := Tryd.sizeOf0
  v0 := Tryd.zeroValue0
  t3 := Tryd.underlying3
  a3 := Tryd.isAgg3
  z3 := Tryd.sizeOf3
  v3 := Tryd.zeroValue3
  t4 := Tryd.underlying4
  a4 := Tryd.isAgg4
  z4 := Tryd.sizeOf4
  v4 := Tryd.zeroValue4
  t5 := Tryd.underlying5
  a5 := Tryd.isAgg5
  z5 := Tryd.sizeOf5
  v5 := Tryd.zeroValue5
  t9 := Tryd.underlying9
  a9 := Tryd.isAgg9
  z9 := Tryd.sizeOf9
  v9 := Tryd.zeroValue9
  t20 := Tryd.underlying20
  a20 := Tryd.isAgg20
  z20 := Tryd.sizeOf20
  v20 := Tryd.zeroValue20
  t21 := Tryd.underlying21
  a21 := Tryd.isAgg21
  z21 := Tryd.sizeOf21
  v21 := Tryd.zeroValue21
  t37 := Tryd.underlying52
  a37 := Tryd.isAgg52
  z37 := Tryd.sizeOf52
  v37 := Tryd.zeroValue52
  t46 := Tryd.underlying84
  a46 := Tryd.isAgg84
  z46 := Tryd.sizeOf84
  v46 := Tryd.zeroValue84
  t51 := Tryd.underlying104
  a51 := Tryd.isAgg104
  z51 := Tryd.sizeOf104
  v51 := Tryd.zeroValue104
  t70 := Tryd.underlying51
  a70 := Tryd.isAgg51
  z70 := Tryd.sizeOf51
  v70 := Tryd.zeroValue51
  t72 := Tryd.underlying54
  a72 := Tryd.isAgg54
  z72 := Tryd.sizeOf54
  v72 := Tryd.zeroValue54
  t75 := Tryd.underlying57
  a75 := Tryd.isAgg57
  z75 := Tryd.sizeOf57
  v75 := Tryd.zeroValue57
  t76 := Tryd.underlying58
  a76 := Tryd.isAgg58
  z76 := Tryd.sizeOf58
  v76 := Tryd.zeroValue58
  t105 := Tryd.underlying98
  a105 := Tryd.isAgg98
  z105 := Tryd.sizeOf98
  v105 := Tryd.zeroValue98
  t119 := Tryd.underlying129
  a119 := Tryd.isAgg129
  z119 := Tryd.sizeOf129
  t127 := Tryd.underlying97
  a127 := Tryd.isAgg97
  z127 := Tryd.sizeOf97
  v127 := Tryd.zeroValue97
  t138 := Tryd.underlying131
  a138 := Tryd.isAgg131
  z138 := Tryd.sizeOf131
  v138 := Tryd.zeroValue131
  t139 := Tryd.underlying132
  a139 := Tryd.isAgg132
  z139 := Tryd.sizeOf132
  v139 := Tryd.zeroValue132
  t146 := Tryd.underlying105
  a146 := Tryd.isAgg105
  z146 := Tryd.sizeOf105
  v146 := Tryd.zeroValue105
  t164 := Tryd.underlying113
  a164 := Tryd.isAgg113
  z164 := Tryd.sizeOf113
  v164 := Tryd.zeroValue113
  g1 := by kernel_rfl
  g3 := by kernel_rfl
  g4 := by kernel_rfl }
theorem Tryd.Builder_Extra_155 : Builder.Extra Tryd.prog Tryd.lays155_ren := {
  sizeBuilder := by kernel_rfl
  liesBuilder := by kernel_rfl
  t5 := Tryd.underlying5
  a5 := Tryd.isAgg5
  z5 := Tryd.sizeOf5
  v5 := Tryd.zeroValue5
  infoByte := by kernel_rfl
  cellsByte := by kernel_rfl
  sizeByte := by kernel_rfl
  neB5 := by decide }
open Go.RowKit Go.Lib in
/-- strings.ReplaceAll: "ReplaceAll returns a copy of the string s with all non-overlapping instances of old replaced by new.": AT AN old THAT IS NOT EMPTY: 'Lib.replaceAll s old new'. (LAID: no walk: one application.) -/
theorem Tryd.strings_ReplaceAll (s old new : ByteArray) (m : Int) (w : World) (hs : s.size < 4294967281) (hm : w.cell? ⟨0, 0, none⟩ = some (.int .i64 m)) (h1 : 1 ≤ old.size) (hlen : s.size + Lib.countB s old * new.size ≤ 140737488355328) :
    Calls Tryd.prog 17 #[.string s, .string old, .string new] w fun e w' =>
      e = .returned (.string ⟨(Lib.replaceAll s.data.toList old.data.toList new.data.toList).toArray⟩) ∧ Below w.heap.size w w' := Any.strings_ReplaceAll Tryd.lays155 Tryd.Builder_Extra_155 s old new m w hs hm h1 hlen
def Tryd.laysM146_ren : Go.Shelf.Ren := ⟨fun | 146 => 93 | 221 => 102 | 268 => 105 | 138 => 22 | 143 => 36 | 195 => 43 | 197 => 58 | 218 => 44 | 219 => 59 | 260 => 81 | 217 => 51 | 225 => 82 | 224 => 83 | 267 => 84 | 266 => 70 | 314 => 97 | n => n, fun | 9 => 9 | 31 => 24 | 3 => 3 | 4 => 4 | 0 => 0 | 105 => 98 | 21 => 21 | 5 => 5 | 46 => 84 | 119 => 129 | 139 => 132 | 138 => 131 | 146 => 105 | 51 => 104 | n => n, fun | 1 => 0 | 3 => 1 | 4 => 2 | n => n⟩
theorem Tryd.laysM146 : Go.Proofs.LaysM.n146 Tryd.prog Tryd.laysM146_ren := {
  mixed := by kernel_rfl
  f138 := Tryd.func22.trans (congrArg some (by kernel_rfl))
  f143 := Tryd.func36.trans (congrArg some (by kernel_rfl))
  f146 := Tryd.func93.trans (congrArg some (by kernel_rfl))
  f195 := Tryd.func43.trans (congrArg some (by kernel_rfl))
  f197 := Tryd.func58.trans (congrArg some (by kernel_rfl))
  f217 := Tryd.func51.trans (congrArg some (by kernel_rfl))
  f218 := Tryd.func44.trans (congrArg some (by kernel_rfl))
  f219 := Tryd.func59.trans (congrArg some (by kernel_rfl))
  f221 := Tryd.func102.trans (congrArg some (by kernel_rfl))
  f224 := Tryd.func83.trans (congrArg some (by kernel_rfl))
  f225 := Tryd.func82.trans (congrArg some (by kernel_rfl))
  f260 := Tryd.func81.trans (congrArg some (by kernel_rfl))
  f266 := Tryd.func70.trans (congrArg some (by kernel_rfl))
  f267 := Tryd.func84.trans (congrArg some (by kernel_rfl))
  f268 := Tryd.func105.trans (congrArg some (by kernel_rfl))
  f314 := Tryd.func97.trans (congrArg some (by kernel_rfl))
  t0 := Tryd.underlying0
  a0 := Tryd.isAgg0
  z0 := Tryd.sizeOf0
  v0 := Tryd.zeroValue0
  t3 := Tryd.underlying3
  a3 := Tryd.isAgg3
  z3 := Tryd.sizeOf3
  v3 := Tryd.zeroValue3
  t4 := Tryd.underlying4
  a4 := Tryd.isAgg4
  z4 := Tryd.sizeOf4
  v4 := Tryd.zeroValue4
  t5 := Tryd.underlying5
  a5 := Tryd.isAgg5
  z5 := Tryd.sizeOf5
  v5 := Tryd.zeroValue5
  t9 := Tryd.underlying9
  a9 := Tryd.isAgg9
  z9 := Tryd.sizeOf9
  v9 := Tryd.zeroValue9
  t21 := Tryd.underlying21
  a21 := Tryd.isAgg21
  z21 := Tryd.sizeOf21
  v21 := Tryd.zeroValue21
  t31 := Tryd.underlying24
  a31 := Tryd.isAgg24
  z31 := Tryd.sizeOf24
  v31 := Tryd.zeroValue24
  t46 := Tryd.underlying84
  a46 := Tryd.isAgg84
  z46 := Tryd.sizeOf84
  v46 := Tryd.zeroValue84
  t51 := Tryd.underlying104
  a51 := Tryd.isAgg104
  z51 := Tryd.sizeOf104
  v51 := Tryd.zeroValue104
  t105 := Tryd.underlying98
  a105 := Tryd.isAgg98
  z105 := Tryd.sizeOf98
  v105 := Tryd.zeroValue98
  t119 := Tryd.underlying129
  a119 := Tryd.isAgg129
  z119 := Tryd.sizeOf129
  t138 := Tryd.underlying131
  a138 := Tryd.isAgg131
  z138 := Tryd.sizeOf131
  v138 := Tryd.zeroValue131
  t139 := Tryd.underlying132
  a139 := Tryd.isAgg132
  z139 := Tryd.sizeOf132
  v139 := Tryd.zeroValue132
  t146 := Tryd.underlying105
  a146 := Tryd.isAgg105
  z146 := Tryd.sizeOf105
  v146 := Tryd.zeroValue105
  g1 := by kernel_rfl
  g3 := by kernel_rfl
  g4 := by kernel_rfl
  i0 := by kernel_rfl
  i3 := by kernel_rfl
  i4 := by kernel_rfl
  i5 := by kernel_rfl
  i9 := by kernel_rfl
  i21 := by kernel_rfl
  i31 := by kernel_rfl
  i46 := by kernel_rfl
  i51 := by kernel_rfl
  i105 := by kernel_rfl
  i138 := by kernel_rfl
  i139 := by kernel_rfl
  i146 := by kernel_rfl
  m1 := by kernel_rfl
  s1_3 := fun w h => Go.Proofs.cell_of_shapedOpen_int (zero := #[.int .i64 0]) (t := 3) h (of_decide_eq_true (by kernel_rfl)) (by kernel_rfl) rfl (by kernel_rfl) (by kernel_rfl) Tryd.underlying3
  m3 := by kernel_rfl
  m4 := by kernel_rfl }
open Go.RowKit Go.Lib in
/-- strings.Split, sep not empty. (LAID: no walk: one application.) -/
theorem Tryd.strings_Split_shaped (s sep : ByteArray) (w : World) (h : w.ShapedOpen Tryd.prog) (hs : s.size < 4294967281) (h1 : 1 ≤ sep.size) :
    Calls Tryd.prog 93 #[.string s, .string sep] w fun e w' =>
      e = .returned (.slice (some ⟨w.heap.size, 0, none⟩) (Lib.countB s sep + 1) (Lib.countB s sep + 1)) ∧ w' = w.alloc (.cells ((Lib.splitB sep 0 (Lib.countB s sep) s).map Value.string).toArray 9) := Any.strings_Split_shaped Tryd.laysM146 s sep w h hs h1
def Tryd.laysM154_ren : Go.Shelf.Ren := ⟨fun | 154 => 35 | 138 => 22 | 165 => 42 | 143 => 36 | 166 => 26 | 197 => 58 | 169 => 32 | 195 => 43 | 218 => 44 | 240 => 52 | 241 => 66 | 219 => 59 | 260 => 81 | 276 => 71 | 277 => 92 | 217 => 51 | 225 => 82 | 224 => 83 | 267 => 84 | 266 => 70 | 314 => 97 | n => n, fun | 9 => 9 | 3 => 3 | 4 => 4 | 72 => 54 | 0 => 0 | 76 => 58 | 105 => 98 | 21 => 21 | 5 => 5 | 70 => 51 | 20 => 20 | 37 => 52 | 75 => 57 | 127 => 97 | 164 => 113 | 46 => 84 | 119 => 129 | 139 => 132 | 138 => 131 | 146 => 105 | 51 => 104 | 80 => 65 | n => n, fun | 1 => 0 | 3 => 1 | 4 => 2 | n => n⟩
theorem Tryd.laysM154 : Go.Proofs.LaysM.n154 Tryd.prog Tryd.laysM154_ren := {
  mixed := by kernel_rfl
  f138 := Tryd.func22.trans (congrArg some (by kernel_rfl))
  f143 := Tryd.func36.trans (congrArg some (by kernel_rfl))
  f154 := Tryd.func35.trans (congrArg some (by kernel_rfl))
  f165 := Tryd.func42.trans (congrArg some (by kernel_rfl))
  f166 := Tryd.func26.trans (congrArg some (by kernel_rfl))
  f169 := Tryd.func32.trans (congrArg some (by kernel_rfl))
  f195 := Tryd.func43.trans (congrArg some (by kernel_rfl))
  f197 := Tryd.func58.trans (congrArg some (by kernel_rfl))
  f217 := Tryd.func51.trans (congrArg some (by kernel_rfl))
  f218 := Tryd.func44.trans (congrArg some (by kernel_rfl))
  f219 := Tryd.func59.trans (congrArg some (by kernel_rfl))
  f224 := Tryd.func83.trans (congrArg some (by kernel_rfl))
  f225 := Tryd.func82.trans (congrArg some (by kernel_rfl))
  f240 := Tryd.func52.trans (congrArg some (by kernel_rfl))
  f241 := Tryd.func66.trans (congrArg some (by kernel_rfl))
  f260 := Tryd.func81.trans (congrArg some (by kernel_rfl))
  f266 := Tryd.func70.trans (congrArg some (by kernel_rfl))
  f267 := Tryd.func84.trans (congrArg some (by kernel_rfl))
  f276 := Tryd.func71.trans (congrArg some (by kernel_rfl))
  f277 := Tryd.func92.trans (congrArg some (by kernel_rfl))
  f314 := Tryd.func97.trans (congrArg some (by kernel_rfl))
  t0 := Tryd.underlying0
  a0 := Tryd.isAgg0
  z0 := Tryd.sizeOf0
  v0 := Tryd.zeroValue0
  t3 := Tryd.underlying3
  a3 := Tryd.isAgg3
  z3 := Tryd.sizeOf3
  v3 := Tryd.zeroValue3
  t4 := Tryd.underlying4
  a4 := Tryd.isAgg4
  z4 := Tryd.sizeOf4
  v4 := Tryd.zeroValue4
  t5 := Tryd.underlying5
  a5 := Tryd.isAgg5
  z5 := Tryd.sizeOf5
  v5 := Tryd.zeroValue5
  t9 := Tryd.underlying9
  a9 := Tryd.isAgg9
  z9 := Tryd.sizeOf9
  v9 := Tryd.zeroValue9
  t20 := Tryd.underlying20
  a20 := Tryd.isAgg20
  z20 := Tryd.sizeOf20
  v20 := Tryd.zeroValue20
  t21 := Tryd.underlying21
  a21 := Tryd.isAgg21
  z21 := Tryd.sizeOf21
  v21 := Tryd.zeroValue21
  t37 := Tryd.underlying52
  a37 := Tryd.isAgg52
  z37 := Tryd.sizeOf52
  v37 := Tryd.zeroValue52
  t46 := Tryd.underlying84
  a46 := Tryd.isAgg84
  z46 := Tryd.sizeOf84
  v46 := Tryd.zeroValue84
  t51 := Tryd.underlying104
  a51 := Tryd.isAgg104
  z51 := Tryd.sizeOf104
  v51 := Tryd.zeroValue104
  t70 := Tryd.underlying51
  a70 := Tryd.isAgg51
  z70 := Tryd.sizeOf51
  v70 := Tryd.zeroValue51
  t72 := Tryd.underlying54
  a72 := Tryd.isAgg54
  z72 := Tryd.sizeOf54
  v72 := Tryd.zeroValue54
  t75 := Tryd.underlying57
  a75 := Tryd.isAgg57
  z75 := Tryd.sizeOf57
  v75 := Tryd.zeroValue57
  t76 := Tryd.underlying58
  a76 := Tryd.isAgg58
  z76 := Tryd.sizeOf58
  v76 := Tryd.zeroValue58
  t105 := Tryd.underlying98
  a105 := Tryd.isAgg98
  z105 := Tryd.sizeOf98
  v105 := Tryd.zeroValue98
  t119 := Tryd.underlying129
  a119 := Tryd.isAgg129
  z119 := Tryd.sizeOf129
  t127 := Tryd.underlying97
  a127 := Tryd.isAgg97
  z127 := Tryd.sizeOf97
  v127 := Tryd.zeroValue97
  t138 := Tryd.underlying131
  a138 := Tryd.isAgg131
  z138 := Tryd.sizeOf131
  v138 := Tryd.zeroValue131
  t139 := Tryd.underlying132
  a139 := Tryd.isAgg132
  z139 := Tryd.sizeOf132
  v139 := Tryd.zeroValue132
  t146 := Tryd.underlying105
  a146 := Tryd.isAgg105
  z146 := Tryd.sizeOf105
  v146 := Tryd.zeroValue105
  t164 := Tryd.underlying113
  a164 := Tryd.isAgg113
  z164 := Tryd.sizeOf113
  v164 := Tryd.zeroValue113
  g1 := by kernel_rfl
  g3 := by kernel_rfl
  g4 := by kernel_rfl
  t80 := Tryd.underlying65
  a80 := Tryd.isAgg65
  z80 := Tryd.sizeOf65
  v80 := Tryd.zeroValue65
  i0 := by kernel_rfl
  i3 := by kernel_rfl
  i4 := by kernel_rfl
  i5 := by kernel_rfl
  i9 := by kernel_rfl
  i20 := by kernel_rfl
  i21 := by kernel_rfl
  i37 := by kernel_rfl
  i46 := by kernel_rfl
  i51 := by kernel_rfl
  i70 := by kernel_rfl
  i72 := by kernel_rfl
  i75 := by kernel_rfl
  i76 := by kernel_rfl
  i80 := by kernel_rfl
  i105 := by kernel_rfl
  i127 := by kernel_rfl
  i138 := by kernel_rfl
  i139 := by kernel_rfl
  i146 := by kernel_rfl
  i164 := by kernel_rfl
  m1 := by kernel_rfl
  s1_3 := fun w h => Go.Proofs.cell_of_shapedOpen_int (zero := #[.int .i64 0]) (t := 3) h (of_decide_eq_true (by kernel_rfl)) (by kernel_rfl) rfl (by kernel_rfl) (by kernel_rfl) Tryd.underlying3
  m3 := by kernel_rfl
  m4 := by kernel_rfl }
theorem Tryd.Builder_Extra_M154 : Builder.Extra Tryd.prog Tryd.laysM154_ren := {
  sizeBuilder := by kernel_rfl
  liesBuilder := by kernel_rfl
  t5 := Tryd.underlying5
  a5 := Tryd.isAgg5
  z5 := Tryd.sizeOf5
  v5 := Tryd.zeroValue5
  infoByte := by kernel_rfl
  cellsByte := by kernel_rfl
  sizeByte := by kernel_rfl
  neB5 := by decide }
open Go.RowKit Go.Lib in
/-- strings.Replace, old not empty. (LAID: no walk: one application.) -/
theorem Tryd.strings_Replace_shaped (s old new : ByteArray) (n : Int) (w : World) (h : w.ShapedOpen Tryd.prog) (hs : s.size < 4294967281) (h1 : 1 ≤ old.size) (hlen : s.size + Lib.countB s old * new.size ≤ 140737488355328) :
    Calls Tryd.prog 35 #[.string s, .string old, .string new, .int .i64 n] w fun e w' =>
      e = .returned (.string ⟨(Lib.replace s.data.toList old.data.toList new.data.toList n).toArray⟩) ∧ Below w.heap.size w w' := Any.strings_Replace_shaped Tryd.laysM154 Tryd.Builder_Extra_M154 s old new n w h hs h1 hlen
def Tryd.laysM155_ren : Go.Shelf.Ren := ⟨fun | 155 => 17 | 154 => 35 | 138 => 22 | 165 => 42 | 143 => 36 | 166 => 26 | 197 => 58 | 169 => 32 | 195 => 43 | 218 => 44 | 240 => 52 | 241 => 66 | 219 => 59 | 260 => 81 | 276 => 71 | 277 => 92 | 217 => 51 | 225 => 82 | 224 => 83 | 267 => 84 | 266 => 70 | 314 => 97 | n => n, fun | 9 => 9 | 3 => 3 | 4 => 4 | 72 => 54 | 0 => 0 | 76 => 58 | 105 => 98 | 21 => 21 | 5 => 5 | 70 => 51 | 20 => 20 | 37 => 52 | 75 => 57 | 127 => 97 | 164 => 113 | 46 => 84 | 119 => 129 | 139 => 132 | 138 => 131 | 146 => 105 | 51 => 104 | 80 => 65 | n => n, fun | 1 => 0 | 3 => 1 | 4 => 2 | n => n⟩
theorem Tryd.laysM155 : Go.Proofs.LaysM.n155 Tryd.prog Tryd.laysM155_ren := {
  mixed := by kernel_rfl
  f138 := Tryd.func22.trans (congrArg some (by kernel_rfl))
  f143 := Tryd.func36.trans (congrArg some (by kernel_rfl))
  f154 := Tryd.func35.trans (congrArg some (by kernel_rfl))
  f155 := Tryd.func17.trans (congrArg some (by kernel_rfl))
  f165 := Tryd.func42.trans (congrArg some (by kernel_rfl))
  f166 := Tryd.func26.trans (congrArg some (by kernel_rfl))
  f169 := Tryd.func32.trans (congrArg some (by kernel_rfl))
  f195 := Tryd.func43.trans (congrArg some (by kernel_rfl))
  f197 := Tryd.func58.trans (congrArg some (by kernel_rfl))
  f217 := Tryd.func51.trans (congrArg some (by kernel_rfl))
  f218 := Tryd.func44.trans (congrArg some (by kernel_rfl))
  f219 := Tryd.func59.trans (congrArg some (by kernel_rfl))
  f224 := Tryd.func83.trans (congrArg some (by kernel_rfl))
  f225 := Tryd.func82.trans (congrArg some (by kernel_rfl))
  f240 := Tryd.func52.trans (congrArg some (by kernel_rfl))
  f241 := Tryd.func66.trans (congrArg some (by kernel_rfl))
  f260 := Tryd.func81.trans (congrArg some (by kernel_rfl))
  f266 := Tryd.func70.trans (congrArg some (by kernel_rfl))
  f267 := Tryd.func84.trans (congrArg some (by kernel_rfl))
  f276 := Tryd.func71.trans (congrArg some (by kernel_rfl))
  f277 := Tryd.func92.trans (congrArg some (by kernel_rfl))
  f314 := Tryd.func97.trans (congrArg some (by kernel_rfl))
  t0 := Tryd.underlying0
  a0 := Tryd.isAgg0
  z0 := Tryd.sizeOf0
  v0 := Tryd.zeroValue0
  t3 := Tryd.underlying3
  a3 := Tryd.isAgg3
  z3 := Tryd.sizeOf3
  v3 := Tryd.zeroValue3
  t4 := Tryd.underlying4
  a4 := Tryd.isAgg4
  z4 := Tryd.sizeOf4
  v4 := Tryd.zeroValue4
  t5 := Tryd.underlying5
  a5 := Tryd.isAgg5
  z5 := Tryd.sizeOf5
  v5 := Tryd.zeroValue5
  t9 := Tryd.underlying9
  a9 := Tryd.isAgg9
  z9 := Tryd.sizeOf9
  v9 := Tryd.zeroValue9
  t20 := Tryd.underlying20
  a20 := Tryd.isAgg20
  z20 := Tryd.sizeOf20
  v20 := Tryd.zeroValue20
  t21 := Tryd.underlying21
  a21 := Tryd.isAgg21
  z21 := Tryd.sizeOf21
  v21 := Tryd.zeroValue21
  t37 := Tryd.underlying52
  a37 := Tryd.isAgg52
  z37 := Tryd.sizeOf52
  v37 := Tryd.zeroValue52
  t46 := Tryd.underlying84
  a46 := Tryd.isAgg84
  z46 := Tryd.sizeOf84
  v46 := Tryd.zeroValue84
  t51 := Tryd.underlying104
  a51 := Tryd.isAgg104
  z51 := Tryd.sizeOf104
  v51 := Tryd.zeroValue104
  t70 := Tryd.underlying51
  a70 := Tryd.isAgg51
  z70 := Tryd.sizeOf51
  v70 := Tryd.zeroValue51
  t72 := Tryd.underlying54
  a72 := Tryd.isAgg54
  z72 := Tryd.sizeOf54
  v72 := Tryd.zeroValue54
  t75 := Tryd.underlying57
  a75 := Tryd.isAgg57
  z75 := Tryd.sizeOf57
  v75 := Tryd.zeroValue57
  t76 := Tryd.underlying58
  a76 := Tryd.isAgg58
  z76 := Tryd.sizeOf58
  v76 := Tryd.zeroValue58
  t105 := Tryd.underlying98
  a105 := Tryd.isAgg98
  z105 := Tryd.sizeOf98
  v105 := Tryd.zeroValue98
  t119 := Tryd.underlying129
  a119 := Tryd.isAgg129
  z119 := Tryd.sizeOf129
  t127 := Tryd.underlying97
  a127 := Tryd.isAgg97
  z127 := Tryd.sizeOf97
  v127 := Tryd.zeroValue97
  t138 := Tryd.underlying131
  a138 := Tryd.isAgg131
  z138 := Tryd.sizeOf131
  v138 := Tryd.zeroValue131
  t139 := Tryd.underlying132
  a139 := Tryd.isAgg132
  z139 := Tryd.sizeOf132
  v139 := Tryd.zeroValue132
  t146 := Tryd.underlying105
  a146 := Tryd.isAgg105
  z146 := Tryd.sizeOf105
  v146 := Tryd.zeroValue105
  t164 := Tryd.underlying113
  a164 := Tryd.isAgg113
  z164 := Tryd.sizeOf113
  v164 := Tryd.zeroValue113
  g1 := by kernel_rfl
  g3 := by kernel_rfl
  g4 := by kernel_rfl
  t80 := Tryd.underlying65
  a80 := Tryd.isAgg65
  z80 := Tryd.sizeOf65
  v80 := Tryd.zeroValue65
  i0 := by kernel_rfl
  i3 := by kernel_rfl
  i4 := by kernel_rfl
  i5 := by kernel_rfl
  i9 := by kernel_rfl
  i20 := by kernel_rfl
  i21 := by kernel_rfl
  i37 := by kernel_rfl
  i46 := by kernel_rfl
  i51 := by kernel_rfl
  i70 := by kernel_rfl
  i72 := by kernel_rfl
  i75 := by kernel_rfl
  i76 := by kernel_rfl
  i80 := by kernel_rfl
  i105 := by kernel_rfl
  i127 := by kernel_rfl
  i138 := by kernel_rfl
  i139 := by kernel_rfl
  i146 := by kernel_rfl
  i164 := by kernel_rfl
  m1 := by kernel_rfl
  s1_3 := fun w h => Go.Proofs.cell_of_shapedOpen_int (zero := #[.int .i64 0]) (t := 3) h (of_decide_eq_true (by kernel_rfl)) (by kernel_rfl) rfl (by kernel_rfl) (by kernel_rfl) Tryd.underlying3
  m3 := by kernel_rfl
  m4 := by kernel_rfl }
theorem Tryd.Builder_Extra_M155 : Builder.Extra Tryd.prog Tryd.laysM155_ren := {
  sizeBuilder := by kernel_rfl
  liesBuilder := by kernel_rfl
  t5 := Tryd.underlying5
  a5 := Tryd.isAgg5
  z5 := Tryd.sizeOf5
  v5 := Tryd.zeroValue5
  infoByte := by kernel_rfl
  cellsByte := by kernel_rfl
  sizeByte := by kernel_rfl
  neB5 := by decide }
open Go.RowKit Go.Lib in
/-- strings.ReplaceAll, old not empty. (LAID: no walk: one application.) -/
theorem Tryd.strings_ReplaceAll_shaped (s old new : ByteArray) (w : World) (h : w.ShapedOpen Tryd.prog) (hs : s.size < 4294967281) (h1 : 1 ≤ old.size) (hlen : s.size + Lib.countB s old * new.size ≤ 140737488355328) :
    Calls Tryd.prog 17 #[.string s, .string old, .string new] w fun e w' =>
      e = .returned (.string ⟨(Lib.replaceAll s.data.toList old.data.toList new.data.toList).toArray⟩) ∧ Below w.heap.size w w' := Any.strings_ReplaceAll_shaped Tryd.laysM155 Tryd.Builder_Extra_M155 s old new w h hs h1 hlen
def Tryd.lays197_ren : Go.Shelf.Ren := ⟨fun | 197 => 58 | 260 => 81 | n => n, fun | 9 => 9 | 21 => 21 | 3 => 3 | 4 => 4 | 5 => 5 | 105 => 98 | 119 => 129 | 0 => 0 | 46 => 84 | 139 => 132 | 138 => 131 | n => n, fun | 3 => 1 | 4 => 2 | n => n⟩
theorem Tryd.lays197 : Go.Proofs.Lays.n197 Tryd.prog Tryd.lays197_ren := {
  mixed := by kernel_rfl
  f197 := Tryd.func58.trans (congrArg some (by kernel_rfl))
  f260 := Tryd.func81.trans (congrArg some (by kernel_rfl))
  t0 := Tryd.underlying0
  a0 := Tryd.isAgg0
  z0 := Tryd.sizeOf0
  v0 := Tryd.zeroValue0
  t3 := Tryd.underlying3
  a3 := Tryd.isAgg3
  z3 := Tryd.sizeOf3
  v3 := Tryd.zeroValue3
  t4 := Tryd.underlying4
  a4 := Tryd.isAgg4
  z4 := Tryd.sizeOf4
  v4 := Tryd.zeroValue4
  t5 := Tryd.underlying5
  a5 := Tryd.isAgg5
  z5 := Tryd.sizeOf5
  v5 := Tryd.zeroValue5
  t9 := Tryd.underlying9
  a9 := Tryd.isAgg9
  z9 := Tryd.sizeOf9
  v9 := Tryd.zeroValue9
  t21 := Tryd.underlying21
  a21 := Tryd.isAgg21
  z21 := Tryd.sizeOf21
  v21 := Tryd.zeroValue21
  t46 := Tryd.underlying84
  a46 := Tryd.isAgg84
  z46 := Tryd.sizeOf84
  v46 := Tryd.zeroValue84
  t105 := Tryd.underlying98
  a105 := Tryd.isAgg98
  z105 := Tryd.sizeOf98
  v105 := Tryd.zeroValue98
  t119 := Tryd.underlying129
  a119 := Tryd.isAgg129
  z119 := Tryd.sizeOf129
  t138 := Tryd.underlying131
  a138 := Tryd.isAgg131
  z138 := Tryd.sizeOf131
  v138 := Tryd.zeroValue131
  t139 := Tryd.underlying132
  a139 := Tryd.isAgg132
  z139 := Tryd.sizeOf132
  v139 := Tryd.zeroValue132
  g3 := by kernel_rfl
  g4 := by kernel_rfl }
open Go.RowKit Go.Lib in
/-- unicode/utf8.DecodeRuneInString: "DecodeRuneInString is like DecodeRune but its input is a string.": ("DecodeRune unpacks the first UTF-8 encoding in p and returns the rune and its width in bytes."): WHERE s BEGINS WITH AN ASCII BYTE x: (x, 1). (LAID: no walk: one application.) -/
theorem Tryd.utf8_DecodeRuneInString_ascii (s : ByteArray) (x : UInt8) (w : World) (h0 : s.data.toList[0]? = some x) (hx : x.toNat < 128) :
    Calls Tryd.prog 58 #[.string s] w fun e w' => e = .returned (.tuple #[.int .i32 x.toNat, .int .i64 1]) ∧ w' = w := Any.utf8_DecodeRuneInString_ascii Tryd.lays197 s x w h0 hx
def Tryd.lays152_ren : Go.Shelf.Ren := ⟨fun | 152 => 79 | 137 => 25 | 119 => 96 | 224 => 83 | 225 => 82 | 217 => 51 | 266 => 70 | n => n, fun | 9 => 9 | 21 => 21 | 3 => 3 | 4 => 4 | 5 => 5 | 0 => 0 | 46 => 84 | n => n, fun | n => n⟩
theorem Tryd.lays152 : Go.Proofs.Lays.n152 Tryd.prog Tryd.lays152_ren := {
  mixed := by kernel_rfl
  f119 := Tryd.func96.trans (congrArg some (by kernel_rfl))
  f137 := Tryd.func25.trans (congrArg some (by kernel_rfl))
  f152 := Tryd.func79.trans (congrArg some (by kernel_rfl))
  f217 := Tryd.func51.trans (congrArg some (by kernel_rfl))
  f224 := Tryd.func83.trans (congrArg some (by kernel_rfl))
  f225 := Tryd.func82.trans (congrArg some (by kernel_rfl))
  f266 := Tryd.func70.trans (congrArg some (by kernel_rfl))
  t0 := Tryd.underlying0
  a0 := Tryd.isAgg0
  z0 := Tryd.sizeOf0
  v0 := Tryd.zeroValue0
  t3 := Tryd.underlying3
  a3 := Tryd.isAgg3
  z3 := Tryd.sizeOf3
  v3 := Tryd.zeroValue3
  t4 := Tryd.underlying4
  a4 := Tryd.isAgg4
  z4 := Tryd.sizeOf4
  v4 := Tryd.zeroValue4
  t5 := Tryd.underlying5
  a5 := Tryd.isAgg5
  z5 := Tryd.sizeOf5
  v5 := Tryd.zeroValue5
  t9 := Tryd.underlying9
  a9 := Tryd.isAgg9
  z9 := Tryd.sizeOf9
  v9 := Tryd.zeroValue9
  t21 := Tryd.underlying21
  a21 := Tryd.isAgg21
  z21 := Tryd.sizeOf21
  v21 := Tryd.zeroValue21
  t46 := Tryd.underlying84
  a46 := Tryd.isAgg84
  z46 := Tryd.sizeOf84
  v46 := Tryd.zeroValue84 }
open Go.RowKit Go.Lib in
theorem Tryd.strings_IndexRune_ascii (s : ByteArray) (r : Int) (w : World) (h0 : 0 ≤ r) (h1 : r < 128) :
    Calls Tryd.prog 79 #[.string s, .int .i32 r] w fun e w' => e = .returned (.int .i64 (Lib.indexByte s.data.toList r.toNat.toUInt8)) ∧ w' = w := Any.strings_IndexRune_ascii Tryd.lays152 s r w h0 h1
def Tryd.lays151_ren : Go.Shelf.Ren := ⟨fun | 151 => 68 | 152 => 79 | 137 => 25 | 119 => 96 | 224 => 83 | 225 => 82 | 217 => 51 | 266 => 70 | n => n, fun | 9 => 9 | 21 => 21 | 4 => 4 | 3 => 3 | 5 => 5 | 0 => 0 | 46 => 84 | n => n, fun | n => n⟩
theorem Tryd.lays151 : Go.Proofs.Lays.n151 Tryd.prog Tryd.lays151_ren := {
  mixed := by kernel_rfl
  f119 := Tryd.func96.trans (congrArg some (by kernel_rfl))
  f137 := Tryd.func25.trans (congrArg some (by kernel_rfl))
  f151 := Tryd.func68.trans (congrArg some (by kernel_rfl))
  f152 := Tryd.func79.trans (congrArg some (by kernel_rfl))
  f217 := Tryd.func51.trans (congrArg some (by kernel_rfl))
  f224 := Tryd.func83.trans (congrArg some (by kernel_rfl))
  f225 := Tryd.func82.trans (congrArg some (by kernel_rfl))
  f266 := Tryd.func70.trans (congrArg some (by kernel_rfl))
  t0 := Tryd.underlying0
  a0 := Tryd.isAgg0
  z0 := Tryd.sizeOf0
  v0 := Tryd.zeroValue0
  t3 := Tryd.underlying3
  a3 := Tryd.isAgg3
  z3 := Tryd.sizeOf3
  v3 := Tryd.zeroValue3
  t4 := Tryd.underlying4
  a4 := Tryd.isAgg4
  z4 := Tryd.sizeOf4
  v4 := Tryd.zeroValue4
  t5 := Tryd.underlying5
  a5 := Tryd.isAgg5
  z5 := Tryd.sizeOf5
  v5 := Tryd.zeroValue5
  t9 := Tryd.underlying9
  a9 := Tryd.isAgg9
  z9 := Tryd.sizeOf9
  v9 := Tryd.zeroValue9
  t21 := Tryd.underlying21
  a21 := Tryd.isAgg21
  z21 := Tryd.sizeOf21
  v21 := Tryd.zeroValue21
  t46 := Tryd.underlying84
  a46 := Tryd.isAgg84
  z46 := Tryd.sizeOf84
  v46 := Tryd.zeroValue84 }
open Go.RowKit Go.Lib in
theorem Tryd.strings_ContainsRune_ascii (s : ByteArray) (r : Int) (w : World) (h0 : 0 ≤ r) (h1 : r < 128) :
    Calls Tryd.prog 68 #[.string s, .int .i32 r] w fun e w' => e = .returned (.bool (decide (0 ≤ Lib.indexByte s.data.toList r.toNat.toUInt8))) ∧ w' = w := Any.strings_ContainsRune_ascii Tryd.lays151 s r w h0 h1
open Go.RowKit Go.Lib in
theorem Tryd.utf8_RuneCountInString_ascii (s : ByteArray) (w : World) (hs : s.size < 4294967281) (hascii : ∀ (j : Nat) b, s.data.toList[j]? = some b → b.toNat < 128) :
    Calls Tryd.prog 43 #[.string s] w fun e w' => e = .returned (.int .i64 s.size) ∧ w' = w.iter s s.size := Any.utf8_RuneCountInString_ascii Tryd.lays195 s w hs hascii
def Tryd.lays226_ren : Go.Shelf.Ren := ⟨fun | 226 => 80 | n => n, fun | 3 => 3 | 4 => 4 | n => n, fun | n => n⟩
theorem Tryd.lays226 : Go.Proofs.Lays.n226 Tryd.prog Tryd.lays226_ren := {
  mixed := by kernel_rfl
  f226 := Tryd.func80.trans (congrArg some (by kernel_rfl))
  t3 := Tryd.underlying3
  a3 := Tryd.isAgg3
  z3 := Tryd.sizeOf3
  v3 := Tryd.zeroValue3
  t4 := Tryd.underlying4
  a4 := Tryd.isAgg4
  z4 := Tryd.sizeOf4
  v4 := Tryd.zeroValue4 }
open Go.RowKit Go.Lib in
theorem Tryd.strings_shouldUseASCIISet (n : Int) (w : World) :
    Calls Tryd.prog 80 #[.int .i64 n] w fun e w' => e = .returned (.bool (decide (8 < n))) ∧ w' = w := Any.strings_shouldUseASCIISet Tryd.lays226 n w
def Tryd.lays153_ren : Go.Shelf.Ren := ⟨fun | 153 => 57 | 152 => 79 | 226 => 80 | 227 => 46 | 228 => 67 | 137 => 25 | 119 => 96 | 224 => 83 | 225 => 82 | 217 => 51 | 266 => 70 | n => n, fun | 9 => 9 | 3 => 3 | 4 => 4 | 5 => 5 | 21 => 21 | 117 => 91 | 116 => 90 | 0 => 0 | 46 => 84 | 124 => 94 | n => n, fun | n => n⟩
theorem Tryd.lays153 : Go.Proofs.Lays.n153 Tryd.prog Tryd.lays153_ren := {
  mixed := by kernel_rfl
  f119 := Tryd.func96.trans (congrArg some (by kernel_rfl))
  f137 := Tryd.func25.trans (congrArg some (by kernel_rfl))
  f152 := Tryd.func79.trans (congrArg some (by kernel_rfl))
  f153 := Tryd.func57.trans (congrArg some (by kernel_rfl))
  f217 := Tryd.func51.trans (congrArg some (by kernel_rfl))
  f224 := Tryd.func83.trans (congrArg some (by kernel_rfl))
  f225 := Tryd.func82.trans (congrArg some (by kernel_rfl))
  f226 := Tryd.func80.trans (congrArg some (by kernel_rfl))
  f227 := Tryd.func46.trans (congrArg some (by kernel_rfl))
  f228 := Tryd.func67.trans (congrArg some (by kernel_rfl))
  f266 := Tryd.func70.trans (congrArg some (by kernel_rfl))
  t0 := Tryd.underlying0
  a0 := Tryd.isAgg0
  z0 := Tryd.sizeOf0
  v0 := Tryd.zeroValue0
  t3 := Tryd.underlying3
  a3 := Tryd.isAgg3
  z3 := Tryd.sizeOf3
  v3 := Tryd.zeroValue3
  t4 := Tryd.underlying4
  a4 := Tryd.isAgg4
  z4 := Tryd.sizeOf4
  v4 := Tryd.zeroValue4
  t5 := Tryd.underlying5
  a5 := Tryd.isAgg5
  z5 := Tryd.sizeOf5
  v5 := Tryd.zeroValue5
  t9 := Tryd.underlying9
  a9 := Tryd.isAgg9
  z9 := Tryd.sizeOf9
  v9 := Tryd.zeroValue9
  t21 := Tryd.underlying21
  a21 := Tryd.isAgg21
  z21 := Tryd.sizeOf21
  v21 := Tryd.zeroValue21
  t46 := Tryd.underlying84
  a46 := Tryd.isAgg84
  z46 := Tryd.sizeOf84
  v46 := Tryd.zeroValue84
  t116 := Tryd.underlying90
  a116 := Tryd.isAgg90
  z116 := Tryd.sizeOf90
  t117 := Tryd.underlying91
  a117 := Tryd.isAgg91
  z117 := Tryd.sizeOf91
  v117 := Tryd.zeroValue91
  t124 := Tryd.underlying94
  a124 := Tryd.isAgg94
  z124 := Tryd.sizeOf94
  v124 := Tryd.zeroValue94 }
open Go.RowKit Go.Lib in
/-- chars is empty. (LAID: no walk: one application.) -/
theorem Tryd.strings_IndexAny_none (s chars : ByteArray) (w : World) (h0 : chars.size = 0) :
    Calls Tryd.prog 57 #[.string s, .string chars] w fun e w' => e = .returned (.int .i64 (Lib.indexAny s.data.toList chars.data.toList)) ∧ w' = w := Any.strings_IndexAny_none Tryd.lays153 s chars w h0
open Go.RowKit Go.Lib in
/-- chars is one ASCII byte. (LAID: no walk: one application.) -/
theorem Tryd.strings_IndexAny_one (s chars : ByteArray) (w : World) (h1 : chars.size = 1) (hascii : ∀ (j : Nat) b, chars.data.toList[j]? = some b → b.toNat < 128) :
    Calls Tryd.prog 57 #[.string s, .string chars] w fun e w' => e = .returned (.int .i64 (Lib.indexAny s.data.toList chars.data.toList)) ∧ w' = w := Any.strings_IndexAny_one Tryd.lays153 s chars w h1 hascii
open Go.RowKit Go.Lib in
/-- s of at most 8 bytes; chars of two or more: 'for i, c := range s { if IndexRune(chars, c) >= 0 { return i } }'. One block more: the model's iterator over s. (LAID: no walk: one application.) -/
theorem Tryd.strings_IndexAny_short (s chars : ByteArray) (w : World) (h2 : 2 ≤ chars.size) (h8 : s.size ≤ 8) (hascii : ∀ (j : Nat) b, s.data.toList[j]? = some b → b.toNat < 128) :
    Calls Tryd.prog 57 #[.string s, .string chars] w fun e w' => e = .returned (.int .i64 (Lib.indexAny s.data.toList chars.data.toList)) ∧ ∃ pos, w' = w.iter s pos := Any.strings_IndexAny_short Tryd.lays153 s chars w h2 h8 hascii
def Tryd.lays227_ren : Go.Shelf.Ren := ⟨fun | 227 => 46 | n => n, fun | 9 => 9 | 116 => 90 | 4 => 4 | 0 => 0 | 3 => 3 | 5 => 5 | n => n, fun | n => n⟩
theorem Tryd.lays227 : Go.Proofs.Lays.n227 Tryd.prog Tryd.lays227_ren := {
  mixed := by kernel_rfl
  f227 := Tryd.func46.trans (congrArg some (by kernel_rfl))
  t0 := Tryd.underlying0
  a0 := Tryd.isAgg0
  z0 := Tryd.sizeOf0
  v0 := Tryd.zeroValue0
  t3 := Tryd.underlying3
  a3 := Tryd.isAgg3
  z3 := Tryd.sizeOf3
  v3 := Tryd.zeroValue3
  t4 := Tryd.underlying4
  a4 := Tryd.isAgg4
  z4 := Tryd.sizeOf4
  v4 := Tryd.zeroValue4
  t5 := Tryd.underlying5
  a5 := Tryd.isAgg5
  z5 := Tryd.sizeOf5
  v5 := Tryd.zeroValue5
  t9 := Tryd.underlying9
  a9 := Tryd.isAgg9
  z9 := Tryd.sizeOf9
  v9 := Tryd.zeroValue9
  t116 := Tryd.underlying90
  a116 := Tryd.isAgg90
  z116 := Tryd.sizeOf90 }
open Go.RowKit Go.Lib in
theorem Tryd.strings_makeASCIISet (hv116 : ∀ w, (zeroValue 90).run Tryd.prog w = .ok (.agg (Array.replicate 256 (.bool false))) w) (chars : ByteArray) (w : World) (hs : chars.size < 4294967281) (hascii : ∀ (j : Nat) b, chars.data.toList[j]? = some b → b.toNat < 128) :
    Calls Tryd.prog 46 #[.string chars] w fun e w' => e = .returned (.tuple #[.agg (Lib.setCells chars.data.toList), .bool true]) ∧ w' = w.alloc (.cells (Lib.setCells chars.data.toList) 90) := Any.strings_makeASCIISet Tryd.lays227 hv116 (by kernel_rfl) chars w hs hascii
def Tryd.lays228_ren : Go.Shelf.Ren := ⟨fun | 228 => 67 | n => n, fun | 124 => 94 | 5 => 5 | 4 => 4 | 0 => 0 | 116 => 90 | n => n, fun | n => n⟩
theorem Tryd.lays228 : Go.Proofs.Lays.n228 Tryd.prog Tryd.lays228_ren := {
  mixed := by kernel_rfl
  f228 := Tryd.func67.trans (congrArg some (by kernel_rfl))
  t0 := Tryd.underlying0
  a0 := Tryd.isAgg0
  z0 := Tryd.sizeOf0
  v0 := Tryd.zeroValue0
  t4 := Tryd.underlying4
  a4 := Tryd.isAgg4
  z4 := Tryd.sizeOf4
  v4 := Tryd.zeroValue4
  t5 := Tryd.underlying5
  a5 := Tryd.isAgg5
  z5 := Tryd.sizeOf5
  v5 := Tryd.zeroValue5
  t116 := Tryd.underlying90
  a116 := Tryd.isAgg90
  z116 := Tryd.sizeOf90
  t124 := Tryd.underlying94
  a124 := Tryd.isAgg94
  z124 := Tryd.sizeOf94
  v124 := Tryd.zeroValue94 }
open Go.RowKit Go.Lib in
/-- '(as *asciiSet) contains(c)': 'as[c]': the set lies at block b, whole. (LAID: no walk: one application.) -/
theorem Tryd.asciiSet_contains (b : Nat) (x : UInt8) (v : Bool) (w : World) (hc : w.cell? ⟨b, x.toNat, none⟩ = some (.bool v)) :
    Calls Tryd.prog 67 #[.pointer (some ⟨b, 0, none⟩), .int .u8 x.toNat] w fun e w' => e = .returned (.bool v) ∧ w' = w := Any.asciiSet_contains Tryd.lays228 b x v w hc
open Go.RowKit Go.Lib in
theorem Tryd.strings_IndexAny_long (hv116 : ∀ w, (zeroValue 90).run Tryd.prog w = .ok (.agg (Array.replicate 256 (.bool false))) w) (s chars : ByteArray) (w : World) (h2 : 2 ≤ chars.size) (h8 : 8 < s.size) (hs : s.size < 4294967281) (hcs : chars.size < 4294967281) (hascii : ∀ (j : Nat) b, chars.data.toList[j]? = some b → b.toNat < 128) :
    Calls Tryd.prog 57 #[.string s, .string chars] w fun e w' => e = .returned (.int .i64 (Lib.indexAny s.data.toList chars.data.toList)) ∧ w' = ((w.alloc (.cells (Lib.setCells chars.data.toList) 90)).alloc (.cells (Lib.setCells chars.data.toList) 90)) := Any.strings_IndexAny_long Tryd.lays153 hv116 (by kernel_rfl) s chars w h2 h8 hs hcs hascii
open Go.RowKit Go.Lib in
/-- strings.IndexAny ON ASCII BYTES: the four roads under one statement. (LAID: no walk: one application.) -/
theorem Tryd.strings_IndexAny (hv116 : ∀ w, (zeroValue 90).run Tryd.prog w = .ok (.agg (Array.replicate 256 (.bool false))) w) (s chars : ByteArray) (w : World) (hs : s.size < 4294967281) (hcs : chars.size < 4294967281) (has : ∀ (j : Nat) b, s.data.toList[j]? = some b → b.toNat < 128) (hac : ∀ (j : Nat) b, chars.data.toList[j]? = some b → b.toNat < 128) :
    Calls Tryd.prog 57 #[.string s, .string chars] w fun e w' => e = .returned (.int .i64 (Lib.indexAny s.data.toList chars.data.toList)) ∧ Below w.heap.size w w' := Any.strings_IndexAny Tryd.lays153 hv116 (by kernel_rfl) s chars w hs hcs has hac
def Tryd.lays150_ren : Go.Shelf.Ren := ⟨fun | 150 => 34 | 153 => 57 | 152 => 79 | 226 => 80 | 227 => 46 | 228 => 67 | 137 => 25 | 119 => 96 | 224 => 83 | 225 => 82 | 217 => 51 | 266 => 70 | n => n, fun | 9 => 9 | 4 => 4 | 3 => 3 | 5 => 5 | 21 => 21 | 117 => 91 | 116 => 90 | 0 => 0 | 46 => 84 | 124 => 94 | n => n, fun | n => n⟩
theorem Tryd.lays150 : Go.Proofs.Lays.n150 Tryd.prog Tryd.lays150_ren := {
  mixed := by kernel_rfl
  f119 := Tryd.func96.trans (congrArg some (by kernel_rfl))
  f137 := Tryd.func25.trans (congrArg some (by kernel_rfl))
  f150 := Tryd.func34.trans (congrArg some (by kernel_rfl))
  f152 := Tryd.func79.trans (congrArg some (by kernel_rfl))
  f153 := Tryd.func57.trans (congrArg some (by kernel_rfl))
  f217 := Tryd.func51.trans (congrArg some (by kernel_rfl))
  f224 := Tryd.func83.trans (congrArg some (by kernel_rfl))
  f225 := Tryd.func82.trans (congrArg some (by kernel_rfl))
  f226 := Tryd.func80.trans (congrArg some (by kernel_rfl))
  f227 := Tryd.func46.trans (congrArg some (by kernel_rfl))
  f228 := Tryd.func67.trans (congrArg some (by kernel_rfl))
  f266 := Tryd.func70.trans (congrArg some (by kernel_rfl))
  t0 := Tryd.underlying0
  a0 := Tryd.isAgg0
  z0 := Tryd.sizeOf0
  v0 := Tryd.zeroValue0
  t3 := Tryd.underlying3
  a3 := Tryd.isAgg3
  z3 := Tryd.sizeOf3
  v3 := Tryd.zeroValue3
  t4 := Tryd.underlying4
  a4 := Tryd.isAgg4
  z4 := Tryd.sizeOf4
  v4 := Tryd.zeroValue4
  t5 := Tryd.underlying5
  a5 := Tryd.isAgg5
  z5 := Tryd.sizeOf5
  v5 := Tryd.zeroValue5
  t9 := Tryd.underlying9
  a9 := Tryd.isAgg9
  z9 := Tryd.sizeOf9
  v9 := Tryd.zeroValue9
  t21 := Tryd.underlying21
  a21 := Tryd.isAgg21
  z21 := Tryd.sizeOf21
  v21 := Tryd.zeroValue21
  t46 := Tryd.underlying84
  a46 := Tryd.isAgg84
  z46 := Tryd.sizeOf84
  v46 := Tryd.zeroValue84
  t116 := Tryd.underlying90
  a116 := Tryd.isAgg90
  z116 := Tryd.sizeOf90
  t117 := Tryd.underlying91
  a117 := Tryd.isAgg91
  z117 := Tryd.sizeOf91
  v117 := Tryd.zeroValue91
  t124 := Tryd.underlying94
  a124 := Tryd.isAgg94
  z124 := Tryd.sizeOf94
  v124 := Tryd.zeroValue94 }
open Go.RowKit Go.Lib in
/-- strings.ContainsAny ON ASCII BYTES. (LAID: no walk: one application.) -/
theorem Tryd.strings_ContainsAny (hv116 : ∀ w, (zeroValue 90).run Tryd.prog w = .ok (.agg (Array.replicate 256 (.bool false))) w) (s chars : ByteArray) (w : World) (hs : s.size < 4294967281) (hcs : chars.size < 4294967281) (has : ∀ (j : Nat) b, s.data.toList[j]? = some b → b.toNat < 128) (hac : ∀ (j : Nat) b, chars.data.toList[j]? = some b → b.toNat < 128) :
    Calls Tryd.prog 34 #[.string s, .string chars] w fun e w' => e = .returned (.bool (Lib.containsAny s.data.toList chars.data.toList)) ∧ Below w.heap.size w w' := Any.strings_ContainsAny Tryd.lays150 hv116 (by kernel_rfl) s chars w hs hcs has hac
open Go.RowKit Go.Lib in
theorem Tryd.strings_IndexAny_laid (s chars : ByteArray) (w : World) (hs : s.size < 4294967281) (hcs : chars.size < 4294967281) (has : ∀ (j : Nat) b, s.data.toList[j]? = some b → b.toNat < 128) (hac : ∀ (j : Nat) b, chars.data.toList[j]? = some b → b.toNat < 128) :
    Calls Tryd.prog 57 #[.string s, .string chars] w fun e w' => e = .returned (.int .i64 (Lib.indexAny s.data.toList chars.data.toList)) ∧ Below w.heap.size w w' := Any.strings_IndexAny_laid Tryd.lays153 (by kernel_rfl) s chars w hs hcs has hac
open Go.RowKit Go.Lib in
theorem Tryd.strings_ContainsAny_laid (s chars : ByteArray) (w : World) (hs : s.size < 4294967281) (hcs : chars.size < 4294967281) (has : ∀ (j : Nat) b, s.data.toList[j]? = some b → b.toNat < 128) (hac : ∀ (j : Nat) b, chars.data.toList[j]? = some b → b.toNat < 128) :
    Calls Tryd.prog 34 #[.string s, .string chars] w fun e w' => e = .returned (.bool (Lib.containsAny s.data.toList chars.data.toList)) ∧ Below w.heap.size w w' := Any.strings_ContainsAny_laid Tryd.lays150 (by kernel_rfl) s chars w hs hcs has hac
def Tryd.lays268_ren : Go.Shelf.Ren := ⟨fun | 268 => 105 | 195 => 43 | 197 => 58 | 260 => 81 | n => n, fun | 9 => 9 | 3 => 3 | 31 => 24 | 4 => 4 | 105 => 98 | 21 => 21 | 0 => 0 | 5 => 5 | 119 => 129 | 46 => 84 | 139 => 132 | 138 => 131 | n => n, fun | 3 => 1 | 4 => 2 | n => n⟩
theorem Tryd.lays268 : Go.Proofs.Lays.n268 Tryd.prog Tryd.lays268_ren := {
  mixed := by kernel_rfl
  f195 := Tryd.func43.trans (congrArg some (by kernel_rfl))
  f197 := Tryd.func58.trans (congrArg some (by kernel_rfl))
  f260 := Tryd.func81.trans (congrArg some (by kernel_rfl))
  f268 := Tryd.func105.trans (congrArg some (by kernel_rfl))
  t0 := Tryd.underlying0
  a0 := Tryd.isAgg0
  z0 := Tryd.sizeOf0
  v0 := Tryd.zeroValue0
  t3 := Tryd.underlying3
  a3 := Tryd.isAgg3
  z3 := Tryd.sizeOf3
  v3 := Tryd.zeroValue3
  t4 := Tryd.underlying4
  a4 := Tryd.isAgg4
  z4 := Tryd.sizeOf4
  v4 := Tryd.zeroValue4
  t5 := Tryd.underlying5
  a5 := Tryd.isAgg5
  z5 := Tryd.sizeOf5
  v5 := Tryd.zeroValue5
  t9 := Tryd.underlying9
  a9 := Tryd.isAgg9
  z9 := Tryd.sizeOf9
  v9 := Tryd.zeroValue9
  t21 := Tryd.underlying21
  a21 := Tryd.isAgg21
  z21 := Tryd.sizeOf21
  v21 := Tryd.zeroValue21
  t31 := Tryd.underlying24
  a31 := Tryd.isAgg24
  z31 := Tryd.sizeOf24
  v31 := Tryd.zeroValue24
  t46 := Tryd.underlying84
  a46 := Tryd.isAgg84
  z46 := Tryd.sizeOf84
  v46 := Tryd.zeroValue84
  t105 := Tryd.underlying98
  a105 := Tryd.isAgg98
  z105 := Tryd.sizeOf98
  v105 := Tryd.zeroValue98
  t119 := Tryd.underlying129
  a119 := Tryd.isAgg129
  z119 := Tryd.sizeOf129
  t138 := Tryd.underlying131
  a138 := Tryd.isAgg131
  z138 := Tryd.sizeOf131
  v138 := Tryd.zeroValue131
  t139 := Tryd.underlying132
  a139 := Tryd.isAgg132
  z139 := Tryd.sizeOf132
  v139 := Tryd.zeroValue132
  g3 := by kernel_rfl
  g4 := by kernel_rfl }
open Go.RowKit Go.Lib in
theorem Tryd.strings_explode_all (s : ByteArray) (n : Int) (w : World) (hn : n < 0) (hs : s.size < 4294967281) (hascii : ∀ (j : Nat) b, s.data.toList[j]? = some b → b.toNat < 128) :
    Calls Tryd.prog 105 #[.string s, .int .i64 n] w fun e w' =>
      e = .returned (.slice (some ⟨(w.iter s s.size).heap.size, 0, none⟩) s.size s.size) ∧ w' = (w.iter s s.size).alloc (.cells ((Lib.charsB s).map Value.string).toArray 9) := Any.strings_explode_all Tryd.lays268 (by kernel_rfl) s n w hn hs hascii
open Go.RowKit Go.Lib in
/-- strings.genSplit at sep == "", n < 0: 'return explode(s, n)'. (LAID: no walk: one application.) -/
theorem Tryd.strings_genSplit_chars (s sep : ByteArray) (sv n : Int) (w : World) (h0 : sep.size = 0) (hn : n < 0) (hs : s.size < 4294967281) (hascii : ∀ (j : Nat) b, s.data.toList[j]? = some b → b.toNat < 128) :
    Calls Tryd.prog 102 #[.string s, .string sep, .int .i64 sv, .int .i64 n] w fun e w' =>
      e = .returned (.slice (some ⟨(w.iter s s.size).heap.size, 0, none⟩) s.size s.size) ∧ w' = (w.iter s s.size).alloc (.cells ((Lib.charsB s).map Value.string).toArray 9) := Any.strings_genSplit_chars Tryd.lays221 (by kernel_rfl) s sep sv n w h0 hn hs hascii
open Go.RowKit Go.Lib in
/-- strings.Split(s, ""), s ASCII: a piece a byte. (LAID: no walk: one application.) -/
theorem Tryd.strings_Split_chars (s sep : ByteArray) (w : World) (h0 : sep.size = 0) (hs : s.size < 4294967281) (hascii : ∀ (j : Nat) b, s.data.toList[j]? = some b → b.toNat < 128) :
    Calls Tryd.prog 93 #[.string s, .string sep] w fun e w' =>
      e = .returned (.slice (some ⟨(w.iter s s.size).heap.size, 0, none⟩) s.size s.size) ∧ w' = (w.iter s s.size).alloc (.cells ((Lib.charsB s).map Value.string).toArray 9) := Any.strings_Split_chars Tryd.lays146 (by kernel_rfl) s sep w h0 hs hascii
def Tryd.lays264_ren : Go.Shelf.Ren := ⟨fun | 264 => 65 | n => n, fun | 53 => 107 | 46 => 84 | n => n, fun | n => n⟩
theorem Tryd.lays264 : Go.Proofs.Lays.n264 Tryd.prog Tryd.lays264_ren := {
  mixed := by kernel_rfl
  f264 := Tryd.func65.trans (congrArg some (by kernel_rfl))
  t46 := Tryd.underlying84
  a46 := Tryd.isAgg84
  z46 := Tryd.sizeOf84
  v46 := Tryd.zeroValue84
  t53 := Tryd.underlying107
  a53 := Tryd.isAgg107
  z53 := Tryd.sizeOf107
  v53 := Tryd.zeroValue107 }
open Go.RowKit Go.Lib in
theorem Tryd.bits_Mul64 (x y : Nat) (hx : x < 18446744073709551616) (hy : y < 18446744073709551616) (w : World) :
    Calls Tryd.prog 65 #[.int .u64 x, .int .u64 y] w fun e w' => e = .returned (.tuple #[.int .u64 ((x * y / 18446744073709551616 : Nat) : Int), .int .u64 ((x * y % 18446744073709551616 : Nat) : Int)]) ∧ w' = w := Any.bits_Mul64 Tryd.lays264 x y hx hy w
def Tryd.lays212_ren : Go.Shelf.Ren := ⟨fun | 212 => 41 | 263 => 64 | 264 => 65 | n => n, fun | 46 => 84 | 51 => 104 | 146 => 105 | 53 => 107 | 148 => 108 | n => n, fun | n => n⟩
theorem Tryd.lays212 : Go.Proofs.Lays.n212 Tryd.prog Tryd.lays212_ren := {
  mixed := by kernel_rfl
  f212 := Tryd.func41.trans (congrArg some (by kernel_rfl))
  f263 := Tryd.func64.trans (congrArg some (by kernel_rfl))
  f264 := Tryd.func65.trans (congrArg some (by kernel_rfl))
  t46 := Tryd.underlying84
  a46 := Tryd.isAgg84
  z46 := Tryd.sizeOf84
  v46 := Tryd.zeroValue84
  t51 := Tryd.underlying104
  a51 := Tryd.isAgg104
  z51 := Tryd.sizeOf104
  v51 := Tryd.zeroValue104
  t53 := Tryd.underlying107
  a53 := Tryd.isAgg107
  z53 := Tryd.sizeOf107
  v53 := Tryd.zeroValue107
  t146 := Tryd.underlying105
  a146 := Tryd.isAgg105
  z146 := Tryd.sizeOf105
  v146 := Tryd.zeroValue105
  t148 := Tryd.underlying108
  a148 := Tryd.isAgg108
  z148 := Tryd.sizeOf108
  v148 := Tryd.zeroValue108 }
open Go.RowKit Go.Lib in
/-- math/bits.Mul: "Mul returns the full-width product of x and y": on a machine of 64 bits: Mul64's. (LAID: no walk: one application.) -/
theorem Tryd.bits_Mul (x y : Nat) (hx : x < 18446744073709551616) (hy : y < 18446744073709551616) (w : World) :
    Calls Tryd.prog 41 #[.int .u64 x, .int .u64 y] w fun e w' => e = .returned (.tuple #[.int .u64 ((x * y / 18446744073709551616 : Nat) : Int), .int .u64 ((x * y % 18446744073709551616 : Nat) : Int)]) ∧ w' = w := Any.bits_Mul Tryd.lays212 x y hx hy w
def Tryd.lays105_ren : Go.Shelf.Ren := ⟨fun | 105 => 21 | 212 => 41 | 99 => 27 | 165 => 42 | 166 => 26 | 170 => 31 | 169 => 32 | 263 => 64 | 264 => 65 | 206 => 53 | 240 => 52 | 241 => 66 | 276 => 71 | 277 => 92 | n => n, fun | 9 => 9 | 3 => 3 | 4 => 4 | 20 => 20 | 0 => 0 | 46 => 84 | 109 => 85 | 5 => 5 | 72 => 54 | 76 => 58 | 51 => 104 | 146 => 105 | 53 => 107 | 148 => 108 | 70 => 51 | 37 => 52 | 75 => 57 | 127 => 97 | 164 => 113 | 80 => 65 | n => n, fun | n => n⟩
theorem Tryd.lays105 : Go.Proofs.Lays.n105 Tryd.prog Tryd.lays105_ren := {
  mixed := by kernel_rfl
  f99 := Tryd.func27.trans (congrArg some (by kernel_rfl))
  f105 := Tryd.func21.trans (congrArg some (by kernel_rfl))
  f165 := Tryd.func42.trans (congrArg some (by kernel_rfl))
  f166 := Tryd.func26.trans (congrArg some (by kernel_rfl))
  f169 := Tryd.func32.trans (congrArg some (by kernel_rfl))
  f170 := Tryd.func31.trans (congrArg some (by kernel_rfl))
  f206 := Tryd.func53.trans (congrArg some (by kernel_rfl))
  f212 := Tryd.func41.trans (congrArg some (by kernel_rfl))
  f240 := Tryd.func52.trans (congrArg some (by kernel_rfl))
  f241 := Tryd.func66.trans (congrArg some (by kernel_rfl))
  f263 := Tryd.func64.trans (congrArg some (by kernel_rfl))
  f264 := Tryd.func65.trans (congrArg some (by kernel_rfl))
  f276 := Tryd.func71.trans (congrArg some (by kernel_rfl))
  f277 := Tryd.func92.trans (congrArg some (by kernel_rfl))
  t0 := Tryd.underlying0
  a0 := Tryd.isAgg0
  z0 := Tryd.sizeOf0
  v0 := Tryd.zeroValue0
  t3 := Tryd.underlying3
  a3 := Tryd.isAgg3
  z3 := Tryd.sizeOf3
  v3 := Tryd.zeroValue3
  t4 := Tryd.underlying4
  a4 := Tryd.isAgg4
  z4 := Tryd.sizeOf4
  v4 := Tryd.zeroValue4
  t5 := Tryd.underlying5
  a5 := Tryd.isAgg5
  z5 := Tryd.sizeOf5
  v5 := Tryd.zeroValue5
  t9 := Tryd.underlying9
  a9 := Tryd.isAgg9
  z9 := Tryd.sizeOf9
  v9 := Tryd.zeroValue9
  t20 := Tryd.underlying20
  a20 := Tryd.isAgg20
  z20 := Tryd.sizeOf20
  v20 := Tryd.zeroValue20
  t37 := Tryd.underlying52
  a37 := Tryd.isAgg52
  z37 := Tryd.sizeOf52
  v37 := Tryd.zeroValue52
  t46 := Tryd.underlying84
  a46 := Tryd.isAgg84
  z46 := Tryd.sizeOf84
  v46 := Tryd.zeroValue84
  t51 := Tryd.underlying104
  a51 := Tryd.isAgg104
  z51 := Tryd.sizeOf104
  v51 := Tryd.zeroValue104
  t53 := Tryd.underlying107
  a53 := Tryd.isAgg107
  z53 := Tryd.sizeOf107
  v53 := Tryd.zeroValue107
  t70 := Tryd.underlying51
  a70 := Tryd.isAgg51
  z70 := Tryd.sizeOf51
  v70 := Tryd.zeroValue51
  t72 := Tryd.underlying54
  a72 := Tryd.isAgg54
  z72 := Tryd.sizeOf54
  v72 := Tryd.zeroValue54
  t75 := Tryd.underlying57
  a75 := Tryd.isAgg57
  z75 := Tryd.sizeOf57
  v75 := Tryd.zeroValue57
  t76 := Tryd.underlying58
  a76 := Tryd.isAgg58
  z76 := Tryd.sizeOf58
  v76 := Tryd.zeroValue58
  t109 := Tryd.underlying85
  a109 := Tryd.isAgg85
  z109 := Tryd.sizeOf85
  v109 := Tryd.zeroValue85
  t127 := Tryd.underlying97
  a127 := Tryd.isAgg97
  z127 := Tryd.sizeOf97
  v127 := Tryd.zeroValue97
  t146 := Tryd.underlying105
  a146 := Tryd.isAgg105
  z146 := Tryd.sizeOf105
  v146 := Tryd.zeroValue105
  t148 := Tryd.underlying108
  a148 := Tryd.isAgg108
  z148 := Tryd.sizeOf108
  v148 := Tryd.zeroValue108
  t164 := Tryd.underlying113
  a164 := Tryd.isAgg113
  z164 := Tryd.sizeOf113
  v164 := Tryd.zeroValue113 }
theorem Tryd.Builder_Extra_105 : Builder.Extra Tryd.prog Tryd.lays105_ren := {
  sizeBuilder := by kernel_rfl
  liesBuilder := by kernel_rfl
  t5 := Tryd.underlying5
  a5 := Tryd.isAgg5
  z5 := Tryd.sizeOf5
  v5 := Tryd.zeroValue5
  infoByte := by kernel_rfl
  cellsByte := by kernel_rfl
  sizeByte := by kernel_rfl
  neB5 := by decide }
open Go.RowKit Go.Lib in
/-- THE MAIN CASE: at least two copies of a string that is not empty. (LAID: no walk: one application.) -/
theorem Tryd.strings_Repeat_main (s : ByteArray) (c : Nat) (w : World) (hc2 : 2 ≤ c) (hc : c ≤ 9223372036854775807) (hlen : s.size * c ≤ 140737488355328) (h0 : 0 < s.size) :
    Calls Tryd.prog 21 #[.string s, .int .i64 c] w fun e w' => e = .returned (.string ⟨(Lib.repeatL s.data.toList c).toArray⟩) ∧ Below w.heap.size w w' := Any.strings_Repeat_main Tryd.lays105 Tryd.Builder_Extra_105 s c w hc2 hc hlen h0
open Go.RowKit Go.Lib in
theorem Tryd.strings_Repeat_zero (s : ByteArray) (w : World) :
    Calls Tryd.prog 21 #[.string s, .int .i64 0] w fun e w' => e = .returned (.string ⟨#[]⟩) ∧ w' = w := Any.strings_Repeat_zero Tryd.lays105 s w
open Go.RowKit Go.Lib in
theorem Tryd.strings_Repeat_one (s : ByteArray) (w : World) :
    Calls Tryd.prog 21 #[.string s, .int .i64 1] w fun e w' => e = .returned (.string s) ∧ w' = w := Any.strings_Repeat_one Tryd.lays105 s w
open Go.RowKit Go.Lib in
/-- Copies of the empty string. (LAID: no walk: one application.) -/
theorem Tryd.strings_Repeat_empty (s : ByteArray) (c : Nat) (w : World) (hc2 : 2 ≤ c) (hc : c ≤ 9223372036854775807) (h0 : s.size = 0) :
    Calls Tryd.prog 21 #[.string s, .int .i64 c] w fun e w' => e = .returned (.string ⟨#[]⟩) ∧ w' = w := Any.strings_Repeat_empty Tryd.lays105 s c w hc2 hc h0
open Go.RowKit Go.Lib in
/-- count < 0: "It panics if count is negative". (LAID: no walk: one application.) -/
theorem Tryd.strings_Repeat_negative (s : ByteArray) (c : Int) (w : World) (hc : c < 0) :
    Calls Tryd.prog 21 #[.string s, .int .i64 c] w fun e w' => e = .panicked [{ v := repeatPanic Tryd.lays105_ren "strings: negative Repeat count", recovered := false }] ∧ w' = w := Any.strings_Repeat_negative Tryd.lays105 s c w hc
open Go.RowKit Go.Lib in
/-- len(s) * count is no int: ".. or if the result of (len(s) * count) overflows". (LAID: no walk: one application.) -/
theorem Tryd.strings_Repeat_overflow (s : ByteArray) (c : Nat) (w : World) (hc : c ≤ 9223372036854775807) (hs : s.size ≤ 9223372036854775807) (hbig : 9223372036854775807 < s.size * c) :
    Calls Tryd.prog 21 #[.string s, .int .i64 c] w fun e w' => e = .panicked [{ v := repeatPanic Tryd.lays105_ren "strings: Repeat output length overflow", recovered := false }] ∧ w' = w := Any.strings_Repeat_overflow Tryd.lays105 s c w hc hs hbig
open Go.RowKit Go.Lib in
/-- **strings.Repeat: count ≥ 0, the result within one allocation: count copies of s.** (LAID: no walk: one application.) -/
theorem Tryd.strings_Repeat (s : ByteArray) (c : Nat) (w : World) (hc : c ≤ 9223372036854775807) (hlen : s.size * c ≤ 140737488355328) :
    Calls Tryd.prog 21 #[.string s, .int .i64 c] w fun e w' => e = .returned (.string ⟨(Lib.repeatL s.data.toList c).toArray⟩) ∧ Below w.heap.size w w' := Any.strings_Repeat Tryd.lays105 Tryd.Builder_Extra_105 s c w hc hlen
def Tryd.lays260_ren : Go.Shelf.Ren := ⟨fun | 260 => 81 | n => n, fun | 9 => 9 | 21 => 21 | 3 => 3 | 4 => 4 | 5 => 5 | 119 => 129 | 0 => 0 | 46 => 84 | 139 => 132 | 138 => 131 | n => n, fun | 3 => 1 | 4 => 2 | n => n⟩
theorem Tryd.lays260 : Go.Proofs.Lays.n260 Tryd.prog Tryd.lays260_ren := {
  mixed := by kernel_rfl
  f260 := Tryd.func81.trans (congrArg some (by kernel_rfl))
  t0 := Tryd.underlying0
  a0 := Tryd.isAgg0
  z0 := Tryd.sizeOf0
  v0 := Tryd.zeroValue0
  t3 := Tryd.underlying3
  a3 := Tryd.isAgg3
  z3 := Tryd.sizeOf3
  v3 := Tryd.zeroValue3
  t4 := Tryd.underlying4
  a4 := Tryd.isAgg4
  z4 := Tryd.sizeOf4
  v4 := Tryd.zeroValue4
  t5 := Tryd.underlying5
  a5 := Tryd.isAgg5
  z5 := Tryd.sizeOf5
  v5 := Tryd.zeroValue5
  t9 := Tryd.underlying9
  a9 := Tryd.isAgg9
  z9 := Tryd.sizeOf9
  v9 := Tryd.zeroValue9
  t21 := Tryd.underlying21
  a21 := Tryd.isAgg21
  z21 := Tryd.sizeOf21
  v21 := Tryd.zeroValue21
  t46 := Tryd.underlying84
  a46 := Tryd.isAgg84
  z46 := Tryd.sizeOf84
  v46 := Tryd.zeroValue84
  t119 := Tryd.underlying129
  a119 := Tryd.isAgg129
  z119 := Tryd.sizeOf129
  t138 := Tryd.underlying131
  a138 := Tryd.isAgg131
  z138 := Tryd.sizeOf131
  v138 := Tryd.zeroValue131
  t139 := Tryd.underlying132
  a139 := Tryd.isAgg132
  z139 := Tryd.sizeOf132
  v139 := Tryd.zeroValue132
  g3 := by kernel_rfl
  g4 := by kernel_rfl }
open Go.RowKit Go.Lib in
theorem Tryd.utf8_decodeRuneInStringSlow (s : ByteArray) (w : World) (hT : Lib.Utf8Tabs 1 2 w) :
    Calls Tryd.prog 81 #[.string s] w fun e w' => e = .returned (.tuple #[.int .i32 (Lib.decodeGo s).1, .int .i64 (Lib.decodeGo s).2]) ∧ Below w.heap.size w w' := Any.utf8_decodeRuneInStringSlow Tryd.lays260 s w hT
open Go.RowKit Go.Lib in
/-- **unicode/utf8.DecodeRuneInString AT EVERY STRING.** (LAID: no walk: one application.) -/
theorem Tryd.utf8_DecodeRuneInString (s : ByteArray) (w : World) (hT : Lib.Utf8Tabs 1 2 w) :
    Calls Tryd.prog 58 #[.string s] w fun e w' => e = .returned (.tuple #[.int .i32 (Lib.decodeGo s).1, .int .i64 (Lib.decodeGo s).2]) ∧ Below w.heap.size w w' := Any.utf8_DecodeRuneInString Tryd.lays197 s w hT
end Go.Proofs

/- Contracts of the library's, over byte lists. -/
set_option linter.unusedVariables false
namespace Go.Proofs.YtoabcmhiaknjiaaDoor
open Go.Hw Go.RowKit
section
variable {H : Hp} {K : Ending → Hp → Prop}
theorem BsizeLt {l : List UInt8} (h : l.length < 4294967281) : (B l).size < 4294967281 := by rw [B_size]; exact h
theorem indexByte_c (s : List UInt8) (c : UInt8) (h : K (.returned (.int .i64 (Lib.indexByte s c))) H) : HCall Tryd.prog 25 #[.string (B s), .int .u8 c.toNat] H K :=
  HCall.of_same (fun w _ => Tryd.strings_IndexByte (B s) c.toNat w) (by rw [B_list]; simpa using h)
theorem hasPrefix_c (s p : List UInt8) (h : K (.returned (.bool (Lib.hasPrefix s p))) H) : HCall Tryd.prog 27 #[.string (B s), .string (B p)] H K :=
  HCall.of_same (fun w _ => Tryd.strings_HasPrefix (B s) (B p) w) (by rw [B_list, B_list]; exact h)
theorem trimSuffix_c (s p : List UInt8) (hs : s.length ≤ 9223372036854775807) (h : K (.returned (.string (B (Lib.trimSuffix s p)))) H) : HCall Tryd.prog 38 #[.string (B s), .string (B p)] H K :=
  HCall.of_same (fun w _ => Tryd.strings_TrimSuffix (B s) (B p) w (by rw [B_size]; exact hs)) (by rw [B_list, B_list]; exact h)
theorem contains_c (s p : List UInt8) (hs : s.length < 4294967281) (g : G0 H) (h : K (.returned (.bool (Lib.contains s p))) H) : HCall Tryd.prog 18 #[.string (B s), .string (B p)] H K := by
  obtain ⟨m, hm⟩ := g
  exact HCall.of_same (fun w hw => Tryd.strings_Contains (B s) (B p) m w (BsizeLt hs) (by rw [cellH_eq, hw]; exact hm)) (by rw [B_list, B_list]; exact h)
theorem cut_c (s p : List UInt8) (hs : s.length < 4294967281) (g : G0 H) (h : K (.returned (.tuple #[.string (B (Lib.cut s p).1), .string (B (Lib.cut s p).2.1), .bool (Lib.cut s p).2.2])) H) : HCall Tryd.prog 29 #[.string (B s), .string (B p)] H K := by
  obtain ⟨m, hm⟩ := g
  exact HCall.of_drew (fun w hw => Tryd.strings_Cut (B s) (B p) m w (BsizeLt hs) (by rw [cellH_eq, hw]; exact hm)) (by rw [B_list, B_list]; exact h)
theorem countOne_c (s : List UInt8) (c : UInt8) (h : K (.returned (.int .i64 (s.count c))) H) : HCall Tryd.prog 22 #[.string (B s), .string ⟨#[c]⟩] H K :=
  HCall.of_same (fun w _ => Tryd.strings_Count_one (B s) c w) (by rw [B_list]; exact h)
theorem repeat_c (s : List UInt8) (c : Nat) (hc : c ≤ 9223372036854775807) (hl : s.length * c ≤ 140737488355328) (h : ∀ H', Ext H H' → K (.returned (.string (B (Lib.repeatL s c)))) H') : HCall Tryd.prog 21 #[.string (B s), .int .i64 c] H K :=
  HCall.of_below (fun w _ => Tryd.strings_Repeat (B s) c w hc (by rw [B_size]; exact hl)) (fun H' e => by rw [B_list]; exact h H' e)
theorem replaceAll_c (s old new : List UInt8) (hs : s.length < 4294967281) (g : G0 H) (h1 : 1 ≤ old.length) (hl : s.length + Lib.count s old * new.length ≤ 140737488355328) (h : ∀ H', Ext H H' → K (.returned (.string (B (Lib.replaceAll s old new)))) H') :
    HCall Tryd.prog 17 #[.string (B s), .string (B old), .string (B new)] H K := by
  obtain ⟨m, hm⟩ := g
  have e : Lib.countB (B s) (B old) = Lib.count s old := by unfold Lib.countB; rw [B_list, B_list]
  exact HCall.of_below (fun w hw => Tryd.strings_ReplaceAll (B s) (B old) (B new) m w (BsizeLt hs) (by rw [cellH_eq, hw]; exact hm) (by rw [B_size]; exact h1) (by rw [B_size, B_size, e]; exact hl)) (fun H' e => by rw [B_list, B_list, B_list]; exact h H' e)
theorem split_c (s sep : List UInt8) (hs : s.length < 4294967281) (g : G0 H) (h1 : 1 ≤ sep.length)
    (h : K (.returned (.slice (some ⟨H.size, 0, none⟩) (Lib.count s sep + 1) (Lib.count s sep + 1))) (H.push (.cells ((Lib.split s sep).map fun l => Value.string (B l)).toArray 9))) :
    HCall Tryd.prog 93 #[.string (B s), .string (B sep)] H K := by
  obtain ⟨m, hm⟩ := g
  have e : Lib.countB (B s) (B sep) = Lib.count s sep := by unfold Lib.countB; rw [B_list, B_list]
  intro w hw
  refine (Tryd.strings_Split (B s) (B sep) m w (BsizeLt hs) (by rw [cellH_eq, hw]; exact hm) (by rw [B_size]; exact h1)).mono ?_
  rintro e' w' ⟨rfl, rfl⟩
  rw [e]
  refine ⟨EnvEq.push w _, ?_⟩
  have e2 : (Lib.splitB (B sep) 0 (Lib.count s sep) (B s)).map Value.string = (Lib.split s sep).map fun l => Value.string (B l) := by
    have := Lib.splitB_data (B sep) 0 (Lib.count s sep) (B s)
    rw [B_list, B_list] at this
    unfold Lib.split
    rw [← this, List.map_map]
    refine List.map_congr_left fun x _ => ?_
    simp only [Function.comp, B_of]
  rw [e2]
  show K _ (w.heap.push _)
  rw [hw]
  exact h
end
end Go.Proofs.YtoabcmhiaknjiaaDoor

/- What the functions of the package dsname compute that the job texts need. -/
set_option linter.unusedVariables false
namespace Go.Proofs.YtoabcmhiaknjiaaDoor
open Go.Hw

def upperF (c : UInt8) : Bool := decide ((65 : Int) ≤ c.toNat) && decide ((c.toNat : Int) ≤ 90)
def digitF (c : UInt8) : Bool := decide ((48 : Int) ≤ c.toNat) && decide ((c.toNat : Int) ≤ 57)
def plainF (c : UInt8) : Bool := upperF c || digitF c
def qualF (l : List UInt8) : Bool :=
  match l with
  | [] => false
  | c :: r => decide (r.length < 8) && upperF c && r.all plainF
def validF (l : List UInt8) : Bool := decide (1 ≤ l.length) && decide (l.length ≤ 31) && (Lib.split l [46]).all qualF
def symF (l : List UInt8) : Bool := validF l && !Lib.contains l [46]

end Go.Proofs.YtoabcmhiaknjiaaDoor

/- What Replace computes. -/
set_option linter.unusedVariables false
namespace Go.Proofs.YtoabcmhiaknjiaaDoor
open Go.Hw

def notAmp (b : UInt8) : Bool := b != 38

/-- The line with its symbols replaced, or the error; the number bounds the steps. -/
def replT (sym : List UInt8 → Option (List UInt8)) : Nat → List UInt8 → List UInt8 → Except Int (List UInt8)
  | 0, _, acc => .ok acc
  | n + 1, l, acc =>
    if l.dropWhile notAmp = [] then .ok (acc ++ l.takeWhile notAmp)
    else if Lib.hasPrefix (l.dropWhile notAmp) [38, 38] = true then replT sym n ((l.dropWhile notAmp).drop 2) (acc ++ l.takeWhile notAmp ++ [38])
    else if (!(Lib.cut ((l.dropWhile notAmp).drop 1) [59]).2.2 || !symF (Lib.cut ((l.dropWhile notAmp).drop 1) [59]).1) = true then .error 3
    else match sym (Lib.cut ((l.dropWhile notAmp).drop 1) [59]).1 with
      | none => .error 4
      | some v => replT sym n (Lib.cut ((l.dropWhile notAmp).drop 1) [59]).2.1 (acc ++ l.takeWhile notAmp ++ v)

/-- What Replace returns. -/
def replR (sym : List UInt8 → Option (List UInt8)) (l : List UInt8) : List UInt8 × Int :=
  match replT sym l.length l [] with
  | .ok s => if 1000 < s.length then ([], 8) else (s, 0)
  | .error e => ([], e)

theorem cut_len (s p : List UInt8) : (Lib.cut s p).2.1.length ≤ s.length ∧ (Lib.cut s p).1.length ≤ s.length := by
  unfold Lib.cut
  split
  · simp; omega
  · simp

theorem replT_nil (sym : List UInt8 → Option (List UInt8)) (n : Nat) (acc : List UInt8) : replT sym n [] acc = .ok acc := by
  cases n with
  | zero => rfl
  | succ n => unfold replT; simp

theorem indexByte_amp : ∀ (l : List UInt8), (Lib.indexByte l 38 = -1 ∧ l.takeWhile notAmp = l ∧ l.dropWhile notAmp = []) ∨ (Lib.indexByte l 38 = ((l.takeWhile notAmp).length : Int) ∧ l.dropWhile notAmp ≠ [] ∧ (l.dropWhile notAmp).headD 0 = 38)
  | [] => .inl ⟨rfl, rfl, rfl⟩
  | b :: r => by
    unfold Lib.indexByte
    by_cases hb : b = 38
    · right
      subst hb
      refine ⟨?_, ?_, ?_⟩
      · simp [notAmp]
      · simp [notAmp]
      · rfl
    · have e : (b == 38) = false := by simpa using hb
      have e2 : notAmp b = true := by unfold notAmp; simp [e, bne]
      rw [e, List.takeWhile_cons_of_pos e2, List.dropWhile_cons_of_pos e2]
      simp only [Bool.false_eq_true, if_false]
      rcases indexByte_amp r with ⟨h1, h2, h3⟩ | ⟨h1, h2, h3⟩
      · left
        rw [h1, h2]
        exact ⟨by simp, rfl, h3⟩
      · right
        have hne : ¬ (Lib.indexByte r 38 == -1) = true := by rw [h1]; simp
        rw [if_neg hne, h1]
        exact ⟨by simp, h2, h3⟩

end Go.Proofs.YtoabcmhiaknjiaaDoor

/- What the functions of jobtext compute: lines, rows, statements. -/
set_option linter.unusedVariables false
namespace Go.Proofs.YtoabcmhiaknjiaaDoor
open Go.Hw

def notNl (b : UInt8) : Bool := b != 10
/-- The first line with its end, and what follows. -/
def lineHd (l : List UInt8) : List UInt8 := l.takeWhile notNl ++ (l.dropWhile notNl).take 1
def lineTl (l : List UInt8) : List UInt8 := (l.dropWhile notNl).drop 1

theorem lineTl_len {l : List UInt8} (h : l ≠ []) : (lineTl l).length < l.length := by
  unfold lineTl
  have h1 := length_dropWhile_le notNl l
  have h2 := List.length_pos_iff.2 h
  by_cases h3 : l.dropWhile notNl = []
  · simp [h3]; exact h2
  · have := List.length_pos_iff.2 h3
    simp; omega

/-- The lines' texts; the number bounds the steps. -/
def linesT : Nat → List UInt8 → List (List UInt8)
  | 0, _ => []
  | n + 1, l => if l = [] then [] else l.takeWhile notNl :: linesT n (lineTl l)
def linesF (l : List UInt8) : List (List UInt8) := linesT l.length l

theorem linesT_eq : ∀ (n m : Nat) (l : List UInt8), l.length ≤ n → l.length ≤ m → linesT n l = linesT m l
  | 0, m, l, h, _ => by
    have : l = [] := List.length_eq_zero_iff.1 (by omega)
    subst this
    cases m <;> simp [linesT]
  | n + 1, 0, l, _, h => by
    have : l = [] := List.length_eq_zero_iff.1 (by omega)
    subst this
    simp [linesT]
  | n + 1, m + 1, l, h1, h2 => by
    simp only [linesT]
    split
    · rfl
    · rename_i hl
      have := lineTl_len hl
      rw [linesT_eq n m _ (by omega) (by omega)]
theorem linesF_nil : linesF [] = [] := rfl
theorem linesF_cons {l : List UInt8} (h : l ≠ []) : linesF l = l.takeWhile notNl :: linesF (lineTl l) := by
  unfold linesF
  have hl := lineTl_len h
  obtain ⟨n, hn⟩ : ∃ n, l.length = n + 1 := ⟨l.length - 1, by omega⟩
  rw [hn]
  simp only [linesT, h, if_false]
  rw [linesT_eq n (lineTl l).length _ (by omega) (Nat.le_refl _)]

abbrev Row := Nat × List UInt8
def rowsFrom : Nat → List (List UInt8) → List Row
  | _, [] => []
  | k, t :: r => (k + 1, t) :: rowsFrom (k + 1) r
theorem rowsFrom_append : ∀ (k : Nat) (a b : List (List UInt8)), rowsFrom k (a ++ b) = rowsFrom k a ++ rowsFrom (k + a.length) b
  | k, [], b => rfl
  | k, t :: r, b => by
    show (k + 1, t) :: rowsFrom (k + 1) (r ++ b) = _
    rw [rowsFrom_append (k + 1) r b]
    simp [rowsFrom, Nat.add_assoc, Nat.add_comm 1]
theorem rowsFrom_length : ∀ (k : Nat) (a : List (List UInt8)), (rowsFrom k a).length = a.length
  | k, [] => rfl
  | k, t :: r => by simp [rowsFrom, rowsFrom_length (k + 1) r]

def rowC (r : Row) : List Value := [.int .i64 r.1, .string (B r.2)]
def rowsC (l : List Row) : List Value := l.flatMap rowC
theorem rowsC_length (l : List Row) : (rowsC l).length = l.length * 2 := by
  induction l with
  | nil => rfl
  | cons a r ih => simp only [rowsC, List.flatMap_cons, List.length_append, List.length_cons] at ih ⊢; simp [rowC, ih]; omega
theorem rowsC_append (a b : List Row) : rowsC (a ++ b) = rowsC a ++ rowsC b := by simp [rowsC]
theorem rowsC_cons (a : Row) (b : List Row) : rowsC (a :: b) = rowC a ++ rowsC b := rfl

/-- A statement. -/
structure Stm where
  line : Nat
  call : List UInt8
  words : List (List UInt8)
  data : List (List UInt8)

/-- What belongs to a dd: k: the number of its own line. -/
def inlineT (k : Nat) : List Row → List (List UInt8) → Except (Nat × Int) (List (List UInt8))
  | [], _ => .error (k, 3)
  | (m, t) :: r, acc => if t = [47, 42] then .ok acc else if 64 ≤ acc.length ∨ 200 < t.length then .error (m, 8) else inlineT k r (acc ++ [t])

theorem inlineT_len (k : Nat) : ∀ (r : List Row) (acc l : List (List UInt8)), acc.length ≤ 64 → inlineT k r acc = .ok l → l.length ≤ 64
  | [], acc, l, _, h => by simp [inlineT] at h
  | (m, t) :: r, acc, l, ha, h => by
    unfold inlineT at h
    split at h
    · cases h; exact ha
    · split at h
      · cases h
      · rename_i hn
        exact inlineT_len k r _ _ (by simp; omega) h
theorem inlineT_err (k : Nat) : ∀ (r : List Row) (acc : List (List UInt8)) (m : Nat) (c : Int), inlineT k r acc = .error (m, c) → c ≠ 0
  | [], acc, m, c, h => by simp [inlineT] at h; omega
  | (x, t) :: r, acc, m, c, h => by
    unfold inlineT at h
    split at h
    · cases h
    · split at h
      · cases h; decide
      · exact inlineT_err k r _ _ _ h

/-- What a handler returns: how many further lines; the error's line and code (0: none). -/
structure HR where
  n : Nat
  line : Nat
  code : Int

def stmF (out : List Stm) (call : List UInt8) (k : Nat) (rest : List Row) (words : List (List UInt8)) : List Stm × HR :=
  if 400 ≤ out.length then (out, ⟨0, k, 8⟩)
  else if words[0]? = some [100, 100] ∧ words.length = 3 ∧ words[2]? = some [105, 110, 108, 105, 110, 101] then
    match inlineT k rest [] with
    | .error (m, c) => (out, ⟨0, m, c⟩)
    | .ok l => (out ++ [⟨k, call, words, l⟩], ⟨l.length + 1, 0, 0⟩)
  else (out ++ [⟨k, call, words, []⟩], ⟨0, 0, 0⟩)

/-- A line's words; none: it does nothing. -/
def lineW (sym : List UInt8 → Option (List UInt8)) (t : List UInt8) : Except Int (List (List UInt8)) :=
  if t.dropWhile blank = [] ∨ (t.dropWhile blank).head? = some 35 then .ok []
  else if (replR sym t).2 = 0 then
    match scanF (replR sym t).1 with
    | none => .error 3
    | some ws => .ok ws
  else .error (replR sym t).2

theorem scanT_len : ∀ (n : Nat) (l : List UInt8) (acc ws : List (List UInt8)), l.length ≤ n → scanT l acc = some ws → ws.length ≤ acc.length + l.length
  | n, l, acc, ws, hn, h => by
    by_cases hl : l = []
    · subst hl
      rw [scanT_nil] at h; cases h; simp
    · by_cases h1 : (firstV l).2.2 = true
      · by_cases h2 : (firstV l).2.1 ≠ [] ∧ (firstV l).2.1.headD 0 ≠ 32
        · rw [scanT_bad acc hl (.inr h2)] at h; cases h
        · rw [scanT_step acc hl h1 h2] at h
          have hlt : (firstV l).2.1.length < l.length := firstV_len (w := (firstV l).1) (by rw [← h1])
          have hd := length_dropWhile_le blank (firstV l).2.1
          match n, hn with
          | 0, hn => omega
          | n + 1, hn =>
            have := scanT_len n _ _ _ (by omega) h
            simp only [List.length_append, List.length_cons, List.length_nil] at this
            omega
      · rw [scanT_bad acc hl (.inl (by simpa using h1))] at h; cases h
theorem scanF_len {l : List UInt8} {ws : List (List UInt8)} (h : scanF l = some ws) : ws.length ≤ l.length := by
  have := scanT_len _ _ _ _ (Nat.le_refl _) h
  have hd := length_dropWhile_le blank l
  simp at this
  omega

abbrev Sym := List (List UInt8 × List UInt8)
/-- What a reader knows. -/
structure RS where
  syms : Sym
  procs : List (List UInt8 × Sym × List Row)
  out : List Stm

/-- What a line comes to; hf: what the handlers do; known: whether there is one. -/
def lineR (s : RS) (k : Nat) (t : List UInt8) (known : List UInt8 → Bool) (hf : List (List UInt8) → RS × HR) : RS × HR :=
  match lineW (s.syms.lookup ·) t with
  | .error e => (s, ⟨0, k, e⟩)
  | .ok [] => (s, ⟨0, 0, 0⟩)
  | .ok (w :: ws) => if known w = true then hf (w :: ws) else (s, ⟨0, k, 3⟩)

/-- Reading rows: LF: what a line comes to. -/
def readT (LF : RS → Row → List Row → RS × HR) : Nat → RS → List Row → RS × Nat × Int
  | 0, s, _ => (s, 0, 0)
  | _ + 1, s, [] => (s, 0, 0)
  | n + 1, s, x :: rest => if (LF s x rest).2.code = 0 then readT LF n (LF s x rest).1 (rest.drop (LF s x rest).2.n) else ((LF s x rest).1, (LF s x rest).2.line, (LF s x rest).2.code)

/-- What Expand returns. -/
def expandF (LF : RS → Row → List Row → RS × HR) (t : List UInt8) : List Stm × Nat × Int :=
  if 16384 < t.length ∨ 512 < (linesF t).length then ([], 0, 8)
  else if (readT LF (linesF t).length ⟨[], [], []⟩ (rowsFrom 0 (linesF t))).2.2 = 0 then ((readT LF (linesF t).length ⟨[], [], []⟩ (rowsFrom 0 (linesF t))).1.out, 0, 0)
  else ([], (readT LF (linesF t).length ⟨[], [], []⟩ (rowsFrom 0 (linesF t))).2.1, (readT LF (linesF t).length ⟨[], [], []⟩ (rowsFrom 0 (linesF t))).2.2)

end Go.Proofs.YtoabcmhiaknjiaaDoor
