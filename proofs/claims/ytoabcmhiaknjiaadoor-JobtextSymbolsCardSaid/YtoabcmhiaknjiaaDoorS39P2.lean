/- Contracts and laws that the claim leans on, part 2. -/
import Derived.Test.YtoabcmhiaknjiaaDoorS39P1
import Derived.Lib.UnsafeStr
import Derived.Below
import Derived.Carry
import Derived.ChangeMaps5
import Derived.ChangeShapes
import Derived.Deep.Quiet
import Derived.Handed
import Derived.IntWalk
import Derived.JoinedOf
import Derived.KernelRfl
import Derived.LaidLaws
import Derived.Laws.Sem
import Derived.Lay
import Derived.MakeChecks
import Derived.Maps.StringElems
import Derived.OrdersIn
import Derived.ProofKit
import Derived.RangeFuncCalls
import Derived.RangeFuncLeaves
import Derived.RangeFuncRecord
import Derived.SevenTiedAt
import Derived.Shelf.Bits.Mul64
import Derived.Shelf.LaysM
import Derived.Shelf.Small.Strs
import Derived.Shelf.Small.Utf8
import Derived.Shelf.Strings.AsciiSet
import Derived.Shelf.Strings.Builder1
import Derived.Shelf.Strings.Builder2
import Derived.Shelf.Strings.Builder2Cap
import Derived.Shelf.Strings.BuilderF
import Derived.Shelf.Strings.BuilderK
import Derived.Shelf.Strings.Count
import Derived.Shelf.Strings.Cut
import Derived.Shelf.Strings.Explode
import Derived.Shelf.Strings.IndexAny
import Derived.Shelf.Strings.IndexAnyAll
import Derived.Shelf.Strings.Prefix
import Derived.Shelf.Strings.Repeat
import Derived.Shelf.Strings.Replace
import Derived.Shelf.Strings.RuneCount
import Derived.Shelf.Strings.Runes
import Derived.Shelf.Strings.Search1
import Derived.Shelf.Strings.Search2
import Derived.Shelf.Strings.Search3
import Derived.Shelf.Strings.Shaped
import Derived.Shelf.Strings.Split
import Derived.Shelf.Strings.SplitShaped
import Derived.Shelf.Strings.Trim
import Derived.Shelf.Unicode.Decode
import Derived.Shelf.Unicode.DecodeAny
import Derived.Shelf.Unicode.DecodeSlow
import Derived.Shelf.Utf8.RuneCount
import Derived.Shelf.Vars
import Derived.SliceStrings
import Derived.StillTail
import Derived.Stop.Joined
import Derived.StringKeys
import Derived.Tactics
import Derived.TacticsIn
import Derived.WideKeyElems2
import Derived.Test.YtoabcmhiaknjiaaDoorProg
/- Elements of slices that are read; symbolic conditions. -/
set_option linter.unusedSimpArgs false
set_option linter.unusedVariables false
namespace Go.Hw

theorem cellsH_get {H : Hp} {a : Addr} : ∀ (n i : Nat) {l : List Value}, cellsH H a i n = some l → ∀ j, j < n → ∃ v, l[j]? = some v ∧ cellH H (a.add (i + j)) = some v
  | 0, _, _, _, j, hj => absurd hj (by omega)
  | n + 1, i, l, h, j, hj => by
    unfold cellsH at h
    cases hc : cellH H (a.add i) with
    | none => rw [hc] at h; cases h
    | some v =>
      rw [hc] at h
      simp only at h
      cases hr : cellsH H a (i + 1) n with
      | none => rw [hr] at h; cases h
      | some r =>
        rw [hr] at h
        simp only [Option.map_some, Option.some.injEq] at h
        subst h
        cases j with
        | zero => exact ⟨v, rfl, hc⟩
        | succ j =>
          obtain ⟨u, h1, h2⟩ := cellsH_get n (i + 1) hr j (by omega)
          exact ⟨u, by simpa using h1, by rw [show i + (j + 1) = i + 1 + j by omega]; exact h2⟩

/-- A cell of a slice that is read. -/
theorem src1_cell {H : Hp} {v : Value} {m i : Nat} {l : List Value} (h : Src H 1 v m l) (hv : ∃ a c, v = .slice a m c) (hi : i < m) : ∃ a c u, v = .slice (some a) m c ∧ l[i]? = some u ∧ cellH H (a.add (i * 1)) = some u := by
  obtain ⟨a0, c0, rfl⟩ := hv
  rcases h with ⟨a, c, h1, h2⟩ | ⟨c, h1, h2, _⟩ | ⟨s, h1, _⟩
  · obtain ⟨u, h3, h4⟩ := cellsH_get _ _ h2 i (by omega)
    cases h1
    exact ⟨a, c0, u, rfl, h3, by simpa using h4⟩
  · omega
  · cases h1

/-- Cells of an element of several cells. -/
theorem srcn_cell {H : Hp} {v : Value} {sz m i j : Nat} {l : List Value} (h : Src H sz v m l) (hv : ∃ a c, v = .slice a m c) (hi : i < m) (hj : j < sz) : ∃ a c u, v = .slice (some a) m c ∧ l[i * sz + j]? = some u ∧ cellH H (a.add (i * sz + j)) = some u := by
  obtain ⟨a0, c0, rfl⟩ := hv
  have hlt : i * sz + j < m * sz := by
    have : (i + 1) * sz ≤ m * sz := Nat.mul_le_mul_right _ hi
    rw [Nat.succ_mul] at this
    omega
  rcases h with ⟨a, c, h1, h2⟩ | ⟨c, h1, h2, _⟩ | ⟨s, h1, _⟩
  · obtain ⟨u, h3, h4⟩ := cellsH_get _ _ h2 (i * sz + j) hlt
    cases h1
    exact ⟨a, c0, u, rfl, h3, by simpa using h4⟩
  · omega
  · cases h1

end Go.Hw

/- Maps with string keys. -/
set_option linter.unusedSimpArgs false
set_option linter.unusedVariables false
namespace Go.Hw
open Go.Instr

section
variable {P : Program} {F : Fr} {H : Hp} {K : Value → Hp → Prop} {X : List PanicEntry → Hp → Prop} {KQ : Value → Prop} {d : Option Nat} {ty : TypeId} {g : Option (Nat × Bool)}

theorem binA_cat {t : TypeId} {x y : Operand} {a b : List UInt8} (h : a.length + b.length ≤ 9223372036854775807) : binA P .add t x y (.string (B a)) (.string (B b)) K X H = K (.string (B (a ++ b))) H := by
  rw [binA_sadd, B_size, B_size, B_append]
  have : ((a.length + b.length : Nat) : Int) ≤ IntKind.i64.max := by
    have : IntKind.i64.max = 9223372036854775807 := by decide
    omega
  exact propext ⟨fun h => h.2, fun h => ⟨this, h⟩⟩
def lkpA (P : Program) (t : TypeId) (m k : Value) (ok : Bool) (K : Value → Hp → Prop) (X : List PanicEntry → Hp → Prop) (H : Hp) : Prop := hv P (Instr.lookup t m k ok) K X H
theorem opA_lookup (t : TypeId) (x y : Operand) (ok : Bool) : opA P ⟨d, .lookup t x y ok, ty, g⟩ F H K X = withv F x fun m => withv F y fun k => lkpA P t m k ok K X H := by
  rw [opA_2 rfl (f := fun m k => do pure (.value (← Instr.lookup t m k ok))) fun _ => rfl]
  exact congrArg (withv F x) (funext fun v => congrArg (withv F y) (funext fun j => hv_next _))

def mkmA (P : Program) (t : TypeId) (r : Option Value) (K : Value → Hp → Prop) (X : List PanicEntry → Hp → Prop) (H : Hp) : Prop := hv P (Instr.makeMap t r) K X H

/-- A map's entries: keys and values. -/
def MapO (H : Hp) (r : Nat) (l : List (List UInt8 × Value)) : Prop :=
  ∃ es clk, H[r]? = some (.map es clk) ∧ es.toList.map (fun e => (e.key, e.val)) = l.map fun p => (.string (B p.1), p.2)

theorem MapO.ext {H H' : Hp} {r : Nat} {l : List (List UInt8 × Value)} (h : MapO H r l) (e : Ext H H') : MapO H' r l := by
  obtain ⟨es, clk, h1, h2⟩ := h
  exact ⟨es, clk, e.get h1, h2⟩

theorem BA_beq (a b : List UInt8) : (B a == B b) = (a == b) := by
  show ((B a).data == (B b).data) = (a == b)
  rw [Bool.eq_iff_iff, beq_iff_eq, beq_iff_eq]
  simp [B]

/-- Where a key first stands, and its value. -/
def findM (k : List UInt8) : List (List UInt8 × Value) → Nat → Option (Nat × Value)
  | [], _ => none
  | p :: r, i => if k = p.1 then some (i, p.2) else findM k r (i + 1)

theorem findNow_str (k : List UInt8) : ∀ (es : List MapEntry) (l : List (List UInt8 × Value)) (i : Nat), es.map (fun e => (e.key, e.val)) = l.map (fun p => (.string (B p.1), p.2)) →
    findNow .string (.string (B k)) es i = some (findM k l i)
  | [], [], _, _ => rfl
  | [], p :: r, _, h => by simp at h
  | e :: es, [], _, h => by simp at h
  | e :: es, p :: r, i, h => by
    simp only [List.map_cons, List.cons.injEq, Prod.mk.injEq] at h
    obtain ⟨⟨h1, h2⟩, h3⟩ := h
    unfold findNow findM
    rw [h1]
    simp only [sameNow, BA_beq]
    by_cases hk : k = p.1
    · simp [hk, h2]
    · have : (k == p.1) = false := by simpa using hk
      rw [this, if_neg hk]
      exact findNow_str k es r (i + 1) h3

theorem findM_lookup (k : List UInt8) : ∀ (l : List (List UInt8 × Value)) (i : Nat), (findM k l i).map (·.2) = l.lookup k
  | [], _ => rfl
  | p :: r, i => by
    unfold findM
    rw [List.lookup_cons]
    by_cases hk : k = p.1
    · simp [hk]
    · have : (k == p.1) = false := by simpa using hk
      rw [if_neg hk, this]
      exact findM_lookup k r (i + 1)

theorem findKey_str {kt : TypeId} (hk : P.underlying kt = some .string) (k : List UInt8) {es : List MapEntry} {l : List (List UInt8 × Value)} (h : es.map (fun e => (e.key, e.val)) = l.map fun p => (.string (B p.1), p.2)) {α : Type} {KK : α → Hp → Prop} {XX : Value → Hp → Prop} (f : Option (Nat × Value) → Sem α) :
    hwx P ((findKey kt (.string (B k)) es).bind f) KK XX H = hwx P (f (findM k l 0)) KK XX H := by
  unfold findKey
  show hwx P (((underlying kt).bind _).bind f) _ _ H = _
  rw [hwx_bind, hw_und hk]
  rw [findNow_str k es l 0 h]
  rfl

theorem checkKey_str {kt : TypeId} (hk : P.underlying kt = some .string) (b : Bool) (k : ByteArray) {α : Type} {KK : α → Hp → Prop} {XX : Value → Hp → Prop} (f : Unit → Sem α) :
    hwx P ((checkKey b 10000 kt (.string k)).bind f) KK XX H = hwx P (f ()) KK XX H := by
  show hwx P (((underlying kt).bind _).bind f) _ _ H = _
  rw [hwx_bind, hw_und hk]
  rfl

theorem lkpA_ok {t kt et : TypeId} {z : Value} {sz by_ r : Nat} {k : List UInt8} {l : List (List UInt8 × Value)} (ht : P.underlying t = some (.map kt et)) (hk : P.underlying kt = some .string) (he : TyOK P et (some z) sz by_) (hm : MapO H r l) :
    lkpA P t (.map (some r)) (.string (B k)) true K X H = K (.tuple #[((l.lookup k).getD z), .bool (l.lookup k).isSome]) H := by
  obtain ⟨es, clk, h1, h2⟩ := hm
  unfold lkpA hv Instr.lookup
  show hwx P ((underlying t).bind _) _ _ H = _
  rw [hw_und ht]
  show hwx P (((getObj r).bind _).bind _) _ _ H = _
  rw [hwx_bind, hwx_bind]
  simp only [getObj, hwx, h1, isCells, true_and, Bool.false_eq_true, not_false_eq_true]
  show hwx P ((checkKey _ _ kt _).bind _) _ _ H = _
  rw [checkKey_str hk]
  show hwx P ((findKey kt _ _).bind _) _ _ H = _
  rw [findKey_str hk k h2]
  rw [← findM_lookup k l 0]
  cases hf : findM k l 0 with
  | none =>
    show hwx P ((zeroValue et).bind _) _ _ H = _
    rw [zeroValue_eq he]
    rfl
  | some p => rfl
theorem lkpA_nil {t kt et : TypeId} {z : Value} {sz by_ : Nat} {k : List UInt8} (ht : P.underlying t = some (.map kt et)) (hk : P.underlying kt = some .string) (he : TyOK P et (some z) sz by_) :
    lkpA P t (.map none) (.string (B k)) true K X H = K (.tuple #[z, .bool false]) H := by
  unfold lkpA hv Instr.lookup
  show hwx P ((underlying t).bind _) _ _ H = _
  rw [hw_und ht]
  show hwx P ((checkKey _ _ kt _).bind _) _ _ H = _
  rw [checkKey_str hk]
  show hwx P ((findKey kt _ _).bind _) _ _ H = _
  rw [findKey_str (l := []) hk k rfl]
  show hwx P ((zeroValue et).bind _) _ _ H = _
  rw [zeroValue_eq he]
  rfl
end
end Go.Hw

/- Strings at places that are known: lemmas without side goals, to be handed to the walk. -/
set_option linter.unusedSimpArgs false
set_option linter.unusedVariables false
namespace Go.Hw
section
variable {P : Program} {H : Hp} {K : Value → Hp → Prop} {X : List PanicEntry → Hp → Prop} {KQ : Value → Prop} {t : TypeId} {l : List UInt8} {c : UInt8} {k k2 : IntKind} {i j : Nat}

theorem binQ_cat {x y : Operand} {a b : List UInt8} (h : a.length + b.length ≤ 9223372036854775807) : binQ P .add t x y (.string (B a)) (.string (B b)) KQ H = KQ (.string (B (a ++ b))) := by
  have h1 : binQ P .add t x y (.string (B a)) (.string (B b)) KQ H = qv P (Op.stringOp .add (B a) (B b)) KQ H := (rfl)
  rw [h1]
  unfold Op.stringOp
  have h2 : ¬ (((B a).size + (B b).size : Nat) : Int) > IntKind.i64.max := by
    have : IntKind.i64.max = 9223372036854775807 := by decide
    rw [B_size, B_size]
    omega
  simp only [h2, if_false, B_append]
  exact qv_rd rfl
theorem some_lt {α : Type} {l : List α} {i : Nat} {c : α} (h : l[i]? = some c) : i < l.length := by
  rcases Nat.lt_or_ge i l.length with h1 | h1
  · exact h1
  · rw [List.getElem?_eq_none h1] at h; cases h
theorem getD_some {α : Type} {l : List α} {i : Nat} {c d : α} (h : l[i]? = some c) : l.getD i d = c := by
  rw [List.getD_eq_getElem?_getD, h]; rfl
theorem drop_some {α : Type} {l : List α} {i : Nat} {c : α} (h : l[i]? = some c) : l.drop i = c :: l.drop (i + 1) := by
  have hi := some_lt h
  rw [List.drop_eq_getElem_cons hi]
  rw [List.getElem?_eq_getElem hi] at h
  rw [Option.some.inj h]
theorem idxA_at (h : P.underlying t = some .string) (hc : l[i]? = some c) : idxA P t (.string (B l)) (.int k i) K X H = K (.int .u8 c.toNat) H := by
  rw [idxA_B h (by omega) (by have := some_lt hc; omega), Int.toNat_natCast, getD_some hc]
theorem idxQ_at (h : P.underlying t = some .string) (hc : l[i]? = some c) : idxQ P t (.string (B l)) (.int k i) KQ H = KQ (.int .u8 c.toNat) := by
  rw [idxQ_B h (by omega) (by have := some_lt hc; omega), Int.toNat_natCast, getD_some hc]
theorem sliA_one (h : P.underlying t = some .string) (hc : l[i]? = some c) : sliA P t (.string (B l)) (some (.int k i)) (some (.int k2 ((i + 1 : Nat) : Int))) none K X H = K (.string (B [c])) H := by
  have := some_lt hc
  rw [sliA_lohi h (by omega) (by omega) (by omega), Int.toNat_natCast, Int.toNat_natCast, drop_some hc, show i + 1 - i = 1 by omega]
  rfl
theorem sliQ_one (h : P.underlying t = some .string) (hc : l[i]? = some c) : sliQ P t (.string (B l)) (some (.int k i)) (some (.int k2 ((i + 1 : Nat) : Int))) none KQ H = KQ (.string (B [c])) := by
  have := some_lt hc
  rw [sliQ_lohi h (by omega) (by omega) (by omega), Int.toNat_natCast, Int.toNat_natCast, drop_some hc, show i + 1 - i = 1 by omega]
  rfl
theorem wrap_add (h : i + j ≤ 9223372036854775807) : IntKind.wrap .i64 ((i : Int) + (j : Int)) = ((i + j : Nat) : Int) := by
  rw [wrap_i64 (by omega) (by omega)]; omega
theorem wrap_one (h : i + 1 ≤ 9223372036854775807) : IntKind.wrap .i64 ((i : Int) + 1) = ((i + 1 : Nat) : Int) := by
  rw [wrap_i64 (by omega) (by omega)]; omega
theorem wrap_two (h : i + 2 ≤ 9223372036854775807) : IntKind.wrap .i64 ((i : Int) + 2) = ((i + 2 : Nat) : Int) := by
  rw [wrap_i64 (by omega) (by omega)]; omega
theorem dlt (h : i < j) : decide ((i : Int) < (j : Int)) = true := by rw [decide_eq_true_eq]; omega
theorem dge (h : j ≤ i) : decide ((i : Int) < (j : Int)) = false := by rw [decide_eq_false_iff_not]; omega
theorem u8_ne {a b : UInt8} (h : a ≠ b) : decide ((a.toNat : Int) = (b.toNat : Int)) = false := by
  rw [decide_eq_false_iff_not]; intro he; exact h (UInt8.toNat_inj.1 (by omega))

/-- Setting an element of a slice of the call's own. -/
theorem own_set {ok : Nat → Prop} {E : TypeId} {v u : Value} {n by_ : Nat} {l : List Value} {z : Option Value} (own : OwnS ok E 1 H v n l) (hi : i < n) (ht : TyOK P t z 1 by_) (hu : u.cells = #[u]) (h1 : oneC u = true)
    (k : ∀ H', OwnS ok E 1 H' v n (l.set i u) → Keep (blkOf v) H H' → K undef H') : ∃ a c, v = .slice (some a) n c ∧ storeA P t (.pointer (some (a.add (i * 1)))) u K X H := by
  rcases own with ⟨_, rfl, _⟩ | ⟨b, cap, c, f, rfl, h2, h3, h4, h5, h6, h7, h8⟩
  · omega
  refine ⟨⟨b, 0, none⟩, cap, rfl, ?_⟩
  have ha : (⟨b, 0, none⟩ : Addr).add (i * 1) = ⟨b, i, none⟩ := by
    unfold Addr.add
    split
    · rename_i h; have : i = 0 := by omega
      subst this; rfl
    · simp
  rw [ha]
  have hp := putH_blk (e := E) (f := f) [u] 0 H c (off := i) h3 (by intro w hw; simp at hw; subst hw; exact h1) (by simp; omega) (fun j _ _ => h8 j)
  rw [storeA_put ht (by rw [hu]; rfl) (by rw [hu]; exact hp)]
  have hb := get_lt h3
  refine k _ (.inr ⟨b, cap, splice c (i + 0) [u], f, rfl, h2, by rw [Array.getElem?_setIfInBounds]; simp [hb], by rw [size_splice]; exact h4, h5, by rw [List.length_set]; exact h6, ?_, h8⟩) ⟨by simp, fun j hj hn => ?_⟩
  · have : (splice c (i + 0) [u]).toList = c.toList.set i u := by
      simp [splice, Array.toList_setIfInBounds]
    rw [this, ← h7, List.take_set]
  · rw [Array.getElem?_setIfInBounds, if_neg]
    intro hbj
    exact hn ⟨0, n, cap, by rw [hbj]⟩
theorem own_setA {ok : Nat → Prop} {E : TypeId} {u : Value} {n by_ cp : Nat} {a : Addr} {l : List Value} {z : Option Value} (own : OwnS ok E 1 H (.slice (some a) n cp) n l) (hi : i < n) (ht : TyOK P t z 1 by_) (hu : u.cells = #[u]) (h1 : oneC u = true)
    (k : ∀ H', OwnS ok E 1 H' (.slice (some a) n cp) n (l.set i u) → Keep (blkOf (.slice (some a) n cp)) H H' → K undef H') : storeA P t (.pointer (some (a.add (i * 1)))) u K X H := by
  obtain ⟨a', c', h, hs⟩ := own_set (X := X) own hi ht hu h1 k
  cases h
  exact hs
end
end Go.Hw

/- Ranging over a map. -/
set_option linter.unusedSimpArgs false
set_option linter.unusedVariables false
namespace Go.Hw
section
variable {P : Program} {H : Hp} {K : Value → Hp → Prop} {X : List PanicEntry → Hp → Prop} {t : TypeId}

theorem rngA_map {m clk : Nat} {es : Array MapEntry} {kt et : TypeId} (h : P.underlying t = some (.map kt et)) (hm : H[m]? = some (.map es clk)) :
    rngA P t (.map (some m)) K X H = K (.pointer (some ⟨H.size, 0, none⟩)) (H.push (.mapIter (some m) clk #[] clk)) := by
  unfold rngA hv Instr.range
  show hwx P ((underlying t).bind _) _ _ H = _
  rw [hw_und h]
  show hwx P ((getObj m).bind _) _ _ H = _
  simp only [getObj, Sem.bind, hwx, hm, isCells, true_and]
  rfl
theorem rngA_mapnil {kt et : TypeId} (h : P.underlying t = some (.map kt et)) :
    rngA P t (.map none) K X H = K (.pointer (some ⟨H.size, 0, none⟩)) (H.push (.mapIter none 0 #[] 0)) := by
  unfold rngA hv Instr.range
  show hwx P ((underlying t).bind _) _ _ H = _
  rw [hw_und h]
  rfl
theorem nxtA_mapnil {r a b : Nat} {s : Array Nat} (h : H[r]? = some (.mapIter none a s b)) : nxtA P (.pointer (some ⟨r, 0, none⟩)) false t K X H = K (.tuple #[.bool false]) H := by
  unfold nxtA hv Instr.next
  show hwx P ((getObj r).bind _) _ _ H = _
  simp only [getObj, Sem.bind, hwx, h, isCells, true_and]
  rfl
theorem nxtA_map {r m clk : Nat} {seen : Array Nat} {es : Array MapEntry} (hit : H[r]? = some (.mapIter (some m) clk seen clk)) (hm : H[m]? = some (.map es clk)) (hborn : ∀ e ∈ es, e.born < clk)
    (hnext : ∀ e ∈ es, e.born ∉ seen → K (.tuple #[.bool true, e.key, e.val]) (H.setIfInBounds r (.mapIter (some m) clk (seen.push e.born) clk)))
    (hover : (∀ e ∈ es, e.born ∈ seen) → K (.tuple #[.bool false]) H) : nxtA P (.pointer (some ⟨r, 0, none⟩)) false t K X H := by
  unfold nxtA hv Instr.next
  show hwx P ((getObj r).bind _) _ _ H
  simp only [getObj, Sem.bind, hwx, hit, isCells, true_and]
  show hwx P ((getObj m).bind _) _ _ H
  simp only [getObj, Sem.bind, hwx, hm, isCells, true_and]
  have hc : (!seen.isEmpty && !es.isEmpty && es.all fun e => decide (e.born ≥ clk)) = false := by
    cases hE : es.isEmpty with
    | true => simp
    | false =>
      have hne : es ≠ #[] := by intro h0; rw [h0] at hE; cases hE
      obtain ⟨e, he⟩ : ∃ e, e ∈ es := by
        cases hl : es.toList with
        | nil => exact absurd (by cases es; simp at hl; rw [hl]) hne
        | cons a l => exact ⟨a, by rw [← Array.mem_toList_iff, hl]; simp⟩
      have : (es.all fun e => decide (e.born ≥ clk)) = false := by
        rw [Bool.eq_false_iff]
        intro hall
        rw [Array.all_eq_true_iff_forall_mem] at hall
        have h1 := hall e he
        have h2 := hborn e he
        simp at h1
        omega
      rw [this]; simp
  rw [hc, if_neg (by simp)]
  have hold : ((es.filter fun e => !seen.contains e.born).filter fun x => decide (x.born < clk)) = es.filter fun e => !seen.contains e.born := by
    rw [Array.filter_eq_self]
    intro e he
    exact decide_eq_true (hborn e (Array.mem_filter.1 he).1)
  have hnew : ((es.filter fun e => !seen.contains e.born).filter fun x => decide (x.born ≥ clk)) = #[] := by
    rw [Array.filter_eq_empty_iff]
    intro e he
    have := hborn e (Array.mem_filter.1 he).1
    simp; omega
  rw [hold, hnew]
  obtain ⟨cs, hcs⟩ : ∃ cs, ((if (es.filter fun e => !seen.contains e.born).isEmpty = true then #[none] else #[]) ++ Array.map some ((es.filter fun e => !seen.contains e.born) ++ #[])) = cs := ⟨_, rfl⟩
  rw [hcs]
  have key : 0 < cs.size ∧ ∀ i, i < cs.size → (∃ e ∈ es, e.born ∉ seen ∧ cs[i]? = some (some e)) ∨ ((∀ e ∈ es, e.born ∈ seen) ∧ cs[i]? = some none) := by
    cases hE : (es.filter fun e => !seen.contains e.born).isEmpty with
    | true =>
      have h0 : (es.filter fun e => !seen.contains e.born) = #[] := by simpa using hE
      rw [h0] at hcs
      simp at hcs
      subst hcs
      refine ⟨by simp, fun i hi => .inr ⟨fun e he => ?_, by simp at hi; subst hi; rfl⟩⟩
      have := (Array.filter_eq_empty_iff.1 h0) e he
      simpa using this
    | false =>
      rw [hE] at hcs
      simp only [Bool.false_eq_true, if_false, Array.append_empty, Array.empty_append] at hcs
      subst hcs
      have hpos : 0 < (es.filter fun e => !seen.contains e.born).size := by
        rcases Nat.eq_zero_or_pos (es.filter fun e => !seen.contains e.born).size with h0 | h0
        · rw [Array.isEmpty, h0] at hE; cases hE
        · exact h0
      refine ⟨by simpa using hpos, fun i hi => .inl ?_⟩
      have hi' : i < (es.filter fun e => !seen.contains e.born).size := by simpa using hi
      have hm' := Array.getElem_mem hi'
      obtain ⟨m1, m2⟩ := Array.mem_filter.1 hm'
      exact ⟨_, m1, by simpa using m2, by rw [Array.getElem?_map, Array.getElem?_eq_getElem hi']; rfl⟩
  obtain ⟨hpos, key⟩ := key
  show hwx P ((choose (.mapNext cs.size)).bind _) _ _ H
  simp only [choose, Sem.bind, hwx]
  have fin : ∀ i, i < cs.size → hwx P (match cs[i]? with
      | some (some e) => (setObj r (.mapIter (some m) clk (seen.push e.born) clk)).bind fun _ => pure (.tuple #[.bool true, e.key, e.val])
      | some none => (pure (.tuple #[.bool false]) : Sem Value)
      | none => stuck "Next: no such candidate") K (fun v H' => X [{ v, recovered := false }] H') H := by
    intro i hi
    rcases key i hi with ⟨e, h1, h2, h3⟩ | ⟨h1, h3⟩
    · rw [h3]
      simp only [setObj, Sem.bind, hwx, hit, isCells, true_and]
      exact hnext e h1 h2
    · rw [h3]
      exact hover h1
  split
  · exact fin 0 hpos
  · intro t
    exact fin _ (Nat.mod_lt _ hpos)

/-- Making a map. -/
theorem opA_makeMap {F : Fr} {d : Option Nat} {ty tt : TypeId} {g : Option (Nat × Bool)} : opA P ⟨d, .makeMap tt none, ty, g⟩ F H K X = K (.map (some H.size)) (H.push (.map #[] 0)) := by
  rw [opA_0 rfl (f := do pure (.value (← Instr.makeMap tt none))) fun _ => rfl, hv_next]
  rfl

/-- A map of the call's own: its entries, older than its clock. -/
def MapC (H : Hp) (r : Nat) (l : List (List UInt8 × Value)) : Prop :=
  ∃ es clk, H[r]? = some (.map es clk) ∧ es.toList.map (fun e => (e.key, e.val)) = (l.map fun p => (.string (B p.1), p.2)) ∧ ∀ e ∈ es, e.born < clk
theorem MapC.o {r : Nat} {l : List (List UInt8 × Value)} (h : MapC H r l) : MapO H r l := by
  obtain ⟨es, clk, h1, h2, _⟩ := h
  exact ⟨es, clk, h1, h2⟩
theorem MapC.new : MapC (H.push (.map #[] 0)) H.size [] := ⟨#[], 0, by simp, rfl, by simp⟩
theorem MapC.ext {H' : Hp} {r : Nat} {l : List (List UInt8 × Value)} (h : MapC H r l) (e : Ext H H') : MapC H' r l := by
  obtain ⟨es, clk, h1, h2⟩ := h
  exact ⟨es, clk, e.get h1, h2⟩

def putM (k : List UInt8) (v : Value) : List (List UInt8 × Value) → List (List UInt8 × Value)
  | [] => [(k, v)]
  | p :: r => if k = p.1 then (k, v) :: r else p :: putM k v r

theorem findM_put (k : List UInt8) (v : Value) : ∀ (l : List (List UInt8 × Value)) (i : Nat), match findM k l i with
    | some (j, _) => i ≤ j ∧ j < i + l.length ∧ putM k v l = l.set (j - i) (k, v)
    | none => putM k v l = l ++ [(k, v)]
  | [], i => by unfold findM; rfl
  | p :: r, i => by
    unfold findM putM
    by_cases hk : k = p.1
    · rw [if_pos hk, if_pos hk]; simp
    · rw [if_neg hk, if_neg hk]
      have := findM_put k v r (i + 1)
      cases hf : findM k r (i + 1) with
      | none => rw [hf] at this; simp only at this ⊢; rw [this]; rfl
      | some q =>
        obtain ⟨j, u⟩ := q
        rw [hf] at this
        simp only at this ⊢
        obtain ⟨h1, h2, h3⟩ := this
        refine ⟨by omega, by simp only [List.length_cons]; omega, ?_⟩
        rw [h3, show j - i = (j - (i + 1)) + 1 by omega]
        rfl

theorem findM_key (k : List UInt8) : ∀ (l : List (List UInt8 × Value)) (i j : Nat) (u : Value), findM k l i = some (j, u) → i ≤ j ∧ l[j - i]? = some (k, u)
  | [], i, j, u, h => by unfold findM at h; cases h
  | p :: r, i, j, u, h => by
    unfold findM at h
    by_cases hk : k = p.1
    · rw [if_pos hk] at h
      cases h
      exact ⟨Nat.le_refl _, by simp [hk]⟩
    · rw [if_neg hk] at h
      obtain ⟨h1, h2⟩ := findM_key k r (i + 1) j u h
      refine ⟨by omega, ?_⟩
      rw [show j - i = (j - (i + 1)) + 1 by omega, List.getElem?_cons_succ]
      exact h2
def mupA (P : Program) (t : TypeId) (m k v : Value) (K : Value → Hp → Prop) (X : List PanicEntry → Hp → Prop) (H : Hp) : Prop := hwx P (Instr.mapUpdate t m k v) (fun _ H' => K undef H') (fun v H' => X [{ v, recovered := false }] H') H
theorem opA_mapUpdate {F : Fr} {d : Option Nat} {ty : TypeId} {g : Option (Nat × Bool)} (t : TypeId) (x y z : Operand) : opA P ⟨d, .mapUpdate t x y z, ty, g⟩ F H K X = withv F x fun m => withv F y fun k => withv F z fun v => mupA P t m k v K X H := by
  rw [opA_3 rfl (f := fun m k v => do Instr.mapUpdate t m k v; pure .skip) fun _ => rfl]
  congr; funext a; congr; funext b; congr; funext v; exact hu_next _
theorem opA_insert {F : Fr} {d : Option Nat} {ty : TypeId} {g : Option (Nat × Bool)} (t : TypeId) (x y z : Operand) : opA P ⟨d, .insert t x y z, ty, g⟩ F H K X = withv F x fun m => withv F y fun k => withv F z fun v => mupA P t m k v K X H := by
  rw [opA_3 rfl (f := fun m k v => do Instr.mapUpdate t m k v; pure .skip) fun _ => rfl]
  congr; funext a; congr; funext b; congr; funext v; exact hu_next _

theorem mupA_ok {kt et : TypeId} {r : Nat} {k : List UInt8} {v : Value} {l : List (List UInt8 × Value)} (ht : P.underlying t = some (.map kt et)) (hk : P.underlying kt = some .string) (hm : MapC H r l)
    (kk : ∀ H', MapC H' r (putM k v l) → Keep (· = r) H H' → K undef H') : mupA P t (.map (some r)) (.string (B k)) v K X H := by
  obtain ⟨es, clk, h1, h2, h3⟩ := hm
  unfold mupA Instr.mapUpdate
  show hwx P ((underlying t).bind _) _ _ H
  rw [hw_und ht]
  show hwx P ((getObj r).bind _) _ _ H
  simp only [getObj, Sem.bind, hwx, h1, isCells, true_and]
  show hwx P ((Instr.checkKey _ _ kt _).bind _) _ _ H
  rw [checkKey_str hk]
  show hwx P ((Instr.findKey kt _ _).bind _) _ _ H
  rw [findKey_str hk k h2]
  have hr := get_lt h1
  have hput := findM_put k v l 0
  cases hf : findM k l 0 with
  | none =>
    rw [hf] at hput
    simp only at hput ⊢
    simp only [setObj, hwx, h1, isCells, true_and]
    refine kk _ ⟨_, _, get_set h1, ?_, ?_⟩ ⟨by simp, fun b hb hn => get_set_ne (fun h => hn h.symm)⟩
    · rw [hput]; simp [h2]
    · intro e he
      rcases Array.mem_push.1 he with he | he
      · have := h3 e he; omega
      · subst he; simp
  | some q =>
    obtain ⟨j, u⟩ := q
    rw [hf] at hput
    simp only at hput ⊢
    obtain ⟨_, hj⟩ := findM_key k l 0 j u hf
    rw [Nat.sub_zero] at hj hput
    have hpair : (es[j]?).map (fun e => (e.key, e.val)) = some (.string (B k), u) := by
      have := congrArg (fun x => x[j]?) h2
      simp only [List.getElem?_map, Array.getElem?_toList, hj, Option.map_some] at this
      exact this
    have hkey : ((es[j]?).map (fun e => e.key)).getD (.string (B k)) = .string (B k) := by
      cases he : es[j]? with
      | none => rfl
      | some e => rw [he] at hpair; simp at hpair; simp [hpair.1]
    rw [hkey]
    have hsame : Instr.sameBits 10000 (.string (B k)) (.string (B k)) = true := by
      show (B k == B k) = true
      rw [BA_beq]; simp
    unfold Instr.keyThatStays
    rw [if_pos hsame]
    show hwx P (setObj r _) _ _ H
    simp only [setObj, hwx, h1, isCells, true_and]
    refine kk _ ⟨_, _, get_set h1, ?_, ?_⟩ ⟨by simp, fun b hb hn => get_set_ne (fun h => hn h.symm)⟩
    · rw [hput.2.2]
      apply List.ext_getElem?
      intro n
      have h2n := congrArg (fun x => x[n]?) h2
      simp only [List.getElem?_map, Array.getElem?_toList] at h2n ⊢
      rw [Array.getElem?_modify, List.getElem?_set]
      by_cases hn : j = n
      · subst hn
        rw [if_pos rfl, if_pos rfl, if_pos (by omega)]
        cases he : es[j]? with
        | none => rw [he] at hpair; simp at hpair
        | some e => rfl
      · rw [if_neg hn, if_neg hn]; exact h2n
    · intro e he
      obtain ⟨n, hn, hen⟩ := Array.getElem_of_mem he
      rw [Array.getElem_modify] at hen
      have hn' : n < es.size := by simpa using hn
      have := h3 es[n] (Array.getElem_mem hn')
      split at hen <;> (subst hen; exact this)
end
end Go.Hw

/- What a strings.Builder needs: appending nothing; unsafe.SliceData, unsafe.String over a row of bytes. -/
set_option linter.unusedSimpArgs false
set_option linter.unusedVariables false
namespace Go.Hw

section
variable {P : Program} {H : Hp} {K : Value → Hp → Prop} {X : List PanicEntry → Hp → Prop} {KQ : Value → Prop} {ty : TypeId}

theorem append_empty {T T2 E : TypeId} {d2 : TypeDesc} {z : Option Value} {by_ : Nat} {cs : Array Bool} {a : Option Addr} {n c : Nat} (hn : n ≤ c)
    (hT : P.underlying T = some (.slice E)) (hE : TyOK P E z 1 by_) (hT2 : P.underlying T2 = some d2) (hd2 : notInt d2 = true) :
    callA P (.builtin .append) #[T, T2] ty cs [.slice a n c, .string (B [])] K X H = K (.slice a n c) H := by
  show hwx P (do let v ← Builtin.append_ #[T, T2] ty #[.slice a n c, .string (B [])]; pure (Next.value v)) _ _ H = _
  rw [hv_next]
  unfold hv Builtin.append_
  show hwx P ((underlying T).bind _) _ _ H = _
  rw [hw_und hT]
  show hwx P ((sizeOf E).bind _) _ _ H = _
  rw [sizeOf_eq hE]
  show hwx P ((underlying T2).bind _) _ _ H = _
  rw [hw_und hT2]
  have hzb : isIntB d2 = false := by cases d2 <;> first | rfl | cases hd2
  show hwx P ((Sem.pure (isIntB d2)).bind _) _ _ H = _
  rw [hzb]
  simp only [Sem.bind, Bool.false_eq_true, if_false, Bool.not_false, if_true]
  have e0 : (B []).size = 0 := rfl
  show hwx P ((Sem.pure (B []).size).bind _) _ _ H = _
  simp only [Sem.bind, e0, Nat.add_zero, hn, if_true]
  show hwx P ((Builtin.firstCells 1 0 (.string (B []))).bind _) _ _ H = _
  have hsrc : Src H 1 (.string (B [])) 0 [] := .inr (.inr ⟨B [], rfl, rfl, rfl⟩)
  rw [hw_firstCells hsrc (fun _ => rfl)]
  cases a <;> rfl

theorem callQ_usd {ats : Array TypeId} {cs : Array Bool} {a : Addr} {n c : Nat} (hc : c ≠ 0) : callQ P (.builtin .unsafeSliceData) ats ty cs [.slice (some a) n c] KQ H = KQ (.pointer (some a)) := by
  obtain ⟨k, rfl⟩ : ∃ k, c = k + 1 := ⟨c - 1, by omega⟩
  rfl
theorem callQ_usd0 {ats : Array TypeId} {cs : Array Bool} {n c : Nat} : callQ P (.builtin .unsafeSliceData) ats ty cs [.slice none n c] KQ H = KQ (.pointer none) := (rfl)

theorem callA_ustr0 {pt it : TypeId} {cs : Array Bool} {p : Option Addr} : callA P (.builtin .unsafeString) #[pt, it] ty cs [.pointer p, .int .i64 0] K X H = K (.string (B [])) H := by
  cases p <;> rfl

theorem hw_loadBytes {a : Addr} {K : ByteArray → Hp → Prop} {X : Value → Hp → Prop} : ∀ (l : List UInt8) (i : Nat) (acc : ByteArray), cellsH H a i l.length = some (bytesV l) → hwx P (loadBytes (a.add i) acc l.length) K X H = K ⟨acc.data ++ l.toArray⟩ H
  | [], i, acc, h => by
    show K acc H = _
    simp
  | c :: l, i, acc, h => by
    simp only [List.length_cons, cellsH] at h
    cases hc : cellH H (a.add i) with
    | none => rw [hc] at h; cases h
    | some v =>
      rw [hc] at h
      simp only [Option.map_eq_some_iff] at h
      obtain ⟨m, hm, hm2⟩ := h
      have hv : v = .int .u8 c.toNat ∧ m = bytesV l := by simpa [bytesV] using hm2
      obtain ⟨rfl, rfl⟩ := hv
      simp only [List.length_cons, loadBytes]
      show hwx P ((load (a.add i)).bind _) K X H = _
      simp only [load, Sem.bind, hwx, hc]
      have hadd : (a.add i).add 1 = a.add (i + 1) := by
        unfold Addr.add
        by_cases hi : i = 0
        · subst hi; simp
        · simp [hi]; omega
      have hx : ((c.toNat : Int).toNat).toUInt8 = c := by simp
      show hwx P (loadBytes ((a.add i).add 1) (acc.push ((c.toNat : Int).toNat).toUInt8) l.length) K X H = _
      rw [hadd, hx, hw_loadBytes l (i + 1) _ hm]
      congr 1
      apply ByteArray.ext
      simp [ByteArray.push]

theorem callA_ustr {pt it E : TypeId} {cs : Array Bool} {g : Nat} {c : Array Value} {f : Nat × Nat} {l : List UInt8} (hpt : P.underlying pt = some (.pointer E)) (hE : P.cellsOf E = 1) (hg : H[g]? = some (.cells c E f)) (h0 : l ≠ []) (hl : l.length ≤ c.size) (hc : c.toList.take l.length = bytesV l) (hmax : l.length ≤ 9223372036854775807) :
    callA P (.builtin .unsafeString) #[pt, it] ty cs [.pointer (some ⟨g, 0, none⟩), .int .i64 l.length] K X H = K (.string (B l)) (freezeH H ⟨g, 0, none⟩ l.length) := by
  have hlen := List.length_pos_iff.2 h0
  show hwx P (do let v ← Builtin.unsafeString_ #[pt, it] ty #[.pointer (some ⟨g, 0, none⟩), .int .i64 l.length]; pure (Next.value v)) _ _ H = _
  rw [hv_next]
  have hdef : ∀ n : Int, Builtin.unsafeString_ #[pt, it] ty #[.pointer (some ⟨g, 0, none⟩), .int .i64 n] =
      (do
        let n ← asInt (.int .i64 n)
        if n < 0 then runtimePanic (.error "unsafe.String: len out of range")
        if n > IntKind.i64.max then unsupported (.unsafePointer "String: a length above the largest int")
        if n = 0 then pure (.string .empty)
        else if ← variablesAt ⟨g, 0, none⟩ (← elemOf pt) n.toNat then do
          let s ← loadBytes ⟨g, 0, none⟩ .empty n.toNat
          freeze ⟨g, 0, none⟩ n.toNat
          pure (.string s)
        else unsupported (.unsafePointer "String: not so many bytes at ptr")) := fun n => rfl
  rw [hdef]
  unfold hv
  have hm : IntKind.i64.max = 9223372036854775807 := rfl
  have e1 : ¬ ((l.length : Int) < 0) := by omega
  have e2 : ¬ ((l.length : Int) > IntKind.i64.max) := by rw [hm]; omega
  have e3 : ¬ ((l.length : Int) = 0) := by omega
  have hasInt : asInt (.int .i64 (l.length : Int)) = (pure (l.length : Int) : Sem Int) := rfl
  simp only [hasInt, pure_bind, e1, e2, e3, if_false]
  have hel : ∀ (k : TypeId → Sem Value), hwx P ((elemOf pt).bind k) K (fun v H' => X [{ v, recovered := false }] H') H = hwx P (k E) K (fun v H' => X [{ v, recovered := false }] H') H := by
    intro k
    unfold elemOf
    show hwx P (((underlying pt).bind _).bind _) _ _ H = _
    rw [hwx_bind, hw_und hpt]
    rfl
  show hwx P ((elemOf pt).bind _) _ _ H = _
  rw [hel]
  show hwx P ((variablesAt ⟨g, 0, none⟩ E (l.length : Int).toNat).bind _) _ _ H = _
  have hva : ∀ (k : Bool → Sem Value), hwx P ((variablesAt ⟨g, 0, none⟩ E l.length).bind k) K (fun v H' => X [{ v, recovered := false }] H') H = hwx P (k true) K (fun v H' => X [{ v, recovered := false }] H') H := by
    intro k
    unfold variablesAt
    show hwx P ((Sem.program fun p => (shape g).bind _).bind k) _ _ H = _
    simp only [Sem.bind, hwx, shape, shapeH, hg]
    rw [Lib.liesAt_bytes hE _ _ (by rw [hE]; simpa using hl)]
    rfl
  rw [Int.toNat_natCast, hva]
  simp only [if_true]
  show hwx P ((loadBytes ⟨g, 0, none⟩ .empty l.length).bind _) _ _ H = _
  rw [hwx_bind]
  have hcs : cellsH H ⟨g, 0, none⟩ 0 l.length = some (bytesV l) := by rw [cellsH_of_blk hg _ _ (by omega)]; simpa using hc
  have := hw_loadBytes (P := P) (K := fun a H' => hwx P ((freeze ⟨g, 0, none⟩ l.length).bind fun _ => Sem.pure (Value.string a)) K (fun v H' => X [{ v, recovered := false }] H') H') (X := fun v H' => X [{ v, recovered := false }] H') l 0 .empty hcs
  rw [add_none] at this
  refine Eq.trans this ?_
  show K (.string ⟨ByteArray.empty.data ++ l.toArray⟩) (freezeH H ⟨g, 0, none⟩ l.length) = _
  have : (⟨ByteArray.empty.data ++ l.toArray⟩ : ByteArray) = B l := by
    have e : ByteArray.empty.data = #[] := rfl
    rw [e, Array.empty_append]
    rfl
  rw [this]

/-! ### nilCheck, as an equation -/

def nckA (P : Program) (v : Value) (K : Value → Hp → Prop) (X : List PanicEntry → Hp → Prop) (H : Hp) : Prop :=
  hwx P (execOp (fun _ => v) (O.oper ⟨none, .nilCheck (.const v), 0, none⟩)) (nextK P K X) (fun v H' => X [{ v, recovered := false }] H') H
theorem opA_nck {F : Fr} {d : Option Nat} {g : Option (Nat × Bool)} (x : Operand) : opA P ⟨d, .nilCheck x, ty, g⟩ F H K X = withv F x fun v => nckA P v K X H :=
  opA_1 rfl (f := fun v => execOp (fun _ => v) (O.oper ⟨none, .nilCheck (.const v), 0, none⟩)) fun _ => rfl
theorem nckA_ptr {a : Addr} : nckA P (.pointer (some a)) K X H = K (.pointer (some a)) H := (rfl)
theorem nckA_fn {f : FuncId} {a b : Array Value} : nckA P (.func (.func f) a b) K X H = K (.func (.func f) a b) H := (rfl)
theorem nckA_y {l : Nat} {a b : Array Value} : nckA P (.func (.yield l) a b) K X H = K (.func (.yield l) a b) H := (rfl)
theorem nckA_iface {t : TypeId} {v : Value} : nckA P (.iface t v) K X H = K (.iface t v) H := (rfl)

def nckQ (P : Program) (v : Value) (K : Value → Prop) (H : Hp) : Prop := nextQ P K H (rd P (execOp (fun _ => v) (O.oper ⟨none, .nilCheck (.const v), 0, none⟩)) H)
theorem qA_nck {F : Fr} {d : Option Nat} {g : Option (Nat × Bool)} (x : Operand) : qA P ⟨d, .nilCheck x, ty, g⟩ F H KQ = withv F x fun v => nckQ P v KQ H :=
  qA_1 rfl (f := fun v => execOp (fun _ => v) (O.oper ⟨none, .nilCheck (.const v), 0, none⟩)) fun _ => rfl
theorem nckQ_ptr {a : Addr} : nckQ P (.pointer (some a)) KQ H = KQ (.pointer (some a)) := (rfl)
theorem nckQ_fn {f : FuncId} {a b : Array Value} : nckQ P (.func (.func f) a b) KQ H = KQ (.func (.func f) a b) := (rfl)
end
end Go.Hw

/- Calls of yield, loops over functions; loads, stores, results by facts on the blocks at hand. -/
set_option linter.unusedSimpArgs false
set_option linter.unusedVariables false
namespace Go.Hw

section
variable {P : Program} {H : Hp} {K : Value → Hp → Prop} {X : List PanicEntry → Hp → Prop} {KQ : Value → Prop} {ty : TypeId} {F : Fr}

/-- A call of yield is a round. -/
theorem callA_yield {l : Nat} {lp : Loop} {o : Operand} {ats : Array TypeId} {cs : Array Bool} {vs : List Value} (h : H[l]? = some (.loop lp)) (hn : vs.length = lp.params.size) :
    callA P (.value o) ats ty cs (.func (.yield l) #[] #[] :: vs) K X H = HYield P l lp vs H (callK K X) := by
  unfold callA callSem
  simp only [List.headD_cons, List.tail_cons]
  show hwx P (Instr.yield l (#[] ++ vs.toArray)) _ _ H = _
  have e : (#[] ++ vs.toArray : Array Value) = vs.toArray := by simp
  rw [e]
  unfold Instr.yield Instr.getLoop
  show hwx P (((getObj l).bind _).bind _) _ _ H = _
  simp only [getObj, Sem.bind, hwx, h, isCells, true_and]
  have hs : ¬ (vs.toArray.size ≠ lp.params.size) := by simpa using hn
  show hwx P ((Sem.pure lp).bind _) _ _ H = _
  simp only [Sem.bind, hs, if_false]
  rfl

theorem aw_rf {n : Nat} {g : Operand} {ps : List Nat} {a b : A} {Q : E → Fr → Hp → Prop} {it : FuncId} {first cap : Array Value} (hg : evo F g = some (.func (.func it) first cap)) (hpl : Plain P it) (hf : (flat a && flat b && ps.all fun p => decide (p < n)) = true)
    (h : ∀ lp : Loop, LoopR ps H.size lp →
          (∀ (vs : List Value) (H' : Hp) (K : Ending → Hp → Prop), vs.length = ps.length → H'[H.size + 1]? = some (.loop lp) →
            aw P n a (noE fun F1 H1 => H1[H.size + 1]? = some (.loop lp) ∧ aw P n b (rndK (H.size + 1) lp K) F1 (H1.setIfInBounds (H.size + 1) (.loop { lp with state := .busy }))) (bindF ps vs F) H' →
            HYield P (H.size + 1) lp vs H' K) →
          HCall P it (first ++ #[.func (.yield (H.size + 1)) #[] #[]] ++ cap) ((H.push (.deferred (some []))).push (.loop lp)) (rfK (H.size + 1) Q F)) : aw P n (.rf g ps a b) Q F H := by
  simp only [aw, withv, hg]
  exact ⟨⟨hpl, hf⟩, h⟩

theorem noE_normal {K : Fr → Hp → Prop} : noE K .normal F H = K F H := (rfl)

/-! ### Loads as equations -/

def withc (o : Option Value) (K : Value → Prop) : Prop :=
  match o with
  | some v => K v
  | none => False
theorem withc_some {v : Value} {K : Value → Prop} : withc (some v) K = K v := (rfl)

def withcs (o : Option (List Value)) (K : List Value → Prop) : Prop :=
  match o with
  | some v => K v
  | none => False
theorem withcs_some {v : List Value} {K : List Value → Prop} : withcs (some v) K = K v := (rfl)

theorem loadA_1 {t : TypeId} {dd : TypeDesc} (h : P.underlying t = some dd) (hd : aggD dd = false) {a : Addr} : loadA P t (.pointer (some a)) K X H = withc (cellH H a) fun v => K v H := by
  unfold loadA hv Instr.loadAt
  show hwx P (loadVar t a) _ _ H = _
  unfold loadVar
  show hwx P ((isAgg t).bind _) _ _ H = _
  rw [isAgg_eq h, hd]
  simp only [Bool.false_eq_true, if_false, load, hwx]
  cases cellH H a <;> rfl

theorem hw_loadCellsFrom_none {a : Addr} {α : Type} {k : Array Value → Sem α} {K : α → Hp → Prop} {X : Value → Hp → Prop} : ∀ (n i : Nat) (acc : Array Value), cellsH H a i n = none → ¬ hwx P ((loadCellsFrom a i n acc).bind k) K X H
  | 0, i, acc, h => by simp [cellsH] at h
  | n + 1, i, acc, h => by
    simp only [cellsH] at h
    intro hh
    have hh' : hwx P (((load (a.add i)).bind fun v => loadCellsFrom a (i + 1) n (acc.push v)).bind k) K X H := hh
    cases hc : cellH H (a.add i) with
    | none => simp [load, Sem.bind, hwx, hc] at hh'
    | some v =>
      rw [hc] at h
      simp only [load, Sem.bind, hwx, hc] at hh'
      refine hw_loadCellsFrom_none n (i + 1) (acc.push v) ?_ hh'
      simpa using h

theorem loadA_n {t : TypeId} {dd : TypeDesc} {z : Option Value} {sz by_ : Nat} (h : P.underlying t = some dd) (hd : aggD dd = true) (ht : TyOK P t z sz by_) {a : Addr} : loadA P t (.pointer (some a)) K X H = withcs (cellsH H a 0 sz) fun l => K (.agg l.toArray) H := by
  cases hc : cellsH H a 0 sz with
  | some l => exact loadA_agg h hd ht hc
  | none =>
    refine propext ⟨fun hh => ?_, fun hh => hh.elim⟩
    unfold loadA hv Instr.loadAt at hh
    have h1 : hwx P ((isAgg t).bind fun b => if b = true then (sizeOf t).bind fun n => (loadCells a n).bind fun cs => Sem.pure (Value.agg cs) else load a) K (fun v H' => X [{ v, recovered := false }] H') H := hh
    rw [isAgg_eq h, hd] at h1
    simp only [if_true] at h1
    rw [sizeOf_eq ht] at h1
    exact hw_loadCellsFrom_none _ _ _ hc h1

theorem loadQ_1 {t : TypeId} {dd : TypeDesc} (h : P.underlying t = some dd) (hd : aggD dd = false) {a : Addr} {v : Value} (hc : cellH H a = some v) : loadQ P t (.pointer (some a)) KQ H = KQ v := loadQ_cell h hd hc

/-- A quiet load. -/
theorem loadQ_w {t : TypeId} {dd : TypeDesc} (h : P.underlying t = some dd) (hd : aggD dd = false) {a : Addr} : withc (cellH H a) KQ → loadQ P t (.pointer (some a)) KQ H := by
  cases hc : cellH H a with
  | none => exact fun h => h.elim
  | some v => intro hk; rw [loadQ_cell h hd hc]; exact hk
theorem loadQ_e {t : TypeId} {dd : TypeDesc} (h : P.underlying t = some dd) (hd : aggD dd = false) {a : Addr} : loadQ P t (.pointer (some a)) KQ H = withc (cellH H a) KQ := by
  cases hc : cellH H a with
  | some v => exact loadQ_cell h hd hc
  | none =>
    refine propext ⟨fun hh => ?_, fun hh => hh.elim⟩
    unfold loadQ qv at hh
    have : rd P (Instr.loadAt t (.pointer (some a))) H = none := by
      show rd P (loadVar t a) H = none
      unfold loadVar
      show rd P ((isAgg t).bind _) H = none
      rw [rd_bind]
      have hi : rd P (isAgg t) H = some false := by
        show rd P ((underlying t).bind fun d => match d with | .struct _ | .array _ _ => Sem.pure true | _ => Sem.pure false) H = _
        rw [rd_bind]
        have hu : rd P (underlying t) H = some dd := by
          show rd P (match P.underlying t with | some d => Sem.pure d | none => stuck _) H = _
          rw [h]; rfl
        rw [hu]
        cases dd <;> first | rfl | cases hd
      rw [hi]
      simp only [Option.bind_some, Bool.false_eq_true, if_false, load, rd, hc]
    rw [this] at hh
    exact hh

theorem cells_0 {a : Addr} {i : Nat} : cellsH H a i 0 = some [] := (rfl)
theorem cells_s {b off i n : Nat} : cellsH H ⟨b, off, none⟩ i (n + 1) = (cellH H ⟨b, off + i, none⟩).bind fun v => (cellsH H ⟨b, off, none⟩ (i + 1) n).map (v :: ·) := by
  simp only [cellsH, add_none]
  cases cellH H ⟨b, off + i, none⟩ <;> rfl
theorem cells_2 {b off : Nat} : cellsH H ⟨b, off, none⟩ 0 2 = (cellH H ⟨b, off, none⟩).bind fun v => (cellH H ⟨b, off + 1, none⟩).bind fun u => some [v, u] := by
  simp only [cellsH, add_none, Nat.add_zero, Nat.zero_add]
  cases cellH H ⟨b, off, none⟩ <;> cases cellH H ⟨b, off + 1, none⟩ <;> rfl

/-! ### Boxes and stores -/

theorem box_k {t : TypeId} {v : Value} {K : Value → Hp → Prop} (k : ∀ (b : Nat) (G : Hp), b = H.size → G.size = H.size + 1 → G[b]? = some (.cells v.cells t (0, 0)) → Ext H G → K (.pointer (some ⟨b, 0, none⟩)) G) : boxA P t v K H :=
  k H.size _ rfl (by simp) get_push_eq (Ext.push _ _)

theorem store_k {t : TypeId} {z : Option Value} {sz by_ b off : Nat} {v : Value} {c : Array Value} {e : TypeId} (hb : H[b]? = some (.cells c e (0, 0))) (ht : TyOK P t z sz by_) (hv : v.cells.size = sz) (h1 : (v.cells.toList.all oneC) = true) (hoff : off + sz ≤ c.size)
    (k : ∀ G : Hp, G[b]? = some (.cells (splice c off v.cells.toList) e (0, 0)) → Keep (· = b) H G → G.size = H.size → K undef G) : storeA P t (.pointer (some ⟨b, off, none⟩)) v K X H := by
  have hp := putH_blk (b := b) (off := off) (e := e) (f := (0, 0)) v.cells.toList 0 H c hb (fun u hu => List.all_eq_true.1 h1 u hu) (by simp [hv]; omega) (by simp)
  rw [storeA_put ht hv hp]
  have hlt := get_lt hb
  refine k _ ?_ ⟨by simp, fun i hi hn => ?_⟩ (by simp)
  · rw [Array.getElem?_setIfInBounds]; simp [hlt]
  · rw [Array.getElem?_setIfInBounds_ne (fun e => hn e.symm)]

theorem Keep.two {b : Nat} {H0 H G : Hp} (h : Ext H0 H) (k : Keep (· = b) H G) (hb : H0.size ≤ b) : Ext H0 G := h.then k fun x hx => by omega

/-! ### Results in variables -/

def rcA (P : Program) (t : TypeId) (v : Value) (H : Hp) (K : Value → Prop) : Prop :=
  match v with
  | .pointer (some ad) => match rd P (loadVar t ad) H with
    | some u => K u
    | none => False
  | _ => False
theorem resW_cell {K : List Value → Prop} {a : Nat} {t : TypeId} {r : List ResultVar} : resW P F H K (.cell a t :: r) = withv F (.tmp a) fun v => rcA P t v H fun u => resW P F H (fun vs => K (u :: vs)) r := by
  simp only [resW]
  unfold rcA
  rfl
theorem rcA_1 {t : TypeId} {dd : TypeDesc} (h : P.underlying t = some dd) (hd : aggD dd = false) {a : Addr} {K : Value → Prop} (hk : withc (cellH H a) K) : rcA P t (.pointer (some a)) H K := by
  cases hc : cellH H a with
  | none => rw [hc] at hk; exact hk.elim
  | some v => rw [hc] at hk; unfold rcA; simp only [rd_loadVar_cell h hd hc]; exact hk
theorem rcA_n {t : TypeId} {dd : TypeDesc} {z : Option Value} {sz by_ : Nat} (h : P.underlying t = some dd) (hd : aggD dd = true) (ht : TyOK P t z sz by_) {a : Addr} {K : Value → Prop} {l : List Value} (hc : cellsH H a 0 sz = some l) : rcA P t (.pointer (some a)) H K = K (.agg l.toArray) := by
  unfold rcA; simp only [rd_loadVar_agg h hd ht hc]

end
end Go.Hw

/- Literals of structs as equations; slices with their blocks. -/
set_option linter.unusedSimpArgs false
set_option linter.unusedVariables false
namespace Go.Hw

def bfill (pl : List (Nat × Nat)) (cells : List Value) : List (Nat × Value) → Option (List Value)
  | [] => some cells
  | (i, v) :: rest => match pl[i]? with
    | none => none
    | some (off, size) => if v.cells.toList.length = size ∧ off + size ≤ cells.length then bfill pl (cells.take off ++ (v.cells.toList ++ cells.drop (off + size))) rest else none

theorem bfill_nil {pl : List (Nat × Nat)} {cells : List Value} : bfill pl cells [] = some cells := (rfl)
def bstep (pl : List (Nat × Nat)) (cells : List Value) (v : Value) (rest : List (Nat × Value)) (p : Option (Nat × Nat)) : Option (List Value) :=
  match p with
  | none => none
  | some (off, size) => if v.cells.toList.length = size ∧ off + size ≤ cells.length then bfill pl (cells.take off ++ (v.cells.toList ++ cells.drop (off + size))) rest else none
theorem bfill_cons {pl : List (Nat × Nat)} {cells : List Value} {i : Nat} {v : Value} {rest : List (Nat × Value)} : bfill pl cells ((i, v) :: rest) = bstep pl cells v rest pl[i]? := (rfl)
theorem bstep_some {pl : List (Nat × Nat)} {cells : List Value} {v : Value} {rest : List (Nat × Value)} {off size : Nat} : bstep pl cells v rest (some (off, size)) = if v.cells.toList.length = size ∧ off + size ≤ cells.length then bfill pl (cells.take off ++ (v.cells.toList ++ cells.drop (off + size))) rest else none := (rfl)

theorem put_zip (off : Nat) : ∀ (l : List Value) (k : Nat) (cells : Array Value), off + k + l.length ≤ cells.size →
    (l.toArray.zipIdx k).foldl (fun cs x => cs.setIfInBounds (off + x.2) x.1) cells = (cells.toList.take (off + k) ++ (l ++ cells.toList.drop (off + k + l.length))).toArray
  | [], k, cells, h => by
    have e : (#[] : Array Value).zipIdx k = #[] := by apply Array.ext'; simp
    rw [e]
    apply Array.ext'
    simp
  | v :: r, k, cells, h => by
    simp only [List.length_cons] at h
    have e : ((v :: r).toArray.zipIdx k) = #[(v, k)] ++ (r.toArray.zipIdx (k + 1)) := by
      apply Array.ext'
      simp [List.zipIdx_cons]
    rw [e, Array.foldl_append]
    show (r.toArray.zipIdx (k + 1)).foldl _ (cells.setIfInBounds (off + k) v) = _
    rw [put_zip off r (k + 1) (cells.setIfInBounds (off + k) v) (by simp; omega)]
    apply Array.ext'
    simp only [List.length_cons]
    apply List.ext_getElem?
    intro i
    have hlt : off + k < cells.toList.length := by simp; omega
    simp only [Array.toList_setIfInBounds]
    rw [show off + (k + 1) = off + k + 1 by omega, List.take_succ_eq_append_getElem (by simpa using hlt)]
    simp only [List.getElem_set_self, List.take_set_of_le (Nat.le_refl _), List.append_assoc, List.cons_append, List.nil_append]
    rw [List.drop_set_of_lt (by omega)]
    rw [show off + k + 1 + r.length = off + k + (r.length + 1) by omega]

theorem fill_eq (pl : List (Nat × Nat)) : ∀ (ps : List (Nat × Value)) (cells : List Value), Instr.fill (pl.toArray[·]?) cells.toArray ps = (bfill pl cells ps).map List.toArray
  | [], cells => rfl
  | (i, v) :: rest, cells => by
    unfold Instr.fill bfill
    have e : pl.toArray[i]? = pl[i]? := by simp
    rw [e]
    cases hp : pl[i]? with
    | none => rfl
    | some p =>
      obtain ⟨off, size⟩ := p
      simp only []
      by_cases hc : v.cells.toList.length = size ∧ off + size ≤ cells.length
      · have h1 : ¬ ((decide (v.cells.size ≠ size) || decide (off + v.cells.size > cells.toArray.size)) = true) := by
          have := hc.1
          simp only [Array.length_toList] at this
          simp [this]; exact hc.2
        rw [if_neg h1, if_pos hc]
        have hz := put_zip off v.cells.toList 0 cells.toArray (by simpa [hc.1] using hc.2)
        simp only [Nat.add_zero] at hz
        have hz2 : Array.foldl (fun cs (x : Value × Nat) => match x with | (c, j) => cs.setIfInBounds (off + j) c) cells.toArray v.cells.zipIdx = (cells.take off ++ (v.cells.toList ++ cells.drop (off + size))).toArray := by
          have : v.cells.toList.toArray = v.cells := by simp
          rw [this] at hz
          rw [← hc.1]
          simpa using hz
        rw [hz2]
        exact fill_eq pl rest _
      · have h1 : (decide (v.cells.size ≠ size) || decide (off + v.cells.size > cells.toArray.size)) = true := by
          simp only [Array.length_toList] at hc
          simp only [Bool.or_eq_true, decide_eq_true_eq, List.size_toArray]
          omega
        rw [if_pos h1, if_neg hc]
        rfl

def placesO (P : Program) : List Field → Option (List (Nat × Nat))
  | [] => some []
  | f :: r => match P.info? f.type, placesO P r with
    | some i, some l => some ((f.offset, i.size) :: l)
    | _, _ => none

def fldG (f : Field) : Sem (Nat × Nat) := (sizeOf f.type).bind fun s => Sem.pure (f.offset, s)

theorem places_rd {P : Program} {H : Hp} : ∀ (fs : List Field) {l : List (Nat × Nat)}, placesO P fs = some l → rd P (fs.mapM fldG) H = some l
  | [], l, h => by simp only [placesO, Option.some.injEq] at h; subst h; rfl
  | f :: r, l, h => by
    simp only [placesO] at h
    cases hi : P.info? f.type with
    | none => rw [hi] at h; cases h
    | some i =>
      cases hr : placesO P r with
      | none => rw [hi, hr] at h; cases h
      | some l' =>
        rw [hi, hr] at h
        simp only [Option.some.injEq] at h
        subst h
        have hs : rd P (fldG f) H = some (f.offset, i.size) := by
          show rd P (((match P.info? f.type with | some i => Sem.pure i | none => stuck "no such type").bind fun i => Sem.pure i.size).bind fun s => Sem.pure (f.offset, s)) H = _
          rw [hi]; rfl
        rw [List.mapM_cons]
        show rd P ((fldG f).bind fun b => (r.mapM fldG).bind fun bs => Sem.pure (b :: bs)) H = _
        rw [rd_bind, hs]
        show rd P ((r.mapM fldG).bind fun bs => Sem.pure ((f.offset, i.size) :: bs)) H = _
        rw [rd_bind, places_rd r hr]
        rfl

theorem rd_zero {P : Program} {H : Hp} {t : TypeId} {z : Value} {sz by_ : Nat} (ht : TyOK P t (some z) sz by_) : rd P (zeroValue t) H = some z := by
  obtain ⟨i, hi, h1, _, _⟩ := ht.info
  show rd P ((match P.info? t with | some i => Sem.pure i | none => stuck "no such type").bind fun i => match i.zero with | some v => Sem.pure v | none => unsupported _) H = _
  rw [hi]
  simp only [Sem.bind, h1]
  rfl
theorem rd_und0 {P : Program} {H : Hp} {t : TypeId} {d : TypeDesc} (h : P.underlying t = some d) : rd P (underlying t) H = some d := by
  show rd P (match P.underlying t with | some d => Sem.pure d | none => stuck _) H = _
  rw [h]; rfl

def withO (o : Option (List Value)) (K : Value → Prop) : Prop :=
  match o with
  | some c => K (.agg c.toArray)
  | none => False
theorem withO_some {c : List Value} {K : Value → Prop} : withO (some c) K = K (.agg c.toArray) := (rfl)

section
variable {P : Program} {H : Hp} {K : Value → Hp → Prop} {X : List PanicEntry → Hp → Prop} {KQ : Value → Prop}

theorem hwx_rd {α : Type} : ∀ (s : Sem α) (H : Hp) (v : α) {K : α → Hp → Prop} {X : Value → Hp → Prop}, rd P s H = some v → hwx P s K X H = K v H := by
  intro s
  induction s with
  | pure a => intro H v K X h; simp only [rd, Option.some.injEq] at h; subst h; rfl
  | load m a k ih =>
    intro H v K X h
    simp only [rd, hwx] at h ⊢
    cases hc : cellH H a with
    | none => rw [hc] at h; cases h
    | some u => rw [hc] at h; exact ih u H v h
  | shape r k ih => intro H v K X h; simp only [rd] at h; split at h; exact ih _ H v h; cases h
  | frozen a k ih => intro H v K X h; simp only [rd] at h; split at h; exact ih _ H v h; cases h
  | getObj r k ih =>
    intro H v K X h
    simp only [rd, hwx] at h ⊢
    cases ho : H[r]? with
    | none => rw [ho] at h; cases h
    | some o =>
      rw [ho] at h
      simp only at h
      split at h
      · cases h
      · rename_i hc
        have hc' : isCells o = false := by simpa using hc
        simp only [hc', true_and]
        exact ih o H v h
  | program k ih => intro H v K X h; exact ih _ H v h
  | mark m k ih => intro H v K X h; exact ih H v h
  | store m a u k ih => intro H v K X h; cases h
  | new o k ih => intro H v K X h; cases h
  | freeze a n k ih => intro H v K X h; cases h
  | setObj r o k ih => intro H v K X h; cases h
  | choose q k ih => intro H v K X h; cases h
  | sys c k ih => intro H v K X h; cases h
  | halt x => intro H v K X h; cases h

theorem rd_places {fs : Array Field} {pl : List (Nat × Nat)} (hp : placesO P fs.toList = some pl) : rd P (fs.mapM fldG) H = some pl.toArray := by
  have e2 : (fs.mapM fldG : Sem (Array (Nat × Nat))) = (fs.toList.mapM fldG).bind fun l => Sem.pure l.toArray := by
    rw [Array.mapM_eq_mapM_toList]
    exact map_eq_pure_bind _ _
  rw [e2, rd_bind, places_rd _ hp]
  rfl

theorem rd_build {t : TypeId} {fs : Array Field} {zc : Array Value} {sz by_ : Nat} {pl : List (Nat × Nat)} (h : P.underlying t = some (.struct fs)) (ht : TyOK P t (some (.agg zc)) sz by_) (hp : placesO P fs.toList = some pl) (ps : List (Nat × Value)) :
    rd P (Instr.build t ps.toArray) H = (bfill pl zc.toList ps).map fun c => .agg c.toArray := by
  unfold Instr.build
  show rd P ((zeroValue t).bind _) H = _
  rw [rd_bind, rd_zero ht, Option.bind_some]
  show rd P ((underlying t).bind _) H = _
  rw [rd_bind, rd_und0 h, Option.bind_some]
  show rd P ((fs.mapM fldG).bind _) H = _
  rw [rd_bind, rd_places hp, Option.bind_some]
  have e3 : (Value.agg zc).cells = zc.toList.toArray := by simp [Value.cells]
  rw [e3, fill_eq]
  cases bfill pl zc.toList ps <;> rfl

theorem bldA_e {t : TypeId} {fs : Array Field} {zc : Array Value} {sz by_ : Nat} {pl : List (Nat × Nat)} (h : P.underlying t = some (.struct fs)) (ht : TyOK P t (some (.agg zc)) sz by_) (hp : placesO P fs.toList = some pl) {ps : List (Nat × Value)} :
    bldA P t ps K X H = withO (bfill pl zc.toList ps) fun v => K v H := by
  unfold bldA hv Instr.build
  show hwx P ((zeroValue t).bind _) _ _ H = _
  rw [hwx_bind, hwx_rd _ _ _ (rd_zero ht)]
  show hwx P ((underlying t).bind _) _ _ H = _
  rw [hwx_bind, hwx_rd _ _ _ (rd_und0 h)]
  show hwx P ((fs.mapM fldG).bind _) _ _ H = _
  rw [hwx_bind, hwx_rd _ _ _ (rd_places hp)]
  have e3 : (Value.agg zc).cells = zc.toList.toArray := by simp [Value.cells]
  rw [e3, fill_eq]
  cases bfill pl zc.toList ps <;> rfl

theorem bldQ_e {t : TypeId} {fs : Array Field} {zc : Array Value} {sz by_ : Nat} {pl : List (Nat × Nat)} (h : P.underlying t = some (.struct fs)) (ht : TyOK P t (some (.agg zc)) sz by_) (hp : placesO P fs.toList = some pl) {ps : List (Nat × Value)} :
    bldQ P t ps KQ H = withO (bfill pl zc.toList ps) KQ := by
  unfold bldQ qv
  rw [rd_build h ht hp]
  cases bfill pl zc.toList ps <;> rfl

end

theorem box_kA {P : Program} {H : Hp} {t : TypeId} {cs : Array Value} {K : Value → Hp → Prop} (k : ∀ (b : Nat) (G : Hp), b = H.size → G.size = H.size + 1 → G[b]? = some (.cells cs t (0, 0)) → Ext H G → K (.pointer (some ⟨b, 0, none⟩)) G) : boxA P t (.agg cs) K H := box_k k
theorem box_k1 {P : Program} {H : Hp} {t : TypeId} {v : Value} {K : Value → Hp → Prop} (k : ∀ (b : Nat) (G : Hp), b = H.size → G.size = H.size + 1 → G[b]? = some (.cells #[v] t (0, 0)) → Ext H G → K (.pointer (some ⟨b, 0, none⟩)) G) (hv : v.cells = #[v] := by rfl) : boxA P t v K H :=
  box_k (by rw [hv]; exact k)
/-- A store of a struct. -/
theorem store_kA {P : Program} {H : Hp} {K : Value → Hp → Prop} {X : List PanicEntry → Hp → Prop} {t : TypeId} {z : Option Value} {sz by_ b off : Nat} {l : List Value} {c : Array Value} {e : TypeId} (hb : H[b]? = some (.cells c e (0, 0))) (ht : TyOK P t z sz by_) (hv : l.length = sz := by rfl) (h1 : (l.all oneC) = true := by rfl) (hoff : off + sz ≤ c.size := by simp)
    (k : ∀ G : Hp, G[b]? = some (.cells (splice c off l) e (0, 0)) → Keep (· = b) H G → G.size = H.size → K undef G) : storeA P t (.pointer (some ⟨b, off, none⟩)) (.agg ⟨l⟩) K X H :=
  store_k hb ht (by simpa [Value.cells] using hv) (by simpa [Value.cells] using h1) hoff (by simpa [Value.cells] using k)
/-- A store of a value of one cell. -/
theorem store_k1 {P : Program} {H : Hp} {K : Value → Hp → Prop} {X : List PanicEntry → Hp → Prop} {t : TypeId} {z : Option Value} {by_ b off : Nat} {v : Value} {c : Array Value} {e : TypeId} (hb : H[b]? = some (.cells c e (0, 0))) (ht : TyOK P t z 1 by_) (hv : v.cells = #[v] := by rfl) (h1 : oneC v = true := by rfl) (hoff : off + 1 ≤ c.size := by simp)
    (k : ∀ G : Hp, G[b]? = some (.cells (c.setIfInBounds off v) e (0, 0)) → Keep (· = b) H G → G.size = H.size → K undef G) : storeA P t (.pointer (some ⟨b, off, none⟩)) v K X H :=
  store_k hb ht (by rw [hv]; rfl) (by rw [hv]; simp [h1]) hoff (by rw [hv]; exact k)

/-! ### A slice with the kind of its block -/

/-- v: n elements of type E (sz cells each), their cells l. -/
def SlE (E sz : Nat) (H : Hp) (v : Value) (n : Nat) (l : List Value) : Prop :=
  (∃ c, v = .slice none n c ∧ n = 0 ∧ l = []) ∨
  ∃ b off cap c f, v = .slice (some ⟨b, off, none⟩) n cap ∧ H[b]? = some (.cells c E f) ∧ l.length = n * sz ∧ off + n * sz ≤ c.size ∧ n ≤ cap ∧ (c.toList.drop off).take (n * sz) = l

theorem SlE.own {ok : Nat → Prop} {E sz : Nat} {H : Hp} {v : Value} {n : Nat} {l : List Value} (h : OwnS ok E sz H v n l) : SlE E sz H v n l := by
  rcases h with ⟨h1, h2, h3⟩ | ⟨b, cap, c, f, h1, h2, h3, h4, h5, h6, h7, h8⟩
  · subst h2; exact .inl ⟨0, h1, rfl, h3⟩
  · have : n * sz ≤ cap * sz := Nat.mul_le_mul_right _ h5
    exact .inr ⟨b, 0, cap, c, f, h1, h3, h6, by omega, h5, by simpa using h7⟩
theorem SlE.nil {E sz : Nat} {H : Hp} {c : Nat} : SlE E sz H (.slice none 0 c) 0 [] := .inl ⟨c, rfl, rfl, rfl⟩
theorem SlE.form {E sz : Nat} {H : Hp} {v : Value} {n : Nat} {l : List Value} (h : SlE E sz H v n l) : ∃ a c, v = .slice a n c := by
  rcases h with ⟨c, h1, _⟩ | ⟨b, off, cap, c, f, h1, _⟩
  · exact ⟨_, _, h1⟩
  · exact ⟨_, _, h1⟩
theorem SlE.length {E sz : Nat} {H : Hp} {v : Value} {n : Nat} {l : List Value} (h : SlE E sz H v n l) : l.length = n * sz := by
  rcases h with ⟨c, _, h1, h2⟩ | ⟨b, off, cap, c, f, _, _, h1, _⟩
  · subst h1 h2; simp
  · exact h1
theorem SlE.src {E sz : Nat} {H : Hp} {v : Value} {n : Nat} {l : List Value} (h : SlE E sz H v n l) : Src H sz v n l := by
  rcases h with ⟨c, rfl, rfl, rfl⟩ | ⟨b, off, cap, c, f, rfl, h2, h3, h4, h5, h6⟩
  · exact .inr (.inl ⟨c, rfl, by simp, rfl⟩)
  · refine .inl ⟨⟨b, off, none⟩, cap, rfl, ?_⟩
    rw [cellsH_of_blk h2 _ _ (by omega)]
    simp [h6]
theorem SlE.mono {E sz : Nat} {H H' : Hp} {v : Value} {n : Nat} {l : List Value} (h : SlE E sz H v n l) (hk : ∀ (b : Nat) (c : Array Value) (f : Nat × Nat), H[b]? = some (Obj.cells c E f) → H'[b]? = some (Obj.cells c E f)) : SlE E sz H' v n l := by
  rcases h with h | ⟨b, off, cap, c, f, h1, h2, h3⟩
  · exact .inl h
  · exact .inr ⟨b, off, cap, c, f, h1, hk b c f h2, h3⟩
theorem SlE.ext {E sz : Nat} {H H' : Hp} {v : Value} {n : Nat} {l : List Value} (h : SlE E sz H v n l) (e : Ext H H') : SlE E sz H' v n l := h.mono fun _ _ _ hb => e.get hb

/-- Element i, its cell j. -/
theorem SlE.cell {E sz : Nat} {H : Hp} {v : Value} {n : Nat} {l : List Value} (h : SlE E sz H v n l) {i : Nat} (hi : i < n) :
    ∃ b off c, v = .slice (some ⟨b, off, none⟩) n c ∧ ∀ j, j < sz → ∃ u, l[i * sz + j]? = some u ∧ cellH H ⟨b, off + (i * sz + j), none⟩ = some u := by
  rcases h with ⟨c, _, h1, _⟩ | ⟨b, off, cap, c, f, h1, h2, h3, h4, h5, h6⟩
  · omega
  · refine ⟨b, off, cap, h1, fun j hj => ?_⟩
    have hlt : i * sz + j < n * sz := by
      have : (i + 1) * sz ≤ n * sz := Nat.mul_le_mul_right _ hi
      rw [Nat.succ_mul] at this
      omega
    have hl : i * sz + j < l.length := by omega
    refine ⟨l[i * sz + j], List.getElem?_eq_getElem hl, ?_⟩
    rw [cell_of_blk h2]
    have : l[i * sz + j]? = c.toList[off + (i * sz + j)]? := by rw [← h6, List.getElem?_take_of_lt hlt, List.getElem?_drop]
    rw [List.getElem?_eq_getElem hl] at this
    rw [this]; simp

/-- A part of it. -/
theorem SlE.part {E sz : Nat} {H : Hp} {a : Option Addr} {n c : Nat} {l : List Value} (h : SlE E sz H (.slice a n c) n l) {lo hi : Nat} (h1 : lo ≤ hi) (h2 : hi ≤ n) :
    n ≤ c ∨ n = 0 := by
  rcases h with ⟨c', h1, h3, _⟩ | ⟨b, off, cap, c', f, h1, _, _, _, h5, _⟩
  · exact .inr h3
  · cases h1; exact .inl h5
theorem SlE.drop {E sz : Nat} {H : Hp} {a : Option Addr} {n c : Nat} {l : List Value} (h : SlE E sz H (.slice a n c) n l) {lo : Nat} (h2 : lo ≤ n) :
    SlE E sz H (.slice (subAddr a sz lo c) (n - lo) (c - lo)) (n - lo) (l.drop (lo * sz)) := by
  rcases h with ⟨c', h1, h3, h4⟩ | ⟨b, off, cap, cs, f, h1, h3, h4, h5, h6, h7⟩
  · cases h1
    subst h3 h4
    have : lo = 0 := by omega
    subst this
    refine .inl ⟨c, ?_, by omega, by simp⟩
    simp [subAddr]
  · cases h1
    have hls : lo * sz ≤ n * sz := Nat.mul_le_mul_right _ h2
    by_cases hc : c = lo
    · have hn : n = lo := by omega
      subst hc hn
      refine .inr ⟨b, off, 0, cs, f, by simp [subAddr], h3, by simp [h4], by simp; omega, by omega, ?_⟩
      simp [h4]
    · refine .inr ⟨b, off + lo * sz, c - lo, cs, f, by simp [subAddr, hc, add_none], h3, ?_, ?_, by omega, ?_⟩
      · rw [List.length_drop, h4, Nat.sub_mul]
      · rw [Nat.sub_mul]; omega
      · rw [← h7, List.drop_take, List.drop_drop, Nat.sub_mul]
theorem SlE.take {E sz : Nat} {H : Hp} {a : Option Addr} {n c : Nat} {l : List Value} (h : SlE E sz H (.slice a n c) n l) {hi : Nat} (h2 : hi ≤ n) :
    SlE E sz H (.slice a hi c) hi (l.take (hi * sz)) := by
  rcases h with ⟨c', h1, h3, h4⟩ | ⟨b, off, cap, cs, f, h1, h3, h4, h5, h6, h7⟩
  · cases h1
    subst h3 h4
    have : hi = 0 := by omega
    subst this
    exact .inl ⟨c, rfl, rfl, by simp⟩
  · cases h1
    have hls : hi * sz ≤ n * sz := Nat.mul_le_mul_right _ h2
    refine .inr ⟨b, off, c, cs, f, rfl, h3, ?_, by omega, by omega, ?_⟩
    · rw [List.length_take, h4]; omega
    · rw [← h7, List.take_take]; congr 1; omega

/-! ### Drawn regions by a plan -/

def dwQ (P : Program) (Q : E → Fr → Hp → Prop) (keep : List Nat) (l : List (Nat × O)) (F : Fr) (H : Hp) : Prop := dwk P (fun F' H' => Q .normal (trim keep F') H') (panQ Q) l F H
def contW (P : Program) (Q : E → Fr → Hp → Prop) (keep : List Nat) (d : Nat) (r : List (Nat × O)) (F : Fr) (v : Value) (H : Hp) : Prop := dwQ P Q keep r ((d, v) :: F) H
def contWn (P : Program) (Q : E → Fr → Hp → Prop) (keep : List Nat) (r : List (Nat × O)) (F : Fr) (v : Value) (H : Hp) : Prop := dwQ P Q keep r F H
def contX (P : Program) (Q : E → Fr → Hp → Prop) (keep : List Nat) (d : Nat) (r : List (Nat × O)) (F : Fr) (H : Hp) (v : Value) (H' : Hp) : Prop := Ext H H' ∧ dwQ P Q keep r ((d, v) :: F) H'
def contXn (P : Program) (Q : E → Fr → Hp → Prop) (keep : List Nat) (r : List (Nat × O)) (F : Fr) (H : Hp) (v : Value) (H' : Hp) : Prop := Ext H H' ∧ dwQ P Q keep r F H'
def contY (P : Program) (Q : E → Fr → Hp → Prop) (keep : List Nat) (d : Nat) (r : List (Nat × O)) (F : Fr) (H : Hp) (v : Value) : Prop := dwQ P Q keep r ((d, v) :: F) H
def contYn (P : Program) (Q : E → Fr → Hp → Prop) (keep : List Nat) (r : List (Nat × O)) (F : Fr) (H : Hp) (v : Value) : Prop := dwQ P Q keep r F H
def guardW (P : Program) (Q : E → Fr → Hp → Prop) (keep : List Nat) (k : Nat) (c : Option Value) (b : Bool) (d : Option Nat) (op : Op) (t : TypeId) (r : List (Nat × O)) (F : Fr) (H : Hp) : Prop :=
  match c with
  | some (.bool c) => if c = b then dwQ P Q keep ((k, ⟨d, op, t, none⟩) :: r) F H else dwQ P Q keep r (upd d undef F) H
  | some _ => dwQ P Q keep r (upd d undef F) H
  | none => False
section
variable {P : Program} {Q : E → Fr → Hp → Prop} {keep : List Nat} {r : List (Nat × O)} {F : Fr} {H : Hp} {op : Op} {t : TypeId} {n : Nat}
theorem aw_dwQ {ops : List (Nat × O)} : aw P n (.drn ops keep) Q F H = dwQ P Q keep ops F H := (rfl)
theorem dwQ_nil : dwQ P Q keep [] F H = Q .normal (trim keep F) H := (rfl)
theorem dwQ_0 {d : Nat} : dwQ P Q keep ((0, ⟨some d, op, t, none⟩) :: r) F H = opA P ⟨some d, op, t, none⟩ F H (contW P Q keep d r F) (panQ Q) := (rfl)
theorem dwQ_0n : dwQ P Q keep ((0, ⟨none, op, t, none⟩) :: r) F H = opA P ⟨none, op, t, none⟩ F H (contWn P Q keep r F) (panQ Q) := (rfl)
theorem dwQ_3 {d : Nat} : dwQ P Q keep ((3, ⟨some d, op, t, none⟩) :: r) F H = opA P ⟨some d, op, t, none⟩ F H (contX P Q keep d r F H) (panQ Q) := (rfl)
theorem dwQ_3n : dwQ P Q keep ((3, ⟨none, op, t, none⟩) :: r) F H = opA P ⟨none, op, t, none⟩ F H (contXn P Q keep r F H) (panQ Q) := (rfl)
theorem dwQ_1 {d : Nat} : dwQ P Q keep ((1, ⟨some d, op, t, none⟩) :: r) F H = qA P ⟨some d, op, t, none⟩ F H (contY P Q keep d r F H) := (rfl)
theorem dwQ_1n : dwQ P Q keep ((1, ⟨none, op, t, none⟩) :: r) F H = qA P ⟨none, op, t, none⟩ F H (contYn P Q keep r F H) := (rfl)
theorem dwQ_2 {d : Nat} : dwQ P Q keep ((2, ⟨some d, op, t, none⟩) :: r) F H = qA P ⟨some d, op, t, none⟩ F #[] (contY P Q keep d r F H) := (rfl)
theorem dwQ_2n : dwQ P Q keep ((2, ⟨none, op, t, none⟩) :: r) F H = qA P ⟨none, op, t, none⟩ F #[] (contYn P Q keep r F H) := (rfl)
theorem contW_app {d : Nat} {v : Value} : contW P Q keep d r F v H = dwQ P Q keep r ((d, v) :: F) H := (rfl)
theorem contWn_app {v : Value} : contWn P Q keep r F v H = dwQ P Q keep r F H := (rfl)
theorem contX_app {d : Nat} {v : Value} {H' : Hp} : contX P Q keep d r F H v H' = (Ext H H' ∧ dwQ P Q keep r ((d, v) :: F) H') := (rfl)
theorem contXn_app {v : Value} {H' : Hp} : contXn P Q keep r F H v H' = (Ext H H' ∧ dwQ P Q keep r F H') := (rfl)
theorem contY_app {d : Nat} {v : Value} : contY P Q keep d r F H v = dwQ P Q keep r ((d, v) :: F) H := (rfl)
theorem contYn_app {v : Value} : contYn P Q keep r F H v = dwQ P Q keep r F H := (rfl)
theorem dwQ_guard {k : Nat} {d : Option Nat} {s : Nat} {b : Bool} : dwQ P Q keep ((k, ⟨d, op, t, some (s, b)⟩) :: r) F H = withg F s fun c => guardW P Q keep k c b d op t r F H := by
  unfold withg guardW dwQ
  simp only [dwk]
  cases look? F s with
  | none => rfl
  | some v => cases v <;> rfl
theorem guardW_true {k : Nat} {d : Option Nat} {b : Bool} : guardW P Q keep k (some (.bool b)) b d op t r F H = dwQ P Q keep ((k, ⟨d, op, t, none⟩) :: r) F H := by simp [guardW]
theorem guardW_tf {k : Nat} {d : Option Nat} : guardW P Q keep k (some (.bool true)) false d op t r F H = dwQ P Q keep r (upd d undef F) H := (rfl)
theorem guardW_ft {k : Nat} {d : Option Nat} : guardW P Q keep k (some (.bool false)) true d op t r F H = dwQ P Q keep r (upd d undef F) H := (rfl)
theorem guardW_un {k : Nat} {d : Option Nat} {b : Bool} : guardW P Q keep k (some undef) b d op t r F H = dwQ P Q keep r (upd d undef F) H := (rfl)
end
end Go.Hw

/- All of the core. -/

/- Quotients; a law's row: how a contract over the heap alone gives the statement. -/
set_option linter.unusedVariables false
set_option linter.unusedSimpArgs false
namespace Go.Hw
open Go
section
variable {P : Program} {t : TypeId} {x y : Operand} {k : IntKind} {a b : Int} {K : Value → Hp → Prop} {X : List PanicEntry → Hp → Prop} {H : Hp} {KQ : Value → Prop}
theorem binA_rem (hb : b ≠ 0) : binA P .rem t x y (.int k a) (.int k b) K X H = K (.int k (a.tmod b)) H := by
  unfold binA hv
  cases k <;> (show hwx P (Op.intDiv .rem _ a b) _ _ H = _; unfold Op.intDiv; rw [if_neg hb]; rfl)
theorem binA_quo (hb : b ≠ 0) : binA P .quo t x y (.int k a) (.int k b) K X H = K (.int k (k.wrap (a.tdiv b))) H := by
  unfold binA hv
  cases k <;> (show hwx P (Op.intDiv .quo _ a b) _ _ H = _; unfold Op.intDiv; rw [if_neg hb]; rfl)
end
end Go.Hw

/- A range's entry; the length of a map. -/
set_option linter.unusedSimpArgs false
set_option linter.unusedVariables false
namespace Go.Hw
section
variable {P : Program} {H : Hp} {K : Value → Hp → Prop} {X : List PanicEntry → Hp → Prop} {t ty : TypeId} {F : Fr} {d : Option Nat} {g : Option (Nat × Bool)} {cs : Array Bool}
def entA (P : Program) (v : Value) (K : Value → Hp → Prop) (X : List PanicEntry → Hp → Prop) (H : Hp) : Prop := hv P (Instr.entry v) K X H
theorem opA_entry (x : Operand) : opA P ⟨d, .entry x, ty, g⟩ F H K X = withv F x fun v => entA P v K X H := by
  rw [opA_1 rfl (f := fun v => do pure (.value (← Instr.entry v))) fun _ => rfl]
  exact congrArg (withv F x) (funext fun v => hv_next _)
theorem entA_map {r m c s clk : Nat} {seen : Array Nat} {es : Array MapEntry} (hit : H[r]? = some (.mapIter (some m) c seen clk)) (hb : seen.back? = some s) (hm : H[m]? = some (.map es clk)) (hx : ∃ e ∈ es, e.born = s)
    (k : ∀ e ∈ es, e.born = s → K (.tuple #[e.key, e.val]) H) : entA P (.pointer (some ⟨r, 0, none⟩)) K X H := by
  unfold entA hv Instr.entry
  show hwx P ((getObj r).bind _) _ _ H
  simp only [getObj, Sem.bind, hwx, hit, isCells, true_and, hb]
  show hwx P ((getObj m).bind _) _ _ H
  simp only [getObj, Sem.bind, hwx, hm, isCells, true_and]
  have hc : (clk != clk) = false := by simp
  rw [hc, if_neg (by simp)]
  cases hf : es.find? (fun e => e.born == s) with
  | none =>
    obtain ⟨e, he, h1⟩ := hx
    have := Array.find?_eq_none.1 hf e he
    simp [h1] at this
  | some e =>
    have h1 := Array.mem_of_find?_eq_some hf
    have h2 := Array.find?_some hf
    exact k e h1 (by simpa using h2)
theorem len_map {m : Nat} {es : Array MapEntry} {clk : Nat} {kt et : TypeId} (h : P.underlying t = some (.map kt et)) (hm : H[m]? = some (.map es clk)) : callA P (.builtin .len) #[t] ty cs [.map (some m)] K X H = K (.int .i64 es.size) H := by
  show hwx P (do let v ← Builtin.len_ #[t] ty #[.map (some m)]; pure (Next.value v)) _ _ H = _
  rw [hv_next]
  unfold hv Builtin.len_
  show hwx P ((underlying t).bind _) _ _ H = _
  rw [hw_und h]
  show hwx P ((getObj m).bind _) _ _ H = _
  simp only [getObj, Sem.bind, hwx, hm, isCells, true_and]
  rfl
theorem len_mapnil {kt et : TypeId} (h : P.underlying t = some (.map kt et)) : callA P (.builtin .len) #[t] ty cs [.map none] K X H = K (.int .i64 0) H := by
  show hwx P (do let v ← Builtin.len_ #[t] ty #[.map none]; pure (Next.value v)) _ _ H = _
  rw [hv_next]
  unfold hv Builtin.len_
  show hwx P ((underlying t).bind _) _ _ H = _
  rw [hw_und h]
  rfl
end
@[congr] theorem entA_congr {P : Program} {v : Value} {K : Value → Hp → Prop} {X : List PanicEntry → Hp → Prop} {H : Hp} {v' : Value} (hv : v = v') : entA P v K X H = entA P v' K X H := by subst hv; rfl
end Go.Hw

/- The walk's equations, gathered under one name. -/
namespace Go.Hw
attribute [go_sem ↓]
  aw_seqQ panQ_eq aw_regQ aw_drwQ regQ_nil contR_app contN_app contD_app contE_app guardR_true guardR_tf guardR_ft
  guardR_un guardR_tfn guardR_ftn guardR_unn guardD_true guardD_tf guardD_ft guardD_un aw_condR condR_true condR_false withg_tl
  withg_hd drwQ_consn regQ_guardn regQ_consn regQ_cons regQ_guard drwQ_zero drwQ_nil drwQ_cons drwQ_guard aw_skip aw_ret
  aw_exit aw_block aw_keep resW_nil resW_tmp pack_one pack_two pack_three pack_four pack_nil opA_move opA_assign
  opA_pick opA_extract opA_unOp opA_binOp opA_call opA_index opA_slice opA_load opA_box opA_store opA_buildSlice opA_build
  opA_convert opA_fieldAddr opA_indexAddr opA_field opA_range opA_next opA_entry qA_move qA_assign qA_pick qA_extract qA_unOp qA_binOp
  qA_call qA_index qA_slice qA_load qA_build qA_convert qA_fieldAddr qA_indexAddr withv_const withv_func withv_global withv_hd
  withv_tl withvs_nil withvs_cons withov_none withov_some withps_nil withps_cons pickA_true pickA_false extrA_0 extrA_1 extrA_2
  extrA_3 nilA_ptr nilA_fn nilA_iface unA_not unA_neg unQ_not unQ_neg binA_add binA_sub binA_mul binA_lss
  binA_leq binA_gtr binA_geq binA_eql binA_neq binA_seql binA_sneq binA_slss binA_sleq binA_sgtr binA_sgeq binQ_add
  binQ_sub binQ_mul binQ_lss binQ_leq binQ_gtr binQ_geq binQ_eql binQ_neq binQ_seql binQ_sneq binQ_slss binQ_sleq
  binQ_sgtr binQ_sgeq callK_ret enumF_nil enumF_cons opA_nck nckA_ptr nckA_fn nckA_y nckA_iface qA_nck nckQ_ptr
  nckQ_fn aw_dwQ contW_app contWn_app contX_app contXn_app contY_app contYn_app guardW_true guardW_tf guardW_ft guardW_un
  dwQ_nil dwQ_0 dwQ_0n dwQ_3 dwQ_3n dwQ_1 dwQ_1n dwQ_2 dwQ_2n dwQ_guard
attribute [go_sem]
  aw_seqQ seqQ_normal seqQ_ret seqQ_exit seqQ_panic blkE_panic panQ_eq aw_regQ aw_drwQ regQ_nil contR_app contN_app
  contD_app contE_app guardR_true guardR_tf guardR_ft guardR_un guardR_tfn guardR_ftn guardR_unn guardD_true guardD_tf guardD_ft
  guardD_un aw_condR condR_true condR_false withg_tl withg_hd drwQ_consn regQ_guardn regQ_consn regQ_cons regQ_guard drwQ_zero
  drwQ_nil drwQ_cons drwQ_guard aw_skip aw_ret aw_exit aw_block aw_keep blkE_normal blkE_exit blkE_ret retK_normal
  retK_ret resW_nil resW_tmp pack_one pack_two pack_three pack_four pack_nil opA_move opA_assign opA_pick opA_extract
  opA_unOp opA_binOp opA_call opA_index opA_slice opA_load opA_box opA_store opA_buildSlice opA_build opA_convert opA_fieldAddr
  opA_indexAddr opA_field opA_range opA_next opA_entry qA_move qA_assign qA_pick qA_extract qA_unOp qA_binOp qA_call qA_index
  qA_slice qA_load qA_build qA_convert qA_fieldAddr qA_indexAddr withv_const withv_func withv_global withv_hd withv_tl look_hd
  look_tl look_nil trim_nil trim_cons addO_some addO_none upd_some upd_none withvs_nil withvs_cons withov_none withov_some
  withps_nil withps_cons pickA_true pickA_false pickA_b extrA_0 extrA_1 extrA_2 extrA_3 nilA_ptr nilA_fn nilA_iface
  unA_not unA_neg unQ_not unQ_neg binA_add binA_sub binA_mul binA_lss binA_leq binA_gtr binA_geq binA_eql
  binA_neq binA_seql binA_sneq binA_slss binA_sleq binA_sgtr binA_sgeq binQ_add binQ_sub binQ_mul binQ_lss binQ_leq
  binQ_gtr binQ_geq binQ_eql binQ_neq binQ_seql binQ_sneq binQ_slss binQ_sleq binQ_sgtr binQ_sgeq callOps_fn callOps_b
  callOps_i callK_ret enumF_nil enumF_cons if_true if_false Bool.not_true Bool.not_false Bool.false_eq_true not_false_eq_true opA_nck nckA_ptr
  nckA_fn nckA_y nckA_iface qA_nck nckQ_ptr nckQ_fn aw_dwQ contW_app contWn_app contX_app contXn_app contY_app
  contYn_app guardW_true guardW_tf guardW_ft guardW_un dwQ_nil dwQ_0 dwQ_0n dwQ_3 dwQ_3n dwQ_1 dwQ_1n
  dwQ_2 dwQ_2n dwQ_guard
end Go.Hw

set_option maxRecDepth 100000
namespace Go.Proofs.YtoabcmhiaknjiaaDoor
open Go.Hw
theorem mixed : Tryd.prog.follows .mixedOrders = true := by kernel_rfl
theorem ty1 : TyOK Tryd.prog 1 (some (.nilFunc)) 1 8 := tyOK (by kernel_rfl)
theorem ty2 : TyOK Tryd.prog 2 (some (.int .i64 0)) 1 8 := tyOK (by kernel_rfl)
theorem ty3 : TyOK Tryd.prog 3 (some (.int .i64 0)) 1 8 := tyOK (by kernel_rfl)
theorem ty4 : TyOK Tryd.prog 4 (some (.bool false)) 1 1 := tyOK (by kernel_rfl)
theorem ty5 : TyOK Tryd.prog 5 (some (.int .u8 0)) 1 1 := tyOK (by kernel_rfl)
theorem ty6 : TyOK Tryd.prog 6 (some (.int .u8 0)) 1 1 := tyOK (by kernel_rfl)
theorem ty7 : TyOK Tryd.prog 7 (some (.agg #[.int .i64 0, .int .i64 0, .bool false, .int .u8 0])) 4 24 := tyOK (by kernel_rfl)
theorem fld7_0 : FldOK Tryd.prog 7 0 0 := ⟨_, _, _, _, _, Tryd.underlying7, rfl, rfl, ty2⟩
theorem fld7_1 : FldOK Tryd.prog 7 1 1 := ⟨_, _, _, _, _, Tryd.underlying7, rfl, rfl, ty3⟩
theorem fld7_2 : FldOK Tryd.prog 7 2 2 := ⟨_, _, _, _, _, Tryd.underlying7, rfl, rfl, ty4⟩
theorem fld7_3 : FldOK Tryd.prog 7 3 3 := ⟨_, _, _, _, _, Tryd.underlying7, rfl, rfl, ty6⟩
theorem ty8 : TyOK Tryd.prog 8 (some (.agg #[.int .i64 0, .int .i64 0, .bool false, .int .u8 0])) 4 24 := tyOK (by kernel_rfl)
theorem fld8_0 : FldOK Tryd.prog 8 0 0 := ⟨_, _, _, _, _, Tryd.underlying8, rfl, rfl, ty2⟩
theorem fld8_1 : FldOK Tryd.prog 8 1 1 := ⟨_, _, _, _, _, Tryd.underlying8, rfl, rfl, ty3⟩
theorem fld8_2 : FldOK Tryd.prog 8 2 2 := ⟨_, _, _, _, _, Tryd.underlying8, rfl, rfl, ty4⟩
theorem fld8_3 : FldOK Tryd.prog 8 3 3 := ⟨_, _, _, _, _, Tryd.underlying8, rfl, rfl, ty6⟩
theorem ty9 : TyOK Tryd.prog 9 (some (.string ⟨#[]⟩)) 1 16 := tyOK (by kernel_rfl)
theorem ty10 : TyOK Tryd.prog 10 (some (.string ⟨#[]⟩)) 1 16 := tyOK (by kernel_rfl)
theorem ty11 : TyOK Tryd.prog 11 (some (.string ⟨#[]⟩)) 1 16 := tyOK (by kernel_rfl)
theorem ty12 : TyOK Tryd.prog 12 (some (.int .u64 0)) 1 8 := tyOK (by kernel_rfl)
theorem ty13 : TyOK Tryd.prog 13 (some (.agg #[.string ⟨#[]⟩, .int .u64 0])) 2 24 := tyOK (by kernel_rfl)
theorem fld13_0 : FldOK Tryd.prog 13 0 0 := ⟨_, _, _, _, _, Tryd.underlying13, rfl, rfl, ty9⟩
theorem fld13_1 : FldOK Tryd.prog 13 1 1 := ⟨_, _, _, _, _, Tryd.underlying13, rfl, rfl, ty12⟩
theorem ty14 : TyOK Tryd.prog 14 (some (.agg #[.string ⟨#[]⟩, .int .u64 0])) 2 24 := tyOK (by kernel_rfl)
theorem fld14_0 : FldOK Tryd.prog 14 0 0 := ⟨_, _, _, _, _, Tryd.underlying14, rfl, rfl, ty9⟩
theorem fld14_1 : FldOK Tryd.prog 14 1 1 := ⟨_, _, _, _, _, Tryd.underlying14, rfl, rfl, ty12⟩
theorem ty15 : TyOK Tryd.prog 15 (some (.pointer none)) 1 8 := tyOK (by kernel_rfl)
theorem ty16 : TyOK Tryd.prog 16 (some (.pointer none)) 1 8 := tyOK (by kernel_rfl)
theorem ty17 : TyOK Tryd.prog 17 (some (.pointer none)) 1 8 := tyOK (by kernel_rfl)
theorem ty18 : TyOK Tryd.prog 18 (some (.agg #[.pointer none])) 1 8 := tyOK (by kernel_rfl)
theorem fld18_0 : FldOK Tryd.prog 18 0 0 := ⟨_, _, _, _, _, Tryd.underlying18, rfl, rfl, ty17⟩
theorem ty19 : TyOK Tryd.prog 19 (some (.agg #[.pointer none])) 1 8 := tyOK (by kernel_rfl)
theorem fld19_0 : FldOK Tryd.prog 19 0 0 := ⟨_, _, _, _, _, Tryd.underlying19, rfl, rfl, ty17⟩
theorem ty20 : TyOK Tryd.prog 20 (some (.nilIface)) 1 16 := tyOK (by kernel_rfl)
theorem ty21 : TyOK Tryd.prog 21 (some (.int .i32 0)) 1 4 := tyOK (by kernel_rfl)
theorem ty22 : TyOK Tryd.prog 22 (some (.map none)) 1 8 := tyOK (by kernel_rfl)
theorem ty23 : TyOK Tryd.prog 23 (some (.nilFunc)) 1 8 := tyOK (by kernel_rfl)
theorem ty24 : TyOK Tryd.prog 24 (some (.slice none 0 0)) 1 24 := tyOK (by kernel_rfl)
theorem ty25 : TyOK Tryd.prog 25 (some (.int .i64 0)) 1 8 := tyOK (by kernel_rfl)
theorem ty27 : TyOK Tryd.prog 27 (some (.nilFunc)) 1 8 := tyOK (by kernel_rfl)
theorem ty29 : TyOK Tryd.prog 29 (some (.nilFunc)) 1 8 := tyOK (by kernel_rfl)
theorem ty30 : TyOK Tryd.prog 30 (some (.nilFunc)) 1 8 := tyOK (by kernel_rfl)
theorem ty31 : TyOK Tryd.prog 31 (some (.nilFunc)) 1 8 := tyOK (by kernel_rfl)
theorem ty32 : TyOK Tryd.prog 32 (some (.nilFunc)) 1 8 := tyOK (by kernel_rfl)
theorem ty33 : TyOK Tryd.prog 33 (some (.nilFunc)) 1 8 := tyOK (by kernel_rfl)
theorem ty34 : TyOK Tryd.prog 34 (some (.nilFunc)) 1 8 := tyOK (by kernel_rfl)
theorem ty35 : TyOK Tryd.prog 35 (some (.nilFunc)) 1 8 := tyOK (by kernel_rfl)
theorem ty36 : TyOK Tryd.prog 36 (some (.slice none 0 0)) 1 24 := tyOK (by kernel_rfl)
theorem ty38 : TyOK Tryd.prog 38 (some (.nilFunc)) 1 8 := tyOK (by kernel_rfl)
theorem ty39 : TyOK Tryd.prog 39 (some (.agg #[.int .i64 0, .string ⟨#[]⟩, .slice none 0 0, .slice none 0 0])) 4 72 := tyOK (by kernel_rfl)
theorem fld39_0 : FldOK Tryd.prog 39 0 0 := ⟨_, _, _, _, _, Tryd.underlying39, rfl, rfl, ty3⟩
theorem fld39_1 : FldOK Tryd.prog 39 1 1 := ⟨_, _, _, _, _, Tryd.underlying39, rfl, rfl, ty9⟩
theorem fld39_2 : FldOK Tryd.prog 39 2 2 := ⟨_, _, _, _, _, Tryd.underlying39, rfl, rfl, ty24⟩
theorem fld39_3 : FldOK Tryd.prog 39 3 3 := ⟨_, _, _, _, _, Tryd.underlying39, rfl, rfl, ty24⟩
theorem ty40 : TyOK Tryd.prog 40 (some (.agg #[.int .i64 0, .string ⟨#[]⟩, .slice none 0 0, .slice none 0 0])) 4 72 := tyOK (by kernel_rfl)
theorem fld40_0 : FldOK Tryd.prog 40 0 0 := ⟨_, _, _, _, _, Tryd.underlying40, rfl, rfl, ty3⟩
theorem fld40_1 : FldOK Tryd.prog 40 1 1 := ⟨_, _, _, _, _, Tryd.underlying40, rfl, rfl, ty9⟩
theorem fld40_2 : FldOK Tryd.prog 40 2 2 := ⟨_, _, _, _, _, Tryd.underlying40, rfl, rfl, ty24⟩
theorem fld40_3 : FldOK Tryd.prog 40 3 3 := ⟨_, _, _, _, _, Tryd.underlying40, rfl, rfl, ty24⟩
theorem ty41 : TyOK Tryd.prog 41 (some (.nilFunc)) 1 8 := tyOK (by kernel_rfl)
theorem ty42 : TyOK Tryd.prog 42 (some (.nilFunc)) 1 8 := tyOK (by kernel_rfl)
theorem ty43 : TyOK Tryd.prog 43 (some (.nilFunc)) 1 8 := tyOK (by kernel_rfl)
theorem ty44 : TyOK Tryd.prog 44 (some (.nilFunc)) 1 8 := tyOK (by kernel_rfl)
theorem ty45 : TyOK Tryd.prog 45 (some (.nilFunc)) 1 8 := tyOK (by kernel_rfl)
theorem ty46 : TyOK Tryd.prog 46 (some (.nilFunc)) 1 8 := tyOK (by kernel_rfl)
theorem ty47 : TyOK Tryd.prog 47 (some (.nilFunc)) 1 8 := tyOK (by kernel_rfl)
theorem ty48 : TyOK Tryd.prog 48 (some (.nilFunc)) 1 8 := tyOK (by kernel_rfl)
theorem ty50 : TyOK Tryd.prog 50 (some (.nilFunc)) 1 8 := tyOK (by kernel_rfl)
theorem ty51 : TyOK Tryd.prog 51 (some (.pointer none)) 1 8 := tyOK (by kernel_rfl)
theorem ty52 : TyOK Tryd.prog 52 (some (.slice none 0 0)) 1 24 := tyOK (by kernel_rfl)
theorem ty53 : TyOK Tryd.prog 53 (some (.agg #[.pointer none, .slice none 0 0])) 2 32 := tyOK (by kernel_rfl)
theorem fld53_0 : FldOK Tryd.prog 53 0 0 := ⟨_, _, _, _, _, Tryd.underlying53, rfl, rfl, ty51⟩
theorem fld53_1 : FldOK Tryd.prog 53 1 1 := ⟨_, _, _, _, _, Tryd.underlying53, rfl, rfl, ty52⟩
theorem ty54 : TyOK Tryd.prog 54 (some (.agg #[.pointer none, .slice none 0 0])) 2 32 := tyOK (by kernel_rfl)
theorem fld54_0 : FldOK Tryd.prog 54 0 0 := ⟨_, _, _, _, _, Tryd.underlying54, rfl, rfl, ty51⟩
theorem fld54_1 : FldOK Tryd.prog 54 1 1 := ⟨_, _, _, _, _, Tryd.underlying54, rfl, rfl, ty52⟩
theorem ty55 : TyOK Tryd.prog 55 (some (.nilFunc)) 1 8 := tyOK (by kernel_rfl)
theorem ty56 : TyOK Tryd.prog 56 (some (.nilIface)) 1 16 := tyOK (by kernel_rfl)
theorem ty57 : TyOK Tryd.prog 57 (some (.nilIface)) 1 16 := tyOK (by kernel_rfl)
theorem ty59 : TyOK Tryd.prog 59 (some (.nilFunc)) 1 8 := tyOK (by kernel_rfl)
theorem ty60 : TyOK Tryd.prog 60 (some (.nilFunc)) 1 8 := tyOK (by kernel_rfl)
theorem ty61 : TyOK Tryd.prog 61 (some (.nilFunc)) 1 8 := tyOK (by kernel_rfl)
theorem ty62 : TyOK Tryd.prog 62 (some (.nilFunc)) 1 8 := tyOK (by kernel_rfl)
theorem ty64 : TyOK Tryd.prog 64 (some (.nilFunc)) 1 8 := tyOK (by kernel_rfl)
theorem ty65 : TyOK Tryd.prog 65 (some (.nilFunc)) 1 8 := tyOK (by kernel_rfl)
theorem ty66 : TyOK Tryd.prog 66 (some (.nilFunc)) 1 8 := tyOK (by kernel_rfl)
theorem ty67 : TyOK Tryd.prog 67 (some (.nilFunc)) 1 8 := tyOK (by kernel_rfl)
theorem ty68 : TyOK Tryd.prog 68 (some (.slice none 0 0)) 1 24 := tyOK (by kernel_rfl)
theorem ty69 : TyOK Tryd.prog 69 (some (.nilFunc)) 1 8 := tyOK (by kernel_rfl)
theorem ty70 : TyOK Tryd.prog 70 (some (.nilFunc)) 1 8 := tyOK (by kernel_rfl)
theorem ty71 : TyOK Tryd.prog 71 (some (.nilFunc)) 1 8 := tyOK (by kernel_rfl)
theorem ty72 : TyOK Tryd.prog 72 (some (.agg #[.int .i64 0, .string ⟨#[]⟩])) 2 24 := tyOK (by kernel_rfl)
theorem fld72_0 : FldOK Tryd.prog 72 0 0 := ⟨_, _, _, _, _, Tryd.underlying72, rfl, rfl, ty3⟩
theorem fld72_1 : FldOK Tryd.prog 72 1 1 := ⟨_, _, _, _, _, Tryd.underlying72, rfl, rfl, ty9⟩
theorem ty73 : TyOK Tryd.prog 73 (some (.agg #[.int .i64 0, .string ⟨#[]⟩])) 2 24 := tyOK (by kernel_rfl)
theorem fld73_0 : FldOK Tryd.prog 73 0 0 := ⟨_, _, _, _, _, Tryd.underlying73, rfl, rfl, ty3⟩
theorem fld73_1 : FldOK Tryd.prog 73 1 1 := ⟨_, _, _, _, _, Tryd.underlying73, rfl, rfl, ty9⟩
theorem ty74 : TyOK Tryd.prog 74 (some (.pointer none)) 1 8 := tyOK (by kernel_rfl)
theorem ty75 : TyOK Tryd.prog 75 (some (.map none)) 1 8 := tyOK (by kernel_rfl)
theorem ty76 : TyOK Tryd.prog 76 (some (.agg #[.map none, .map none, .slice none 0 0])) 3 40 := tyOK (by kernel_rfl)
theorem fld76_0 : FldOK Tryd.prog 76 0 0 := ⟨_, _, _, _, _, Tryd.underlying76, rfl, rfl, ty22⟩
theorem fld76_1 : FldOK Tryd.prog 76 1 1 := ⟨_, _, _, _, _, Tryd.underlying76, rfl, rfl, ty75⟩
theorem fld76_2 : FldOK Tryd.prog 76 2 2 := ⟨_, _, _, _, _, Tryd.underlying76, rfl, rfl, ty36⟩
theorem ty77 : TyOK Tryd.prog 77 (some (.agg #[.map none, .map none, .slice none 0 0])) 3 40 := tyOK (by kernel_rfl)
theorem fld77_0 : FldOK Tryd.prog 77 0 0 := ⟨_, _, _, _, _, Tryd.underlying77, rfl, rfl, ty22⟩
theorem fld77_1 : FldOK Tryd.prog 77 1 1 := ⟨_, _, _, _, _, Tryd.underlying77, rfl, rfl, ty75⟩
theorem fld77_2 : FldOK Tryd.prog 77 2 2 := ⟨_, _, _, _, _, Tryd.underlying77, rfl, rfl, ty36⟩
theorem ty78 : TyOK Tryd.prog 78 (some (.agg #[.int .i64 0, .int .i64 0])) 2 16 := tyOK (by kernel_rfl)
theorem fld78_0 : FldOK Tryd.prog 78 0 0 := ⟨_, _, _, _, _, Tryd.underlying78, rfl, rfl, ty3⟩
theorem fld78_1 : FldOK Tryd.prog 78 1 1 := ⟨_, _, _, _, _, Tryd.underlying78, rfl, rfl, ty25⟩
theorem ty79 : TyOK Tryd.prog 79 (some (.agg #[.int .i64 0, .int .i64 0])) 2 16 := tyOK (by kernel_rfl)
theorem fld79_0 : FldOK Tryd.prog 79 0 0 := ⟨_, _, _, _, _, Tryd.underlying79, rfl, rfl, ty3⟩
theorem fld79_1 : FldOK Tryd.prog 79 1 1 := ⟨_, _, _, _, _, Tryd.underlying79, rfl, rfl, ty25⟩
theorem ty80 : TyOK Tryd.prog 80 (some (.nilFunc)) 1 8 := tyOK (by kernel_rfl)
theorem ty81 : TyOK Tryd.prog 81 (some (.agg #[.slice none 0 0, .string ⟨#[]⟩, .bool false])) 3 48 := tyOK (by kernel_rfl)
theorem fld81_0 : FldOK Tryd.prog 81 0 0 := ⟨_, _, _, _, _, Tryd.underlying81, rfl, rfl, ty68⟩
theorem fld81_1 : FldOK Tryd.prog 81 1 1 := ⟨_, _, _, _, _, Tryd.underlying81, rfl, rfl, ty9⟩
theorem fld81_2 : FldOK Tryd.prog 81 2 2 := ⟨_, _, _, _, _, Tryd.underlying81, rfl, rfl, ty4⟩
theorem ty82 : TyOK Tryd.prog 82 (some (.agg #[.slice none 0 0, .string ⟨#[]⟩, .bool false])) 3 48 := tyOK (by kernel_rfl)
theorem fld82_0 : FldOK Tryd.prog 82 0 0 := ⟨_, _, _, _, _, Tryd.underlying82, rfl, rfl, ty68⟩
theorem fld82_1 : FldOK Tryd.prog 82 1 1 := ⟨_, _, _, _, _, Tryd.underlying82, rfl, rfl, ty9⟩
theorem fld82_2 : FldOK Tryd.prog 82 2 2 := ⟨_, _, _, _, _, Tryd.underlying82, rfl, rfl, ty4⟩
theorem ty83 : TyOK Tryd.prog 83 (some (.nilFunc)) 1 8 := tyOK (by kernel_rfl)
theorem ty84 : TyOK Tryd.prog 84 (some (.int .u64 0)) 1 8 := tyOK (by kernel_rfl)
theorem ty86 : TyOK Tryd.prog 86 (some (.nilFunc)) 1 8 := tyOK (by kernel_rfl)
theorem ty87 : TyOK Tryd.prog 87 (some (.nilFunc)) 1 8 := tyOK (by kernel_rfl)
theorem ty88 : TyOK Tryd.prog 88 (some (.nilFunc)) 1 8 := tyOK (by kernel_rfl)
theorem ty89 : TyOK Tryd.prog 89 (some (.agg #[.bool false, .bool false, .bool false, .bool false, .bool false, .bool false, .bool false, .bool false, .bool false, .bool false, .bool false, .bool false, .bool false, .bool false, .bool false, .bool false, .bool false, .bool false, .bool false, .bool false, .bool false, .bool false, .bool false, .bool false, .bool false, .bool false, .bool false, .bool false, .bool false, .bool false, .bool false, .bool false, .bool false, .bool false, .bool false, .bool false, .bool false, .bool false, .bool false, .bool false, .bool false, .bool false, .bool false, .bool false, .bool false, .bool false, .bool false, .bool false, .bool false, .bool false, .bool false, .bool false, .bool false, .bool false, .bool false, .bool false, .bool false, .bool false, .bool false, .bool false, .bool false, .bool false, .bool false, .bool false, .bool false, .bool false, .bool false, .bool false, .bool false, .bool false, .bool false, .bool false, .bool false, .bool false, .bool false, .bool false, .bool false, .bool false, .bool false, .bool false, .bool false, .bool false, .bool false, .bool false, .bool false, .bool false, .bool false, .bool false, .bool false, .bool false, .bool false, .bool false, .bool false, .bool false, .bool false, .bool false, .bool false, .bool false, .bool false, .bool false, .bool false, .bool false, .bool false, .bool false, .bool false, .bool false, .bool false, .bool false, .bool false, .bool false, .bool false, .bool false, .bool false, .bool false, .bool false, .bool false, .bool false, .bool false, .bool false, .bool false, .bool false, .bool false, .bool false, .bool false, .bool false, .bool false, .bool false, .bool false, .bool false, .bool false, .bool false, .bool false, .bool false, .bool false, .bool false, .bool false, .bool false, .bool false, .bool false, .bool false, .bool false, .bool false, .bool false, .bool false, .bool false, .bool false, .bool false, .bool false, .bool false, .bool false, .bool false, .bool false, .bool false, .bool false, .bool false, .bool false, .bool false, .bool false, .bool false, .bool false, .bool false, .bool false, .bool false, .bool false, .bool false, .bool false, .bool false, .bool false, .bool false, .bool false, .bool false, .bool false, .bool false, .bool false, .bool false, .bool false, .bool false, .bool false, .bool false, .bool false, .bool false, .bool false, .bool false, .bool false, .bool false, .bool false, .bool false, .bool false, .bool false, .bool false, .bool false, .bool false, .bool false, .bool false, .bool false, .bool false, .bool false, .bool false, .bool false, .bool false, .bool false, .bool false, .bool false, .bool false, .bool false, .bool false, .bool false, .bool false, .bool false, .bool false, .bool false, .bool false, .bool false, .bool false, .bool false, .bool false, .bool false, .bool false, .bool false, .bool false, .bool false, .bool false, .bool false, .bool false, .bool false, .bool false, .bool false, .bool false, .bool false, .bool false, .bool false, .bool false, .bool false, .bool false, .bool false, .bool false, .bool false, .bool false, .bool false, .bool false, .bool false, .bool false, .bool false, .bool false, .bool false, .bool false, .bool false, .bool false, .bool false, .bool false, .bool false, .bool false, .bool false, .bool false, .bool false, .bool false])) 256 256 := tyOK (by kernel_rfl)
theorem ty90 : TyOK Tryd.prog 90 (some (.agg #[.bool false, .bool false, .bool false, .bool false, .bool false, .bool false, .bool false, .bool false, .bool false, .bool false, .bool false, .bool false, .bool false, .bool false, .bool false, .bool false, .bool false, .bool false, .bool false, .bool false, .bool false, .bool false, .bool false, .bool false, .bool false, .bool false, .bool false, .bool false, .bool false, .bool false, .bool false, .bool false, .bool false, .bool false, .bool false, .bool false, .bool false, .bool false, .bool false, .bool false, .bool false, .bool false, .bool false, .bool false, .bool false, .bool false, .bool false, .bool false, .bool false, .bool false, .bool false, .bool false, .bool false, .bool false, .bool false, .bool false, .bool false, .bool false, .bool false, .bool false, .bool false, .bool false, .bool false, .bool false, .bool false, .bool false, .bool false, .bool false, .bool false, .bool false, .bool false, .bool false, .bool false, .bool false, .bool false, .bool false, .bool false, .bool false, .bool false, .bool false, .bool false, .bool false, .bool false, .bool false, .bool false, .bool false, .bool false, .bool false, .bool false, .bool false, .bool false, .bool false, .bool false, .bool false, .bool false, .bool false, .bool false, .bool false, .bool false, .bool false, .bool false, .bool false, .bool false, .bool false, .bool false, .bool false, .bool false, .bool false, .bool false, .bool false, .bool false, .bool false, .bool false, .bool false, .bool false, .bool false, .bool false, .bool false, .bool false, .bool false, .bool false, .bool false, .bool false, .bool false, .bool false, .bool false, .bool false, .bool false, .bool false, .bool false, .bool false, .bool false, .bool false, .bool false, .bool false, .bool false, .bool false, .bool false, .bool false, .bool false, .bool false, .bool false, .bool false, .bool false, .bool false, .bool false, .bool false, .bool false, .bool false, .bool false, .bool false, .bool false, .bool false, .bool false, .bool false, .bool false, .bool false, .bool false, .bool false, .bool false, .bool false, .bool false, .bool false, .bool false, .bool false, .bool false, .bool false, .bool false, .bool false, .bool false, .bool false, .bool false, .bool false, .bool false, .bool false, .bool false, .bool false, .bool false, .bool false, .bool false, .bool false, .bool false, .bool false, .bool false, .bool false, .bool false, .bool false, .bool false, .bool false, .bool false, .bool false, .bool false, .bool false, .bool false, .bool false, .bool false, .bool false, .bool false, .bool false, .bool false, .bool false, .bool false, .bool false, .bool false, .bool false, .bool false, .bool false, .bool false, .bool false, .bool false, .bool false, .bool false, .bool false, .bool false, .bool false, .bool false, .bool false, .bool false, .bool false, .bool false, .bool false, .bool false, .bool false, .bool false, .bool false, .bool false, .bool false, .bool false, .bool false, .bool false, .bool false, .bool false, .bool false, .bool false, .bool false, .bool false, .bool false, .bool false, .bool false, .bool false, .bool false, .bool false, .bool false, .bool false, .bool false, .bool false, .bool false, .bool false, .bool false, .bool false, .bool false, .bool false, .bool false, .bool false, .bool false, .bool false])) 256 256 := tyOK (by kernel_rfl)
theorem ty92 : TyOK Tryd.prog 92 (some (.nilFunc)) 1 8 := tyOK (by kernel_rfl)
theorem ty93 : TyOK Tryd.prog 93 (some (.nilFunc)) 1 8 := tyOK (by kernel_rfl)
theorem ty94 : TyOK Tryd.prog 94 (some (.pointer none)) 1 8 := tyOK (by kernel_rfl)
theorem ty95 : TyOK Tryd.prog 95 (some (.nilFunc)) 1 8 := tyOK (by kernel_rfl)
theorem ty96 : TyOK Tryd.prog 96 (some (.nilFunc)) 1 8 := tyOK (by kernel_rfl)
theorem ty97 : TyOK Tryd.prog 97 (some (.pointer none)) 1 8 := tyOK (by kernel_rfl)
theorem ty99 : TyOK Tryd.prog 99 (some (.nilFunc)) 1 8 := tyOK (by kernel_rfl)
theorem ty100 : TyOK Tryd.prog 100 (some (.map none)) 1 8 := tyOK (by kernel_rfl)
theorem ty101 : TyOK Tryd.prog 101 (some (.nilFunc)) 1 8 := tyOK (by kernel_rfl)
theorem ty103 : TyOK Tryd.prog 103 (some (.nilFunc)) 1 8 := tyOK (by kernel_rfl)
theorem ty104 : TyOK Tryd.prog 104 (some (.int .u32 0)) 1 4 := tyOK (by kernel_rfl)
theorem ty106 : TyOK Tryd.prog 106 (some (.nilFunc)) 1 8 := tyOK (by kernel_rfl)
theorem ty107 : TyOK Tryd.prog 107 (some (.int .u64 0)) 1 8 := tyOK (by kernel_rfl)
theorem ty109 : TyOK Tryd.prog 109 (some (.nilFunc)) 1 8 := tyOK (by kernel_rfl)
theorem ty110 : TyOK Tryd.prog 110 (some (.nilFunc)) 1 8 := tyOK (by kernel_rfl)
theorem ty111 : TyOK Tryd.prog 111 (some (.nilFunc)) 1 8 := tyOK (by kernel_rfl)
theorem ty112 : TyOK Tryd.prog 112 (some (.nilFunc)) 1 8 := tyOK (by kernel_rfl)
theorem ty113 : TyOK Tryd.prog 113 (some (.pointer none)) 1 8 := tyOK (by kernel_rfl)
theorem ty114 : TyOK Tryd.prog 114 (some (.nilFunc)) 1 8 := tyOK (by kernel_rfl)
theorem ty115 : TyOK Tryd.prog 115 (some (.nilFunc)) 1 8 := tyOK (by kernel_rfl)
theorem ty116 : TyOK Tryd.prog 116 (some (.nilFunc)) 1 8 := tyOK (by kernel_rfl)
theorem ty117 : TyOK Tryd.prog 117 (some (.nilFunc)) 1 8 := tyOK (by kernel_rfl)
theorem ty118 : TyOK Tryd.prog 118 (some (.nilFunc)) 1 8 := tyOK (by kernel_rfl)
theorem ty119 : TyOK Tryd.prog 119 (some (.nilFunc)) 1 8 := tyOK (by kernel_rfl)
theorem ty120 : TyOK Tryd.prog 120 (some (.nilFunc)) 1 8 := tyOK (by kernel_rfl)
theorem ty121 : TyOK Tryd.prog 121 (some (.nilFunc)) 1 8 := tyOK (by kernel_rfl)
theorem ty122 : TyOK Tryd.prog 122 (some (.nilFunc)) 1 8 := tyOK (by kernel_rfl)
theorem ty123 : TyOK Tryd.prog 123 (some (.nilFunc)) 1 8 := tyOK (by kernel_rfl)
theorem ty124 : TyOK Tryd.prog 124 (some (.nilFunc)) 1 8 := tyOK (by kernel_rfl)
theorem ty126 : TyOK Tryd.prog 126 (some (.nilFunc)) 1 8 := tyOK (by kernel_rfl)
theorem ty127 : TyOK Tryd.prog 127 (some (.nilFunc)) 1 8 := tyOK (by kernel_rfl)
theorem ty128 : TyOK Tryd.prog 128 (some (.nilFunc)) 1 8 := tyOK (by kernel_rfl)
theorem ty129 : TyOK Tryd.prog 129 (some (.agg #[.int .u8 0, .int .u8 0, .int .u8 0, .int .u8 0, .int .u8 0, .int .u8 0, .int .u8 0, .int .u8 0, .int .u8 0, .int .u8 0, .int .u8 0, .int .u8 0, .int .u8 0, .int .u8 0, .int .u8 0, .int .u8 0, .int .u8 0, .int .u8 0, .int .u8 0, .int .u8 0, .int .u8 0, .int .u8 0, .int .u8 0, .int .u8 0, .int .u8 0, .int .u8 0, .int .u8 0, .int .u8 0, .int .u8 0, .int .u8 0, .int .u8 0, .int .u8 0, .int .u8 0, .int .u8 0, .int .u8 0, .int .u8 0, .int .u8 0, .int .u8 0, .int .u8 0, .int .u8 0, .int .u8 0, .int .u8 0, .int .u8 0, .int .u8 0, .int .u8 0, .int .u8 0, .int .u8 0, .int .u8 0, .int .u8 0, .int .u8 0, .int .u8 0, .int .u8 0, .int .u8 0, .int .u8 0, .int .u8 0, .int .u8 0, .int .u8 0, .int .u8 0, .int .u8 0, .int .u8 0, .int .u8 0, .int .u8 0, .int .u8 0, .int .u8 0, .int .u8 0, .int .u8 0, .int .u8 0, .int .u8 0, .int .u8 0, .int .u8 0, .int .u8 0, .int .u8 0, .int .u8 0, .int .u8 0, .int .u8 0, .int .u8 0, .int .u8 0, .int .u8 0, .int .u8 0, .int .u8 0, .int .u8 0, .int .u8 0, .int .u8 0, .int .u8 0, .int .u8 0, .int .u8 0, .int .u8 0, .int .u8 0, .int .u8 0, .int .u8 0, .int .u8 0, .int .u8 0, .int .u8 0, .int .u8 0, .int .u8 0, .int .u8 0, .int .u8 0, .int .u8 0, .int .u8 0, .int .u8 0, .int .u8 0, .int .u8 0, .int .u8 0, .int .u8 0, .int .u8 0, .int .u8 0, .int .u8 0, .int .u8 0, .int .u8 0, .int .u8 0, .int .u8 0, .int .u8 0, .int .u8 0, .int .u8 0, .int .u8 0, .int .u8 0, .int .u8 0, .int .u8 0, .int .u8 0, .int .u8 0, .int .u8 0, .int .u8 0, .int .u8 0, .int .u8 0, .int .u8 0, .int .u8 0, .int .u8 0, .int .u8 0, .int .u8 0, .int .u8 0, .int .u8 0, .int .u8 0, .int .u8 0, .int .u8 0, .int .u8 0, .int .u8 0, .int .u8 0, .int .u8 0, .int .u8 0, .int .u8 0, .int .u8 0, .int .u8 0, .int .u8 0, .int .u8 0, .int .u8 0, .int .u8 0, .int .u8 0, .int .u8 0, .int .u8 0, .int .u8 0, .int .u8 0, .int .u8 0, .int .u8 0, .int .u8 0, .int .u8 0, .int .u8 0, .int .u8 0, .int .u8 0, .int .u8 0, .int .u8 0, .int .u8 0, .int .u8 0, .int .u8 0, .int .u8 0, .int .u8 0, .int .u8 0, .int .u8 0, .int .u8 0, .int .u8 0, .int .u8 0, .int .u8 0, .int .u8 0, .int .u8 0, .int .u8 0, .int .u8 0, .int .u8 0, .int .u8 0, .int .u8 0, .int .u8 0, .int .u8 0, .int .u8 0, .int .u8 0, .int .u8 0, .int .u8 0, .int .u8 0, .int .u8 0, .int .u8 0, .int .u8 0, .int .u8 0, .int .u8 0, .int .u8 0, .int .u8 0, .int .u8 0, .int .u8 0, .int .u8 0, .int .u8 0, .int .u8 0, .int .u8 0, .int .u8 0, .int .u8 0, .int .u8 0, .int .u8 0, .int .u8 0, .int .u8 0, .int .u8 0, .int .u8 0, .int .u8 0, .int .u8 0, .int .u8 0, .int .u8 0, .int .u8 0, .int .u8 0, .int .u8 0, .int .u8 0, .int .u8 0, .int .u8 0, .int .u8 0, .int .u8 0, .int .u8 0, .int .u8 0, .int .u8 0, .int .u8 0, .int .u8 0, .int .u8 0, .int .u8 0, .int .u8 0, .int .u8 0, .int .u8 0, .int .u8 0, .int .u8 0, .int .u8 0, .int .u8 0, .int .u8 0, .int .u8 0, .int .u8 0, .int .u8 0, .int .u8 0, .int .u8 0, .int .u8 0, .int .u8 0, .int .u8 0, .int .u8 0, .int .u8 0, .int .u8 0, .int .u8 0, .int .u8 0, .int .u8 0, .int .u8 0, .int .u8 0, .int .u8 0, .int .u8 0, .int .u8 0, .int .u8 0, .int .u8 0, .int .u8 0, .int .u8 0])) 256 256 := tyOK (by kernel_rfl)
theorem ty130 : TyOK Tryd.prog 130 (some (.agg #[.int .u8 0, .int .u8 0])) 2 2 := tyOK (by kernel_rfl)
theorem fld130_0 : FldOK Tryd.prog 130 0 0 := ⟨_, _, _, _, _, Tryd.underlying130, rfl, rfl, ty5⟩
theorem fld130_1 : FldOK Tryd.prog 130 1 1 := ⟨_, _, _, _, _, Tryd.underlying130, rfl, rfl, ty5⟩
theorem ty131 : TyOK Tryd.prog 131 (some (.agg #[.int .u8 0, .int .u8 0])) 2 2 := tyOK (by kernel_rfl)
theorem fld131_0 : FldOK Tryd.prog 131 0 0 := ⟨_, _, _, _, _, Tryd.underlying131, rfl, rfl, ty5⟩
theorem fld131_1 : FldOK Tryd.prog 131 1 1 := ⟨_, _, _, _, _, Tryd.underlying131, rfl, rfl, ty5⟩
theorem ty132 : TyOK Tryd.prog 132 (some (.agg #[.int .u8 0, .int .u8 0, .int .u8 0, .int .u8 0, .int .u8 0, .int .u8 0, .int .u8 0, .int .u8 0, .int .u8 0, .int .u8 0, .int .u8 0, .int .u8 0, .int .u8 0, .int .u8 0, .int .u8 0, .int .u8 0, .int .u8 0, .int .u8 0, .int .u8 0, .int .u8 0, .int .u8 0, .int .u8 0, .int .u8 0, .int .u8 0, .int .u8 0, .int .u8 0, .int .u8 0, .int .u8 0, .int .u8 0, .int .u8 0, .int .u8 0, .int .u8 0])) 32 32 := tyOK (by kernel_rfl)
theorem ty133 : TyOK Tryd.prog 133 (some (.nilFunc)) 1 8 := tyOK (by kernel_rfl)
theorem ty135 : TyOK Tryd.prog 135 (some (.nilFunc)) 1 8 := tyOK (by kernel_rfl)
theorem ty136 : TyOK Tryd.prog 136 (some (.agg #[.map none, .slice none 0 0])) 2 32 := tyOK (by kernel_rfl)
theorem fld136_0 : FldOK Tryd.prog 136 0 0 := ⟨_, _, _, _, _, Tryd.underlying136, rfl, rfl, ty22⟩
theorem fld136_1 : FldOK Tryd.prog 136 1 1 := ⟨_, _, _, _, _, Tryd.underlying136, rfl, rfl, ty68⟩
theorem ty137 : TyOK Tryd.prog 137 (some (.agg #[.map none, .slice none 0 0])) 2 32 := tyOK (by kernel_rfl)
theorem fld137_0 : FldOK Tryd.prog 137 0 0 := ⟨_, _, _, _, _, Tryd.underlying137, rfl, rfl, ty22⟩
theorem fld137_1 : FldOK Tryd.prog 137 1 1 := ⟨_, _, _, _, _, Tryd.underlying137, rfl, rfl, ty68⟩
theorem ty139 : TyOK Tryd.prog 139 (some (.nilFunc)) 1 8 := tyOK (by kernel_rfl)
theorem ty140 : TyOK Tryd.prog 140 (some (.nilFunc)) 1 8 := tyOK (by kernel_rfl)
theorem ty142 : TyOK Tryd.prog 142 (some (.nilFunc)) 1 8 := tyOK (by kernel_rfl)
theorem ty143 : TyOK Tryd.prog 143 (some (.nilFunc)) 1 8 := tyOK (by kernel_rfl)
theorem ty144 : TyOK Tryd.prog 144 (some (.nilFunc)) 1 8 := tyOK (by kernel_rfl)
theorem ty145 : TyOK Tryd.prog 145 (some (.nilFunc)) 1 8 := tyOK (by kernel_rfl)
theorem ty146 : TyOK Tryd.prog 146 (some (.agg #[.pointer none, .pointer none, .pointer none, .string ⟨#[]⟩])) 4 40 := tyOK (by kernel_rfl)
theorem fld146_0 : FldOK Tryd.prog 146 0 0 := ⟨_, _, _, _, _, Tryd.underlying146, rfl, rfl, ty17⟩
theorem fld146_1 : FldOK Tryd.prog 146 1 1 := ⟨_, _, _, _, _, Tryd.underlying146, rfl, rfl, ty17⟩
theorem fld146_2 : FldOK Tryd.prog 146 2 2 := ⟨_, _, _, _, _, Tryd.underlying146, rfl, rfl, ty17⟩
theorem fld146_3 : FldOK Tryd.prog 146 3 3 := ⟨_, _, _, _, _, Tryd.underlying146, rfl, rfl, ty9⟩
theorem ty147 : TyOK Tryd.prog 147 (some (.agg #[.pointer none, .pointer none, .pointer none, .string ⟨#[]⟩])) 4 40 := tyOK (by kernel_rfl)
theorem fld147_0 : FldOK Tryd.prog 147 0 0 := ⟨_, _, _, _, _, Tryd.underlying147, rfl, rfl, ty17⟩
theorem fld147_1 : FldOK Tryd.prog 147 1 1 := ⟨_, _, _, _, _, Tryd.underlying147, rfl, rfl, ty17⟩
theorem fld147_2 : FldOK Tryd.prog 147 2 2 := ⟨_, _, _, _, _, Tryd.underlying147, rfl, rfl, ty17⟩
theorem fld147_3 : FldOK Tryd.prog 147 3 3 := ⟨_, _, _, _, _, Tryd.underlying147, rfl, rfl, ty9⟩
theorem ty148 : TyOK Tryd.prog 148 (some (.agg #[])) 0 0 := tyOK (by kernel_rfl)
theorem ty149 : TyOK Tryd.prog 149 (some (.agg #[])) 0 0 := tyOK (by kernel_rfl)
theorem ty150 : TyOK Tryd.prog 150 (some (.agg #[])) 0 0 := tyOK (by kernel_rfl)
theorem ty151 : TyOK Tryd.prog 151 (some (.int .u8 0)) 1 1 := tyOK (by kernel_rfl)
theorem ty152 : TyOK Tryd.prog 152 (some (.int .u8 0)) 1 1 := tyOK (by kernel_rfl)
theorem ty153 : TyOK Tryd.prog 153 (some (.nilFunc)) 1 8 := tyOK (by kernel_rfl)
theorem ty154 : TyOK Tryd.prog 154 (some (.int .i32 0)) 1 4 := tyOK (by kernel_rfl)
theorem ty155 : TyOK Tryd.prog 155 (some (.int .i32 0)) 1 4 := tyOK (by kernel_rfl)
theorem ty156 : TyOK Tryd.prog 156 (some (.agg #[.int .u64 0, .int .u64 0, .int .u32 0, .int .u8 0, .int .u8 0, .int .u8 0, .int .u8 0, .nilFunc, .pointer none, .int .i32 0, .int .i32 0])) 11 48 := tyOK (by kernel_rfl)
theorem fld156_0 : FldOK Tryd.prog 156 0 0 := ⟨_, _, _, _, _, Tryd.underlying156, rfl, rfl, ty12⟩
theorem fld156_1 : FldOK Tryd.prog 156 1 1 := ⟨_, _, _, _, _, Tryd.underlying156, rfl, rfl, ty12⟩
theorem fld156_2 : FldOK Tryd.prog 156 2 2 := ⟨_, _, _, _, _, Tryd.underlying156, rfl, rfl, ty104⟩
theorem fld156_3 : FldOK Tryd.prog 156 3 3 := ⟨_, _, _, _, _, Tryd.underlying156, rfl, rfl, ty151⟩
theorem fld156_4 : FldOK Tryd.prog 156 4 4 := ⟨_, _, _, _, _, Tryd.underlying156, rfl, rfl, ty5⟩
theorem fld156_5 : FldOK Tryd.prog 156 5 5 := ⟨_, _, _, _, _, Tryd.underlying156, rfl, rfl, ty5⟩
theorem fld156_6 : FldOK Tryd.prog 156 6 6 := ⟨_, _, _, _, _, Tryd.underlying156, rfl, rfl, ty152⟩
theorem fld156_7 : FldOK Tryd.prog 156 7 7 := ⟨_, _, _, _, _, Tryd.underlying156, rfl, rfl, ty153⟩
theorem fld156_8 : FldOK Tryd.prog 156 8 8 := ⟨_, _, _, _, _, Tryd.underlying156, rfl, rfl, ty97⟩
theorem fld156_9 : FldOK Tryd.prog 156 9 9 := ⟨_, _, _, _, _, Tryd.underlying156, rfl, rfl, ty154⟩
theorem fld156_10 : FldOK Tryd.prog 156 10 10 := ⟨_, _, _, _, _, Tryd.underlying156, rfl, rfl, ty155⟩
theorem ty157 : TyOK Tryd.prog 157 (some (.agg #[.int .u64 0, .int .u64 0, .int .u32 0, .int .u8 0, .int .u8 0, .int .u8 0, .int .u8 0, .nilFunc, .pointer none, .int .i32 0, .int .i32 0])) 11 48 := tyOK (by kernel_rfl)
theorem fld157_0 : FldOK Tryd.prog 157 0 0 := ⟨_, _, _, _, _, Tryd.underlying157, rfl, rfl, ty12⟩
theorem fld157_1 : FldOK Tryd.prog 157 1 1 := ⟨_, _, _, _, _, Tryd.underlying157, rfl, rfl, ty12⟩
theorem fld157_2 : FldOK Tryd.prog 157 2 2 := ⟨_, _, _, _, _, Tryd.underlying157, rfl, rfl, ty104⟩
theorem fld157_3 : FldOK Tryd.prog 157 3 3 := ⟨_, _, _, _, _, Tryd.underlying157, rfl, rfl, ty151⟩
theorem fld157_4 : FldOK Tryd.prog 157 4 4 := ⟨_, _, _, _, _, Tryd.underlying157, rfl, rfl, ty5⟩
theorem fld157_5 : FldOK Tryd.prog 157 5 5 := ⟨_, _, _, _, _, Tryd.underlying157, rfl, rfl, ty5⟩
theorem fld157_6 : FldOK Tryd.prog 157 6 6 := ⟨_, _, _, _, _, Tryd.underlying157, rfl, rfl, ty152⟩
theorem fld157_7 : FldOK Tryd.prog 157 7 7 := ⟨_, _, _, _, _, Tryd.underlying157, rfl, rfl, ty153⟩
theorem fld157_8 : FldOK Tryd.prog 157 8 8 := ⟨_, _, _, _, _, Tryd.underlying157, rfl, rfl, ty97⟩
theorem fld157_9 : FldOK Tryd.prog 157 9 9 := ⟨_, _, _, _, _, Tryd.underlying157, rfl, rfl, ty154⟩
theorem fld157_10 : FldOK Tryd.prog 157 10 10 := ⟨_, _, _, _, _, Tryd.underlying157, rfl, rfl, ty155⟩
theorem pl2 : Plain Tryd.prog 2 := ⟨_, Tryd.func2, rfl, by kernel_rfl⟩
theorem pl3 : Plain Tryd.prog 3 := ⟨_, Tryd.func3, rfl, by kernel_rfl⟩
theorem pl4 : Plain Tryd.prog 4 := ⟨_, Tryd.func4, rfl, by kernel_rfl⟩
theorem pl5 : Plain Tryd.prog 5 := ⟨_, Tryd.func5, rfl, by kernel_rfl⟩
theorem pl6 : Plain Tryd.prog 6 := ⟨_, Tryd.func6, rfl, by kernel_rfl⟩
theorem pl7 : Plain Tryd.prog 7 := ⟨_, Tryd.func7, rfl, by kernel_rfl⟩
theorem pl8 : Plain Tryd.prog 8 := ⟨_, Tryd.func8, rfl, by kernel_rfl⟩
theorem pl9 : Plain Tryd.prog 9 := ⟨_, Tryd.func9, rfl, by kernel_rfl⟩
theorem pl10 : Plain Tryd.prog 10 := ⟨_, Tryd.func10, rfl, by kernel_rfl⟩
theorem pl11 : Plain Tryd.prog 11 := ⟨_, Tryd.func11, rfl, by kernel_rfl⟩
theorem pl12 : Plain Tryd.prog 12 := ⟨_, Tryd.func12, rfl, by kernel_rfl⟩
theorem pl13 : Plain Tryd.prog 13 := ⟨_, Tryd.func13, rfl, by kernel_rfl⟩
theorem pl14 : Plain Tryd.prog 14 := ⟨_, Tryd.func14, rfl, by kernel_rfl⟩
theorem pl15 : Plain Tryd.prog 15 := ⟨_, Tryd.func15, rfl, by kernel_rfl⟩
theorem pl16 : Plain Tryd.prog 16 := ⟨_, Tryd.func16, rfl, by kernel_rfl⟩
theorem pl17 : Plain Tryd.prog 17 := ⟨_, Tryd.func17, rfl, by kernel_rfl⟩
theorem pl18 : Plain Tryd.prog 18 := ⟨_, Tryd.func18, rfl, by kernel_rfl⟩
theorem pl19 : Plain Tryd.prog 19 := ⟨_, Tryd.func19, rfl, by kernel_rfl⟩
theorem pl20 : Plain Tryd.prog 20 := ⟨_, Tryd.func20, rfl, by kernel_rfl⟩
theorem pl21 : Plain Tryd.prog 21 := ⟨_, Tryd.func21, rfl, by kernel_rfl⟩
theorem pl22 : Plain Tryd.prog 22 := ⟨_, Tryd.func22, rfl, by kernel_rfl⟩
theorem pl23 : Plain Tryd.prog 23 := ⟨_, Tryd.func23, rfl, by kernel_rfl⟩
theorem pl24 : Plain Tryd.prog 24 := ⟨_, Tryd.func24, rfl, by kernel_rfl⟩
theorem pl25 : Plain Tryd.prog 25 := ⟨_, Tryd.func25, rfl, by kernel_rfl⟩
theorem pl26 : Plain Tryd.prog 26 := ⟨_, Tryd.func26, rfl, by kernel_rfl⟩
theorem pl27 : Plain Tryd.prog 27 := ⟨_, Tryd.func27, rfl, by kernel_rfl⟩
theorem pl28 : Plain Tryd.prog 28 := ⟨_, Tryd.func28, rfl, by kernel_rfl⟩
theorem pl29 : Plain Tryd.prog 29 := ⟨_, Tryd.func29, rfl, by kernel_rfl⟩
theorem pl30 : Plain Tryd.prog 30 := ⟨_, Tryd.func30, rfl, by kernel_rfl⟩
theorem pl31 : Plain Tryd.prog 31 := ⟨_, Tryd.func31, rfl, by kernel_rfl⟩
theorem pl32 : Plain Tryd.prog 32 := ⟨_, Tryd.func32, rfl, by kernel_rfl⟩
theorem pl33 : Plain Tryd.prog 33 := ⟨_, Tryd.func33, rfl, by kernel_rfl⟩
theorem pl34 : Plain Tryd.prog 34 := ⟨_, Tryd.func34, rfl, by kernel_rfl⟩
theorem pl35 : Plain Tryd.prog 35 := ⟨_, Tryd.func35, rfl, by kernel_rfl⟩
theorem pl36 : Plain Tryd.prog 36 := ⟨_, Tryd.func36, rfl, by kernel_rfl⟩
theorem pl37 : Plain Tryd.prog 37 := ⟨_, Tryd.func37, rfl, by kernel_rfl⟩
theorem pl38 : Plain Tryd.prog 38 := ⟨_, Tryd.func38, rfl, by kernel_rfl⟩
theorem pl39 : Plain Tryd.prog 39 := ⟨_, Tryd.func39, rfl, by kernel_rfl⟩
theorem pl40 : Plain Tryd.prog 40 := ⟨_, Tryd.func40, rfl, by kernel_rfl⟩
theorem pl41 : Plain Tryd.prog 41 := ⟨_, Tryd.func41, rfl, by kernel_rfl⟩
theorem pl42 : Plain Tryd.prog 42 := ⟨_, Tryd.func42, rfl, by kernel_rfl⟩
theorem pl43 : Plain Tryd.prog 43 := ⟨_, Tryd.func43, rfl, by kernel_rfl⟩
theorem pl45 : Plain Tryd.prog 45 := ⟨_, Tryd.func45, rfl, by kernel_rfl⟩
theorem pl46 : Plain Tryd.prog 46 := ⟨_, Tryd.func46, rfl, by kernel_rfl⟩
theorem pl47 : Plain Tryd.prog 47 := ⟨_, Tryd.func47, rfl, by kernel_rfl⟩
theorem pl48 : Plain Tryd.prog 48 := ⟨_, Tryd.func48, rfl, by kernel_rfl⟩
theorem pl49 : Plain Tryd.prog 49 := ⟨_, Tryd.func49, rfl, by kernel_rfl⟩
theorem pl50 : Plain Tryd.prog 50 := ⟨_, Tryd.func50, rfl, by kernel_rfl⟩
theorem pl51 : Plain Tryd.prog 51 := ⟨_, Tryd.func51, rfl, by kernel_rfl⟩
theorem pl52 : Plain Tryd.prog 52 := ⟨_, Tryd.func52, rfl, by kernel_rfl⟩
theorem pl53 : Plain Tryd.prog 53 := ⟨_, Tryd.func53, rfl, by kernel_rfl⟩
theorem pl54 : Plain Tryd.prog 54 := ⟨_, Tryd.func54, rfl, by kernel_rfl⟩
theorem pl55 : Plain Tryd.prog 55 := ⟨_, Tryd.func55, rfl, by kernel_rfl⟩
theorem pl56 : Plain Tryd.prog 56 := ⟨_, Tryd.func56, rfl, by kernel_rfl⟩
theorem pl57 : Plain Tryd.prog 57 := ⟨_, Tryd.func57, rfl, by kernel_rfl⟩
theorem pl58 : Plain Tryd.prog 58 := ⟨_, Tryd.func58, rfl, by kernel_rfl⟩
theorem pl59 : Plain Tryd.prog 59 := ⟨_, Tryd.func59, rfl, by kernel_rfl⟩
theorem pl60 : Plain Tryd.prog 60 := ⟨_, Tryd.func60, rfl, by kernel_rfl⟩
theorem pl61 : Plain Tryd.prog 61 := ⟨_, Tryd.func61, rfl, by kernel_rfl⟩
theorem pl62 : Plain Tryd.prog 62 := ⟨_, Tryd.func62, rfl, by kernel_rfl⟩
theorem pl63 : Plain Tryd.prog 63 := ⟨_, Tryd.func63, rfl, by kernel_rfl⟩
theorem pl64 : Plain Tryd.prog 64 := ⟨_, Tryd.func64, rfl, by kernel_rfl⟩
theorem pl65 : Plain Tryd.prog 65 := ⟨_, Tryd.func65, rfl, by kernel_rfl⟩
theorem pl66 : Plain Tryd.prog 66 := ⟨_, Tryd.func66, rfl, by kernel_rfl⟩
theorem pl67 : Plain Tryd.prog 67 := ⟨_, Tryd.func67, rfl, by kernel_rfl⟩
theorem pl68 : Plain Tryd.prog 68 := ⟨_, Tryd.func68, rfl, by kernel_rfl⟩
theorem pl69 : Plain Tryd.prog 69 := ⟨_, Tryd.func69, rfl, by kernel_rfl⟩
theorem pl72 : Plain Tryd.prog 72 := ⟨_, Tryd.func72, rfl, by kernel_rfl⟩
theorem pl73 : Plain Tryd.prog 73 := ⟨_, Tryd.func73, rfl, by kernel_rfl⟩
theorem pl74 : Plain Tryd.prog 74 := ⟨_, Tryd.func74, rfl, by kernel_rfl⟩
theorem pl75 : Plain Tryd.prog 75 := ⟨_, Tryd.func75, rfl, by kernel_rfl⟩
theorem pl76 : Plain Tryd.prog 76 := ⟨_, Tryd.func76, rfl, by kernel_rfl⟩
theorem pl77 : Plain Tryd.prog 77 := ⟨_, Tryd.func77, rfl, by kernel_rfl⟩
theorem pl78 : Plain Tryd.prog 78 := ⟨_, Tryd.func78, rfl, by kernel_rfl⟩
theorem pl79 : Plain Tryd.prog 79 := ⟨_, Tryd.func79, rfl, by kernel_rfl⟩
theorem pl80 : Plain Tryd.prog 80 := ⟨_, Tryd.func80, rfl, by kernel_rfl⟩
theorem pl81 : Plain Tryd.prog 81 := ⟨_, Tryd.func81, rfl, by kernel_rfl⟩
theorem pl83 : Plain Tryd.prog 83 := ⟨_, Tryd.func83, rfl, by kernel_rfl⟩
theorem pl84 : Plain Tryd.prog 84 := ⟨_, Tryd.func84, rfl, by kernel_rfl⟩
theorem pl85 : Plain Tryd.prog 85 := ⟨_, Tryd.func85, rfl, by kernel_rfl⟩
theorem pl86 : Plain Tryd.prog 86 := ⟨_, Tryd.func86, rfl, by kernel_rfl⟩
theorem pl87 : Plain Tryd.prog 87 := ⟨_, Tryd.func87, rfl, by kernel_rfl⟩
theorem pl88 : Plain Tryd.prog 88 := ⟨_, Tryd.func88, rfl, by kernel_rfl⟩
theorem pl89 : Plain Tryd.prog 89 := ⟨_, Tryd.func89, rfl, by kernel_rfl⟩
theorem pl90 : Plain Tryd.prog 90 := ⟨_, Tryd.func90, rfl, by kernel_rfl⟩
theorem pl91 : Plain Tryd.prog 91 := ⟨_, Tryd.func91, rfl, by kernel_rfl⟩
theorem pl93 : Plain Tryd.prog 93 := ⟨_, Tryd.func93, rfl, by kernel_rfl⟩
theorem pl94 : Plain Tryd.prog 94 := ⟨_, Tryd.func94, rfl, by kernel_rfl⟩
theorem pl95 : Plain Tryd.prog 95 := ⟨_, Tryd.func95, rfl, by kernel_rfl⟩
theorem pl96 : Plain Tryd.prog 96 := ⟨_, Tryd.func96, rfl, by kernel_rfl⟩
theorem pl97 : Plain Tryd.prog 97 := ⟨_, Tryd.func97, rfl, by kernel_rfl⟩
theorem pl98 : Plain Tryd.prog 98 := ⟨_, Tryd.func98, rfl, by kernel_rfl⟩
theorem pl99 : Plain Tryd.prog 99 := ⟨_, Tryd.func99, rfl, by kernel_rfl⟩
theorem pl100 : Plain Tryd.prog 100 := ⟨_, Tryd.func100, rfl, by kernel_rfl⟩
theorem pl101 : Plain Tryd.prog 101 := ⟨_, Tryd.func101, rfl, by kernel_rfl⟩
theorem pl102 : Plain Tryd.prog 102 := ⟨_, Tryd.func102, rfl, by kernel_rfl⟩
theorem pl103 : Plain Tryd.prog 103 := ⟨_, Tryd.func103, rfl, by kernel_rfl⟩
theorem pl105 : Plain Tryd.prog 105 := ⟨_, Tryd.func105, rfl, by kernel_rfl⟩
theorem pl106 : Plain Tryd.prog 106 := ⟨_, Tryd.func106, rfl, by kernel_rfl⟩
theorem pl107 : Plain Tryd.prog 107 := ⟨_, Tryd.func107, rfl, by kernel_rfl⟩
theorem pl129 : Plain Tryd.prog 129 := ⟨_, Tryd.func129, rfl, by kernel_rfl⟩
theorem ld1 {H : Hp} {K : Value → Hp → Prop} {X : List PanicEntry → Hp → Prop} {a : Addr} : loadA Tryd.prog 1 (.pointer (some a)) K X H = withc (cellH H a) fun v => K v H := loadA_1 Tryd.underlying1 rfl --1
theorem lq1 {H : Hp} {K : Value → Prop} {a : Addr} : loadQ Tryd.prog 1 (.pointer (some a)) K H = withc (cellH H a) K := loadQ_e Tryd.underlying1 rfl
theorem ld2 {H : Hp} {K : Value → Hp → Prop} {X : List PanicEntry → Hp → Prop} {a : Addr} : loadA Tryd.prog 2 (.pointer (some a)) K X H = withc (cellH H a) fun v => K v H := loadA_1 Tryd.underlying2 rfl --2
theorem lq2 {H : Hp} {K : Value → Prop} {a : Addr} : loadQ Tryd.prog 2 (.pointer (some a)) K H = withc (cellH H a) K := loadQ_e Tryd.underlying2 rfl
theorem ld3 {H : Hp} {K : Value → Hp → Prop} {X : List PanicEntry → Hp → Prop} {a : Addr} : loadA Tryd.prog 3 (.pointer (some a)) K X H = withc (cellH H a) fun v => K v H := loadA_1 Tryd.underlying3 rfl --3
theorem lq3 {H : Hp} {K : Value → Prop} {a : Addr} : loadQ Tryd.prog 3 (.pointer (some a)) K H = withc (cellH H a) K := loadQ_e Tryd.underlying3 rfl
theorem ld4 {H : Hp} {K : Value → Hp → Prop} {X : List PanicEntry → Hp → Prop} {a : Addr} : loadA Tryd.prog 4 (.pointer (some a)) K X H = withc (cellH H a) fun v => K v H := loadA_1 Tryd.underlying4 rfl --4
theorem lq4 {H : Hp} {K : Value → Prop} {a : Addr} : loadQ Tryd.prog 4 (.pointer (some a)) K H = withc (cellH H a) K := loadQ_e Tryd.underlying4 rfl
theorem ld5 {H : Hp} {K : Value → Hp → Prop} {X : List PanicEntry → Hp → Prop} {a : Addr} : loadA Tryd.prog 5 (.pointer (some a)) K X H = withc (cellH H a) fun v => K v H := loadA_1 Tryd.underlying5 rfl --5
theorem lq5 {H : Hp} {K : Value → Prop} {a : Addr} : loadQ Tryd.prog 5 (.pointer (some a)) K H = withc (cellH H a) K := loadQ_e Tryd.underlying5 rfl
theorem ld6 {H : Hp} {K : Value → Hp → Prop} {X : List PanicEntry → Hp → Prop} {a : Addr} : loadA Tryd.prog 6 (.pointer (some a)) K X H = withc (cellH H a) fun v => K v H := loadA_1 Tryd.underlying6 rfl --6
theorem lq6 {H : Hp} {K : Value → Prop} {a : Addr} : loadQ Tryd.prog 6 (.pointer (some a)) K H = withc (cellH H a) K := loadQ_e Tryd.underlying6 rfl
theorem ld7 {H : Hp} {K : Value → Hp → Prop} {X : List PanicEntry → Hp → Prop} {a : Addr} : loadA Tryd.prog 7 (.pointer (some a)) K X H = withcs (cellsH H a 0 4) fun l => K (.agg l.toArray) H := loadA_n Tryd.underlying7 rfl ty7
theorem rc7 {H : Hp} {K : Value → Prop} {a : Addr} {l : List Value} (hc : cellsH H a 0 4 = some l) : rcA Tryd.prog 7 (.pointer (some a)) H K = K (.agg l.toArray) := rcA_n Tryd.underlying7 rfl ty7 hc
theorem bl7 {H : Hp} {K : Value → Hp → Prop} {X : List PanicEntry → Hp → Prop} {ps : List (Nat × Value)} : bldA Tryd.prog 7 ps K X H = withO (bfill [(0, 1), (1, 1), (2, 1), (3, 1)] [.int .i64 0, .int .i64 0, .bool false, .int .u8 0] ps) fun v => K v H := bldA_e Tryd.underlying7 ty7 (by kernel_rfl)
theorem bq7 {H : Hp} {K : Value → Prop} {ps : List (Nat × Value)} : bldQ Tryd.prog 7 ps K H = withO (bfill [(0, 1), (1, 1), (2, 1), (3, 1)] [.int .i64 0, .int .i64 0, .bool false, .int .u8 0] ps) K := bldQ_e Tryd.underlying7 ty7 (by kernel_rfl)
theorem fa7_0 {H : Hp} {K : Value → Hp → Prop} {X : List PanicEntry → Hp → Prop} {b off : Nat} : fadA Tryd.prog 7 (.pointer (some ⟨b, off, none⟩)) 0 K X H = K (.pointer (some ⟨b, off, none⟩)) H := by rw [fadA_ok fld7_0, add_none]; rfl
theorem fq7_0 {H : Hp} {K : Value → Prop} {b off : Nat} : fadQ Tryd.prog 7 (.pointer (some ⟨b, off, none⟩)) 0 K H = K (.pointer (some ⟨b, off, none⟩)) := by rw [fadQ_ok fld7_0, add_none]; rfl
theorem fa7_1 {H : Hp} {K : Value → Hp → Prop} {X : List PanicEntry → Hp → Prop} {b off : Nat} : fadA Tryd.prog 7 (.pointer (some ⟨b, off, none⟩)) 1 K X H = K (.pointer (some ⟨b, off + 1, none⟩)) H := by rw [fadA_ok fld7_1, add_none]
theorem fq7_1 {H : Hp} {K : Value → Prop} {b off : Nat} : fadQ Tryd.prog 7 (.pointer (some ⟨b, off, none⟩)) 1 K H = K (.pointer (some ⟨b, off + 1, none⟩)) := by rw [fadQ_ok fld7_1, add_none]
theorem fa7_2 {H : Hp} {K : Value → Hp → Prop} {X : List PanicEntry → Hp → Prop} {b off : Nat} : fadA Tryd.prog 7 (.pointer (some ⟨b, off, none⟩)) 2 K X H = K (.pointer (some ⟨b, off + 2, none⟩)) H := by rw [fadA_ok fld7_2, add_none]
theorem fq7_2 {H : Hp} {K : Value → Prop} {b off : Nat} : fadQ Tryd.prog 7 (.pointer (some ⟨b, off, none⟩)) 2 K H = K (.pointer (some ⟨b, off + 2, none⟩)) := by rw [fadQ_ok fld7_2, add_none]
theorem fa7_3 {H : Hp} {K : Value → Hp → Prop} {X : List PanicEntry → Hp → Prop} {b off : Nat} : fadA Tryd.prog 7 (.pointer (some ⟨b, off, none⟩)) 3 K X H = K (.pointer (some ⟨b, off + 3, none⟩)) H := by rw [fadA_ok fld7_3, add_none]
theorem fq7_3 {H : Hp} {K : Value → Prop} {b off : Nat} : fadQ Tryd.prog 7 (.pointer (some ⟨b, off, none⟩)) 3 K H = K (.pointer (some ⟨b, off + 3, none⟩)) := by rw [fadQ_ok fld7_3, add_none]
theorem ld8 {H : Hp} {K : Value → Hp → Prop} {X : List PanicEntry → Hp → Prop} {a : Addr} : loadA Tryd.prog 8 (.pointer (some a)) K X H = withcs (cellsH H a 0 4) fun l => K (.agg l.toArray) H := loadA_n Tryd.underlying8 rfl ty8
theorem rc8 {H : Hp} {K : Value → Prop} {a : Addr} {l : List Value} (hc : cellsH H a 0 4 = some l) : rcA Tryd.prog 8 (.pointer (some a)) H K = K (.agg l.toArray) := rcA_n Tryd.underlying8 rfl ty8 hc
theorem bl8 {H : Hp} {K : Value → Hp → Prop} {X : List PanicEntry → Hp → Prop} {ps : List (Nat × Value)} : bldA Tryd.prog 8 ps K X H = withO (bfill [(0, 1), (1, 1), (2, 1), (3, 1)] [.int .i64 0, .int .i64 0, .bool false, .int .u8 0] ps) fun v => K v H := bldA_e Tryd.underlying8 ty8 (by kernel_rfl)
theorem bq8 {H : Hp} {K : Value → Prop} {ps : List (Nat × Value)} : bldQ Tryd.prog 8 ps K H = withO (bfill [(0, 1), (1, 1), (2, 1), (3, 1)] [.int .i64 0, .int .i64 0, .bool false, .int .u8 0] ps) K := bldQ_e Tryd.underlying8 ty8 (by kernel_rfl)
theorem fa8_0 {H : Hp} {K : Value → Hp → Prop} {X : List PanicEntry → Hp → Prop} {b off : Nat} : fadA Tryd.prog 8 (.pointer (some ⟨b, off, none⟩)) 0 K X H = K (.pointer (some ⟨b, off, none⟩)) H := by rw [fadA_ok fld8_0, add_none]; rfl
theorem fq8_0 {H : Hp} {K : Value → Prop} {b off : Nat} : fadQ Tryd.prog 8 (.pointer (some ⟨b, off, none⟩)) 0 K H = K (.pointer (some ⟨b, off, none⟩)) := by rw [fadQ_ok fld8_0, add_none]; rfl
theorem fa8_1 {H : Hp} {K : Value → Hp → Prop} {X : List PanicEntry → Hp → Prop} {b off : Nat} : fadA Tryd.prog 8 (.pointer (some ⟨b, off, none⟩)) 1 K X H = K (.pointer (some ⟨b, off + 1, none⟩)) H := by rw [fadA_ok fld8_1, add_none]
theorem fq8_1 {H : Hp} {K : Value → Prop} {b off : Nat} : fadQ Tryd.prog 8 (.pointer (some ⟨b, off, none⟩)) 1 K H = K (.pointer (some ⟨b, off + 1, none⟩)) := by rw [fadQ_ok fld8_1, add_none]
theorem fa8_2 {H : Hp} {K : Value → Hp → Prop} {X : List PanicEntry → Hp → Prop} {b off : Nat} : fadA Tryd.prog 8 (.pointer (some ⟨b, off, none⟩)) 2 K X H = K (.pointer (some ⟨b, off + 2, none⟩)) H := by rw [fadA_ok fld8_2, add_none]
theorem fq8_2 {H : Hp} {K : Value → Prop} {b off : Nat} : fadQ Tryd.prog 8 (.pointer (some ⟨b, off, none⟩)) 2 K H = K (.pointer (some ⟨b, off + 2, none⟩)) := by rw [fadQ_ok fld8_2, add_none]
theorem fa8_3 {H : Hp} {K : Value → Hp → Prop} {X : List PanicEntry → Hp → Prop} {b off : Nat} : fadA Tryd.prog 8 (.pointer (some ⟨b, off, none⟩)) 3 K X H = K (.pointer (some ⟨b, off + 3, none⟩)) H := by rw [fadA_ok fld8_3, add_none]
theorem fq8_3 {H : Hp} {K : Value → Prop} {b off : Nat} : fadQ Tryd.prog 8 (.pointer (some ⟨b, off, none⟩)) 3 K H = K (.pointer (some ⟨b, off + 3, none⟩)) := by rw [fadQ_ok fld8_3, add_none]
theorem ld9 {H : Hp} {K : Value → Hp → Prop} {X : List PanicEntry → Hp → Prop} {a : Addr} : loadA Tryd.prog 9 (.pointer (some a)) K X H = withc (cellH H a) fun v => K v H := loadA_1 Tryd.underlying9 rfl --9
theorem lq9 {H : Hp} {K : Value → Prop} {a : Addr} : loadQ Tryd.prog 9 (.pointer (some a)) K H = withc (cellH H a) K := loadQ_e Tryd.underlying9 rfl
theorem ld10 {H : Hp} {K : Value → Hp → Prop} {X : List PanicEntry → Hp → Prop} {a : Addr} : loadA Tryd.prog 10 (.pointer (some a)) K X H = withc (cellH H a) fun v => K v H := loadA_1 Tryd.underlying10 rfl --10
theorem lq10 {H : Hp} {K : Value → Prop} {a : Addr} : loadQ Tryd.prog 10 (.pointer (some a)) K H = withc (cellH H a) K := loadQ_e Tryd.underlying10 rfl
theorem ld11 {H : Hp} {K : Value → Hp → Prop} {X : List PanicEntry → Hp → Prop} {a : Addr} : loadA Tryd.prog 11 (.pointer (some a)) K X H = withc (cellH H a) fun v => K v H := loadA_1 Tryd.underlying11 rfl --11
theorem lq11 {H : Hp} {K : Value → Prop} {a : Addr} : loadQ Tryd.prog 11 (.pointer (some a)) K H = withc (cellH H a) K := loadQ_e Tryd.underlying11 rfl
theorem ld12 {H : Hp} {K : Value → Hp → Prop} {X : List PanicEntry → Hp → Prop} {a : Addr} : loadA Tryd.prog 12 (.pointer (some a)) K X H = withc (cellH H a) fun v => K v H := loadA_1 Tryd.underlying12 rfl --12
theorem lq12 {H : Hp} {K : Value → Prop} {a : Addr} : loadQ Tryd.prog 12 (.pointer (some a)) K H = withc (cellH H a) K := loadQ_e Tryd.underlying12 rfl
theorem ld13 {H : Hp} {K : Value → Hp → Prop} {X : List PanicEntry → Hp → Prop} {a : Addr} : loadA Tryd.prog 13 (.pointer (some a)) K X H = withcs (cellsH H a 0 2) fun l => K (.agg l.toArray) H := loadA_n Tryd.underlying13 rfl ty13
theorem rc13 {H : Hp} {K : Value → Prop} {a : Addr} {l : List Value} (hc : cellsH H a 0 2 = some l) : rcA Tryd.prog 13 (.pointer (some a)) H K = K (.agg l.toArray) := rcA_n Tryd.underlying13 rfl ty13 hc
theorem bl13 {H : Hp} {K : Value → Hp → Prop} {X : List PanicEntry → Hp → Prop} {ps : List (Nat × Value)} : bldA Tryd.prog 13 ps K X H = withO (bfill [(0, 1), (1, 1)] [.string ⟨#[]⟩, .int .u64 0] ps) fun v => K v H := bldA_e Tryd.underlying13 ty13 (by kernel_rfl)
theorem bq13 {H : Hp} {K : Value → Prop} {ps : List (Nat × Value)} : bldQ Tryd.prog 13 ps K H = withO (bfill [(0, 1), (1, 1)] [.string ⟨#[]⟩, .int .u64 0] ps) K := bldQ_e Tryd.underlying13 ty13 (by kernel_rfl)
theorem fa13_0 {H : Hp} {K : Value → Hp → Prop} {X : List PanicEntry → Hp → Prop} {b off : Nat} : fadA Tryd.prog 13 (.pointer (some ⟨b, off, none⟩)) 0 K X H = K (.pointer (some ⟨b, off, none⟩)) H := by rw [fadA_ok fld13_0, add_none]; rfl
theorem fq13_0 {H : Hp} {K : Value → Prop} {b off : Nat} : fadQ Tryd.prog 13 (.pointer (some ⟨b, off, none⟩)) 0 K H = K (.pointer (some ⟨b, off, none⟩)) := by rw [fadQ_ok fld13_0, add_none]; rfl
theorem fa13_1 {H : Hp} {K : Value → Hp → Prop} {X : List PanicEntry → Hp → Prop} {b off : Nat} : fadA Tryd.prog 13 (.pointer (some ⟨b, off, none⟩)) 1 K X H = K (.pointer (some ⟨b, off + 1, none⟩)) H := by rw [fadA_ok fld13_1, add_none]
theorem fq13_1 {H : Hp} {K : Value → Prop} {b off : Nat} : fadQ Tryd.prog 13 (.pointer (some ⟨b, off, none⟩)) 1 K H = K (.pointer (some ⟨b, off + 1, none⟩)) := by rw [fadQ_ok fld13_1, add_none]
theorem ld14 {H : Hp} {K : Value → Hp → Prop} {X : List PanicEntry → Hp → Prop} {a : Addr} : loadA Tryd.prog 14 (.pointer (some a)) K X H = withcs (cellsH H a 0 2) fun l => K (.agg l.toArray) H := loadA_n Tryd.underlying14 rfl ty14
theorem rc14 {H : Hp} {K : Value → Prop} {a : Addr} {l : List Value} (hc : cellsH H a 0 2 = some l) : rcA Tryd.prog 14 (.pointer (some a)) H K = K (.agg l.toArray) := rcA_n Tryd.underlying14 rfl ty14 hc
theorem bl14 {H : Hp} {K : Value → Hp → Prop} {X : List PanicEntry → Hp → Prop} {ps : List (Nat × Value)} : bldA Tryd.prog 14 ps K X H = withO (bfill [(0, 1), (1, 1)] [.string ⟨#[]⟩, .int .u64 0] ps) fun v => K v H := bldA_e Tryd.underlying14 ty14 (by kernel_rfl)
theorem bq14 {H : Hp} {K : Value → Prop} {ps : List (Nat × Value)} : bldQ Tryd.prog 14 ps K H = withO (bfill [(0, 1), (1, 1)] [.string ⟨#[]⟩, .int .u64 0] ps) K := bldQ_e Tryd.underlying14 ty14 (by kernel_rfl)
theorem fa14_0 {H : Hp} {K : Value → Hp → Prop} {X : List PanicEntry → Hp → Prop} {b off : Nat} : fadA Tryd.prog 14 (.pointer (some ⟨b, off, none⟩)) 0 K X H = K (.pointer (some ⟨b, off, none⟩)) H := by rw [fadA_ok fld14_0, add_none]; rfl
theorem fq14_0 {H : Hp} {K : Value → Prop} {b off : Nat} : fadQ Tryd.prog 14 (.pointer (some ⟨b, off, none⟩)) 0 K H = K (.pointer (some ⟨b, off, none⟩)) := by rw [fadQ_ok fld14_0, add_none]; rfl
theorem fa14_1 {H : Hp} {K : Value → Hp → Prop} {X : List PanicEntry → Hp → Prop} {b off : Nat} : fadA Tryd.prog 14 (.pointer (some ⟨b, off, none⟩)) 1 K X H = K (.pointer (some ⟨b, off + 1, none⟩)) H := by rw [fadA_ok fld14_1, add_none]
theorem fq14_1 {H : Hp} {K : Value → Prop} {b off : Nat} : fadQ Tryd.prog 14 (.pointer (some ⟨b, off, none⟩)) 1 K H = K (.pointer (some ⟨b, off + 1, none⟩)) := by rw [fadQ_ok fld14_1, add_none]
theorem ld15 {H : Hp} {K : Value → Hp → Prop} {X : List PanicEntry → Hp → Prop} {a : Addr} : loadA Tryd.prog 15 (.pointer (some a)) K X H = withc (cellH H a) fun v => K v H := loadA_1 Tryd.underlying15 rfl --15
theorem lq15 {H : Hp} {K : Value → Prop} {a : Addr} : loadQ Tryd.prog 15 (.pointer (some a)) K H = withc (cellH H a) K := loadQ_e Tryd.underlying15 rfl
theorem ld16 {H : Hp} {K : Value → Hp → Prop} {X : List PanicEntry → Hp → Prop} {a : Addr} : loadA Tryd.prog 16 (.pointer (some a)) K X H = withc (cellH H a) fun v => K v H := loadA_1 Tryd.underlying16 rfl --16
theorem lq16 {H : Hp} {K : Value → Prop} {a : Addr} : loadQ Tryd.prog 16 (.pointer (some a)) K H = withc (cellH H a) K := loadQ_e Tryd.underlying16 rfl
theorem ld17 {H : Hp} {K : Value → Hp → Prop} {X : List PanicEntry → Hp → Prop} {a : Addr} : loadA Tryd.prog 17 (.pointer (some a)) K X H = withc (cellH H a) fun v => K v H := loadA_1 Tryd.underlying17 rfl --17
theorem lq17 {H : Hp} {K : Value → Prop} {a : Addr} : loadQ Tryd.prog 17 (.pointer (some a)) K H = withc (cellH H a) K := loadQ_e Tryd.underlying17 rfl
theorem ld18 {H : Hp} {K : Value → Hp → Prop} {X : List PanicEntry → Hp → Prop} {a : Addr} : loadA Tryd.prog 18 (.pointer (some a)) K X H = withcs (cellsH H a 0 1) fun l => K (.agg l.toArray) H := loadA_n Tryd.underlying18 rfl ty18
theorem rc18 {H : Hp} {K : Value → Prop} {a : Addr} {l : List Value} (hc : cellsH H a 0 1 = some l) : rcA Tryd.prog 18 (.pointer (some a)) H K = K (.agg l.toArray) := rcA_n Tryd.underlying18 rfl ty18 hc
theorem bl18 {H : Hp} {K : Value → Hp → Prop} {X : List PanicEntry → Hp → Prop} {ps : List (Nat × Value)} : bldA Tryd.prog 18 ps K X H = withO (bfill [(0, 1)] [.pointer none] ps) fun v => K v H := bldA_e Tryd.underlying18 ty18 (by kernel_rfl)
theorem bq18 {H : Hp} {K : Value → Prop} {ps : List (Nat × Value)} : bldQ Tryd.prog 18 ps K H = withO (bfill [(0, 1)] [.pointer none] ps) K := bldQ_e Tryd.underlying18 ty18 (by kernel_rfl)
theorem fa18_0 {H : Hp} {K : Value → Hp → Prop} {X : List PanicEntry → Hp → Prop} {b off : Nat} : fadA Tryd.prog 18 (.pointer (some ⟨b, off, none⟩)) 0 K X H = K (.pointer (some ⟨b, off, none⟩)) H := by rw [fadA_ok fld18_0, add_none]; rfl
theorem fq18_0 {H : Hp} {K : Value → Prop} {b off : Nat} : fadQ Tryd.prog 18 (.pointer (some ⟨b, off, none⟩)) 0 K H = K (.pointer (some ⟨b, off, none⟩)) := by rw [fadQ_ok fld18_0, add_none]; rfl
theorem ld19 {H : Hp} {K : Value → Hp → Prop} {X : List PanicEntry → Hp → Prop} {a : Addr} : loadA Tryd.prog 19 (.pointer (some a)) K X H = withcs (cellsH H a 0 1) fun l => K (.agg l.toArray) H := loadA_n Tryd.underlying19 rfl ty19
theorem rc19 {H : Hp} {K : Value → Prop} {a : Addr} {l : List Value} (hc : cellsH H a 0 1 = some l) : rcA Tryd.prog 19 (.pointer (some a)) H K = K (.agg l.toArray) := rcA_n Tryd.underlying19 rfl ty19 hc
theorem bl19 {H : Hp} {K : Value → Hp → Prop} {X : List PanicEntry → Hp → Prop} {ps : List (Nat × Value)} : bldA Tryd.prog 19 ps K X H = withO (bfill [(0, 1)] [.pointer none] ps) fun v => K v H := bldA_e Tryd.underlying19 ty19 (by kernel_rfl)
theorem bq19 {H : Hp} {K : Value → Prop} {ps : List (Nat × Value)} : bldQ Tryd.prog 19 ps K H = withO (bfill [(0, 1)] [.pointer none] ps) K := bldQ_e Tryd.underlying19 ty19 (by kernel_rfl)
theorem fa19_0 {H : Hp} {K : Value → Hp → Prop} {X : List PanicEntry → Hp → Prop} {b off : Nat} : fadA Tryd.prog 19 (.pointer (some ⟨b, off, none⟩)) 0 K X H = K (.pointer (some ⟨b, off, none⟩)) H := by rw [fadA_ok fld19_0, add_none]; rfl
theorem fq19_0 {H : Hp} {K : Value → Prop} {b off : Nat} : fadQ Tryd.prog 19 (.pointer (some ⟨b, off, none⟩)) 0 K H = K (.pointer (some ⟨b, off, none⟩)) := by rw [fadQ_ok fld19_0, add_none]; rfl
theorem ld20 {H : Hp} {K : Value → Hp → Prop} {X : List PanicEntry → Hp → Prop} {a : Addr} : loadA Tryd.prog 20 (.pointer (some a)) K X H = withc (cellH H a) fun v => K v H := loadA_1 Tryd.underlying20 rfl --20
theorem lq20 {H : Hp} {K : Value → Prop} {a : Addr} : loadQ Tryd.prog 20 (.pointer (some a)) K H = withc (cellH H a) K := loadQ_e Tryd.underlying20 rfl
theorem ld21 {H : Hp} {K : Value → Hp → Prop} {X : List PanicEntry → Hp → Prop} {a : Addr} : loadA Tryd.prog 21 (.pointer (some a)) K X H = withc (cellH H a) fun v => K v H := loadA_1 Tryd.underlying21 rfl --21
theorem lq21 {H : Hp} {K : Value → Prop} {a : Addr} : loadQ Tryd.prog 21 (.pointer (some a)) K H = withc (cellH H a) K := loadQ_e Tryd.underlying21 rfl
theorem ld22 {H : Hp} {K : Value → Hp → Prop} {X : List PanicEntry → Hp → Prop} {a : Addr} : loadA Tryd.prog 22 (.pointer (some a)) K X H = withc (cellH H a) fun v => K v H := loadA_1 Tryd.underlying22 rfl --22
theorem lq22 {H : Hp} {K : Value → Prop} {a : Addr} : loadQ Tryd.prog 22 (.pointer (some a)) K H = withc (cellH H a) K := loadQ_e Tryd.underlying22 rfl
theorem ld23 {H : Hp} {K : Value → Hp → Prop} {X : List PanicEntry → Hp → Prop} {a : Addr} : loadA Tryd.prog 23 (.pointer (some a)) K X H = withc (cellH H a) fun v => K v H := loadA_1 Tryd.underlying23 rfl --23
theorem lq23 {H : Hp} {K : Value → Prop} {a : Addr} : loadQ Tryd.prog 23 (.pointer (some a)) K H = withc (cellH H a) K := loadQ_e Tryd.underlying23 rfl
theorem ld24 {H : Hp} {K : Value → Hp → Prop} {X : List PanicEntry → Hp → Prop} {a : Addr} : loadA Tryd.prog 24 (.pointer (some a)) K X H = withc (cellH H a) fun v => K v H := loadA_1 Tryd.underlying24 rfl --24
theorem lq24 {H : Hp} {K : Value → Prop} {a : Addr} : loadQ Tryd.prog 24 (.pointer (some a)) K H = withc (cellH H a) K := loadQ_e Tryd.underlying24 rfl
theorem ld25 {H : Hp} {K : Value → Hp → Prop} {X : List PanicEntry → Hp → Prop} {a : Addr} : loadA Tryd.prog 25 (.pointer (some a)) K X H = withc (cellH H a) fun v => K v H := loadA_1 Tryd.underlying25 rfl --25
theorem lq25 {H : Hp} {K : Value → Prop} {a : Addr} : loadQ Tryd.prog 25 (.pointer (some a)) K H = withc (cellH H a) K := loadQ_e Tryd.underlying25 rfl
theorem ld27 {H : Hp} {K : Value → Hp → Prop} {X : List PanicEntry → Hp → Prop} {a : Addr} : loadA Tryd.prog 27 (.pointer (some a)) K X H = withc (cellH H a) fun v => K v H := loadA_1 Tryd.underlying27 rfl --27
theorem lq27 {H : Hp} {K : Value → Prop} {a : Addr} : loadQ Tryd.prog 27 (.pointer (some a)) K H = withc (cellH H a) K := loadQ_e Tryd.underlying27 rfl
theorem ld29 {H : Hp} {K : Value → Hp → Prop} {X : List PanicEntry → Hp → Prop} {a : Addr} : loadA Tryd.prog 29 (.pointer (some a)) K X H = withc (cellH H a) fun v => K v H := loadA_1 Tryd.underlying29 rfl --29
theorem lq29 {H : Hp} {K : Value → Prop} {a : Addr} : loadQ Tryd.prog 29 (.pointer (some a)) K H = withc (cellH H a) K := loadQ_e Tryd.underlying29 rfl
theorem ld30 {H : Hp} {K : Value → Hp → Prop} {X : List PanicEntry → Hp → Prop} {a : Addr} : loadA Tryd.prog 30 (.pointer (some a)) K X H = withc (cellH H a) fun v => K v H := loadA_1 Tryd.underlying30 rfl --30
theorem lq30 {H : Hp} {K : Value → Prop} {a : Addr} : loadQ Tryd.prog 30 (.pointer (some a)) K H = withc (cellH H a) K := loadQ_e Tryd.underlying30 rfl
theorem ld31 {H : Hp} {K : Value → Hp → Prop} {X : List PanicEntry → Hp → Prop} {a : Addr} : loadA Tryd.prog 31 (.pointer (some a)) K X H = withc (cellH H a) fun v => K v H := loadA_1 Tryd.underlying31 rfl --31
theorem lq31 {H : Hp} {K : Value → Prop} {a : Addr} : loadQ Tryd.prog 31 (.pointer (some a)) K H = withc (cellH H a) K := loadQ_e Tryd.underlying31 rfl
theorem ld32 {H : Hp} {K : Value → Hp → Prop} {X : List PanicEntry → Hp → Prop} {a : Addr} : loadA Tryd.prog 32 (.pointer (some a)) K X H = withc (cellH H a) fun v => K v H := loadA_1 Tryd.underlying32 rfl --32
theorem lq32 {H : Hp} {K : Value → Prop} {a : Addr} : loadQ Tryd.prog 32 (.pointer (some a)) K H = withc (cellH H a) K := loadQ_e Tryd.underlying32 rfl
theorem ld33 {H : Hp} {K : Value → Hp → Prop} {X : List PanicEntry → Hp → Prop} {a : Addr} : loadA Tryd.prog 33 (.pointer (some a)) K X H = withc (cellH H a) fun v => K v H := loadA_1 Tryd.underlying33 rfl --33
theorem lq33 {H : Hp} {K : Value → Prop} {a : Addr} : loadQ Tryd.prog 33 (.pointer (some a)) K H = withc (cellH H a) K := loadQ_e Tryd.underlying33 rfl
theorem ld34 {H : Hp} {K : Value → Hp → Prop} {X : List PanicEntry → Hp → Prop} {a : Addr} : loadA Tryd.prog 34 (.pointer (some a)) K X H = withc (cellH H a) fun v => K v H := loadA_1 Tryd.underlying34 rfl --34
theorem lq34 {H : Hp} {K : Value → Prop} {a : Addr} : loadQ Tryd.prog 34 (.pointer (some a)) K H = withc (cellH H a) K := loadQ_e Tryd.underlying34 rfl
theorem ld35 {H : Hp} {K : Value → Hp → Prop} {X : List PanicEntry → Hp → Prop} {a : Addr} : loadA Tryd.prog 35 (.pointer (some a)) K X H = withc (cellH H a) fun v => K v H := loadA_1 Tryd.underlying35 rfl --35
theorem lq35 {H : Hp} {K : Value → Prop} {a : Addr} : loadQ Tryd.prog 35 (.pointer (some a)) K H = withc (cellH H a) K := loadQ_e Tryd.underlying35 rfl
theorem ld36 {H : Hp} {K : Value → Hp → Prop} {X : List PanicEntry → Hp → Prop} {a : Addr} : loadA Tryd.prog 36 (.pointer (some a)) K X H = withc (cellH H a) fun v => K v H := loadA_1 Tryd.underlying36 rfl --36
theorem lq36 {H : Hp} {K : Value → Prop} {a : Addr} : loadQ Tryd.prog 36 (.pointer (some a)) K H = withc (cellH H a) K := loadQ_e Tryd.underlying36 rfl
theorem ld38 {H : Hp} {K : Value → Hp → Prop} {X : List PanicEntry → Hp → Prop} {a : Addr} : loadA Tryd.prog 38 (.pointer (some a)) K X H = withc (cellH H a) fun v => K v H := loadA_1 Tryd.underlying38 rfl --38
theorem lq38 {H : Hp} {K : Value → Prop} {a : Addr} : loadQ Tryd.prog 38 (.pointer (some a)) K H = withc (cellH H a) K := loadQ_e Tryd.underlying38 rfl
theorem ld39 {H : Hp} {K : Value → Hp → Prop} {X : List PanicEntry → Hp → Prop} {a : Addr} : loadA Tryd.prog 39 (.pointer (some a)) K X H = withcs (cellsH H a 0 4) fun l => K (.agg l.toArray) H := loadA_n Tryd.underlying39 rfl ty39
theorem rc39 {H : Hp} {K : Value → Prop} {a : Addr} {l : List Value} (hc : cellsH H a 0 4 = some l) : rcA Tryd.prog 39 (.pointer (some a)) H K = K (.agg l.toArray) := rcA_n Tryd.underlying39 rfl ty39 hc
theorem bl39 {H : Hp} {K : Value → Hp → Prop} {X : List PanicEntry → Hp → Prop} {ps : List (Nat × Value)} : bldA Tryd.prog 39 ps K X H = withO (bfill [(0, 1), (1, 1), (2, 1), (3, 1)] [.int .i64 0, .string ⟨#[]⟩, .slice none 0 0, .slice none 0 0] ps) fun v => K v H := bldA_e Tryd.underlying39 ty39 (by kernel_rfl)
theorem bq39 {H : Hp} {K : Value → Prop} {ps : List (Nat × Value)} : bldQ Tryd.prog 39 ps K H = withO (bfill [(0, 1), (1, 1), (2, 1), (3, 1)] [.int .i64 0, .string ⟨#[]⟩, .slice none 0 0, .slice none 0 0] ps) K := bldQ_e Tryd.underlying39 ty39 (by kernel_rfl)
theorem fa39_0 {H : Hp} {K : Value → Hp → Prop} {X : List PanicEntry → Hp → Prop} {b off : Nat} : fadA Tryd.prog 39 (.pointer (some ⟨b, off, none⟩)) 0 K X H = K (.pointer (some ⟨b, off, none⟩)) H := by rw [fadA_ok fld39_0, add_none]; rfl
theorem fq39_0 {H : Hp} {K : Value → Prop} {b off : Nat} : fadQ Tryd.prog 39 (.pointer (some ⟨b, off, none⟩)) 0 K H = K (.pointer (some ⟨b, off, none⟩)) := by rw [fadQ_ok fld39_0, add_none]; rfl
theorem fa39_1 {H : Hp} {K : Value → Hp → Prop} {X : List PanicEntry → Hp → Prop} {b off : Nat} : fadA Tryd.prog 39 (.pointer (some ⟨b, off, none⟩)) 1 K X H = K (.pointer (some ⟨b, off + 1, none⟩)) H := by rw [fadA_ok fld39_1, add_none]
theorem fq39_1 {H : Hp} {K : Value → Prop} {b off : Nat} : fadQ Tryd.prog 39 (.pointer (some ⟨b, off, none⟩)) 1 K H = K (.pointer (some ⟨b, off + 1, none⟩)) := by rw [fadQ_ok fld39_1, add_none]
theorem fa39_2 {H : Hp} {K : Value → Hp → Prop} {X : List PanicEntry → Hp → Prop} {b off : Nat} : fadA Tryd.prog 39 (.pointer (some ⟨b, off, none⟩)) 2 K X H = K (.pointer (some ⟨b, off + 2, none⟩)) H := by rw [fadA_ok fld39_2, add_none]
theorem fq39_2 {H : Hp} {K : Value → Prop} {b off : Nat} : fadQ Tryd.prog 39 (.pointer (some ⟨b, off, none⟩)) 2 K H = K (.pointer (some ⟨b, off + 2, none⟩)) := by rw [fadQ_ok fld39_2, add_none]
theorem fa39_3 {H : Hp} {K : Value → Hp → Prop} {X : List PanicEntry → Hp → Prop} {b off : Nat} : fadA Tryd.prog 39 (.pointer (some ⟨b, off, none⟩)) 3 K X H = K (.pointer (some ⟨b, off + 3, none⟩)) H := by rw [fadA_ok fld39_3, add_none]
theorem fq39_3 {H : Hp} {K : Value → Prop} {b off : Nat} : fadQ Tryd.prog 39 (.pointer (some ⟨b, off, none⟩)) 3 K H = K (.pointer (some ⟨b, off + 3, none⟩)) := by rw [fadQ_ok fld39_3, add_none]
theorem ld40 {H : Hp} {K : Value → Hp → Prop} {X : List PanicEntry → Hp → Prop} {a : Addr} : loadA Tryd.prog 40 (.pointer (some a)) K X H = withcs (cellsH H a 0 4) fun l => K (.agg l.toArray) H := loadA_n Tryd.underlying40 rfl ty40
theorem rc40 {H : Hp} {K : Value → Prop} {a : Addr} {l : List Value} (hc : cellsH H a 0 4 = some l) : rcA Tryd.prog 40 (.pointer (some a)) H K = K (.agg l.toArray) := rcA_n Tryd.underlying40 rfl ty40 hc
theorem bl40 {H : Hp} {K : Value → Hp → Prop} {X : List PanicEntry → Hp → Prop} {ps : List (Nat × Value)} : bldA Tryd.prog 40 ps K X H = withO (bfill [(0, 1), (1, 1), (2, 1), (3, 1)] [.int .i64 0, .string ⟨#[]⟩, .slice none 0 0, .slice none 0 0] ps) fun v => K v H := bldA_e Tryd.underlying40 ty40 (by kernel_rfl)
theorem bq40 {H : Hp} {K : Value → Prop} {ps : List (Nat × Value)} : bldQ Tryd.prog 40 ps K H = withO (bfill [(0, 1), (1, 1), (2, 1), (3, 1)] [.int .i64 0, .string ⟨#[]⟩, .slice none 0 0, .slice none 0 0] ps) K := bldQ_e Tryd.underlying40 ty40 (by kernel_rfl)
theorem fa40_0 {H : Hp} {K : Value → Hp → Prop} {X : List PanicEntry → Hp → Prop} {b off : Nat} : fadA Tryd.prog 40 (.pointer (some ⟨b, off, none⟩)) 0 K X H = K (.pointer (some ⟨b, off, none⟩)) H := by rw [fadA_ok fld40_0, add_none]; rfl
theorem fq40_0 {H : Hp} {K : Value → Prop} {b off : Nat} : fadQ Tryd.prog 40 (.pointer (some ⟨b, off, none⟩)) 0 K H = K (.pointer (some ⟨b, off, none⟩)) := by rw [fadQ_ok fld40_0, add_none]; rfl
theorem fa40_1 {H : Hp} {K : Value → Hp → Prop} {X : List PanicEntry → Hp → Prop} {b off : Nat} : fadA Tryd.prog 40 (.pointer (some ⟨b, off, none⟩)) 1 K X H = K (.pointer (some ⟨b, off + 1, none⟩)) H := by rw [fadA_ok fld40_1, add_none]
theorem fq40_1 {H : Hp} {K : Value → Prop} {b off : Nat} : fadQ Tryd.prog 40 (.pointer (some ⟨b, off, none⟩)) 1 K H = K (.pointer (some ⟨b, off + 1, none⟩)) := by rw [fadQ_ok fld40_1, add_none]
theorem fa40_2 {H : Hp} {K : Value → Hp → Prop} {X : List PanicEntry → Hp → Prop} {b off : Nat} : fadA Tryd.prog 40 (.pointer (some ⟨b, off, none⟩)) 2 K X H = K (.pointer (some ⟨b, off + 2, none⟩)) H := by rw [fadA_ok fld40_2, add_none]
theorem fq40_2 {H : Hp} {K : Value → Prop} {b off : Nat} : fadQ Tryd.prog 40 (.pointer (some ⟨b, off, none⟩)) 2 K H = K (.pointer (some ⟨b, off + 2, none⟩)) := by rw [fadQ_ok fld40_2, add_none]
theorem fa40_3 {H : Hp} {K : Value → Hp → Prop} {X : List PanicEntry → Hp → Prop} {b off : Nat} : fadA Tryd.prog 40 (.pointer (some ⟨b, off, none⟩)) 3 K X H = K (.pointer (some ⟨b, off + 3, none⟩)) H := by rw [fadA_ok fld40_3, add_none]
theorem fq40_3 {H : Hp} {K : Value → Prop} {b off : Nat} : fadQ Tryd.prog 40 (.pointer (some ⟨b, off, none⟩)) 3 K H = K (.pointer (some ⟨b, off + 3, none⟩)) := by rw [fadQ_ok fld40_3, add_none]
theorem ld41 {H : Hp} {K : Value → Hp → Prop} {X : List PanicEntry → Hp → Prop} {a : Addr} : loadA Tryd.prog 41 (.pointer (some a)) K X H = withc (cellH H a) fun v => K v H := loadA_1 Tryd.underlying41 rfl --41
theorem lq41 {H : Hp} {K : Value → Prop} {a : Addr} : loadQ Tryd.prog 41 (.pointer (some a)) K H = withc (cellH H a) K := loadQ_e Tryd.underlying41 rfl
theorem ld42 {H : Hp} {K : Value → Hp → Prop} {X : List PanicEntry → Hp → Prop} {a : Addr} : loadA Tryd.prog 42 (.pointer (some a)) K X H = withc (cellH H a) fun v => K v H := loadA_1 Tryd.underlying42 rfl --42
theorem lq42 {H : Hp} {K : Value → Prop} {a : Addr} : loadQ Tryd.prog 42 (.pointer (some a)) K H = withc (cellH H a) K := loadQ_e Tryd.underlying42 rfl
theorem ld43 {H : Hp} {K : Value → Hp → Prop} {X : List PanicEntry → Hp → Prop} {a : Addr} : loadA Tryd.prog 43 (.pointer (some a)) K X H = withc (cellH H a) fun v => K v H := loadA_1 Tryd.underlying43 rfl --43
theorem lq43 {H : Hp} {K : Value → Prop} {a : Addr} : loadQ Tryd.prog 43 (.pointer (some a)) K H = withc (cellH H a) K := loadQ_e Tryd.underlying43 rfl
theorem ld44 {H : Hp} {K : Value → Hp → Prop} {X : List PanicEntry → Hp → Prop} {a : Addr} : loadA Tryd.prog 44 (.pointer (some a)) K X H = withc (cellH H a) fun v => K v H := loadA_1 Tryd.underlying44 rfl --44
theorem lq44 {H : Hp} {K : Value → Prop} {a : Addr} : loadQ Tryd.prog 44 (.pointer (some a)) K H = withc (cellH H a) K := loadQ_e Tryd.underlying44 rfl
theorem ld45 {H : Hp} {K : Value → Hp → Prop} {X : List PanicEntry → Hp → Prop} {a : Addr} : loadA Tryd.prog 45 (.pointer (some a)) K X H = withc (cellH H a) fun v => K v H := loadA_1 Tryd.underlying45 rfl --45
theorem lq45 {H : Hp} {K : Value → Prop} {a : Addr} : loadQ Tryd.prog 45 (.pointer (some a)) K H = withc (cellH H a) K := loadQ_e Tryd.underlying45 rfl
theorem ld46 {H : Hp} {K : Value → Hp → Prop} {X : List PanicEntry → Hp → Prop} {a : Addr} : loadA Tryd.prog 46 (.pointer (some a)) K X H = withc (cellH H a) fun v => K v H := loadA_1 Tryd.underlying46 rfl --46
theorem lq46 {H : Hp} {K : Value → Prop} {a : Addr} : loadQ Tryd.prog 46 (.pointer (some a)) K H = withc (cellH H a) K := loadQ_e Tryd.underlying46 rfl
theorem ld47 {H : Hp} {K : Value → Hp → Prop} {X : List PanicEntry → Hp → Prop} {a : Addr} : loadA Tryd.prog 47 (.pointer (some a)) K X H = withc (cellH H a) fun v => K v H := loadA_1 Tryd.underlying47 rfl --47
theorem lq47 {H : Hp} {K : Value → Prop} {a : Addr} : loadQ Tryd.prog 47 (.pointer (some a)) K H = withc (cellH H a) K := loadQ_e Tryd.underlying47 rfl
theorem ld48 {H : Hp} {K : Value → Hp → Prop} {X : List PanicEntry → Hp → Prop} {a : Addr} : loadA Tryd.prog 48 (.pointer (some a)) K X H = withc (cellH H a) fun v => K v H := loadA_1 Tryd.underlying48 rfl --48
theorem lq48 {H : Hp} {K : Value → Prop} {a : Addr} : loadQ Tryd.prog 48 (.pointer (some a)) K H = withc (cellH H a) K := loadQ_e Tryd.underlying48 rfl
theorem ld50 {H : Hp} {K : Value → Hp → Prop} {X : List PanicEntry → Hp → Prop} {a : Addr} : loadA Tryd.prog 50 (.pointer (some a)) K X H = withc (cellH H a) fun v => K v H := loadA_1 Tryd.underlying50 rfl --50
theorem lq50 {H : Hp} {K : Value → Prop} {a : Addr} : loadQ Tryd.prog 50 (.pointer (some a)) K H = withc (cellH H a) K := loadQ_e Tryd.underlying50 rfl
theorem ld51 {H : Hp} {K : Value → Hp → Prop} {X : List PanicEntry → Hp → Prop} {a : Addr} : loadA Tryd.prog 51 (.pointer (some a)) K X H = withc (cellH H a) fun v => K v H := loadA_1 Tryd.underlying51 rfl --51
theorem lq51 {H : Hp} {K : Value → Prop} {a : Addr} : loadQ Tryd.prog 51 (.pointer (some a)) K H = withc (cellH H a) K := loadQ_e Tryd.underlying51 rfl
theorem ld52 {H : Hp} {K : Value → Hp → Prop} {X : List PanicEntry → Hp → Prop} {a : Addr} : loadA Tryd.prog 52 (.pointer (some a)) K X H = withc (cellH H a) fun v => K v H := loadA_1 Tryd.underlying52 rfl --52
theorem lq52 {H : Hp} {K : Value → Prop} {a : Addr} : loadQ Tryd.prog 52 (.pointer (some a)) K H = withc (cellH H a) K := loadQ_e Tryd.underlying52 rfl
theorem ld53 {H : Hp} {K : Value → Hp → Prop} {X : List PanicEntry → Hp → Prop} {a : Addr} : loadA Tryd.prog 53 (.pointer (some a)) K X H = withcs (cellsH H a 0 2) fun l => K (.agg l.toArray) H := loadA_n Tryd.underlying53 rfl ty53
theorem rc53 {H : Hp} {K : Value → Prop} {a : Addr} {l : List Value} (hc : cellsH H a 0 2 = some l) : rcA Tryd.prog 53 (.pointer (some a)) H K = K (.agg l.toArray) := rcA_n Tryd.underlying53 rfl ty53 hc
theorem bl53 {H : Hp} {K : Value → Hp → Prop} {X : List PanicEntry → Hp → Prop} {ps : List (Nat × Value)} : bldA Tryd.prog 53 ps K X H = withO (bfill [(0, 1), (1, 1)] [.pointer none, .slice none 0 0] ps) fun v => K v H := bldA_e Tryd.underlying53 ty53 (by kernel_rfl)
theorem bq53 {H : Hp} {K : Value → Prop} {ps : List (Nat × Value)} : bldQ Tryd.prog 53 ps K H = withO (bfill [(0, 1), (1, 1)] [.pointer none, .slice none 0 0] ps) K := bldQ_e Tryd.underlying53 ty53 (by kernel_rfl)
theorem fa53_0 {H : Hp} {K : Value → Hp → Prop} {X : List PanicEntry → Hp → Prop} {b off : Nat} : fadA Tryd.prog 53 (.pointer (some ⟨b, off, none⟩)) 0 K X H = K (.pointer (some ⟨b, off, none⟩)) H := by rw [fadA_ok fld53_0, add_none]; rfl
theorem fq53_0 {H : Hp} {K : Value → Prop} {b off : Nat} : fadQ Tryd.prog 53 (.pointer (some ⟨b, off, none⟩)) 0 K H = K (.pointer (some ⟨b, off, none⟩)) := by rw [fadQ_ok fld53_0, add_none]; rfl
theorem fa53_1 {H : Hp} {K : Value → Hp → Prop} {X : List PanicEntry → Hp → Prop} {b off : Nat} : fadA Tryd.prog 53 (.pointer (some ⟨b, off, none⟩)) 1 K X H = K (.pointer (some ⟨b, off + 1, none⟩)) H := by rw [fadA_ok fld53_1, add_none]
theorem fq53_1 {H : Hp} {K : Value → Prop} {b off : Nat} : fadQ Tryd.prog 53 (.pointer (some ⟨b, off, none⟩)) 1 K H = K (.pointer (some ⟨b, off + 1, none⟩)) := by rw [fadQ_ok fld53_1, add_none]
theorem ld54 {H : Hp} {K : Value → Hp → Prop} {X : List PanicEntry → Hp → Prop} {a : Addr} : loadA Tryd.prog 54 (.pointer (some a)) K X H = withcs (cellsH H a 0 2) fun l => K (.agg l.toArray) H := loadA_n Tryd.underlying54 rfl ty54
theorem rc54 {H : Hp} {K : Value → Prop} {a : Addr} {l : List Value} (hc : cellsH H a 0 2 = some l) : rcA Tryd.prog 54 (.pointer (some a)) H K = K (.agg l.toArray) := rcA_n Tryd.underlying54 rfl ty54 hc
theorem bl54 {H : Hp} {K : Value → Hp → Prop} {X : List PanicEntry → Hp → Prop} {ps : List (Nat × Value)} : bldA Tryd.prog 54 ps K X H = withO (bfill [(0, 1), (1, 1)] [.pointer none, .slice none 0 0] ps) fun v => K v H := bldA_e Tryd.underlying54 ty54 (by kernel_rfl)
theorem bq54 {H : Hp} {K : Value → Prop} {ps : List (Nat × Value)} : bldQ Tryd.prog 54 ps K H = withO (bfill [(0, 1), (1, 1)] [.pointer none, .slice none 0 0] ps) K := bldQ_e Tryd.underlying54 ty54 (by kernel_rfl)
theorem fa54_0 {H : Hp} {K : Value → Hp → Prop} {X : List PanicEntry → Hp → Prop} {b off : Nat} : fadA Tryd.prog 54 (.pointer (some ⟨b, off, none⟩)) 0 K X H = K (.pointer (some ⟨b, off, none⟩)) H := by rw [fadA_ok fld54_0, add_none]; rfl
theorem fq54_0 {H : Hp} {K : Value → Prop} {b off : Nat} : fadQ Tryd.prog 54 (.pointer (some ⟨b, off, none⟩)) 0 K H = K (.pointer (some ⟨b, off, none⟩)) := by rw [fadQ_ok fld54_0, add_none]; rfl
theorem fa54_1 {H : Hp} {K : Value → Hp → Prop} {X : List PanicEntry → Hp → Prop} {b off : Nat} : fadA Tryd.prog 54 (.pointer (some ⟨b, off, none⟩)) 1 K X H = K (.pointer (some ⟨b, off + 1, none⟩)) H := by rw [fadA_ok fld54_1, add_none]
theorem fq54_1 {H : Hp} {K : Value → Prop} {b off : Nat} : fadQ Tryd.prog 54 (.pointer (some ⟨b, off, none⟩)) 1 K H = K (.pointer (some ⟨b, off + 1, none⟩)) := by rw [fadQ_ok fld54_1, add_none]
theorem ld55 {H : Hp} {K : Value → Hp → Prop} {X : List PanicEntry → Hp → Prop} {a : Addr} : loadA Tryd.prog 55 (.pointer (some a)) K X H = withc (cellH H a) fun v => K v H := loadA_1 Tryd.underlying55 rfl --55
theorem lq55 {H : Hp} {K : Value → Prop} {a : Addr} : loadQ Tryd.prog 55 (.pointer (some a)) K H = withc (cellH H a) K := loadQ_e Tryd.underlying55 rfl
theorem ld56 {H : Hp} {K : Value → Hp → Prop} {X : List PanicEntry → Hp → Prop} {a : Addr} : loadA Tryd.prog 56 (.pointer (some a)) K X H = withc (cellH H a) fun v => K v H := loadA_1 Tryd.underlying56 rfl --56
theorem lq56 {H : Hp} {K : Value → Prop} {a : Addr} : loadQ Tryd.prog 56 (.pointer (some a)) K H = withc (cellH H a) K := loadQ_e Tryd.underlying56 rfl
theorem ld57 {H : Hp} {K : Value → Hp → Prop} {X : List PanicEntry → Hp → Prop} {a : Addr} : loadA Tryd.prog 57 (.pointer (some a)) K X H = withc (cellH H a) fun v => K v H := loadA_1 Tryd.underlying57 rfl --57
theorem lq57 {H : Hp} {K : Value → Prop} {a : Addr} : loadQ Tryd.prog 57 (.pointer (some a)) K H = withc (cellH H a) K := loadQ_e Tryd.underlying57 rfl
theorem ld59 {H : Hp} {K : Value → Hp → Prop} {X : List PanicEntry → Hp → Prop} {a : Addr} : loadA Tryd.prog 59 (.pointer (some a)) K X H = withc (cellH H a) fun v => K v H := loadA_1 Tryd.underlying59 rfl --59
theorem lq59 {H : Hp} {K : Value → Prop} {a : Addr} : loadQ Tryd.prog 59 (.pointer (some a)) K H = withc (cellH H a) K := loadQ_e Tryd.underlying59 rfl
theorem ld60 {H : Hp} {K : Value → Hp → Prop} {X : List PanicEntry → Hp → Prop} {a : Addr} : loadA Tryd.prog 60 (.pointer (some a)) K X H = withc (cellH H a) fun v => K v H := loadA_1 Tryd.underlying60 rfl --60
theorem lq60 {H : Hp} {K : Value → Prop} {a : Addr} : loadQ Tryd.prog 60 (.pointer (some a)) K H = withc (cellH H a) K := loadQ_e Tryd.underlying60 rfl
theorem ld61 {H : Hp} {K : Value → Hp → Prop} {X : List PanicEntry → Hp → Prop} {a : Addr} : loadA Tryd.prog 61 (.pointer (some a)) K X H = withc (cellH H a) fun v => K v H := loadA_1 Tryd.underlying61 rfl --61
theorem lq61 {H : Hp} {K : Value → Prop} {a : Addr} : loadQ Tryd.prog 61 (.pointer (some a)) K H = withc (cellH H a) K := loadQ_e Tryd.underlying61 rfl
theorem ld62 {H : Hp} {K : Value → Hp → Prop} {X : List PanicEntry → Hp → Prop} {a : Addr} : loadA Tryd.prog 62 (.pointer (some a)) K X H = withc (cellH H a) fun v => K v H := loadA_1 Tryd.underlying62 rfl --62
theorem lq62 {H : Hp} {K : Value → Prop} {a : Addr} : loadQ Tryd.prog 62 (.pointer (some a)) K H = withc (cellH H a) K := loadQ_e Tryd.underlying62 rfl
theorem ld64 {H : Hp} {K : Value → Hp → Prop} {X : List PanicEntry → Hp → Prop} {a : Addr} : loadA Tryd.prog 64 (.pointer (some a)) K X H = withc (cellH H a) fun v => K v H := loadA_1 Tryd.underlying64 rfl --64
theorem lq64 {H : Hp} {K : Value → Prop} {a : Addr} : loadQ Tryd.prog 64 (.pointer (some a)) K H = withc (cellH H a) K := loadQ_e Tryd.underlying64 rfl
theorem ld65 {H : Hp} {K : Value → Hp → Prop} {X : List PanicEntry → Hp → Prop} {a : Addr} : loadA Tryd.prog 65 (.pointer (some a)) K X H = withc (cellH H a) fun v => K v H := loadA_1 Tryd.underlying65 rfl --65
theorem lq65 {H : Hp} {K : Value → Prop} {a : Addr} : loadQ Tryd.prog 65 (.pointer (some a)) K H = withc (cellH H a) K := loadQ_e Tryd.underlying65 rfl
theorem ld66 {H : Hp} {K : Value → Hp → Prop} {X : List PanicEntry → Hp → Prop} {a : Addr} : loadA Tryd.prog 66 (.pointer (some a)) K X H = withc (cellH H a) fun v => K v H := loadA_1 Tryd.underlying66 rfl --66
theorem lq66 {H : Hp} {K : Value → Prop} {a : Addr} : loadQ Tryd.prog 66 (.pointer (some a)) K H = withc (cellH H a) K := loadQ_e Tryd.underlying66 rfl
theorem ld67 {H : Hp} {K : Value → Hp → Prop} {X : List PanicEntry → Hp → Prop} {a : Addr} : loadA Tryd.prog 67 (.pointer (some a)) K X H = withc (cellH H a) fun v => K v H := loadA_1 Tryd.underlying67 rfl --67
theorem lq67 {H : Hp} {K : Value → Prop} {a : Addr} : loadQ Tryd.prog 67 (.pointer (some a)) K H = withc (cellH H a) K := loadQ_e Tryd.underlying67 rfl
theorem ld68 {H : Hp} {K : Value → Hp → Prop} {X : List PanicEntry → Hp → Prop} {a : Addr} : loadA Tryd.prog 68 (.pointer (some a)) K X H = withc (cellH H a) fun v => K v H := loadA_1 Tryd.underlying68 rfl --68
theorem lq68 {H : Hp} {K : Value → Prop} {a : Addr} : loadQ Tryd.prog 68 (.pointer (some a)) K H = withc (cellH H a) K := loadQ_e Tryd.underlying68 rfl
theorem ld69 {H : Hp} {K : Value → Hp → Prop} {X : List PanicEntry → Hp → Prop} {a : Addr} : loadA Tryd.prog 69 (.pointer (some a)) K X H = withc (cellH H a) fun v => K v H := loadA_1 Tryd.underlying69 rfl --69
theorem lq69 {H : Hp} {K : Value → Prop} {a : Addr} : loadQ Tryd.prog 69 (.pointer (some a)) K H = withc (cellH H a) K := loadQ_e Tryd.underlying69 rfl
theorem ld70 {H : Hp} {K : Value → Hp → Prop} {X : List PanicEntry → Hp → Prop} {a : Addr} : loadA Tryd.prog 70 (.pointer (some a)) K X H = withc (cellH H a) fun v => K v H := loadA_1 Tryd.underlying70 rfl --70
theorem lq70 {H : Hp} {K : Value → Prop} {a : Addr} : loadQ Tryd.prog 70 (.pointer (some a)) K H = withc (cellH H a) K := loadQ_e Tryd.underlying70 rfl
theorem ld71 {H : Hp} {K : Value → Hp → Prop} {X : List PanicEntry → Hp → Prop} {a : Addr} : loadA Tryd.prog 71 (.pointer (some a)) K X H = withc (cellH H a) fun v => K v H := loadA_1 Tryd.underlying71 rfl --71
theorem lq71 {H : Hp} {K : Value → Prop} {a : Addr} : loadQ Tryd.prog 71 (.pointer (some a)) K H = withc (cellH H a) K := loadQ_e Tryd.underlying71 rfl
theorem ld72 {H : Hp} {K : Value → Hp → Prop} {X : List PanicEntry → Hp → Prop} {a : Addr} : loadA Tryd.prog 72 (.pointer (some a)) K X H = withcs (cellsH H a 0 2) fun l => K (.agg l.toArray) H := loadA_n Tryd.underlying72 rfl ty72
theorem rc72 {H : Hp} {K : Value → Prop} {a : Addr} {l : List Value} (hc : cellsH H a 0 2 = some l) : rcA Tryd.prog 72 (.pointer (some a)) H K = K (.agg l.toArray) := rcA_n Tryd.underlying72 rfl ty72 hc
theorem bl72 {H : Hp} {K : Value → Hp → Prop} {X : List PanicEntry → Hp → Prop} {ps : List (Nat × Value)} : bldA Tryd.prog 72 ps K X H = withO (bfill [(0, 1), (1, 1)] [.int .i64 0, .string ⟨#[]⟩] ps) fun v => K v H := bldA_e Tryd.underlying72 ty72 (by kernel_rfl)
theorem bq72 {H : Hp} {K : Value → Prop} {ps : List (Nat × Value)} : bldQ Tryd.prog 72 ps K H = withO (bfill [(0, 1), (1, 1)] [.int .i64 0, .string ⟨#[]⟩] ps) K := bldQ_e Tryd.underlying72 ty72 (by kernel_rfl)
theorem fa72_0 {H : Hp} {K : Value → Hp → Prop} {X : List PanicEntry → Hp → Prop} {b off : Nat} : fadA Tryd.prog 72 (.pointer (some ⟨b, off, none⟩)) 0 K X H = K (.pointer (some ⟨b, off, none⟩)) H := by rw [fadA_ok fld72_0, add_none]; rfl
theorem fq72_0 {H : Hp} {K : Value → Prop} {b off : Nat} : fadQ Tryd.prog 72 (.pointer (some ⟨b, off, none⟩)) 0 K H = K (.pointer (some ⟨b, off, none⟩)) := by rw [fadQ_ok fld72_0, add_none]; rfl
theorem fa72_1 {H : Hp} {K : Value → Hp → Prop} {X : List PanicEntry → Hp → Prop} {b off : Nat} : fadA Tryd.prog 72 (.pointer (some ⟨b, off, none⟩)) 1 K X H = K (.pointer (some ⟨b, off + 1, none⟩)) H := by rw [fadA_ok fld72_1, add_none]
theorem fq72_1 {H : Hp} {K : Value → Prop} {b off : Nat} : fadQ Tryd.prog 72 (.pointer (some ⟨b, off, none⟩)) 1 K H = K (.pointer (some ⟨b, off + 1, none⟩)) := by rw [fadQ_ok fld72_1, add_none]
theorem ld73 {H : Hp} {K : Value → Hp → Prop} {X : List PanicEntry → Hp → Prop} {a : Addr} : loadA Tryd.prog 73 (.pointer (some a)) K X H = withcs (cellsH H a 0 2) fun l => K (.agg l.toArray) H := loadA_n Tryd.underlying73 rfl ty73
theorem rc73 {H : Hp} {K : Value → Prop} {a : Addr} {l : List Value} (hc : cellsH H a 0 2 = some l) : rcA Tryd.prog 73 (.pointer (some a)) H K = K (.agg l.toArray) := rcA_n Tryd.underlying73 rfl ty73 hc
theorem bl73 {H : Hp} {K : Value → Hp → Prop} {X : List PanicEntry → Hp → Prop} {ps : List (Nat × Value)} : bldA Tryd.prog 73 ps K X H = withO (bfill [(0, 1), (1, 1)] [.int .i64 0, .string ⟨#[]⟩] ps) fun v => K v H := bldA_e Tryd.underlying73 ty73 (by kernel_rfl)
theorem bq73 {H : Hp} {K : Value → Prop} {ps : List (Nat × Value)} : bldQ Tryd.prog 73 ps K H = withO (bfill [(0, 1), (1, 1)] [.int .i64 0, .string ⟨#[]⟩] ps) K := bldQ_e Tryd.underlying73 ty73 (by kernel_rfl)
theorem fa73_0 {H : Hp} {K : Value → Hp → Prop} {X : List PanicEntry → Hp → Prop} {b off : Nat} : fadA Tryd.prog 73 (.pointer (some ⟨b, off, none⟩)) 0 K X H = K (.pointer (some ⟨b, off, none⟩)) H := by rw [fadA_ok fld73_0, add_none]; rfl
theorem fq73_0 {H : Hp} {K : Value → Prop} {b off : Nat} : fadQ Tryd.prog 73 (.pointer (some ⟨b, off, none⟩)) 0 K H = K (.pointer (some ⟨b, off, none⟩)) := by rw [fadQ_ok fld73_0, add_none]; rfl
theorem fa73_1 {H : Hp} {K : Value → Hp → Prop} {X : List PanicEntry → Hp → Prop} {b off : Nat} : fadA Tryd.prog 73 (.pointer (some ⟨b, off, none⟩)) 1 K X H = K (.pointer (some ⟨b, off + 1, none⟩)) H := by rw [fadA_ok fld73_1, add_none]
theorem fq73_1 {H : Hp} {K : Value → Prop} {b off : Nat} : fadQ Tryd.prog 73 (.pointer (some ⟨b, off, none⟩)) 1 K H = K (.pointer (some ⟨b, off + 1, none⟩)) := by rw [fadQ_ok fld73_1, add_none]
theorem ld74 {H : Hp} {K : Value → Hp → Prop} {X : List PanicEntry → Hp → Prop} {a : Addr} : loadA Tryd.prog 74 (.pointer (some a)) K X H = withc (cellH H a) fun v => K v H := loadA_1 Tryd.underlying74 rfl --74
theorem lq74 {H : Hp} {K : Value → Prop} {a : Addr} : loadQ Tryd.prog 74 (.pointer (some a)) K H = withc (cellH H a) K := loadQ_e Tryd.underlying74 rfl
theorem ld75 {H : Hp} {K : Value → Hp → Prop} {X : List PanicEntry → Hp → Prop} {a : Addr} : loadA Tryd.prog 75 (.pointer (some a)) K X H = withc (cellH H a) fun v => K v H := loadA_1 Tryd.underlying75 rfl --75
theorem lq75 {H : Hp} {K : Value → Prop} {a : Addr} : loadQ Tryd.prog 75 (.pointer (some a)) K H = withc (cellH H a) K := loadQ_e Tryd.underlying75 rfl
theorem ld76 {H : Hp} {K : Value → Hp → Prop} {X : List PanicEntry → Hp → Prop} {a : Addr} : loadA Tryd.prog 76 (.pointer (some a)) K X H = withcs (cellsH H a 0 3) fun l => K (.agg l.toArray) H := loadA_n Tryd.underlying76 rfl ty76
theorem rc76 {H : Hp} {K : Value → Prop} {a : Addr} {l : List Value} (hc : cellsH H a 0 3 = some l) : rcA Tryd.prog 76 (.pointer (some a)) H K = K (.agg l.toArray) := rcA_n Tryd.underlying76 rfl ty76 hc
theorem bl76 {H : Hp} {K : Value → Hp → Prop} {X : List PanicEntry → Hp → Prop} {ps : List (Nat × Value)} : bldA Tryd.prog 76 ps K X H = withO (bfill [(0, 1), (1, 1), (2, 1)] [.map none, .map none, .slice none 0 0] ps) fun v => K v H := bldA_e Tryd.underlying76 ty76 (by kernel_rfl)
theorem bq76 {H : Hp} {K : Value → Prop} {ps : List (Nat × Value)} : bldQ Tryd.prog 76 ps K H = withO (bfill [(0, 1), (1, 1), (2, 1)] [.map none, .map none, .slice none 0 0] ps) K := bldQ_e Tryd.underlying76 ty76 (by kernel_rfl)
theorem fa76_0 {H : Hp} {K : Value → Hp → Prop} {X : List PanicEntry → Hp → Prop} {b off : Nat} : fadA Tryd.prog 76 (.pointer (some ⟨b, off, none⟩)) 0 K X H = K (.pointer (some ⟨b, off, none⟩)) H := by rw [fadA_ok fld76_0, add_none]; rfl
theorem fq76_0 {H : Hp} {K : Value → Prop} {b off : Nat} : fadQ Tryd.prog 76 (.pointer (some ⟨b, off, none⟩)) 0 K H = K (.pointer (some ⟨b, off, none⟩)) := by rw [fadQ_ok fld76_0, add_none]; rfl
theorem fa76_1 {H : Hp} {K : Value → Hp → Prop} {X : List PanicEntry → Hp → Prop} {b off : Nat} : fadA Tryd.prog 76 (.pointer (some ⟨b, off, none⟩)) 1 K X H = K (.pointer (some ⟨b, off + 1, none⟩)) H := by rw [fadA_ok fld76_1, add_none]
theorem fq76_1 {H : Hp} {K : Value → Prop} {b off : Nat} : fadQ Tryd.prog 76 (.pointer (some ⟨b, off, none⟩)) 1 K H = K (.pointer (some ⟨b, off + 1, none⟩)) := by rw [fadQ_ok fld76_1, add_none]
theorem fa76_2 {H : Hp} {K : Value → Hp → Prop} {X : List PanicEntry → Hp → Prop} {b off : Nat} : fadA Tryd.prog 76 (.pointer (some ⟨b, off, none⟩)) 2 K X H = K (.pointer (some ⟨b, off + 2, none⟩)) H := by rw [fadA_ok fld76_2, add_none]
theorem fq76_2 {H : Hp} {K : Value → Prop} {b off : Nat} : fadQ Tryd.prog 76 (.pointer (some ⟨b, off, none⟩)) 2 K H = K (.pointer (some ⟨b, off + 2, none⟩)) := by rw [fadQ_ok fld76_2, add_none]
theorem ld77 {H : Hp} {K : Value → Hp → Prop} {X : List PanicEntry → Hp → Prop} {a : Addr} : loadA Tryd.prog 77 (.pointer (some a)) K X H = withcs (cellsH H a 0 3) fun l => K (.agg l.toArray) H := loadA_n Tryd.underlying77 rfl ty77
theorem rc77 {H : Hp} {K : Value → Prop} {a : Addr} {l : List Value} (hc : cellsH H a 0 3 = some l) : rcA Tryd.prog 77 (.pointer (some a)) H K = K (.agg l.toArray) := rcA_n Tryd.underlying77 rfl ty77 hc
theorem bl77 {H : Hp} {K : Value → Hp → Prop} {X : List PanicEntry → Hp → Prop} {ps : List (Nat × Value)} : bldA Tryd.prog 77 ps K X H = withO (bfill [(0, 1), (1, 1), (2, 1)] [.map none, .map none, .slice none 0 0] ps) fun v => K v H := bldA_e Tryd.underlying77 ty77 (by kernel_rfl)
theorem bq77 {H : Hp} {K : Value → Prop} {ps : List (Nat × Value)} : bldQ Tryd.prog 77 ps K H = withO (bfill [(0, 1), (1, 1), (2, 1)] [.map none, .map none, .slice none 0 0] ps) K := bldQ_e Tryd.underlying77 ty77 (by kernel_rfl)
theorem fa77_0 {H : Hp} {K : Value → Hp → Prop} {X : List PanicEntry → Hp → Prop} {b off : Nat} : fadA Tryd.prog 77 (.pointer (some ⟨b, off, none⟩)) 0 K X H = K (.pointer (some ⟨b, off, none⟩)) H := by rw [fadA_ok fld77_0, add_none]; rfl
theorem fq77_0 {H : Hp} {K : Value → Prop} {b off : Nat} : fadQ Tryd.prog 77 (.pointer (some ⟨b, off, none⟩)) 0 K H = K (.pointer (some ⟨b, off, none⟩)) := by rw [fadQ_ok fld77_0, add_none]; rfl
theorem fa77_1 {H : Hp} {K : Value → Hp → Prop} {X : List PanicEntry → Hp → Prop} {b off : Nat} : fadA Tryd.prog 77 (.pointer (some ⟨b, off, none⟩)) 1 K X H = K (.pointer (some ⟨b, off + 1, none⟩)) H := by rw [fadA_ok fld77_1, add_none]
theorem fq77_1 {H : Hp} {K : Value → Prop} {b off : Nat} : fadQ Tryd.prog 77 (.pointer (some ⟨b, off, none⟩)) 1 K H = K (.pointer (some ⟨b, off + 1, none⟩)) := by rw [fadQ_ok fld77_1, add_none]
theorem fa77_2 {H : Hp} {K : Value → Hp → Prop} {X : List PanicEntry → Hp → Prop} {b off : Nat} : fadA Tryd.prog 77 (.pointer (some ⟨b, off, none⟩)) 2 K X H = K (.pointer (some ⟨b, off + 2, none⟩)) H := by rw [fadA_ok fld77_2, add_none]
theorem fq77_2 {H : Hp} {K : Value → Prop} {b off : Nat} : fadQ Tryd.prog 77 (.pointer (some ⟨b, off, none⟩)) 2 K H = K (.pointer (some ⟨b, off + 2, none⟩)) := by rw [fadQ_ok fld77_2, add_none]
theorem ld78 {H : Hp} {K : Value → Hp → Prop} {X : List PanicEntry → Hp → Prop} {a : Addr} : loadA Tryd.prog 78 (.pointer (some a)) K X H = withcs (cellsH H a 0 2) fun l => K (.agg l.toArray) H := loadA_n Tryd.underlying78 rfl ty78
theorem rc78 {H : Hp} {K : Value → Prop} {a : Addr} {l : List Value} (hc : cellsH H a 0 2 = some l) : rcA Tryd.prog 78 (.pointer (some a)) H K = K (.agg l.toArray) := rcA_n Tryd.underlying78 rfl ty78 hc
theorem bl78 {H : Hp} {K : Value → Hp → Prop} {X : List PanicEntry → Hp → Prop} {ps : List (Nat × Value)} : bldA Tryd.prog 78 ps K X H = withO (bfill [(0, 1), (1, 1)] [.int .i64 0, .int .i64 0] ps) fun v => K v H := bldA_e Tryd.underlying78 ty78 (by kernel_rfl)
theorem bq78 {H : Hp} {K : Value → Prop} {ps : List (Nat × Value)} : bldQ Tryd.prog 78 ps K H = withO (bfill [(0, 1), (1, 1)] [.int .i64 0, .int .i64 0] ps) K := bldQ_e Tryd.underlying78 ty78 (by kernel_rfl)
theorem fa78_0 {H : Hp} {K : Value → Hp → Prop} {X : List PanicEntry → Hp → Prop} {b off : Nat} : fadA Tryd.prog 78 (.pointer (some ⟨b, off, none⟩)) 0 K X H = K (.pointer (some ⟨b, off, none⟩)) H := by rw [fadA_ok fld78_0, add_none]; rfl
theorem fq78_0 {H : Hp} {K : Value → Prop} {b off : Nat} : fadQ Tryd.prog 78 (.pointer (some ⟨b, off, none⟩)) 0 K H = K (.pointer (some ⟨b, off, none⟩)) := by rw [fadQ_ok fld78_0, add_none]; rfl
theorem fa78_1 {H : Hp} {K : Value → Hp → Prop} {X : List PanicEntry → Hp → Prop} {b off : Nat} : fadA Tryd.prog 78 (.pointer (some ⟨b, off, none⟩)) 1 K X H = K (.pointer (some ⟨b, off + 1, none⟩)) H := by rw [fadA_ok fld78_1, add_none]
theorem fq78_1 {H : Hp} {K : Value → Prop} {b off : Nat} : fadQ Tryd.prog 78 (.pointer (some ⟨b, off, none⟩)) 1 K H = K (.pointer (some ⟨b, off + 1, none⟩)) := by rw [fadQ_ok fld78_1, add_none]
theorem ld79 {H : Hp} {K : Value → Hp → Prop} {X : List PanicEntry → Hp → Prop} {a : Addr} : loadA Tryd.prog 79 (.pointer (some a)) K X H = withcs (cellsH H a 0 2) fun l => K (.agg l.toArray) H := loadA_n Tryd.underlying79 rfl ty79
theorem rc79 {H : Hp} {K : Value → Prop} {a : Addr} {l : List Value} (hc : cellsH H a 0 2 = some l) : rcA Tryd.prog 79 (.pointer (some a)) H K = K (.agg l.toArray) := rcA_n Tryd.underlying79 rfl ty79 hc
theorem bl79 {H : Hp} {K : Value → Hp → Prop} {X : List PanicEntry → Hp → Prop} {ps : List (Nat × Value)} : bldA Tryd.prog 79 ps K X H = withO (bfill [(0, 1), (1, 1)] [.int .i64 0, .int .i64 0] ps) fun v => K v H := bldA_e Tryd.underlying79 ty79 (by kernel_rfl)
theorem bq79 {H : Hp} {K : Value → Prop} {ps : List (Nat × Value)} : bldQ Tryd.prog 79 ps K H = withO (bfill [(0, 1), (1, 1)] [.int .i64 0, .int .i64 0] ps) K := bldQ_e Tryd.underlying79 ty79 (by kernel_rfl)
theorem fa79_0 {H : Hp} {K : Value → Hp → Prop} {X : List PanicEntry → Hp → Prop} {b off : Nat} : fadA Tryd.prog 79 (.pointer (some ⟨b, off, none⟩)) 0 K X H = K (.pointer (some ⟨b, off, none⟩)) H := by rw [fadA_ok fld79_0, add_none]; rfl
theorem fq79_0 {H : Hp} {K : Value → Prop} {b off : Nat} : fadQ Tryd.prog 79 (.pointer (some ⟨b, off, none⟩)) 0 K H = K (.pointer (some ⟨b, off, none⟩)) := by rw [fadQ_ok fld79_0, add_none]; rfl
theorem fa79_1 {H : Hp} {K : Value → Hp → Prop} {X : List PanicEntry → Hp → Prop} {b off : Nat} : fadA Tryd.prog 79 (.pointer (some ⟨b, off, none⟩)) 1 K X H = K (.pointer (some ⟨b, off + 1, none⟩)) H := by rw [fadA_ok fld79_1, add_none]
theorem fq79_1 {H : Hp} {K : Value → Prop} {b off : Nat} : fadQ Tryd.prog 79 (.pointer (some ⟨b, off, none⟩)) 1 K H = K (.pointer (some ⟨b, off + 1, none⟩)) := by rw [fadQ_ok fld79_1, add_none]
theorem ld80 {H : Hp} {K : Value → Hp → Prop} {X : List PanicEntry → Hp → Prop} {a : Addr} : loadA Tryd.prog 80 (.pointer (some a)) K X H = withc (cellH H a) fun v => K v H := loadA_1 Tryd.underlying80 rfl --80
theorem lq80 {H : Hp} {K : Value → Prop} {a : Addr} : loadQ Tryd.prog 80 (.pointer (some a)) K H = withc (cellH H a) K := loadQ_e Tryd.underlying80 rfl
theorem ld81 {H : Hp} {K : Value → Hp → Prop} {X : List PanicEntry → Hp → Prop} {a : Addr} : loadA Tryd.prog 81 (.pointer (some a)) K X H = withcs (cellsH H a 0 3) fun l => K (.agg l.toArray) H := loadA_n Tryd.underlying81 rfl ty81
theorem rc81 {H : Hp} {K : Value → Prop} {a : Addr} {l : List Value} (hc : cellsH H a 0 3 = some l) : rcA Tryd.prog 81 (.pointer (some a)) H K = K (.agg l.toArray) := rcA_n Tryd.underlying81 rfl ty81 hc
theorem bl81 {H : Hp} {K : Value → Hp → Prop} {X : List PanicEntry → Hp → Prop} {ps : List (Nat × Value)} : bldA Tryd.prog 81 ps K X H = withO (bfill [(0, 1), (1, 1), (2, 1)] [.slice none 0 0, .string ⟨#[]⟩, .bool false] ps) fun v => K v H := bldA_e Tryd.underlying81 ty81 (by kernel_rfl)
theorem bq81 {H : Hp} {K : Value → Prop} {ps : List (Nat × Value)} : bldQ Tryd.prog 81 ps K H = withO (bfill [(0, 1), (1, 1), (2, 1)] [.slice none 0 0, .string ⟨#[]⟩, .bool false] ps) K := bldQ_e Tryd.underlying81 ty81 (by kernel_rfl)
theorem fa81_0 {H : Hp} {K : Value → Hp → Prop} {X : List PanicEntry → Hp → Prop} {b off : Nat} : fadA Tryd.prog 81 (.pointer (some ⟨b, off, none⟩)) 0 K X H = K (.pointer (some ⟨b, off, none⟩)) H := by rw [fadA_ok fld81_0, add_none]; rfl
theorem fq81_0 {H : Hp} {K : Value → Prop} {b off : Nat} : fadQ Tryd.prog 81 (.pointer (some ⟨b, off, none⟩)) 0 K H = K (.pointer (some ⟨b, off, none⟩)) := by rw [fadQ_ok fld81_0, add_none]; rfl
theorem fa81_1 {H : Hp} {K : Value → Hp → Prop} {X : List PanicEntry → Hp → Prop} {b off : Nat} : fadA Tryd.prog 81 (.pointer (some ⟨b, off, none⟩)) 1 K X H = K (.pointer (some ⟨b, off + 1, none⟩)) H := by rw [fadA_ok fld81_1, add_none]
theorem fq81_1 {H : Hp} {K : Value → Prop} {b off : Nat} : fadQ Tryd.prog 81 (.pointer (some ⟨b, off, none⟩)) 1 K H = K (.pointer (some ⟨b, off + 1, none⟩)) := by rw [fadQ_ok fld81_1, add_none]
theorem fa81_2 {H : Hp} {K : Value → Hp → Prop} {X : List PanicEntry → Hp → Prop} {b off : Nat} : fadA Tryd.prog 81 (.pointer (some ⟨b, off, none⟩)) 2 K X H = K (.pointer (some ⟨b, off + 2, none⟩)) H := by rw [fadA_ok fld81_2, add_none]
theorem fq81_2 {H : Hp} {K : Value → Prop} {b off : Nat} : fadQ Tryd.prog 81 (.pointer (some ⟨b, off, none⟩)) 2 K H = K (.pointer (some ⟨b, off + 2, none⟩)) := by rw [fadQ_ok fld81_2, add_none]
theorem ld82 {H : Hp} {K : Value → Hp → Prop} {X : List PanicEntry → Hp → Prop} {a : Addr} : loadA Tryd.prog 82 (.pointer (some a)) K X H = withcs (cellsH H a 0 3) fun l => K (.agg l.toArray) H := loadA_n Tryd.underlying82 rfl ty82
theorem rc82 {H : Hp} {K : Value → Prop} {a : Addr} {l : List Value} (hc : cellsH H a 0 3 = some l) : rcA Tryd.prog 82 (.pointer (some a)) H K = K (.agg l.toArray) := rcA_n Tryd.underlying82 rfl ty82 hc
theorem bl82 {H : Hp} {K : Value → Hp → Prop} {X : List PanicEntry → Hp → Prop} {ps : List (Nat × Value)} : bldA Tryd.prog 82 ps K X H = withO (bfill [(0, 1), (1, 1), (2, 1)] [.slice none 0 0, .string ⟨#[]⟩, .bool false] ps) fun v => K v H := bldA_e Tryd.underlying82 ty82 (by kernel_rfl)
theorem bq82 {H : Hp} {K : Value → Prop} {ps : List (Nat × Value)} : bldQ Tryd.prog 82 ps K H = withO (bfill [(0, 1), (1, 1), (2, 1)] [.slice none 0 0, .string ⟨#[]⟩, .bool false] ps) K := bldQ_e Tryd.underlying82 ty82 (by kernel_rfl)
theorem fa82_0 {H : Hp} {K : Value → Hp → Prop} {X : List PanicEntry → Hp → Prop} {b off : Nat} : fadA Tryd.prog 82 (.pointer (some ⟨b, off, none⟩)) 0 K X H = K (.pointer (some ⟨b, off, none⟩)) H := by rw [fadA_ok fld82_0, add_none]; rfl
theorem fq82_0 {H : Hp} {K : Value → Prop} {b off : Nat} : fadQ Tryd.prog 82 (.pointer (some ⟨b, off, none⟩)) 0 K H = K (.pointer (some ⟨b, off, none⟩)) := by rw [fadQ_ok fld82_0, add_none]; rfl
theorem fa82_1 {H : Hp} {K : Value → Hp → Prop} {X : List PanicEntry → Hp → Prop} {b off : Nat} : fadA Tryd.prog 82 (.pointer (some ⟨b, off, none⟩)) 1 K X H = K (.pointer (some ⟨b, off + 1, none⟩)) H := by rw [fadA_ok fld82_1, add_none]
theorem fq82_1 {H : Hp} {K : Value → Prop} {b off : Nat} : fadQ Tryd.prog 82 (.pointer (some ⟨b, off, none⟩)) 1 K H = K (.pointer (some ⟨b, off + 1, none⟩)) := by rw [fadQ_ok fld82_1, add_none]
theorem fa82_2 {H : Hp} {K : Value → Hp → Prop} {X : List PanicEntry → Hp → Prop} {b off : Nat} : fadA Tryd.prog 82 (.pointer (some ⟨b, off, none⟩)) 2 K X H = K (.pointer (some ⟨b, off + 2, none⟩)) H := by rw [fadA_ok fld82_2, add_none]
theorem fq82_2 {H : Hp} {K : Value → Prop} {b off : Nat} : fadQ Tryd.prog 82 (.pointer (some ⟨b, off, none⟩)) 2 K H = K (.pointer (some ⟨b, off + 2, none⟩)) := by rw [fadQ_ok fld82_2, add_none]
theorem ld83 {H : Hp} {K : Value → Hp → Prop} {X : List PanicEntry → Hp → Prop} {a : Addr} : loadA Tryd.prog 83 (.pointer (some a)) K X H = withc (cellH H a) fun v => K v H := loadA_1 Tryd.underlying83 rfl --83
theorem lq83 {H : Hp} {K : Value → Prop} {a : Addr} : loadQ Tryd.prog 83 (.pointer (some a)) K H = withc (cellH H a) K := loadQ_e Tryd.underlying83 rfl
theorem ld84 {H : Hp} {K : Value → Hp → Prop} {X : List PanicEntry → Hp → Prop} {a : Addr} : loadA Tryd.prog 84 (.pointer (some a)) K X H = withc (cellH H a) fun v => K v H := loadA_1 Tryd.underlying84 rfl --84
theorem lq84 {H : Hp} {K : Value → Prop} {a : Addr} : loadQ Tryd.prog 84 (.pointer (some a)) K H = withc (cellH H a) K := loadQ_e Tryd.underlying84 rfl
theorem ld86 {H : Hp} {K : Value → Hp → Prop} {X : List PanicEntry → Hp → Prop} {a : Addr} : loadA Tryd.prog 86 (.pointer (some a)) K X H = withc (cellH H a) fun v => K v H := loadA_1 Tryd.underlying86 rfl --86
theorem lq86 {H : Hp} {K : Value → Prop} {a : Addr} : loadQ Tryd.prog 86 (.pointer (some a)) K H = withc (cellH H a) K := loadQ_e Tryd.underlying86 rfl
theorem ld87 {H : Hp} {K : Value → Hp → Prop} {X : List PanicEntry → Hp → Prop} {a : Addr} : loadA Tryd.prog 87 (.pointer (some a)) K X H = withc (cellH H a) fun v => K v H := loadA_1 Tryd.underlying87 rfl --87
theorem lq87 {H : Hp} {K : Value → Prop} {a : Addr} : loadQ Tryd.prog 87 (.pointer (some a)) K H = withc (cellH H a) K := loadQ_e Tryd.underlying87 rfl
theorem ld88 {H : Hp} {K : Value → Hp → Prop} {X : List PanicEntry → Hp → Prop} {a : Addr} : loadA Tryd.prog 88 (.pointer (some a)) K X H = withc (cellH H a) fun v => K v H := loadA_1 Tryd.underlying88 rfl --88
theorem lq88 {H : Hp} {K : Value → Prop} {a : Addr} : loadQ Tryd.prog 88 (.pointer (some a)) K H = withc (cellH H a) K := loadQ_e Tryd.underlying88 rfl
theorem ld89 {H : Hp} {K : Value → Hp → Prop} {X : List PanicEntry → Hp → Prop} {a : Addr} : loadA Tryd.prog 89 (.pointer (some a)) K X H = withcs (cellsH H a 0 256) fun l => K (.agg l.toArray) H := loadA_n Tryd.underlying89 rfl ty89
theorem rc89 {H : Hp} {K : Value → Prop} {a : Addr} {l : List Value} (hc : cellsH H a 0 256 = some l) : rcA Tryd.prog 89 (.pointer (some a)) H K = K (.agg l.toArray) := rcA_n Tryd.underlying89 rfl ty89 hc
theorem ld90 {H : Hp} {K : Value → Hp → Prop} {X : List PanicEntry → Hp → Prop} {a : Addr} : loadA Tryd.prog 90 (.pointer (some a)) K X H = withcs (cellsH H a 0 256) fun l => K (.agg l.toArray) H := loadA_n Tryd.underlying90 rfl ty90
theorem rc90 {H : Hp} {K : Value → Prop} {a : Addr} {l : List Value} (hc : cellsH H a 0 256 = some l) : rcA Tryd.prog 90 (.pointer (some a)) H K = K (.agg l.toArray) := rcA_n Tryd.underlying90 rfl ty90 hc
theorem ld92 {H : Hp} {K : Value → Hp → Prop} {X : List PanicEntry → Hp → Prop} {a : Addr} : loadA Tryd.prog 92 (.pointer (some a)) K X H = withc (cellH H a) fun v => K v H := loadA_1 Tryd.underlying92 rfl --92
theorem lq92 {H : Hp} {K : Value → Prop} {a : Addr} : loadQ Tryd.prog 92 (.pointer (some a)) K H = withc (cellH H a) K := loadQ_e Tryd.underlying92 rfl
theorem ld93 {H : Hp} {K : Value → Hp → Prop} {X : List PanicEntry → Hp → Prop} {a : Addr} : loadA Tryd.prog 93 (.pointer (some a)) K X H = withc (cellH H a) fun v => K v H := loadA_1 Tryd.underlying93 rfl --93
theorem lq93 {H : Hp} {K : Value → Prop} {a : Addr} : loadQ Tryd.prog 93 (.pointer (some a)) K H = withc (cellH H a) K := loadQ_e Tryd.underlying93 rfl
theorem ld94 {H : Hp} {K : Value → Hp → Prop} {X : List PanicEntry → Hp → Prop} {a : Addr} : loadA Tryd.prog 94 (.pointer (some a)) K X H = withc (cellH H a) fun v => K v H := loadA_1 Tryd.underlying94 rfl --94
theorem lq94 {H : Hp} {K : Value → Prop} {a : Addr} : loadQ Tryd.prog 94 (.pointer (some a)) K H = withc (cellH H a) K := loadQ_e Tryd.underlying94 rfl
theorem ld95 {H : Hp} {K : Value → Hp → Prop} {X : List PanicEntry → Hp → Prop} {a : Addr} : loadA Tryd.prog 95 (.pointer (some a)) K X H = withc (cellH H a) fun v => K v H := loadA_1 Tryd.underlying95 rfl --95
theorem lq95 {H : Hp} {K : Value → Prop} {a : Addr} : loadQ Tryd.prog 95 (.pointer (some a)) K H = withc (cellH H a) K := loadQ_e Tryd.underlying95 rfl
theorem ld96 {H : Hp} {K : Value → Hp → Prop} {X : List PanicEntry → Hp → Prop} {a : Addr} : loadA Tryd.prog 96 (.pointer (some a)) K X H = withc (cellH H a) fun v => K v H := loadA_1 Tryd.underlying96 rfl --96
theorem lq96 {H : Hp} {K : Value → Prop} {a : Addr} : loadQ Tryd.prog 96 (.pointer (some a)) K H = withc (cellH H a) K := loadQ_e Tryd.underlying96 rfl
theorem ld97 {H : Hp} {K : Value → Hp → Prop} {X : List PanicEntry → Hp → Prop} {a : Addr} : loadA Tryd.prog 97 (.pointer (some a)) K X H = withc (cellH H a) fun v => K v H := loadA_1 Tryd.underlying97 rfl --97
theorem lq97 {H : Hp} {K : Value → Prop} {a : Addr} : loadQ Tryd.prog 97 (.pointer (some a)) K H = withc (cellH H a) K := loadQ_e Tryd.underlying97 rfl
theorem ld99 {H : Hp} {K : Value → Hp → Prop} {X : List PanicEntry → Hp → Prop} {a : Addr} : loadA Tryd.prog 99 (.pointer (some a)) K X H = withc (cellH H a) fun v => K v H := loadA_1 Tryd.underlying99 rfl --99
theorem lq99 {H : Hp} {K : Value → Prop} {a : Addr} : loadQ Tryd.prog 99 (.pointer (some a)) K H = withc (cellH H a) K := loadQ_e Tryd.underlying99 rfl
theorem ld100 {H : Hp} {K : Value → Hp → Prop} {X : List PanicEntry → Hp → Prop} {a : Addr} : loadA Tryd.prog 100 (.pointer (some a)) K X H = withc (cellH H a) fun v => K v H := loadA_1 Tryd.underlying100 rfl --100
theorem lq100 {H : Hp} {K : Value → Prop} {a : Addr} : loadQ Tryd.prog 100 (.pointer (some a)) K H = withc (cellH H a) K := loadQ_e Tryd.underlying100 rfl
theorem ld101 {H : Hp} {K : Value → Hp → Prop} {X : List PanicEntry → Hp → Prop} {a : Addr} : loadA Tryd.prog 101 (.pointer (some a)) K X H = withc (cellH H a) fun v => K v H := loadA_1 Tryd.underlying101 rfl --101
theorem lq101 {H : Hp} {K : Value → Prop} {a : Addr} : loadQ Tryd.prog 101 (.pointer (some a)) K H = withc (cellH H a) K := loadQ_e Tryd.underlying101 rfl
theorem ld103 {H : Hp} {K : Value → Hp → Prop} {X : List PanicEntry → Hp → Prop} {a : Addr} : loadA Tryd.prog 103 (.pointer (some a)) K X H = withc (cellH H a) fun v => K v H := loadA_1 Tryd.underlying103 rfl --103
theorem lq103 {H : Hp} {K : Value → Prop} {a : Addr} : loadQ Tryd.prog 103 (.pointer (some a)) K H = withc (cellH H a) K := loadQ_e Tryd.underlying103 rfl
theorem ld104 {H : Hp} {K : Value → Hp → Prop} {X : List PanicEntry → Hp → Prop} {a : Addr} : loadA Tryd.prog 104 (.pointer (some a)) K X H = withc (cellH H a) fun v => K v H := loadA_1 Tryd.underlying104 rfl --104
theorem lq104 {H : Hp} {K : Value → Prop} {a : Addr} : loadQ Tryd.prog 104 (.pointer (some a)) K H = withc (cellH H a) K := loadQ_e Tryd.underlying104 rfl
theorem ld106 {H : Hp} {K : Value → Hp → Prop} {X : List PanicEntry → Hp → Prop} {a : Addr} : loadA Tryd.prog 106 (.pointer (some a)) K X H = withc (cellH H a) fun v => K v H := loadA_1 Tryd.underlying106 rfl --106
theorem lq106 {H : Hp} {K : Value → Prop} {a : Addr} : loadQ Tryd.prog 106 (.pointer (some a)) K H = withc (cellH H a) K := loadQ_e Tryd.underlying106 rfl
theorem ld107 {H : Hp} {K : Value → Hp → Prop} {X : List PanicEntry → Hp → Prop} {a : Addr} : loadA Tryd.prog 107 (.pointer (some a)) K X H = withc (cellH H a) fun v => K v H := loadA_1 Tryd.underlying107 rfl --107
theorem lq107 {H : Hp} {K : Value → Prop} {a : Addr} : loadQ Tryd.prog 107 (.pointer (some a)) K H = withc (cellH H a) K := loadQ_e Tryd.underlying107 rfl
theorem ld109 {H : Hp} {K : Value → Hp → Prop} {X : List PanicEntry → Hp → Prop} {a : Addr} : loadA Tryd.prog 109 (.pointer (some a)) K X H = withc (cellH H a) fun v => K v H := loadA_1 Tryd.underlying109 rfl --109
theorem lq109 {H : Hp} {K : Value → Prop} {a : Addr} : loadQ Tryd.prog 109 (.pointer (some a)) K H = withc (cellH H a) K := loadQ_e Tryd.underlying109 rfl
theorem ld110 {H : Hp} {K : Value → Hp → Prop} {X : List PanicEntry → Hp → Prop} {a : Addr} : loadA Tryd.prog 110 (.pointer (some a)) K X H = withc (cellH H a) fun v => K v H := loadA_1 Tryd.underlying110 rfl --110
theorem lq110 {H : Hp} {K : Value → Prop} {a : Addr} : loadQ Tryd.prog 110 (.pointer (some a)) K H = withc (cellH H a) K := loadQ_e Tryd.underlying110 rfl
theorem ld111 {H : Hp} {K : Value → Hp → Prop} {X : List PanicEntry → Hp → Prop} {a : Addr} : loadA Tryd.prog 111 (.pointer (some a)) K X H = withc (cellH H a) fun v => K v H := loadA_1 Tryd.underlying111 rfl --111
theorem lq111 {H : Hp} {K : Value → Prop} {a : Addr} : loadQ Tryd.prog 111 (.pointer (some a)) K H = withc (cellH H a) K := loadQ_e Tryd.underlying111 rfl
theorem ld112 {H : Hp} {K : Value → Hp → Prop} {X : List PanicEntry → Hp → Prop} {a : Addr} : loadA Tryd.prog 112 (.pointer (some a)) K X H = withc (cellH H a) fun v => K v H := loadA_1 Tryd.underlying112 rfl --112
theorem lq112 {H : Hp} {K : Value → Prop} {a : Addr} : loadQ Tryd.prog 112 (.pointer (some a)) K H = withc (cellH H a) K := loadQ_e Tryd.underlying112 rfl
theorem ld113 {H : Hp} {K : Value → Hp → Prop} {X : List PanicEntry → Hp → Prop} {a : Addr} : loadA Tryd.prog 113 (.pointer (some a)) K X H = withc (cellH H a) fun v => K v H := loadA_1 Tryd.underlying113 rfl --113
theorem lq113 {H : Hp} {K : Value → Prop} {a : Addr} : loadQ Tryd.prog 113 (.pointer (some a)) K H = withc (cellH H a) K := loadQ_e Tryd.underlying113 rfl
theorem ld114 {H : Hp} {K : Value → Hp → Prop} {X : List PanicEntry → Hp → Prop} {a : Addr} : loadA Tryd.prog 114 (.pointer (some a)) K X H = withc (cellH H a) fun v => K v H := loadA_1 Tryd.underlying114 rfl --114
theorem lq114 {H : Hp} {K : Value → Prop} {a : Addr} : loadQ Tryd.prog 114 (.pointer (some a)) K H = withc (cellH H a) K := loadQ_e Tryd.underlying114 rfl
theorem ld115 {H : Hp} {K : Value → Hp → Prop} {X : List PanicEntry → Hp → Prop} {a : Addr} : loadA Tryd.prog 115 (.pointer (some a)) K X H = withc (cellH H a) fun v => K v H := loadA_1 Tryd.underlying115 rfl --115
theorem lq115 {H : Hp} {K : Value → Prop} {a : Addr} : loadQ Tryd.prog 115 (.pointer (some a)) K H = withc (cellH H a) K := loadQ_e Tryd.underlying115 rfl
theorem ld116 {H : Hp} {K : Value → Hp → Prop} {X : List PanicEntry → Hp → Prop} {a : Addr} : loadA Tryd.prog 116 (.pointer (some a)) K X H = withc (cellH H a) fun v => K v H := loadA_1 Tryd.underlying116 rfl --116
theorem lq116 {H : Hp} {K : Value → Prop} {a : Addr} : loadQ Tryd.prog 116 (.pointer (some a)) K H = withc (cellH H a) K := loadQ_e Tryd.underlying116 rfl
theorem ld117 {H : Hp} {K : Value → Hp → Prop} {X : List PanicEntry → Hp → Prop} {a : Addr} : loadA Tryd.prog 117 (.pointer (some a)) K X H = withc (cellH H a) fun v => K v H := loadA_1 Tryd.underlying117 rfl --117
theorem lq117 {H : Hp} {K : Value → Prop} {a : Addr} : loadQ Tryd.prog 117 (.pointer (some a)) K H = withc (cellH H a) K := loadQ_e Tryd.underlying117 rfl
theorem ld118 {H : Hp} {K : Value → Hp → Prop} {X : List PanicEntry → Hp → Prop} {a : Addr} : loadA Tryd.prog 118 (.pointer (some a)) K X H = withc (cellH H a) fun v => K v H := loadA_1 Tryd.underlying118 rfl --118
theorem lq118 {H : Hp} {K : Value → Prop} {a : Addr} : loadQ Tryd.prog 118 (.pointer (some a)) K H = withc (cellH H a) K := loadQ_e Tryd.underlying118 rfl
theorem ld119 {H : Hp} {K : Value → Hp → Prop} {X : List PanicEntry → Hp → Prop} {a : Addr} : loadA Tryd.prog 119 (.pointer (some a)) K X H = withc (cellH H a) fun v => K v H := loadA_1 Tryd.underlying119 rfl --119
theorem lq119 {H : Hp} {K : Value → Prop} {a : Addr} : loadQ Tryd.prog 119 (.pointer (some a)) K H = withc (cellH H a) K := loadQ_e Tryd.underlying119 rfl
theorem ld120 {H : Hp} {K : Value → Hp → Prop} {X : List PanicEntry → Hp → Prop} {a : Addr} : loadA Tryd.prog 120 (.pointer (some a)) K X H = withc (cellH H a) fun v => K v H := loadA_1 Tryd.underlying120 rfl --120
theorem lq120 {H : Hp} {K : Value → Prop} {a : Addr} : loadQ Tryd.prog 120 (.pointer (some a)) K H = withc (cellH H a) K := loadQ_e Tryd.underlying120 rfl
theorem ld121 {H : Hp} {K : Value → Hp → Prop} {X : List PanicEntry → Hp → Prop} {a : Addr} : loadA Tryd.prog 121 (.pointer (some a)) K X H = withc (cellH H a) fun v => K v H := loadA_1 Tryd.underlying121 rfl --121
theorem lq121 {H : Hp} {K : Value → Prop} {a : Addr} : loadQ Tryd.prog 121 (.pointer (some a)) K H = withc (cellH H a) K := loadQ_e Tryd.underlying121 rfl
theorem ld122 {H : Hp} {K : Value → Hp → Prop} {X : List PanicEntry → Hp → Prop} {a : Addr} : loadA Tryd.prog 122 (.pointer (some a)) K X H = withc (cellH H a) fun v => K v H := loadA_1 Tryd.underlying122 rfl --122
theorem lq122 {H : Hp} {K : Value → Prop} {a : Addr} : loadQ Tryd.prog 122 (.pointer (some a)) K H = withc (cellH H a) K := loadQ_e Tryd.underlying122 rfl
theorem ld123 {H : Hp} {K : Value → Hp → Prop} {X : List PanicEntry → Hp → Prop} {a : Addr} : loadA Tryd.prog 123 (.pointer (some a)) K X H = withc (cellH H a) fun v => K v H := loadA_1 Tryd.underlying123 rfl --123
theorem lq123 {H : Hp} {K : Value → Prop} {a : Addr} : loadQ Tryd.prog 123 (.pointer (some a)) K H = withc (cellH H a) K := loadQ_e Tryd.underlying123 rfl
theorem ld124 {H : Hp} {K : Value → Hp → Prop} {X : List PanicEntry → Hp → Prop} {a : Addr} : loadA Tryd.prog 124 (.pointer (some a)) K X H = withc (cellH H a) fun v => K v H := loadA_1 Tryd.underlying124 rfl --124
theorem lq124 {H : Hp} {K : Value → Prop} {a : Addr} : loadQ Tryd.prog 124 (.pointer (some a)) K H = withc (cellH H a) K := loadQ_e Tryd.underlying124 rfl
theorem ld126 {H : Hp} {K : Value → Hp → Prop} {X : List PanicEntry → Hp → Prop} {a : Addr} : loadA Tryd.prog 126 (.pointer (some a)) K X H = withc (cellH H a) fun v => K v H := loadA_1 Tryd.underlying126 rfl --126
theorem lq126 {H : Hp} {K : Value → Prop} {a : Addr} : loadQ Tryd.prog 126 (.pointer (some a)) K H = withc (cellH H a) K := loadQ_e Tryd.underlying126 rfl
theorem ld127 {H : Hp} {K : Value → Hp → Prop} {X : List PanicEntry → Hp → Prop} {a : Addr} : loadA Tryd.prog 127 (.pointer (some a)) K X H = withc (cellH H a) fun v => K v H := loadA_1 Tryd.underlying127 rfl --127
theorem lq127 {H : Hp} {K : Value → Prop} {a : Addr} : loadQ Tryd.prog 127 (.pointer (some a)) K H = withc (cellH H a) K := loadQ_e Tryd.underlying127 rfl
theorem ld128 {H : Hp} {K : Value → Hp → Prop} {X : List PanicEntry → Hp → Prop} {a : Addr} : loadA Tryd.prog 128 (.pointer (some a)) K X H = withc (cellH H a) fun v => K v H := loadA_1 Tryd.underlying128 rfl --128
theorem lq128 {H : Hp} {K : Value → Prop} {a : Addr} : loadQ Tryd.prog 128 (.pointer (some a)) K H = withc (cellH H a) K := loadQ_e Tryd.underlying128 rfl
theorem ld129 {H : Hp} {K : Value → Hp → Prop} {X : List PanicEntry → Hp → Prop} {a : Addr} : loadA Tryd.prog 129 (.pointer (some a)) K X H = withcs (cellsH H a 0 256) fun l => K (.agg l.toArray) H := loadA_n Tryd.underlying129 rfl ty129
theorem rc129 {H : Hp} {K : Value → Prop} {a : Addr} {l : List Value} (hc : cellsH H a 0 256 = some l) : rcA Tryd.prog 129 (.pointer (some a)) H K = K (.agg l.toArray) := rcA_n Tryd.underlying129 rfl ty129 hc
theorem ld130 {H : Hp} {K : Value → Hp → Prop} {X : List PanicEntry → Hp → Prop} {a : Addr} : loadA Tryd.prog 130 (.pointer (some a)) K X H = withcs (cellsH H a 0 2) fun l => K (.agg l.toArray) H := loadA_n Tryd.underlying130 rfl ty130
theorem rc130 {H : Hp} {K : Value → Prop} {a : Addr} {l : List Value} (hc : cellsH H a 0 2 = some l) : rcA Tryd.prog 130 (.pointer (some a)) H K = K (.agg l.toArray) := rcA_n Tryd.underlying130 rfl ty130 hc
theorem bl130 {H : Hp} {K : Value → Hp → Prop} {X : List PanicEntry → Hp → Prop} {ps : List (Nat × Value)} : bldA Tryd.prog 130 ps K X H = withO (bfill [(0, 1), (1, 1)] [.int .u8 0, .int .u8 0] ps) fun v => K v H := bldA_e Tryd.underlying130 ty130 (by kernel_rfl)
theorem bq130 {H : Hp} {K : Value → Prop} {ps : List (Nat × Value)} : bldQ Tryd.prog 130 ps K H = withO (bfill [(0, 1), (1, 1)] [.int .u8 0, .int .u8 0] ps) K := bldQ_e Tryd.underlying130 ty130 (by kernel_rfl)
theorem fa130_0 {H : Hp} {K : Value → Hp → Prop} {X : List PanicEntry → Hp → Prop} {b off : Nat} : fadA Tryd.prog 130 (.pointer (some ⟨b, off, none⟩)) 0 K X H = K (.pointer (some ⟨b, off, none⟩)) H := by rw [fadA_ok fld130_0, add_none]; rfl
theorem fq130_0 {H : Hp} {K : Value → Prop} {b off : Nat} : fadQ Tryd.prog 130 (.pointer (some ⟨b, off, none⟩)) 0 K H = K (.pointer (some ⟨b, off, none⟩)) := by rw [fadQ_ok fld130_0, add_none]; rfl
theorem fa130_1 {H : Hp} {K : Value → Hp → Prop} {X : List PanicEntry → Hp → Prop} {b off : Nat} : fadA Tryd.prog 130 (.pointer (some ⟨b, off, none⟩)) 1 K X H = K (.pointer (some ⟨b, off + 1, none⟩)) H := by rw [fadA_ok fld130_1, add_none]
theorem fq130_1 {H : Hp} {K : Value → Prop} {b off : Nat} : fadQ Tryd.prog 130 (.pointer (some ⟨b, off, none⟩)) 1 K H = K (.pointer (some ⟨b, off + 1, none⟩)) := by rw [fadQ_ok fld130_1, add_none]
theorem ld131 {H : Hp} {K : Value → Hp → Prop} {X : List PanicEntry → Hp → Prop} {a : Addr} : loadA Tryd.prog 131 (.pointer (some a)) K X H = withcs (cellsH H a 0 2) fun l => K (.agg l.toArray) H := loadA_n Tryd.underlying131 rfl ty131
theorem rc131 {H : Hp} {K : Value → Prop} {a : Addr} {l : List Value} (hc : cellsH H a 0 2 = some l) : rcA Tryd.prog 131 (.pointer (some a)) H K = K (.agg l.toArray) := rcA_n Tryd.underlying131 rfl ty131 hc
theorem bl131 {H : Hp} {K : Value → Hp → Prop} {X : List PanicEntry → Hp → Prop} {ps : List (Nat × Value)} : bldA Tryd.prog 131 ps K X H = withO (bfill [(0, 1), (1, 1)] [.int .u8 0, .int .u8 0] ps) fun v => K v H := bldA_e Tryd.underlying131 ty131 (by kernel_rfl)
theorem bq131 {H : Hp} {K : Value → Prop} {ps : List (Nat × Value)} : bldQ Tryd.prog 131 ps K H = withO (bfill [(0, 1), (1, 1)] [.int .u8 0, .int .u8 0] ps) K := bldQ_e Tryd.underlying131 ty131 (by kernel_rfl)
theorem fa131_0 {H : Hp} {K : Value → Hp → Prop} {X : List PanicEntry → Hp → Prop} {b off : Nat} : fadA Tryd.prog 131 (.pointer (some ⟨b, off, none⟩)) 0 K X H = K (.pointer (some ⟨b, off, none⟩)) H := by rw [fadA_ok fld131_0, add_none]; rfl
theorem fq131_0 {H : Hp} {K : Value → Prop} {b off : Nat} : fadQ Tryd.prog 131 (.pointer (some ⟨b, off, none⟩)) 0 K H = K (.pointer (some ⟨b, off, none⟩)) := by rw [fadQ_ok fld131_0, add_none]; rfl
theorem fa131_1 {H : Hp} {K : Value → Hp → Prop} {X : List PanicEntry → Hp → Prop} {b off : Nat} : fadA Tryd.prog 131 (.pointer (some ⟨b, off, none⟩)) 1 K X H = K (.pointer (some ⟨b, off + 1, none⟩)) H := by rw [fadA_ok fld131_1, add_none]
theorem fq131_1 {H : Hp} {K : Value → Prop} {b off : Nat} : fadQ Tryd.prog 131 (.pointer (some ⟨b, off, none⟩)) 1 K H = K (.pointer (some ⟨b, off + 1, none⟩)) := by rw [fadQ_ok fld131_1, add_none]
theorem ld132 {H : Hp} {K : Value → Hp → Prop} {X : List PanicEntry → Hp → Prop} {a : Addr} : loadA Tryd.prog 132 (.pointer (some a)) K X H = withcs (cellsH H a 0 32) fun l => K (.agg l.toArray) H := loadA_n Tryd.underlying132 rfl ty132
theorem rc132 {H : Hp} {K : Value → Prop} {a : Addr} {l : List Value} (hc : cellsH H a 0 32 = some l) : rcA Tryd.prog 132 (.pointer (some a)) H K = K (.agg l.toArray) := rcA_n Tryd.underlying132 rfl ty132 hc
theorem ld133 {H : Hp} {K : Value → Hp → Prop} {X : List PanicEntry → Hp → Prop} {a : Addr} : loadA Tryd.prog 133 (.pointer (some a)) K X H = withc (cellH H a) fun v => K v H := loadA_1 Tryd.underlying133 rfl --133
theorem lq133 {H : Hp} {K : Value → Prop} {a : Addr} : loadQ Tryd.prog 133 (.pointer (some a)) K H = withc (cellH H a) K := loadQ_e Tryd.underlying133 rfl
theorem ld135 {H : Hp} {K : Value → Hp → Prop} {X : List PanicEntry → Hp → Prop} {a : Addr} : loadA Tryd.prog 135 (.pointer (some a)) K X H = withc (cellH H a) fun v => K v H := loadA_1 Tryd.underlying135 rfl --135
theorem lq135 {H : Hp} {K : Value → Prop} {a : Addr} : loadQ Tryd.prog 135 (.pointer (some a)) K H = withc (cellH H a) K := loadQ_e Tryd.underlying135 rfl
theorem ld136 {H : Hp} {K : Value → Hp → Prop} {X : List PanicEntry → Hp → Prop} {a : Addr} : loadA Tryd.prog 136 (.pointer (some a)) K X H = withcs (cellsH H a 0 2) fun l => K (.agg l.toArray) H := loadA_n Tryd.underlying136 rfl ty136
theorem rc136 {H : Hp} {K : Value → Prop} {a : Addr} {l : List Value} (hc : cellsH H a 0 2 = some l) : rcA Tryd.prog 136 (.pointer (some a)) H K = K (.agg l.toArray) := rcA_n Tryd.underlying136 rfl ty136 hc
theorem bl136 {H : Hp} {K : Value → Hp → Prop} {X : List PanicEntry → Hp → Prop} {ps : List (Nat × Value)} : bldA Tryd.prog 136 ps K X H = withO (bfill [(0, 1), (1, 1)] [.map none, .slice none 0 0] ps) fun v => K v H := bldA_e Tryd.underlying136 ty136 (by kernel_rfl)
theorem bq136 {H : Hp} {K : Value → Prop} {ps : List (Nat × Value)} : bldQ Tryd.prog 136 ps K H = withO (bfill [(0, 1), (1, 1)] [.map none, .slice none 0 0] ps) K := bldQ_e Tryd.underlying136 ty136 (by kernel_rfl)
theorem fa136_0 {H : Hp} {K : Value → Hp → Prop} {X : List PanicEntry → Hp → Prop} {b off : Nat} : fadA Tryd.prog 136 (.pointer (some ⟨b, off, none⟩)) 0 K X H = K (.pointer (some ⟨b, off, none⟩)) H := by rw [fadA_ok fld136_0, add_none]; rfl
theorem fq136_0 {H : Hp} {K : Value → Prop} {b off : Nat} : fadQ Tryd.prog 136 (.pointer (some ⟨b, off, none⟩)) 0 K H = K (.pointer (some ⟨b, off, none⟩)) := by rw [fadQ_ok fld136_0, add_none]; rfl
theorem fa136_1 {H : Hp} {K : Value → Hp → Prop} {X : List PanicEntry → Hp → Prop} {b off : Nat} : fadA Tryd.prog 136 (.pointer (some ⟨b, off, none⟩)) 1 K X H = K (.pointer (some ⟨b, off + 1, none⟩)) H := by rw [fadA_ok fld136_1, add_none]
theorem fq136_1 {H : Hp} {K : Value → Prop} {b off : Nat} : fadQ Tryd.prog 136 (.pointer (some ⟨b, off, none⟩)) 1 K H = K (.pointer (some ⟨b, off + 1, none⟩)) := by rw [fadQ_ok fld136_1, add_none]
theorem ld137 {H : Hp} {K : Value → Hp → Prop} {X : List PanicEntry → Hp → Prop} {a : Addr} : loadA Tryd.prog 137 (.pointer (some a)) K X H = withcs (cellsH H a 0 2) fun l => K (.agg l.toArray) H := loadA_n Tryd.underlying137 rfl ty137
theorem rc137 {H : Hp} {K : Value → Prop} {a : Addr} {l : List Value} (hc : cellsH H a 0 2 = some l) : rcA Tryd.prog 137 (.pointer (some a)) H K = K (.agg l.toArray) := rcA_n Tryd.underlying137 rfl ty137 hc
theorem bl137 {H : Hp} {K : Value → Hp → Prop} {X : List PanicEntry → Hp → Prop} {ps : List (Nat × Value)} : bldA Tryd.prog 137 ps K X H = withO (bfill [(0, 1), (1, 1)] [.map none, .slice none 0 0] ps) fun v => K v H := bldA_e Tryd.underlying137 ty137 (by kernel_rfl)
theorem bq137 {H : Hp} {K : Value → Prop} {ps : List (Nat × Value)} : bldQ Tryd.prog 137 ps K H = withO (bfill [(0, 1), (1, 1)] [.map none, .slice none 0 0] ps) K := bldQ_e Tryd.underlying137 ty137 (by kernel_rfl)
theorem fa137_0 {H : Hp} {K : Value → Hp → Prop} {X : List PanicEntry → Hp → Prop} {b off : Nat} : fadA Tryd.prog 137 (.pointer (some ⟨b, off, none⟩)) 0 K X H = K (.pointer (some ⟨b, off, none⟩)) H := by rw [fadA_ok fld137_0, add_none]; rfl
theorem fq137_0 {H : Hp} {K : Value → Prop} {b off : Nat} : fadQ Tryd.prog 137 (.pointer (some ⟨b, off, none⟩)) 0 K H = K (.pointer (some ⟨b, off, none⟩)) := by rw [fadQ_ok fld137_0, add_none]; rfl
theorem fa137_1 {H : Hp} {K : Value → Hp → Prop} {X : List PanicEntry → Hp → Prop} {b off : Nat} : fadA Tryd.prog 137 (.pointer (some ⟨b, off, none⟩)) 1 K X H = K (.pointer (some ⟨b, off + 1, none⟩)) H := by rw [fadA_ok fld137_1, add_none]
theorem fq137_1 {H : Hp} {K : Value → Prop} {b off : Nat} : fadQ Tryd.prog 137 (.pointer (some ⟨b, off, none⟩)) 1 K H = K (.pointer (some ⟨b, off + 1, none⟩)) := by rw [fadQ_ok fld137_1, add_none]
theorem ld139 {H : Hp} {K : Value → Hp → Prop} {X : List PanicEntry → Hp → Prop} {a : Addr} : loadA Tryd.prog 139 (.pointer (some a)) K X H = withc (cellH H a) fun v => K v H := loadA_1 Tryd.underlying139 rfl --139
theorem lq139 {H : Hp} {K : Value → Prop} {a : Addr} : loadQ Tryd.prog 139 (.pointer (some a)) K H = withc (cellH H a) K := loadQ_e Tryd.underlying139 rfl
theorem ld140 {H : Hp} {K : Value → Hp → Prop} {X : List PanicEntry → Hp → Prop} {a : Addr} : loadA Tryd.prog 140 (.pointer (some a)) K X H = withc (cellH H a) fun v => K v H := loadA_1 Tryd.underlying140 rfl --140
theorem lq140 {H : Hp} {K : Value → Prop} {a : Addr} : loadQ Tryd.prog 140 (.pointer (some a)) K H = withc (cellH H a) K := loadQ_e Tryd.underlying140 rfl
theorem ld142 {H : Hp} {K : Value → Hp → Prop} {X : List PanicEntry → Hp → Prop} {a : Addr} : loadA Tryd.prog 142 (.pointer (some a)) K X H = withc (cellH H a) fun v => K v H := loadA_1 Tryd.underlying142 rfl --142
theorem lq142 {H : Hp} {K : Value → Prop} {a : Addr} : loadQ Tryd.prog 142 (.pointer (some a)) K H = withc (cellH H a) K := loadQ_e Tryd.underlying142 rfl
theorem ld143 {H : Hp} {K : Value → Hp → Prop} {X : List PanicEntry → Hp → Prop} {a : Addr} : loadA Tryd.prog 143 (.pointer (some a)) K X H = withc (cellH H a) fun v => K v H := loadA_1 Tryd.underlying143 rfl --143
theorem lq143 {H : Hp} {K : Value → Prop} {a : Addr} : loadQ Tryd.prog 143 (.pointer (some a)) K H = withc (cellH H a) K := loadQ_e Tryd.underlying143 rfl
theorem ld144 {H : Hp} {K : Value → Hp → Prop} {X : List PanicEntry → Hp → Prop} {a : Addr} : loadA Tryd.prog 144 (.pointer (some a)) K X H = withc (cellH H a) fun v => K v H := loadA_1 Tryd.underlying144 rfl --144
theorem lq144 {H : Hp} {K : Value → Prop} {a : Addr} : loadQ Tryd.prog 144 (.pointer (some a)) K H = withc (cellH H a) K := loadQ_e Tryd.underlying144 rfl
theorem ld145 {H : Hp} {K : Value → Hp → Prop} {X : List PanicEntry → Hp → Prop} {a : Addr} : loadA Tryd.prog 145 (.pointer (some a)) K X H = withc (cellH H a) fun v => K v H := loadA_1 Tryd.underlying145 rfl --145
theorem lq145 {H : Hp} {K : Value → Prop} {a : Addr} : loadQ Tryd.prog 145 (.pointer (some a)) K H = withc (cellH H a) K := loadQ_e Tryd.underlying145 rfl
theorem ld146 {H : Hp} {K : Value → Hp → Prop} {X : List PanicEntry → Hp → Prop} {a : Addr} : loadA Tryd.prog 146 (.pointer (some a)) K X H = withcs (cellsH H a 0 4) fun l => K (.agg l.toArray) H := loadA_n Tryd.underlying146 rfl ty146
theorem rc146 {H : Hp} {K : Value → Prop} {a : Addr} {l : List Value} (hc : cellsH H a 0 4 = some l) : rcA Tryd.prog 146 (.pointer (some a)) H K = K (.agg l.toArray) := rcA_n Tryd.underlying146 rfl ty146 hc
theorem bl146 {H : Hp} {K : Value → Hp → Prop} {X : List PanicEntry → Hp → Prop} {ps : List (Nat × Value)} : bldA Tryd.prog 146 ps K X H = withO (bfill [(0, 1), (1, 1), (2, 1), (3, 1)] [.pointer none, .pointer none, .pointer none, .string ⟨#[]⟩] ps) fun v => K v H := bldA_e Tryd.underlying146 ty146 (by kernel_rfl)
theorem bq146 {H : Hp} {K : Value → Prop} {ps : List (Nat × Value)} : bldQ Tryd.prog 146 ps K H = withO (bfill [(0, 1), (1, 1), (2, 1), (3, 1)] [.pointer none, .pointer none, .pointer none, .string ⟨#[]⟩] ps) K := bldQ_e Tryd.underlying146 ty146 (by kernel_rfl)
theorem fa146_0 {H : Hp} {K : Value → Hp → Prop} {X : List PanicEntry → Hp → Prop} {b off : Nat} : fadA Tryd.prog 146 (.pointer (some ⟨b, off, none⟩)) 0 K X H = K (.pointer (some ⟨b, off, none⟩)) H := by rw [fadA_ok fld146_0, add_none]; rfl
theorem fq146_0 {H : Hp} {K : Value → Prop} {b off : Nat} : fadQ Tryd.prog 146 (.pointer (some ⟨b, off, none⟩)) 0 K H = K (.pointer (some ⟨b, off, none⟩)) := by rw [fadQ_ok fld146_0, add_none]; rfl
theorem fa146_1 {H : Hp} {K : Value → Hp → Prop} {X : List PanicEntry → Hp → Prop} {b off : Nat} : fadA Tryd.prog 146 (.pointer (some ⟨b, off, none⟩)) 1 K X H = K (.pointer (some ⟨b, off + 1, none⟩)) H := by rw [fadA_ok fld146_1, add_none]
theorem fq146_1 {H : Hp} {K : Value → Prop} {b off : Nat} : fadQ Tryd.prog 146 (.pointer (some ⟨b, off, none⟩)) 1 K H = K (.pointer (some ⟨b, off + 1, none⟩)) := by rw [fadQ_ok fld146_1, add_none]
theorem fa146_2 {H : Hp} {K : Value → Hp → Prop} {X : List PanicEntry → Hp → Prop} {b off : Nat} : fadA Tryd.prog 146 (.pointer (some ⟨b, off, none⟩)) 2 K X H = K (.pointer (some ⟨b, off + 2, none⟩)) H := by rw [fadA_ok fld146_2, add_none]
theorem fq146_2 {H : Hp} {K : Value → Prop} {b off : Nat} : fadQ Tryd.prog 146 (.pointer (some ⟨b, off, none⟩)) 2 K H = K (.pointer (some ⟨b, off + 2, none⟩)) := by rw [fadQ_ok fld146_2, add_none]
theorem fa146_3 {H : Hp} {K : Value → Hp → Prop} {X : List PanicEntry → Hp → Prop} {b off : Nat} : fadA Tryd.prog 146 (.pointer (some ⟨b, off, none⟩)) 3 K X H = K (.pointer (some ⟨b, off + 3, none⟩)) H := by rw [fadA_ok fld146_3, add_none]
theorem fq146_3 {H : Hp} {K : Value → Prop} {b off : Nat} : fadQ Tryd.prog 146 (.pointer (some ⟨b, off, none⟩)) 3 K H = K (.pointer (some ⟨b, off + 3, none⟩)) := by rw [fadQ_ok fld146_3, add_none]
theorem ld147 {H : Hp} {K : Value → Hp → Prop} {X : List PanicEntry → Hp → Prop} {a : Addr} : loadA Tryd.prog 147 (.pointer (some a)) K X H = withcs (cellsH H a 0 4) fun l => K (.agg l.toArray) H := loadA_n Tryd.underlying147 rfl ty147
theorem rc147 {H : Hp} {K : Value → Prop} {a : Addr} {l : List Value} (hc : cellsH H a 0 4 = some l) : rcA Tryd.prog 147 (.pointer (some a)) H K = K (.agg l.toArray) := rcA_n Tryd.underlying147 rfl ty147 hc
theorem bl147 {H : Hp} {K : Value → Hp → Prop} {X : List PanicEntry → Hp → Prop} {ps : List (Nat × Value)} : bldA Tryd.prog 147 ps K X H = withO (bfill [(0, 1), (1, 1), (2, 1), (3, 1)] [.pointer none, .pointer none, .pointer none, .string ⟨#[]⟩] ps) fun v => K v H := bldA_e Tryd.underlying147 ty147 (by kernel_rfl)
theorem bq147 {H : Hp} {K : Value → Prop} {ps : List (Nat × Value)} : bldQ Tryd.prog 147 ps K H = withO (bfill [(0, 1), (1, 1), (2, 1), (3, 1)] [.pointer none, .pointer none, .pointer none, .string ⟨#[]⟩] ps) K := bldQ_e Tryd.underlying147 ty147 (by kernel_rfl)
theorem fa147_0 {H : Hp} {K : Value → Hp → Prop} {X : List PanicEntry → Hp → Prop} {b off : Nat} : fadA Tryd.prog 147 (.pointer (some ⟨b, off, none⟩)) 0 K X H = K (.pointer (some ⟨b, off, none⟩)) H := by rw [fadA_ok fld147_0, add_none]; rfl
theorem fq147_0 {H : Hp} {K : Value → Prop} {b off : Nat} : fadQ Tryd.prog 147 (.pointer (some ⟨b, off, none⟩)) 0 K H = K (.pointer (some ⟨b, off, none⟩)) := by rw [fadQ_ok fld147_0, add_none]; rfl
theorem fa147_1 {H : Hp} {K : Value → Hp → Prop} {X : List PanicEntry → Hp → Prop} {b off : Nat} : fadA Tryd.prog 147 (.pointer (some ⟨b, off, none⟩)) 1 K X H = K (.pointer (some ⟨b, off + 1, none⟩)) H := by rw [fadA_ok fld147_1, add_none]
theorem fq147_1 {H : Hp} {K : Value → Prop} {b off : Nat} : fadQ Tryd.prog 147 (.pointer (some ⟨b, off, none⟩)) 1 K H = K (.pointer (some ⟨b, off + 1, none⟩)) := by rw [fadQ_ok fld147_1, add_none]
theorem fa147_2 {H : Hp} {K : Value → Hp → Prop} {X : List PanicEntry → Hp → Prop} {b off : Nat} : fadA Tryd.prog 147 (.pointer (some ⟨b, off, none⟩)) 2 K X H = K (.pointer (some ⟨b, off + 2, none⟩)) H := by rw [fadA_ok fld147_2, add_none]
theorem fq147_2 {H : Hp} {K : Value → Prop} {b off : Nat} : fadQ Tryd.prog 147 (.pointer (some ⟨b, off, none⟩)) 2 K H = K (.pointer (some ⟨b, off + 2, none⟩)) := by rw [fadQ_ok fld147_2, add_none]
theorem fa147_3 {H : Hp} {K : Value → Hp → Prop} {X : List PanicEntry → Hp → Prop} {b off : Nat} : fadA Tryd.prog 147 (.pointer (some ⟨b, off, none⟩)) 3 K X H = K (.pointer (some ⟨b, off + 3, none⟩)) H := by rw [fadA_ok fld147_3, add_none]
theorem fq147_3 {H : Hp} {K : Value → Prop} {b off : Nat} : fadQ Tryd.prog 147 (.pointer (some ⟨b, off, none⟩)) 3 K H = K (.pointer (some ⟨b, off + 3, none⟩)) := by rw [fadQ_ok fld147_3, add_none]
theorem ld148 {H : Hp} {K : Value → Hp → Prop} {X : List PanicEntry → Hp → Prop} {a : Addr} : loadA Tryd.prog 148 (.pointer (some a)) K X H = withcs (cellsH H a 0 0) fun l => K (.agg l.toArray) H := loadA_n Tryd.underlying148 rfl ty148
theorem rc148 {H : Hp} {K : Value → Prop} {a : Addr} {l : List Value} (hc : cellsH H a 0 0 = some l) : rcA Tryd.prog 148 (.pointer (some a)) H K = K (.agg l.toArray) := rcA_n Tryd.underlying148 rfl ty148 hc
theorem ld149 {H : Hp} {K : Value → Hp → Prop} {X : List PanicEntry → Hp → Prop} {a : Addr} : loadA Tryd.prog 149 (.pointer (some a)) K X H = withcs (cellsH H a 0 0) fun l => K (.agg l.toArray) H := loadA_n Tryd.underlying149 rfl ty149
theorem rc149 {H : Hp} {K : Value → Prop} {a : Addr} {l : List Value} (hc : cellsH H a 0 0 = some l) : rcA Tryd.prog 149 (.pointer (some a)) H K = K (.agg l.toArray) := rcA_n Tryd.underlying149 rfl ty149 hc
theorem bl149 {H : Hp} {K : Value → Hp → Prop} {X : List PanicEntry → Hp → Prop} {ps : List (Nat × Value)} : bldA Tryd.prog 149 ps K X H = withO (bfill [(0, 0)] [] ps) fun v => K v H := bldA_e Tryd.underlying149 ty149 (by kernel_rfl)
theorem bq149 {H : Hp} {K : Value → Prop} {ps : List (Nat × Value)} : bldQ Tryd.prog 149 ps K H = withO (bfill [(0, 0)] [] ps) K := bldQ_e Tryd.underlying149 ty149 (by kernel_rfl)
theorem ld150 {H : Hp} {K : Value → Hp → Prop} {X : List PanicEntry → Hp → Prop} {a : Addr} : loadA Tryd.prog 150 (.pointer (some a)) K X H = withcs (cellsH H a 0 0) fun l => K (.agg l.toArray) H := loadA_n Tryd.underlying150 rfl ty150
theorem rc150 {H : Hp} {K : Value → Prop} {a : Addr} {l : List Value} (hc : cellsH H a 0 0 = some l) : rcA Tryd.prog 150 (.pointer (some a)) H K = K (.agg l.toArray) := rcA_n Tryd.underlying150 rfl ty150 hc
theorem bl150 {H : Hp} {K : Value → Hp → Prop} {X : List PanicEntry → Hp → Prop} {ps : List (Nat × Value)} : bldA Tryd.prog 150 ps K X H = withO (bfill [(0, 0)] [] ps) fun v => K v H := bldA_e Tryd.underlying150 ty150 (by kernel_rfl)
theorem bq150 {H : Hp} {K : Value → Prop} {ps : List (Nat × Value)} : bldQ Tryd.prog 150 ps K H = withO (bfill [(0, 0)] [] ps) K := bldQ_e Tryd.underlying150 ty150 (by kernel_rfl)
theorem ld151 {H : Hp} {K : Value → Hp → Prop} {X : List PanicEntry → Hp → Prop} {a : Addr} : loadA Tryd.prog 151 (.pointer (some a)) K X H = withc (cellH H a) fun v => K v H := loadA_1 Tryd.underlying151 rfl --151
theorem lq151 {H : Hp} {K : Value → Prop} {a : Addr} : loadQ Tryd.prog 151 (.pointer (some a)) K H = withc (cellH H a) K := loadQ_e Tryd.underlying151 rfl
theorem ld152 {H : Hp} {K : Value → Hp → Prop} {X : List PanicEntry → Hp → Prop} {a : Addr} : loadA Tryd.prog 152 (.pointer (some a)) K X H = withc (cellH H a) fun v => K v H := loadA_1 Tryd.underlying152 rfl --152
theorem lq152 {H : Hp} {K : Value → Prop} {a : Addr} : loadQ Tryd.prog 152 (.pointer (some a)) K H = withc (cellH H a) K := loadQ_e Tryd.underlying152 rfl
theorem ld153 {H : Hp} {K : Value → Hp → Prop} {X : List PanicEntry → Hp → Prop} {a : Addr} : loadA Tryd.prog 153 (.pointer (some a)) K X H = withc (cellH H a) fun v => K v H := loadA_1 Tryd.underlying153 rfl --153
theorem lq153 {H : Hp} {K : Value → Prop} {a : Addr} : loadQ Tryd.prog 153 (.pointer (some a)) K H = withc (cellH H a) K := loadQ_e Tryd.underlying153 rfl
theorem ld154 {H : Hp} {K : Value → Hp → Prop} {X : List PanicEntry → Hp → Prop} {a : Addr} : loadA Tryd.prog 154 (.pointer (some a)) K X H = withc (cellH H a) fun v => K v H := loadA_1 Tryd.underlying154 rfl --154
theorem lq154 {H : Hp} {K : Value → Prop} {a : Addr} : loadQ Tryd.prog 154 (.pointer (some a)) K H = withc (cellH H a) K := loadQ_e Tryd.underlying154 rfl
theorem ld155 {H : Hp} {K : Value → Hp → Prop} {X : List PanicEntry → Hp → Prop} {a : Addr} : loadA Tryd.prog 155 (.pointer (some a)) K X H = withc (cellH H a) fun v => K v H := loadA_1 Tryd.underlying155 rfl --155
theorem lq155 {H : Hp} {K : Value → Prop} {a : Addr} : loadQ Tryd.prog 155 (.pointer (some a)) K H = withc (cellH H a) K := loadQ_e Tryd.underlying155 rfl
theorem ld156 {H : Hp} {K : Value → Hp → Prop} {X : List PanicEntry → Hp → Prop} {a : Addr} : loadA Tryd.prog 156 (.pointer (some a)) K X H = withcs (cellsH H a 0 11) fun l => K (.agg l.toArray) H := loadA_n Tryd.underlying156 rfl ty156
theorem rc156 {H : Hp} {K : Value → Prop} {a : Addr} {l : List Value} (hc : cellsH H a 0 11 = some l) : rcA Tryd.prog 156 (.pointer (some a)) H K = K (.agg l.toArray) := rcA_n Tryd.underlying156 rfl ty156 hc
theorem bl156 {H : Hp} {K : Value → Hp → Prop} {X : List PanicEntry → Hp → Prop} {ps : List (Nat × Value)} : bldA Tryd.prog 156 ps K X H = withO (bfill [(0, 1), (1, 1), (2, 1), (3, 1), (4, 1), (5, 1), (6, 1), (7, 1), (8, 1), (9, 1), (10, 1)] [.int .u64 0, .int .u64 0, .int .u32 0, .int .u8 0, .int .u8 0, .int .u8 0, .int .u8 0, .nilFunc, .pointer none, .int .i32 0, .int .i32 0] ps) fun v => K v H := bldA_e Tryd.underlying156 ty156 (by kernel_rfl)
theorem bq156 {H : Hp} {K : Value → Prop} {ps : List (Nat × Value)} : bldQ Tryd.prog 156 ps K H = withO (bfill [(0, 1), (1, 1), (2, 1), (3, 1), (4, 1), (5, 1), (6, 1), (7, 1), (8, 1), (9, 1), (10, 1)] [.int .u64 0, .int .u64 0, .int .u32 0, .int .u8 0, .int .u8 0, .int .u8 0, .int .u8 0, .nilFunc, .pointer none, .int .i32 0, .int .i32 0] ps) K := bldQ_e Tryd.underlying156 ty156 (by kernel_rfl)
theorem fa156_0 {H : Hp} {K : Value → Hp → Prop} {X : List PanicEntry → Hp → Prop} {b off : Nat} : fadA Tryd.prog 156 (.pointer (some ⟨b, off, none⟩)) 0 K X H = K (.pointer (some ⟨b, off, none⟩)) H := by rw [fadA_ok fld156_0, add_none]; rfl
theorem fq156_0 {H : Hp} {K : Value → Prop} {b off : Nat} : fadQ Tryd.prog 156 (.pointer (some ⟨b, off, none⟩)) 0 K H = K (.pointer (some ⟨b, off, none⟩)) := by rw [fadQ_ok fld156_0, add_none]; rfl
theorem fa156_1 {H : Hp} {K : Value → Hp → Prop} {X : List PanicEntry → Hp → Prop} {b off : Nat} : fadA Tryd.prog 156 (.pointer (some ⟨b, off, none⟩)) 1 K X H = K (.pointer (some ⟨b, off + 1, none⟩)) H := by rw [fadA_ok fld156_1, add_none]
theorem fq156_1 {H : Hp} {K : Value → Prop} {b off : Nat} : fadQ Tryd.prog 156 (.pointer (some ⟨b, off, none⟩)) 1 K H = K (.pointer (some ⟨b, off + 1, none⟩)) := by rw [fadQ_ok fld156_1, add_none]
theorem fa156_2 {H : Hp} {K : Value → Hp → Prop} {X : List PanicEntry → Hp → Prop} {b off : Nat} : fadA Tryd.prog 156 (.pointer (some ⟨b, off, none⟩)) 2 K X H = K (.pointer (some ⟨b, off + 2, none⟩)) H := by rw [fadA_ok fld156_2, add_none]
theorem fq156_2 {H : Hp} {K : Value → Prop} {b off : Nat} : fadQ Tryd.prog 156 (.pointer (some ⟨b, off, none⟩)) 2 K H = K (.pointer (some ⟨b, off + 2, none⟩)) := by rw [fadQ_ok fld156_2, add_none]
theorem fa156_3 {H : Hp} {K : Value → Hp → Prop} {X : List PanicEntry → Hp → Prop} {b off : Nat} : fadA Tryd.prog 156 (.pointer (some ⟨b, off, none⟩)) 3 K X H = K (.pointer (some ⟨b, off + 3, none⟩)) H := by rw [fadA_ok fld156_3, add_none]
theorem fq156_3 {H : Hp} {K : Value → Prop} {b off : Nat} : fadQ Tryd.prog 156 (.pointer (some ⟨b, off, none⟩)) 3 K H = K (.pointer (some ⟨b, off + 3, none⟩)) := by rw [fadQ_ok fld156_3, add_none]
theorem fa156_4 {H : Hp} {K : Value → Hp → Prop} {X : List PanicEntry → Hp → Prop} {b off : Nat} : fadA Tryd.prog 156 (.pointer (some ⟨b, off, none⟩)) 4 K X H = K (.pointer (some ⟨b, off + 4, none⟩)) H := by rw [fadA_ok fld156_4, add_none]
theorem fq156_4 {H : Hp} {K : Value → Prop} {b off : Nat} : fadQ Tryd.prog 156 (.pointer (some ⟨b, off, none⟩)) 4 K H = K (.pointer (some ⟨b, off + 4, none⟩)) := by rw [fadQ_ok fld156_4, add_none]
theorem fa156_5 {H : Hp} {K : Value → Hp → Prop} {X : List PanicEntry → Hp → Prop} {b off : Nat} : fadA Tryd.prog 156 (.pointer (some ⟨b, off, none⟩)) 5 K X H = K (.pointer (some ⟨b, off + 5, none⟩)) H := by rw [fadA_ok fld156_5, add_none]
theorem fq156_5 {H : Hp} {K : Value → Prop} {b off : Nat} : fadQ Tryd.prog 156 (.pointer (some ⟨b, off, none⟩)) 5 K H = K (.pointer (some ⟨b, off + 5, none⟩)) := by rw [fadQ_ok fld156_5, add_none]
theorem fa156_6 {H : Hp} {K : Value → Hp → Prop} {X : List PanicEntry → Hp → Prop} {b off : Nat} : fadA Tryd.prog 156 (.pointer (some ⟨b, off, none⟩)) 6 K X H = K (.pointer (some ⟨b, off + 6, none⟩)) H := by rw [fadA_ok fld156_6, add_none]
theorem fq156_6 {H : Hp} {K : Value → Prop} {b off : Nat} : fadQ Tryd.prog 156 (.pointer (some ⟨b, off, none⟩)) 6 K H = K (.pointer (some ⟨b, off + 6, none⟩)) := by rw [fadQ_ok fld156_6, add_none]
theorem fa156_7 {H : Hp} {K : Value → Hp → Prop} {X : List PanicEntry → Hp → Prop} {b off : Nat} : fadA Tryd.prog 156 (.pointer (some ⟨b, off, none⟩)) 7 K X H = K (.pointer (some ⟨b, off + 7, none⟩)) H := by rw [fadA_ok fld156_7, add_none]
theorem fq156_7 {H : Hp} {K : Value → Prop} {b off : Nat} : fadQ Tryd.prog 156 (.pointer (some ⟨b, off, none⟩)) 7 K H = K (.pointer (some ⟨b, off + 7, none⟩)) := by rw [fadQ_ok fld156_7, add_none]
theorem fa156_8 {H : Hp} {K : Value → Hp → Prop} {X : List PanicEntry → Hp → Prop} {b off : Nat} : fadA Tryd.prog 156 (.pointer (some ⟨b, off, none⟩)) 8 K X H = K (.pointer (some ⟨b, off + 8, none⟩)) H := by rw [fadA_ok fld156_8, add_none]
theorem fq156_8 {H : Hp} {K : Value → Prop} {b off : Nat} : fadQ Tryd.prog 156 (.pointer (some ⟨b, off, none⟩)) 8 K H = K (.pointer (some ⟨b, off + 8, none⟩)) := by rw [fadQ_ok fld156_8, add_none]
theorem fa156_9 {H : Hp} {K : Value → Hp → Prop} {X : List PanicEntry → Hp → Prop} {b off : Nat} : fadA Tryd.prog 156 (.pointer (some ⟨b, off, none⟩)) 9 K X H = K (.pointer (some ⟨b, off + 9, none⟩)) H := by rw [fadA_ok fld156_9, add_none]
theorem fq156_9 {H : Hp} {K : Value → Prop} {b off : Nat} : fadQ Tryd.prog 156 (.pointer (some ⟨b, off, none⟩)) 9 K H = K (.pointer (some ⟨b, off + 9, none⟩)) := by rw [fadQ_ok fld156_9, add_none]
theorem fa156_10 {H : Hp} {K : Value → Hp → Prop} {X : List PanicEntry → Hp → Prop} {b off : Nat} : fadA Tryd.prog 156 (.pointer (some ⟨b, off, none⟩)) 10 K X H = K (.pointer (some ⟨b, off + 10, none⟩)) H := by rw [fadA_ok fld156_10, add_none]
theorem fq156_10 {H : Hp} {K : Value → Prop} {b off : Nat} : fadQ Tryd.prog 156 (.pointer (some ⟨b, off, none⟩)) 10 K H = K (.pointer (some ⟨b, off + 10, none⟩)) := by rw [fadQ_ok fld156_10, add_none]
theorem ld157 {H : Hp} {K : Value → Hp → Prop} {X : List PanicEntry → Hp → Prop} {a : Addr} : loadA Tryd.prog 157 (.pointer (some a)) K X H = withcs (cellsH H a 0 11) fun l => K (.agg l.toArray) H := loadA_n Tryd.underlying157 rfl ty157
theorem rc157 {H : Hp} {K : Value → Prop} {a : Addr} {l : List Value} (hc : cellsH H a 0 11 = some l) : rcA Tryd.prog 157 (.pointer (some a)) H K = K (.agg l.toArray) := rcA_n Tryd.underlying157 rfl ty157 hc
theorem bl157 {H : Hp} {K : Value → Hp → Prop} {X : List PanicEntry → Hp → Prop} {ps : List (Nat × Value)} : bldA Tryd.prog 157 ps K X H = withO (bfill [(0, 1), (1, 1), (2, 1), (3, 1), (4, 1), (5, 1), (6, 1), (7, 1), (8, 1), (9, 1), (10, 1)] [.int .u64 0, .int .u64 0, .int .u32 0, .int .u8 0, .int .u8 0, .int .u8 0, .int .u8 0, .nilFunc, .pointer none, .int .i32 0, .int .i32 0] ps) fun v => K v H := bldA_e Tryd.underlying157 ty157 (by kernel_rfl)
theorem bq157 {H : Hp} {K : Value → Prop} {ps : List (Nat × Value)} : bldQ Tryd.prog 157 ps K H = withO (bfill [(0, 1), (1, 1), (2, 1), (3, 1), (4, 1), (5, 1), (6, 1), (7, 1), (8, 1), (9, 1), (10, 1)] [.int .u64 0, .int .u64 0, .int .u32 0, .int .u8 0, .int .u8 0, .int .u8 0, .int .u8 0, .nilFunc, .pointer none, .int .i32 0, .int .i32 0] ps) K := bldQ_e Tryd.underlying157 ty157 (by kernel_rfl)
theorem fa157_0 {H : Hp} {K : Value → Hp → Prop} {X : List PanicEntry → Hp → Prop} {b off : Nat} : fadA Tryd.prog 157 (.pointer (some ⟨b, off, none⟩)) 0 K X H = K (.pointer (some ⟨b, off, none⟩)) H := by rw [fadA_ok fld157_0, add_none]; rfl
theorem fq157_0 {H : Hp} {K : Value → Prop} {b off : Nat} : fadQ Tryd.prog 157 (.pointer (some ⟨b, off, none⟩)) 0 K H = K (.pointer (some ⟨b, off, none⟩)) := by rw [fadQ_ok fld157_0, add_none]; rfl
theorem fa157_1 {H : Hp} {K : Value → Hp → Prop} {X : List PanicEntry → Hp → Prop} {b off : Nat} : fadA Tryd.prog 157 (.pointer (some ⟨b, off, none⟩)) 1 K X H = K (.pointer (some ⟨b, off + 1, none⟩)) H := by rw [fadA_ok fld157_1, add_none]
theorem fq157_1 {H : Hp} {K : Value → Prop} {b off : Nat} : fadQ Tryd.prog 157 (.pointer (some ⟨b, off, none⟩)) 1 K H = K (.pointer (some ⟨b, off + 1, none⟩)) := by rw [fadQ_ok fld157_1, add_none]
theorem fa157_2 {H : Hp} {K : Value → Hp → Prop} {X : List PanicEntry → Hp → Prop} {b off : Nat} : fadA Tryd.prog 157 (.pointer (some ⟨b, off, none⟩)) 2 K X H = K (.pointer (some ⟨b, off + 2, none⟩)) H := by rw [fadA_ok fld157_2, add_none]
theorem fq157_2 {H : Hp} {K : Value → Prop} {b off : Nat} : fadQ Tryd.prog 157 (.pointer (some ⟨b, off, none⟩)) 2 K H = K (.pointer (some ⟨b, off + 2, none⟩)) := by rw [fadQ_ok fld157_2, add_none]
theorem fa157_3 {H : Hp} {K : Value → Hp → Prop} {X : List PanicEntry → Hp → Prop} {b off : Nat} : fadA Tryd.prog 157 (.pointer (some ⟨b, off, none⟩)) 3 K X H = K (.pointer (some ⟨b, off + 3, none⟩)) H := by rw [fadA_ok fld157_3, add_none]
theorem fq157_3 {H : Hp} {K : Value → Prop} {b off : Nat} : fadQ Tryd.prog 157 (.pointer (some ⟨b, off, none⟩)) 3 K H = K (.pointer (some ⟨b, off + 3, none⟩)) := by rw [fadQ_ok fld157_3, add_none]
theorem fa157_4 {H : Hp} {K : Value → Hp → Prop} {X : List PanicEntry → Hp → Prop} {b off : Nat} : fadA Tryd.prog 157 (.pointer (some ⟨b, off, none⟩)) 4 K X H = K (.pointer (some ⟨b, off + 4, none⟩)) H := by rw [fadA_ok fld157_4, add_none]
theorem fq157_4 {H : Hp} {K : Value → Prop} {b off : Nat} : fadQ Tryd.prog 157 (.pointer (some ⟨b, off, none⟩)) 4 K H = K (.pointer (some ⟨b, off + 4, none⟩)) := by rw [fadQ_ok fld157_4, add_none]
theorem fa157_5 {H : Hp} {K : Value → Hp → Prop} {X : List PanicEntry → Hp → Prop} {b off : Nat} : fadA Tryd.prog 157 (.pointer (some ⟨b, off, none⟩)) 5 K X H = K (.pointer (some ⟨b, off + 5, none⟩)) H := by rw [fadA_ok fld157_5, add_none]
theorem fq157_5 {H : Hp} {K : Value → Prop} {b off : Nat} : fadQ Tryd.prog 157 (.pointer (some ⟨b, off, none⟩)) 5 K H = K (.pointer (some ⟨b, off + 5, none⟩)) := by rw [fadQ_ok fld157_5, add_none]
theorem fa157_6 {H : Hp} {K : Value → Hp → Prop} {X : List PanicEntry → Hp → Prop} {b off : Nat} : fadA Tryd.prog 157 (.pointer (some ⟨b, off, none⟩)) 6 K X H = K (.pointer (some ⟨b, off + 6, none⟩)) H := by rw [fadA_ok fld157_6, add_none]
theorem fq157_6 {H : Hp} {K : Value → Prop} {b off : Nat} : fadQ Tryd.prog 157 (.pointer (some ⟨b, off, none⟩)) 6 K H = K (.pointer (some ⟨b, off + 6, none⟩)) := by rw [fadQ_ok fld157_6, add_none]
theorem fa157_7 {H : Hp} {K : Value → Hp → Prop} {X : List PanicEntry → Hp → Prop} {b off : Nat} : fadA Tryd.prog 157 (.pointer (some ⟨b, off, none⟩)) 7 K X H = K (.pointer (some ⟨b, off + 7, none⟩)) H := by rw [fadA_ok fld157_7, add_none]
theorem fq157_7 {H : Hp} {K : Value → Prop} {b off : Nat} : fadQ Tryd.prog 157 (.pointer (some ⟨b, off, none⟩)) 7 K H = K (.pointer (some ⟨b, off + 7, none⟩)) := by rw [fadQ_ok fld157_7, add_none]
theorem fa157_8 {H : Hp} {K : Value → Hp → Prop} {X : List PanicEntry → Hp → Prop} {b off : Nat} : fadA Tryd.prog 157 (.pointer (some ⟨b, off, none⟩)) 8 K X H = K (.pointer (some ⟨b, off + 8, none⟩)) H := by rw [fadA_ok fld157_8, add_none]
theorem fq157_8 {H : Hp} {K : Value → Prop} {b off : Nat} : fadQ Tryd.prog 157 (.pointer (some ⟨b, off, none⟩)) 8 K H = K (.pointer (some ⟨b, off + 8, none⟩)) := by rw [fadQ_ok fld157_8, add_none]
theorem fa157_9 {H : Hp} {K : Value → Hp → Prop} {X : List PanicEntry → Hp → Prop} {b off : Nat} : fadA Tryd.prog 157 (.pointer (some ⟨b, off, none⟩)) 9 K X H = K (.pointer (some ⟨b, off + 9, none⟩)) H := by rw [fadA_ok fld157_9, add_none]
theorem fq157_9 {H : Hp} {K : Value → Prop} {b off : Nat} : fadQ Tryd.prog 157 (.pointer (some ⟨b, off, none⟩)) 9 K H = K (.pointer (some ⟨b, off + 9, none⟩)) := by rw [fadQ_ok fld157_9, add_none]
theorem fa157_10 {H : Hp} {K : Value → Hp → Prop} {X : List PanicEntry → Hp → Prop} {b off : Nat} : fadA Tryd.prog 157 (.pointer (some ⟨b, off, none⟩)) 10 K X H = K (.pointer (some ⟨b, off + 10, none⟩)) H := by rw [fadA_ok fld157_10, add_none]
theorem fq157_10 {H : Hp} {K : Value → Prop} {b off : Nat} : fadQ Tryd.prog 157 (.pointer (some ⟨b, off, none⟩)) 10 K H = K (.pointer (some ⟨b, off + 10, none⟩)) := by rw [fadQ_ok fld157_10, add_none]
end Go.Proofs.YtoabcmhiaknjiaaDoor
