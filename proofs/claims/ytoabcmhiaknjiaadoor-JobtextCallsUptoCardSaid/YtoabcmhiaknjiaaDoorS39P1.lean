/- Contracts and laws that the claim leans on, part 1. -/
import Derived.Tactics
import Derived.KernelRfl
import Derived.OrdersIn
import Derived.RangeFuncCalls
import Derived.RangeFuncLeaves
import Derived.TacticsIn
import Derived.Deep.Quiet
import Derived.StillTail
import Derived.RangeFuncRecord
import Derived.Laws.Sem
import GoSem.Core.Utf8
import Derived.IntWalk
import Derived.Below
/- A calculus of weakest preconditions that speaks of the heap alone (no tape, no streams), over sparse frames: what it says holds of the model's own 'Calls'. -/
set_option linter.unusedSimpArgs false
set_option linter.unusedVariables false
namespace Go.Hw

abbrev Hp := Array Obj

/-- What a run of a lone goroutine without system calls leaves as it was. -/
structure EnvEq (w w' : World) : Prop where
  os : w'.os = w.os
  tape : w'.tape = w.tape
  output : w'.output = w.output
  size : w.heap.size ≤ w'.heap.size
  defs : ∀ D : Nat, w.heap[D]? = some (Obj.deferred (some [])) → w'.heap[D]? = some (Obj.deferred (some []))

theorem EnvEq.refl (w : World) : EnvEq w w := ⟨rfl, rfl, rfl, Nat.le_refl _, fun _ h => h⟩
theorem EnvEq.trans {a b c : World} (h : EnvEq a b) (k : EnvEq b c) : EnvEq a c := ⟨k.os.trans h.os, k.tape.trans h.tape, k.output.trans h.output, Nat.le_trans h.size k.size, fun D hd => k.defs D (h.defs D hd)⟩
theorem EnvEq.modify (w : World) (b : Nat) (f : Obj → Obj) (hf : ∀ d, f (.deferred d) = .deferred d) : EnvEq w { w with heap := w.heap.modify b f } :=
  ⟨rfl, rfl, rfl, by show _ ≤ (w.heap.modify b f).size; simp, fun D h => by
    show (w.heap.modify b f)[D]? = _
    rw [Array.getElem?_modify]
    split
    · rw [h]; simp [hf]
    · exact h⟩
theorem EnvEq.push (w : World) (o : Obj) : EnvEq w { w with heap := w.heap.push o } :=
  ⟨rfl, rfl, rfl, by show _ ≤ (w.heap.push o).size; simp, fun D h => by
    show (w.heap.push o)[D]? = _
    have hlt : D < w.heap.size := by
      rcases Nat.lt_or_ge D w.heap.size with h1 | h1
      · exact h1
      · rw [Array.getElem?_eq_none h1] at h; cases h
    rw [Array.getElem?_push, if_neg (by omega)]
    exact h⟩
theorem EnvEq.put (w : World) {r : Nat} (o : Obj) {o' : Obj} (h : w.heap[r]? = some o') (hn : o' ≠ .deferred (some [])) : EnvEq w { w with heap := w.heap.setIfInBounds r o } :=
  ⟨rfl, rfl, rfl, by show _ ≤ (w.heap.setIfInBounds r o).size; simp, fun D hD => by
    show (w.heap.setIfInBounds r o)[D]? = _
    rw [Array.getElem?_setIfInBounds_ne]
    · exact hD
    · intro e; subst e; rw [h] at hD; exact hn (Option.some.inj hD)⟩
theorem EnvEq.drawn (w : World) (n : Nat) : EnvEq w { w with drawn := n } := ⟨rfl, rfl, rfl, Nat.le_refl _, fun _ h => h⟩

def cellH (H : Hp) (a : Addr) : Option Value :=
  match H[a.block]? with
  | some (.cells c _ _) => if a.spot.isSome then none else c[a.off]?
  | _ => none
def frozenH (H : Hp) (a : Addr) : Bool :=
  match H[a.block]? with
  | some (.cells _ _ (lo, hi)) => lo ≤ a.off && a.off < hi
  | _ => false
def setCellH (H : Hp) (a : Addr) (v : Value) : Hp :=
  H.modify a.block fun
    | .cells c elem frozen => .cells (if a.spot.isSome then c else c.setIfInBounds a.off v) elem frozen
    | o => o
def shapeH (H : Hp) (r : Nat) : Option (TypeId × Nat) :=
  match H[r]? with
  | some (.cells c elem _) => some (elem, c.size)
  | _ => none
def freezeH (H : Hp) (a : Addr) (n : Nat) : Hp :=
  if n = 0 then H else
  H.modify a.block fun
    | .cells c elem (lo, hi) => .cells c elem (if lo == hi then (a.off, a.off + n) else (min lo a.off, max hi (a.off + n)))
    | o => o

def oneC : Value → Bool
  | .agg _ | .tuple _ => false
  | _ => true

/-- Cells, or calls put off: what no operation on objects may turn. -/
def isCells : Obj → Bool
  | .cells .. => true
  | .deferred .. => true
  | _ => false

/-- What holds of a piece of the model's machine run over a heap, whatever the tape answers. -/
def hw {α : Type} (P : Program) : Sem α → (α → Hp → Prop) → Hp → Prop
  | .pure a, K, H => K a H
  | .load _ a k, K, H => match cellH H a with
    | some v => hw P (k v) K H
    | none => False
  | .store _ a v k, K, H => oneC v = true ∧ (cellH H a).isSome = true ∧ frozenH H a = false ∧ hw P k K (setCellH H a v)
  | .new o k, K, H => hw P (k H.size) K (H.push o)
  | .shape r k, K, H => hw P (k (shapeH H r)) K H
  | .freeze a n k, K, H => hw P k K (freezeH H a n)
  | .frozen a k, K, H => hw P (k (frozenH H a)) K H
  | .getObj r k, K, H => match H[r]? with
    | some o => isCells o = false ∧ hw P (k o) K H
    | none => False
  | .setObj r o k, K, H => match H[r]? with
    | some o' => isCells o' = false ∧ hw P k K (H.setIfInBounds r o)
    | none => False
  | .choose q k, K, H => if q.forced then hw P (k 0) K H else ∀ t, hw P (k (q.cut t)) K H
  | .sys _ _, _, _ => False
  | .program k, K, H => hw P (k P) K H
  | .mark _ k, K, H => hw P k K H
  | .halt _, _, _ => False

/-- The machine's piece may end in a panic, too. -/
def hwx {α : Type} (P : Program) : Sem α → (α → Hp → Prop) → (Value → Hp → Prop) → Hp → Prop
  | .pure a, K, _, H => K a H
  | .load _ a k, K, X, H => match cellH H a with
    | some v => hwx P (k v) K X H
    | none => False
  | .store _ a v k, K, X, H => oneC v = true ∧ (cellH H a).isSome = true ∧ frozenH H a = false ∧ hwx P k K X (setCellH H a v)
  | .new o k, K, X, H => hwx P (k H.size) K X (H.push o)
  | .shape r k, K, X, H => hwx P (k (shapeH H r)) K X H
  | .freeze a n k, K, X, H => hwx P k K X (freezeH H a n)
  | .frozen a k, K, X, H => hwx P (k (frozenH H a)) K X H
  | .getObj r k, K, X, H => match H[r]? with
    | some o => isCells o = false ∧ hwx P (k o) K X H
    | none => False
  | .setObj r o k, K, X, H => match H[r]? with
    | some o' => isCells o' = false ∧ hwx P k K X (H.setIfInBounds r o)
    | none => False
  | .choose q k, K, X, H => if q.forced then hwx P (k 0) K X H else ∀ t, hwx P (k (q.cut t)) K X H
  | .sys _ _, _, _, _ => False
  | .program k, K, X, H => hwx P (k P) K X H
  | .mark _ k, K, X, H => hwx P k K X H
  | .halt (.panic v), _, X, H => X v H
  | .halt _, _, _, _ => False

theorem cellH_eq (w : World) (a : Addr) : w.cell? a = cellH w.heap a := rfl
theorem frozenH_eq (w : World) (a : Addr) : w.frozen? a = frozenH w.heap a := rfl

/-- The piece run by the model itself. -/
theorem run_of_hwx {α : Type} {P : Program} {K : α → Hp → Prop} {X : Value → Hp → Prop} : ∀ (s : Sem α) (w : World), hwx P s K X w.heap →
    ∃ w', EnvEq w w' ∧ ((∃ a, s.run P w = .ok a w' ∧ K a w'.heap) ∨ (∃ v, s.run P w = .halt (.panic v) w' ∧ X v w'.heap)) := by
  intro s
  induction s with
  | pure a => intro w h; exact ⟨w, .refl _, .inl ⟨a, rfl, h⟩⟩
  | load m a k ih =>
    intro w h
    simp only [hwx] at h
    simp only [Sem.run, cellH_eq]
    cases hc : cellH w.heap a with
    | some v => rw [hc] at h; exact ih v w h
    | none => rw [hc] at h; exact h.elim
  | store m a v k ih =>
    intro w h
    obtain ⟨h1, h2, h3, h4⟩ := h
    obtain ⟨u, hu⟩ := Option.isSome_iff_exists.1 h2
    have := ih (w.setCell a v) h4
    obtain ⟨w', he, hr⟩ := this
    refine ⟨w', .trans (.modify w _ _ fun d => rfl) he, ?_⟩
    have hrun : (Sem.store m a v k).run P w = k.run P (w.setCell a v) := by
      cases v <;> simp [oneC] at h1 <;> simp only [Sem.run, cellH_eq, hu, frozenH_eq, h3, Bool.false_eq_true, if_false]
    rw [hrun]
    exact hr
  | new o k ih =>
    intro w h
    obtain ⟨w', he, hr⟩ := ih w.heap.size { w with heap := w.heap.push o } h
    exact ⟨w', .trans (.push w o) he, hr⟩
  | shape r k ih => intro w h; exact ih _ w h
  | freeze a n k ih =>
    intro w h
    have hheap : (w.freeze a n).heap = freezeH w.heap a n := by
      unfold World.freeze freezeH; split <;> rfl
    have henv : EnvEq w (w.freeze a n) := by
      unfold World.freeze
      split
      · exact .refl w
      · exact .modify w _ _ fun d => rfl
    obtain ⟨w', he, hr⟩ := ih (w.freeze a n) (by rw [hheap]; exact h)
    exact ⟨w', henv.trans he, hr⟩
  | frozen a k ih => intro w h; exact ih _ w h
  | getObj r k ih =>
    intro w h
    simp only [hwx] at h
    cases ho : w.heap[r]? with
    | none => rw [ho] at h; exact h.elim
    | some o =>
      rw [ho] at h
      obtain ⟨w', he, hr⟩ := ih o w h.2
      refine ⟨w', he, ?_⟩
      have hrun : (Sem.getObj r k).run P w = (k o).run P w := by
        simp only [Sem.run, ho]
        cases o <;> first | rfl | (simp [isCells] at h)
      rw [hrun]; exact hr
  | setObj r o k ih =>
    intro w h
    simp only [hwx] at h
    cases ho : w.heap[r]? with
    | none => rw [ho] at h; exact h.elim
    | some o' =>
      rw [ho] at h
      obtain ⟨w', he, hr⟩ := ih { w with heap := w.heap.setIfInBounds r o } h.2
      refine ⟨w', .trans (.put w o ho (by intro e; subst e; simp [isCells] at h)) he, ?_⟩
      have hrun : (Sem.setObj r o k).run P w = k.run P { w with heap := w.heap.setIfInBounds r o } := by
        simp only [Sem.run, ho]
        cases o' <;> first | rfl | (simp [isCells] at h)
      rw [hrun]; exact hr
  | choose q k ih =>
    intro w h
    simp only [hwx] at h
    by_cases hq : q.forced = true
    · rw [if_pos hq] at h
      simp only [Sem.run, hq, if_true]
      exact ih _ w h
    · rw [if_neg hq] at h
      simp only [Sem.run, hq, if_false, Bool.false_eq_true]
      obtain ⟨w', he, hr⟩ := ih (q.cut (w.tape w.drawn q)) { w with drawn := w.drawn + 1 } (h _)
      exact ⟨w', .trans (.drawn w _) he, hr⟩
  | sys c k ih => intro w h; exact h.elim
  | program k ih => intro w h; exact ih _ w h
  | mark m k ih => intro w h; exact ih w h
  | halt x =>
    intro w h
    cases x with
    | panic v => exact ⟨w, .refl _, .inr ⟨v, rfl, h⟩⟩
    | _ => exact h.elim

/-! ### Calls -/

/-- A call, over the heap alone. -/
def HCall (P : Program) (f : FuncId) (args : Array Value) (H : Hp) (K : Ending → Hp → Prop) : Prop :=
  ∀ w : World, w.heap = H → Calls P f args w (fun e w' => EnvEq w w' ∧ K e w'.heap)

theorem HCall.mono {P : Program} {f : FuncId} {args : Array Value} {H : Hp} {K K' : Ending → Hp → Prop} (h : HCall P f args H K) (hk : ∀ e H', K e H' → K' e H') : HCall P f args H K' :=
  fun w hw => (h w hw).mono fun e w' ⟨he, hK⟩ => ⟨he, hk _ _ hK⟩

/-- What was there is as it was. -/
structure Ext (H H' : Hp) : Prop where
  size : H.size ≤ H'.size
  blk : ∀ b, b < H.size → H'[b]? = H[b]?

theorem Ext.refl (H : Hp) : Ext H H := ⟨Nat.le_refl _, fun _ _ => rfl⟩
theorem Ext.trans {a b c : Hp} (h : Ext a b) (k : Ext b c) : Ext a c := ⟨Nat.le_trans h.size k.size, fun i hi => (k.blk i (Nat.lt_of_lt_of_le hi h.size)).trans (h.blk i hi)⟩


/-- A call that hands back v and leaves the heap as it was, whatever else the heap holds. -/
def QCall (P : Program) (f : FuncId) (args : Array Value) (H : Hp) (v : Value) : Prop := ∀ G, Ext H G → HCall P f args G (fun e H' => e = .returned v ∧ H' = G)

end Go.Hw

/- Sparse frames, one operation, a region, code: the calculus 'aw' and its ground in the model's 'Code.wp'. -/
set_option linter.unusedSimpArgs false
set_option linter.unusedVariables false
namespace Go.Hw

abbrev Fr := List (Nat × Value)

def look? : Fr → Nat → Option Value
  | [], _ => none
  | (s, v) :: r, t => if s = t then some v else look? r t

def evo (F : Fr) : Operand → Option Value
  | .tmp t => look? F t
  | .const v => some v
  | .global g => some (.pointer (some ⟨g, 0, none⟩))
  | .func f => some (.func (.func f) #[] #[])

def evd (F : Fr) (x : Operand) : Value := (evo F x).getD undef

def withv (F : Fr) (x : Operand) (K : Value → Prop) : Prop :=
  match evo F x with
  | some v => K v
  | none => False

structure FrOK (n : Nat) (F : Fr) (a : Act) : Prop where
  size : a.tmps.size = n
  slot : ∀ t v, look? F t = some v → a.tmps[t]? = some v

theorem FrOK.nil {n : Nat} {F : Fr} {a : Act} (h : FrOK n F a) : FrOK n [] a := ⟨h.size, fun _ _ h => by simp [look?] at h⟩

def upd (d : Option Nat) (v : Value) (F : Fr) : Fr :=
  match d with
  | some d => (d, v) :: F
  | none => F

theorem FrOK.put {n : Nat} {F : Fr} {a : Act} (h : FrOK n F a) (d : Option Nat) (hd : ∀ i, d = some i → i < n) (v : Value) : FrOK n (upd d v F) (a.put d v) := by
  cases d with
  | none => exact h
  | some d =>
    have hd' := hd d rfl
    refine ⟨by simp [Act.put, h.size], fun t u ht => ?_⟩
    simp only [upd, look?] at ht
    by_cases hdt : d = t
    · subst hdt
      simp only [if_true] at ht
      cases ht
      simp [Act.put, h.size, hd']
    · rw [if_neg hdt] at ht
      have := h.slot t u ht
      simp [Act.put, Array.getElem?_setIfInBounds_ne hdt, this]

theorem FrOK.eval {n : Nat} {F : Fr} {a : Act} (h : FrOK n F a) {x : Operand} {v : Value} (hx : evo F x = some v) : a.eval x = v := by
  cases x with
  | tmp t => have := h.slot t v hx; simp [Act.eval, this]
  | const u => simpa [evo, Act.eval] using hx
  | global g => simpa [evo, Act.eval] using hx
  | func f => simpa [evo, Act.eval] using hx

def trim : List Nat → Fr → Fr
  | [], _ => []
  | k :: ks, F => match look? F k with
    | some v => (k, v) :: trim ks F
    | none => trim ks F

theorem look?_trim {F : Fr} : ∀ (ks : List Nat) {t : Nat} {v : Value}, look? (trim ks F) t = some v → look? F t = some v
  | [], _, _, h => by simp [trim, look?] at h
  | k :: ks, t, v, h => by
    simp only [trim] at h
    cases hk : look? F k with
    | none => rw [hk] at h; exact look?_trim ks h
    | some u =>
      rw [hk] at h
      simp only [look?] at h
      by_cases hkt : k = t
      · subst hkt; rw [if_pos rfl] at h; rw [hk]; exact h
      · rw [if_neg hkt] at h; exact look?_trim ks h

theorem FrOK.trim {n : Nat} {F : Fr} {a : Act} (h : FrOK n F a) (ks : List Nat) : FrOK n (trim ks F) a :=
  ⟨h.size, fun t v ht => h.slot t v (look?_trim ks ht)⟩

structure O where
  dst : Option Nat
  op : Op
  type : TypeId
  guard : Option (Nat × Bool)

def O.oper (o : O) : Oper := { dst := o.dst, op := o.op, type := o.type, pos := "", after := #[], guard := none }

/-- The wide fence, of frames of functions or of a round. -/
abbrev WF (r : Option Nat) : Fence := { Fence.wide with round := r }

theorem callsIn_WF {r : Option Nat} {n : Nat} {P : Program} {f : FuncId} {args : Array Value} {w : World} {R : Ending → World → Prop} (h : Calls P f args w R) : CallsIn (WF r) n P f args w R :=
  (callsIn_wide (n := n)).2 h

/-- A round of a loop over a function, over the heap alone. -/
def HRound (P : Program) (l : Nat) (f : FuncId) (tmps : Array Value) (assign body : Code) (H : Hp) (K : Ending → Hp → Prop) : Prop :=
  ∀ w : World, w.heap = H → RoundIn Fence.wide 0 P l f tmps assign body w (fun e w' => EnvEq w w' ∧ K e w'.heap)

theorem HRound.mono {P : Program} {l : Nat} {f : FuncId} {tmps : Array Value} {assign body : Code} {H : Hp} {K K' : Ending → Hp → Prop} (h : HRound P l f tmps assign body H K) (hk : ∀ e H', K e H' → K' e H') : HRound P l f tmps assign body H K' :=
  fun w hw => (h w hw).mono fun e w' ⟨he, hK⟩ => ⟨he, hk _ _ hK⟩

/-- What becomes of a call. -/
def callK (K : Value → Hp → Prop) (X : List PanicEntry → Hp → Prop) : Ending → Hp → Prop
  | .returned v, H => K v H
  | .panicked c, H => X c H
  | .outgrown, _ => False

def nextK (P : Program) (K : Value → Hp → Prop) (X : List PanicEntry → Hp → Prop) : Next → Hp → Prop
  | .value v, H => K v H
  | .skip, H => K undef H
  | .enter f args, H => HCall P f args H (callK K X)
  | .round l f tmps assign body, H => HRound P l f tmps assign body H (callK K X)
  | _, _ => False

def opA (P : Program) (o : O) (F : Fr) (H : Hp) (K : Value → Hp → Prop) (X : List PanicEntry → Hp → Prop) : Prop :=
  (o.op.operands.all fun x => (evo F x).isSome) = true ∧ hwx P (execOp (evd F) o.oper) (nextK P K X) (fun v H' => X [{ v, recovered := false }] H') H

/-- It ends in a panic, in the frame that it had. -/
structure PanX (a : Act) (w : World) (X : List PanicEntry → Hp → Prop) (e : Exit) (a' : Act) (w' : World) : Prop where
  it : ∃ c, e = .panic c ∧ a' = a ∧ EnvEq w w' ∧ X c w'.heap

theorem opA_sound {P : Program} {ro : Option Nat} {o : O} {r : Oper} {n : Nat} {F : Fr} {a : Act} {w : World} {K : Value → Hp → Prop} {X : List PanicEntry → Hp → Prop}
    (h1 : r.op = o.op) (h2 : r.type = o.type) (hs : ∀ cs b, r.op ≠ .select cs b) (hd : ∀ c, r.op ≠ .defer c) (hF : FrOK n F a) (h : opA P o F w.heap K X) :
    r.wpIn (WF ro) 0 P a w (fun a' w' => ∃ v, a' = a.put r.dst v ∧ EnvEq w w' ∧ K v w'.heap) (fun e a' w' => PanX a w X e a' w') := by
  obtain ⟨hk, hr⟩ := h
  have hex : execOp a.eval r = execOp (evd F) o.oper := by
    have e1 : execOp a.eval r = execOp (evd F) r := execOp_congr r hs fun x hx => by
      rw [h1] at hx
      have := (Array.all_eq_true_iff_forall_mem.1 hk) x hx
      obtain ⟨v, hv⟩ := Option.isSome_iff_exists.1 this
      rw [hF.eval hv, evd, hv]; rfl
    rw [e1]
    unfold execOp O.oper
    simp only [h1, h2]
  unfold Oper.wpIn
  refine ⟨fun _ _ => trivial, ?_⟩
  rw [Oper.semAt_eq _ _ _ hd, hex]
  obtain ⟨w', he, hres⟩ := run_of_hwx _ w hr
  rcases hres with ⟨nx, hrun, hK⟩ | ⟨v, hrun, hX⟩
  · rw [hrun]
    cases nx <;> simp only [nextK] at hK <;> simp only [Oper.uponIn]
    case value v => exact ⟨v, rfl, he, hK⟩
    case skip => exact ⟨undef, rfl, he, hK⟩
    case enter f args =>
      refine ⟨fun h => (by cases h), callsIn_WF ((hK w' rfl).mono fun e w2 ⟨he2, hK2⟩ => ?_)⟩
      cases e with
      | returned v => exact ⟨v, rfl, he.trans he2, hK2⟩
      | panicked c => exact ⟨c, rfl, rfl, he.trans he2, hK2⟩
      | outgrown => exact hK2.elim
    case round l f tmps assign body =>
      refine ⟨fun h => (by cases h), RoundIn.mono (F := Fence.wide) (hK w' rfl) fun e w2 ⟨he2, hK2⟩ => ?_⟩
      cases e with
      | returned v => exact ⟨v, rfl, he.trans he2, hK2⟩
      | panicked c => exact ⟨c, rfl, rfl, he.trans he2, hK2⟩
      | outgrown => exact hK2.elim
  · rw [hrun]
    exact ⟨_, rfl, rfl, he, hX⟩

/-- Operations one behind the other. -/
def aops (P : Program) (K : Fr → Hp → Prop) (X : List PanicEntry → Hp → Prop) : List O → Fr → Hp → Prop
  | [], F, H => K F H
  | o :: r, F, H => match o.guard with
    | none => opA P o F H (fun v H' => aops P K X r (upd o.dst v F) H') X
    | some (s, b) => match look? F s with
      | some (.bool c) => if c = b then opA P o F H (fun v H' => aops P K X r (upd o.dst v F) H') X else aops P K X r (upd o.dst undef F) H
      | some _ => aops P K X r (upd o.dst undef F) H
      | none => False

/-! ### How a region's operations are read off the model's -/

def guardOf (ops : Array Oper) (o : Oper) : Option (Nat × Bool) :=
  o.guard.map fun (g, b) => (((ops[g]?).bind (·.dst)).getD 0, b)

def toO (ops : Array Oper) (o : Oper) : O := ⟨o.dst, o.op, o.type, guardOf ops o⟩

def okOper (n : Nat) (ops : Array Oper) (o : Oper) : Bool :=
  (match o.dst with
   | some d => decide (d < n)
   | none => true) &&
  (match o.op with
   | .select .. => false
   | .defer .. => false
   | _ => true) &&
  (match o.guard with
   | some (g, _) => ((ops[g]?).bind (·.dst)).isSome
   | none => true)

theorem okOper_dst {n : Nat} {ops : Array Oper} {o : Oper} (h : okOper n ops o = true) : ∀ i, o.dst = some i → i < n := by
  intro i hi
  simp only [okOper, hi, Bool.and_eq_true, decide_eq_true_eq] at h
  exact h.1.1

theorem okOper_sel {n : Nat} {ops : Array Oper} {o : Oper} (h : okOper n ops o = true) : ∀ cs b, o.op ≠ .select cs b := by
  intro cs b hc
  simp [okOper, hc] at h

theorem okOper_def {n : Nat} {ops : Array Oper} {o : Oper} (h : okOper n ops o = true) : ∀ c, o.op ≠ .defer c := by
  intro c hc
  simp [okOper, hc] at h

theorem wanted_of_guard {n : Nat} {ops : Array Oper} {o : Oper} {F : Fr} {a : Act} (hok : okOper n ops o = true) (hF : FrOK n F a) :
    (∀ s b c, guardOf ops o = some (s, b) → look? F s = some (.bool c) → Region.wanted o (yielded ops a.tmps) = decide (c = b)) ∧ (guardOf ops o = none → Region.wanted o (yielded ops a.tmps) = true) ∧
    (∀ s b v, guardOf ops o = some (s, b) → look? F s = some v → (∀ c, v ≠ .bool c) → Region.wanted o (yielded ops a.tmps) = false) := by
  refine ⟨?_, ?_, ?_⟩
  · intro s b c hg hl
    unfold guardOf at hg
    cases hgo : o.guard with
    | none => rw [hgo] at hg; simp at hg
    | some gb =>
      obtain ⟨g, b'⟩ := gb
      rw [hgo] at hg
      simp only [Option.map_some, Option.some.injEq, Prod.mk.injEq] at hg
      obtain ⟨hs, hb⟩ := hg
      subst hb
      simp only [okOper, hgo, Bool.and_eq_true] at hok
      obtain ⟨d, hd⟩ := Option.isSome_iff_exists.1 hok.2
      rw [hd] at hs
      simp only [Option.getD_some] at hs
      subst hs
      have := hF.slot d _ hl
      unfold Region.wanted yielded
      rw [hgo]
      simp only [hd, Option.bind_some, this]
      cases c <;> cases b' <;> rfl
  · intro hg
    unfold guardOf at hg
    unfold Region.wanted
    cases hgo : o.guard with
    | none => rfl
    | some gb => rw [hgo] at hg; simp at hg
  · intro s b c hg hl hc
    unfold guardOf at hg
    cases hgo : o.guard with
    | none => rw [hgo] at hg; simp at hg
    | some gb =>
      obtain ⟨g, b'⟩ := gb
      rw [hgo] at hg
      simp only [Option.map_some, Option.some.injEq, Prod.mk.injEq] at hg
      obtain ⟨hs, hb⟩ := hg
      subst hb
      simp only [okOper, hgo, Bool.and_eq_true] at hok
      obtain ⟨d, hd⟩ := Option.isSome_iff_exists.1 hok.2
      rw [hd] at hs
      simp only [Option.getD_some] at hs
      subst hs
      have := hF.slot d _ hl
      unfold Region.wanted yielded
      rw [hgo]
      simp only [hd, Option.bind_some, this]
      cases c <;> first | rfl | exact absurd rfl (hc _)

/-- The same put-off calls. -/
def Dfs (a0 a : Act) : Prop := a.defers = a0.defers
theorem Dfs.refl (a : Act) : Dfs a a := rfl
theorem Dfs.trans {a b c : Act} (h : Dfs a b) (k : Dfs b c) : Dfs a c := Eq.trans k h
theorem Dfs.put {a0 a : Act} (h : Dfs a0 a) (d : Option Nat) (v : Value) : Dfs a0 (a.put d v) := by cases d <;> exact h

theorem aops_sound {P : Program} {ro : Option Nat} {n : Nat} {ops : Array Oper} {K : Fr → Hp → Prop} {X : List PanicEntry → Hp → Prop} {Q : Exit → Act → World → Prop} {w0 : World} {a0 : Act}
    (hK : ∀ F a w, FrOK n F a → Dfs a0 a → EnvEq w0 w → K F w.heap → Q .normal a w) (hX : ∀ c a w, FrOK n [] a → Dfs a0 a → EnvEq w0 w → X c w.heap → Q (.panic c) a w) :
    ∀ (l : List Oper), (∀ o ∈ l, okOper n ops o = true) → ∀ (F : Fr) (a : Act) (w : World), FrOK n F a → Dfs a0 a → EnvEq w0 w → aops P K X (l.map (toO ops)) F w.heap → wpListIn (WF ro) 0 P ops Q l a w := by
  intro l
  induction l with
  | nil => intro _ F a w hF hD he h; exact hK F a w hF hD he h
  | cons o r ih =>
    intro hok F a w hF hD he h
    have hoo := hok o (by simp)
    have hr := fun x hx => hok x (List.mem_cons_of_mem _ hx)
    obtain ⟨hw1, hw2, hw3⟩ := wanted_of_guard hoo hF
    have main : opA P (toO ops o) F w.heap (fun v H' => aops P K X (r.map (toO ops)) (upd o.dst v F) H') X →
        o.wpIn (WF ro) 0 P a w (wpListIn (WF ro) 0 P ops Q r) Q := by
      intro hop
      have := opA_sound (ro := ro) (r := o) (n := n) (a := a) (w := w) (by rfl) (by rfl) (okOper_sel hoo) (okOper_def hoo) hF hop
      have fin : ∀ a' w', (∃ v, a' = a.put o.dst v ∧ EnvEq w w' ∧ aops P K X (r.map (toO ops)) (upd o.dst v F) w'.heap) → wpListIn (WF ro) 0 P ops Q r a' w' := by
        rintro a' w' ⟨v, rfl, he', hh⟩
        exact ih hr _ _ _ (hF.put _ (okOper_dst hoo) v) (hD.put _ _) (he.trans he') hh
      have finX : ∀ e a' w', PanX a w X e a' w' → Q e a' w' := by
        rintro e a' w' ⟨c, rfl, rfl, he', hh⟩
        exact hX c _ _ hF.nil hD (he.trans he') hh
      unfold Oper.wpIn at this ⊢
      refine ⟨this.1, ?_⟩
      replace this := this.2
      generalize (Oper.semAt (WF ro).round a.eval o).run P w = res at this ⊢
      cases res with
      | ok nx w' =>
        cases nx <;> simp only [Oper.uponIn] at this ⊢
        case value v => exact fin _ _ this
        case skip => exact fin _ _ this
        case defer d => exact fin _ _ this
        case enter f args =>
          refine ⟨this.1, this.2.mono fun e w2 hh => ?_⟩
          cases e with
          | returned v => exact fin _ _ hh
          | panicked c => exact finX _ _ _ hh
          | outgrown => obtain ⟨_, _, ⟨c, hc, _⟩⟩ := hh; cases hc
        case row row args => exact ⟨this.1, RowsIn.mono this.2 fun v w2 hh => fin _ _ hh⟩
        case round l f tmps assign body =>
          refine ⟨this.1, this.2.mono fun e w2 hh => ?_⟩
          cases e with
          | returned v => exact fin _ _ hh
          | panicked c => exact finX _ _ _ hh
          | outgrown => obtain ⟨_, _, ⟨c, hc, _⟩⟩ := hh; cases hc
      | halt x w' =>
        cases x <;> simp only [Oper.uponIn] at this ⊢
        case panic v => exact finX _ _ _ this
    simp only [List.map_cons, aops, toO] at h
    simp only [wpListIn]
    cases hg : guardOf ops o with
    | none =>
      rw [hg] at h
      rw [hw2 hg, if_pos rfl]
      exact main (by simpa only [toO, hg] using h)
    | some sb =>
      obtain ⟨s, b⟩ := sb
      rw [hg] at h
      simp only at h
      split at h
      · rename_i c hc
        rw [hw1 s b c hg hc]
        by_cases hcb : c = b
        · rw [if_pos hcb] at h
          simp only [hcb, decide_true, if_true]
          exact main (by simpa only [toO, hg] using h)
        · rw [if_neg hcb] at h
          simp only [hcb, decide_false, Bool.false_eq_true, if_false]
          exact ⟨fun _ _ => trivial, ih hr _ _ _ (hF.put _ (okOper_dst hoo) undef) (hD.put _ _) he h⟩
      · rename_i v hnb hc
        rw [hw3 s b v hg hc (fun c h => hnb c h)]
        simp only [Bool.false_eq_true, if_false]
        exact ⟨fun _ _ => trivial, ih hr _ _ _ (hF.put _ (okOper_dst hoo) undef) (hD.put _ _) he h⟩
      · exact h.elim

end Go.Hw

/- Regions that draw their order: a quiet head in any order, a tail in one. -/
set_option linter.unusedSimpArgs false
set_option linter.unusedVariables false
namespace Go.Hw

/-- A piece that only reads. -/
def rd {α : Type} (P : Program) : Sem α → Hp → Option α
  | .pure a, _ => some a
  | .load _ a k, H => match cellH H a with
    | some v => rd P (k v) H
    | none => none
  | .shape r k, H => if r < H.size then rd P (k (shapeH H r)) H else none
  | .frozen a k, H => if a.block < H.size then rd P (k (frozenH H a)) H else none
  | .getObj r k, H => match H[r]? with
    | some o => if isCells o = true then none else rd P (k o) H
    | none => none
  | .program k, H => rd P (k P) H
  | .mark _ k, H => rd P k H
  | _, _ => none

theorem run_of_rd {α : Type} {P : Program} : ∀ (s : Sem α) (w : World) (v : α), rd P s w.heap = some v → s.run P w = .ok v w := by
  intro s
  induction s with
  | pure a => intro w v h; simp only [rd, Option.some.injEq] at h; rw [← h]; rfl
  | load m a k ih =>
    intro w v h
    simp only [rd] at h
    simp only [Sem.run, cellH_eq]
    cases hc : cellH w.heap a with
    | some u => rw [hc] at h; exact ih u w v h
    | none => rw [hc] at h; cases h
  | shape r k ih => intro w v h; simp only [rd] at h; split at h; exact ih _ w v h; cases h
  | frozen a k ih => intro w v h; simp only [rd] at h; split at h; exact ih _ w v h; cases h
  | getObj r k ih =>
    intro w v h
    simp only [rd] at h
    cases ho : w.heap[r]? with
    | none => rw [ho] at h; cases h
    | some o =>
      rw [ho] at h
      simp only at h
      split at h
      · cases h
      · rename_i hc
        have hrun : (Sem.getObj r k).run P w = (k o).run P w := by
          simp only [Sem.run, ho]
          cases o <;> first | rfl | (simp [isCells] at hc)
        rw [hrun]; exact ih o w v h
  | program k ih => intro w v h; exact ih _ w v h
  | mark m k ih => intro w v h; exact ih w v h
  | store m a u k ih => intro w v h; cases h
  | new o k ih => intro w v h; cases h
  | freeze a n k ih => intro w v h; cases h
  | setObj r o k ih => intro w v h; cases h
  | choose q k ih => intro w v h; cases h
  | sys c k ih => intro w v h; cases h
  | halt x => intro w v h; cases h

theorem hwx_mono {α : Type} {P : Program} {K K' : α → Hp → Prop} {X X' : Value → Hp → Prop} (hk : ∀ a H, K a H → K' a H) (hx : ∀ v H, X v H → X' v H) : ∀ (s : Sem α) (H : Hp), hwx P s K X H → hwx P s K' X' H := by
  intro s
  induction s with
  | pure a => intro H h; exact hk _ _ h
  | load m a k ih => intro H h; simp only [hwx] at h ⊢; cases hc : cellH H a <;> rw [hc] at h <;> first | exact h.elim | exact ih _ _ h
  | store m a v k ih => intro H h; exact ⟨h.1, h.2.1, h.2.2.1, ih _ h.2.2.2⟩
  | new o k ih => intro H h; exact ih _ _ h
  | shape r k ih => intro H h; exact ih _ _ h
  | freeze a n k ih => intro H h; exact ih _ h
  | frozen a k ih => intro H h; exact ih _ _ h
  | getObj r k ih => intro H h; simp only [hwx] at h ⊢; cases hc : H[r]? <;> rw [hc] at h <;> first | exact h.elim | exact ⟨h.1, ih _ _ h.2⟩
  | setObj r o k ih => intro H h; simp only [hwx] at h ⊢; cases hc : H[r]? <;> rw [hc] at h <;> first | exact h.elim | exact ⟨h.1, ih _ h.2⟩
  | choose q k ih =>
    intro H h
    simp only [hwx] at h ⊢
    split at h
    · rename_i hq; rw [if_pos hq]; exact ih _ _ h
    · rename_i hq; rw [if_neg hq]; exact fun t => ih _ _ (h t)
  | sys c k ih => intro H h; exact h.elim
  | program k ih => intro H h; exact ih _ _ h
  | mark m k ih => intro H h; exact ih _ h
  | halt x => intro H h; cases x <;> first | exact hx _ _ h | exact h.elim

/-- An operation that yields one value and leaves the heap as it is. -/
def qA (P : Program) (o : O) (F : Fr) (H : Hp) (K : Value → Prop) : Prop :=
  (o.op.operands.all fun x => (evo F x).isSome) = true ∧
    match rd P (execOp (evd F) o.oper) H with
    | some (.value v) => K v
    | some .skip => K undef
    | some (.enter f args) => ∃ v, QCall P f args H v ∧ K v
    | _ => False

theorem qA_mono {P : Program} {o : O} {F : Fr} {H : Hp} {K K' : Value → Prop} (hk : ∀ v, K v → K' v) (h : qA P o F H K) : qA P o F H K' := by
  obtain ⟨h1, h2⟩ := h
  refine ⟨h1, ?_⟩
  generalize rd P (execOp (evd F) o.oper) H = r at h2 ⊢
  cases r with
  | none => exact h2.elim
  | some nx =>
    cases nx <;> first | exact hk _ h2 | exact h2.elim | (obtain ⟨v, a, b⟩ := h2; exact ⟨v, a, hk _ b⟩)

/-- The first k are quiet. -/
def aq (P : Program) (K : Fr → Hp → Prop) (X : List PanicEntry → Hp → Prop) : Nat → List O → Fr → Hp → Prop
  | 0, l, F, H => aops P K X l F H
  | _ + 1, [], F, H => K F H
  | k + 1, o :: r, F, H => match o.guard with
    | none => qA P o F H fun v => aq P K X k r (upd o.dst v F) H
    | some (s, b) => match look? F s with
      | some (.bool c) => if c = b then qA P o F H fun v => aq P K X k r (upd o.dst v F) H else aq P K X k r (upd o.dst undef F) H
      | some _ => aq P K X k r (upd o.dst undef F) H
      | none => False

def Cls (w w' : World) : Prop := EnvEq w w' ∧ w'.heap = w.heap

theorem qA_quiet {P : Program} {o : O} {r : Oper} {n : Nat} {F : Fr} {a : Act} {w : World} {K : Value → Prop}
    (h1 : r.op = o.op) (h2 : r.type = o.type) (hs : ∀ cs b, r.op ≠ .select cs b) (hF : FrOK n F a) (h : qA P o F w.heap K) :
    r.quiet P a (Cls w) (fun a' => ∃ v, a' = a.put r.dst v ∧ K v) := by
  obtain ⟨hk, hr⟩ := h
  have hex : execOp a.eval r = execOp (evd F) o.oper := by
    have e1 : execOp a.eval r = execOp (evd F) r := execOp_congr r hs fun x hx => by
      rw [h1] at hx
      have := (Array.all_eq_true_iff_forall_mem.1 hk) x hx
      obtain ⟨v, hv⟩ := Option.isSome_iff_exists.1 this
      rw [hF.eval hv, evd, hv]; rfl
    rw [e1]
    unfold execOp O.oper
    simp only [h1, h2]
  unfold Oper.quiet Oper.quietAt
  rw [hex]
  cases hrd : rd P (execOp (evd F) o.oper) w.heap with
  | none => rw [hrd] at hr; exact hr.elim
  | some nx =>
    rw [hrd] at hr
    have hrun : ∀ w', Cls w w' → (execOp (evd F) o.oper).run P w' = .ok nx w' := fun w' hw' => run_of_rd _ _ _ (by rw [hw'.2]; exact hrd)
    cases nx <;> simp only at hr
    case value v => exact ⟨v, fun w' hw' => by rw [hrun w' hw']; exact ⟨rfl, rfl⟩, v, rfl, hr⟩
    case skip => exact ⟨undef, fun w' hw' => by rw [hrun w' hw']; exact ⟨rfl, rfl⟩, undef, rfl, hr⟩
    case enter f args =>
      obtain ⟨v, hc, hk⟩ := hr
      refine ⟨v, fun w' hw' => ?_, v, rfl, hk⟩
      rw [hrun w' hw']
      refine ⟨rfl, (hc _ (Ext.refl _) w' hw'.2).mono fun e w2 ⟨he, h3, h4⟩ => ⟨h3, hw'.1.trans he, h4⟩⟩

theorem aq_quiet {P : Program} {n : Nat} {ops : Array Oper} {K : Fr → Hp → Prop} {X : List PanicEntry → Hp → Prop} {w : World} {a0 : Act} (all : Array Oper)
    (hy : ∀ o ∈ ops.toList, ∀ g b, o.guard = some (g, b) → (ops[g]?).bind (·.dst) = (all[g]?).bind (·.dst)) :
    ∀ (l : List Oper), (∀ o ∈ l, o ∈ ops.toList ∧ okOper n all o = true) → ∀ (m : List Oper) (F : Fr) (a : Act), FrOK n F a → Dfs a0 a → aq P K X l.length ((l ++ m).map (toO all)) F w.heap →
      wpQuiet P ops (Cls w) (fun a' => ∃ F', FrOK n F' a' ∧ Dfs a0 a' ∧ aops P K X (m.map (toO all)) F' w.heap) l a := by
  intro l
  induction l with
  | nil => intro _ m F a hF hD h; exact ⟨F, hF, hD, h⟩
  | cons o r ih =>
    intro hok m F a hF hD h
    obtain ⟨hmem, hoo⟩ := hok o (by simp)
    have hr := fun x hx => hok x (List.mem_cons_of_mem _ hx)
    obtain ⟨hw1, hw2, hw3⟩ := wanted_of_guard hoo hF
    have hwant : Region.wanted o (yielded ops a.tmps) = Region.wanted o (yielded all a.tmps) := by
      unfold Region.wanted
      cases hg : o.guard with
      | none => rfl
      | some gb =>
        obtain ⟨g, b⟩ := gb
        simp only [yielded, hy o hmem g b hg]
    have main : qA P (toO all o) F w.heap (fun v => aq P K X r.length ((r ++ m).map (toO all)) (upd o.dst v F) w.heap) →
        o.quiet P a (Cls w) (wpQuiet P ops (Cls w) (fun a' => ∃ F', FrOK n F' a' ∧ Dfs a0 a' ∧ aops P K X (m.map (toO all)) F' w.heap) r) := by
      intro hop
      refine Oper.quiet_mono ?_ (qA_quiet (r := o) (n := n) (w := w) (by rfl) (by rfl) (okOper_sel hoo) hF hop)
      rintro a' ⟨v, rfl, hh⟩
      exact ih hr m _ _ (hF.put _ (okOper_dst hoo) v) (hD.put _ _) hh
    simp only [List.length_cons, List.cons_append, List.map_cons, aq, toO] at h
    simp only [wpQuiet]
    cases hg : guardOf all o with
    | none =>
      rw [hg] at h
      rw [hwant, hw2 hg, if_pos rfl]
      exact main (by simpa only [toO, hg] using h)
    | some sb =>
      obtain ⟨s, b⟩ := sb
      rw [hg] at h
      simp only at h
      split at h
      · rename_i c hc
        rw [hwant, hw1 s b c hg hc]
        by_cases hcb : c = b
        · rw [if_pos hcb] at h
          simp only [hcb, decide_true, if_true]
          exact main (by simpa only [toO, hg] using h)
        · rw [if_neg hcb] at h
          simp only [hcb, decide_false, Bool.false_eq_true, if_false]
          exact ih hr m _ _ (hF.put _ (okOper_dst hoo) undef) (hD.put _ _) h
      · rename_i v hnb hc
        rw [hwant, hw3 s b v hg hc (fun c h => hnb c h)]
        simp only [Bool.false_eq_true, if_false]
        exact ih hr m _ _ (hF.put _ (okOper_dst hoo) undef) (hD.put _ _) h
      · exact h.elim

/-! ### A head in any order, then a tail in one -/

def headDone (ops : Array Oper) (k : Nat) : Array Bool := Array.replicate k true ++ Array.replicate (ops.size - k) false

def guardsB (ops : Array Oper) (k : Nat) : Bool :=
  (List.range k).all fun i => match (ops[i]?).bind (·.guard) with
    | some (g, _) => decide (g < k)
    | none => true

def depsB (ops : Array Oper) (k : Nat) : Bool :=
  (List.range k).all fun i => (((ops[i]?).map (·.after)).getD #[]).all fun e => !Region.binds .any e || decide (e.on < i)

theorem least_un {listed : Array Bool} : ∀ (i : Nat) {k : Nat}, i < k → listed.getD i true = false → ∃ j, j < k ∧ listed.getD j true = false ∧ ∀ m, m < j → listed.getD m true = true := by
  intro i
  induction i using Nat.strongRecOn with
  | _ i ih =>
    intro k hi hun
    by_cases h : ∃ m, m < i ∧ listed.getD m true = false
    · obtain ⟨m, hm, hmu⟩ := h
      exact ih m hm (by omega) hmu
    · refine ⟨i, hi, hun, fun m hm => ?_⟩
      cases hl : listed.getD m true with
      | true => rfl
      | false => exact absurd ⟨m, hm, hl⟩ h

theorem filter_drop_one {i : Nat} {p q : Nat → Bool} (hp : p i = true) (hq : q i = false) (hs : ∀ j, j ≠ i → q j = p j) : ∀ {k : Nat}, i < k → ((List.range k).filter q).length + 1 = ((List.range k).filter p).length := by
  intro k
  induction k with
  | zero => intro h; omega
  | succ k ih =>
    intro h
    rw [List.range_succ, List.filter_append, List.filter_append, List.length_append, List.length_append]
    by_cases hik : i = k
    · subst hik
      have : (List.range i).filter q = (List.range i).filter p := List.filter_congr fun j hj => hs j (by have := List.mem_range.1 hj; omega)
      rw [this]
      simp [hp, hq]
    · have h1 := ih (by omega)
      have h2 : q k = p k := hs k (Ne.symm hik)
      simp only [List.filter_cons, List.filter_nil, h2]
      split <;> simp <;> omega

def splitB (ops : Array Oper) (k : Nat) : Bool :=
  decide (k < ops.size) && Region.noSelect ops && guardsB ops k && depsB ops k && Region.sinkB .any ops k && Region.chainB .any ops k && Region.lexB .any (ops.extract 0 k) && Region.seqB .any ops (ops.size - k) k (headDone ops k)

def splitOf (ops : Array Oper) : Option Nat :=
  match (List.range ops.size).find? fun k => splitB ops k with
  | some k => some k
  | none => if (Region.lexB .any ops && guardsB ops ops.size) = true then some ops.size else none

theorem splitOf_ok {ops : Array Oper} {k : Nat} (h : splitOf ops = some k) : (k = ops.size ∧ Region.lexB .any ops = true ∧ guardsB ops ops.size = true) ∨ splitB ops k = true := by
  unfold splitOf at h
  split at h
  · rename_i k' hk
    have : k' = k := Option.some.inj h
    subst this
    exact .inr (List.find?_some hk)
  · split at h
    · rename_i hb
      simp only [Bool.and_eq_true] at hb
      exact .inl ⟨(Option.some.inj h).symm, hb⟩
    · cases h

theorem ready_head {ops : Array Oper} {k i : Nat} {listed : Array Bool} (hk : k ≤ ops.size) (inv : HeadInv .any ops k listed) (hi : i < k) (h : i ∈ Region.ready .any ops listed) :
    i ∈ Region.ready .any (ops.extract 0 k) (listed.extract 0 k) := by
  obtain ⟨h0, o, ho, hall⟩ := mem_ready.1 h
  have hsz := inv.size
  have ho' : (ops.extract 0 k)[i]? = some o := by
    rw [Array.getElem?_extract]; simp [ho]; omega
  refine mem_ready.2 ⟨?_, o, ho', fun e he hb => ?_⟩
  · have : i < listed.size := by omega
    simp [this] at h0
    have h3 : i < min k listed.size := by omega
    simp [h3, h0]
  · have h1 := hall e he hb
    have hlt : e.on < k := by
      rcases Nat.lt_or_ge e.on k with h2 | h2
      · exact h2
      · rcases Nat.lt_or_ge e.on ops.size with h3 | h3
        · have h4 := inv.tail e.on h2 h3
          have h5 : e.on < listed.size := by omega
          simp [h5] at h4 h1
          rw [h4] at h1; cases h1
        · have h5 : ¬ e.on < listed.size := by omega
          simp [h5] at h1
    have h5 : e.on < listed.size := by omega
    simp [h5] at h1
    have h3 : e.on < min k listed.size := by omega
    simp [h3, h1]

theorem Oper.wpIn_of_quiet {P : Program} {ro : Option Nat} {C : World → Prop} {o : Oper} {a : Act} {K : Act → Prop} {K' : Act → World → Prop} {Q' : Exit → Act → World → Prop} {w : World} (hd : ∀ c, o.op ≠ .defer c) (hw : C w) (h : ∀ a w', C w' → K a → K' a w') (hh : o.quiet P a C K) : o.wpIn (WF ro) 0 P a w K' Q' := by
  obtain ⟨v, h1, h2⟩ := hh
  have h3 := h1 w hw
  unfold Oper.quietAt at h3
  unfold Oper.wpIn
  refine ⟨fun _ _ => trivial, ?_⟩
  rw [Oper.semAt_eq _ _ _ hd]
  generalize (execOp a.eval o).run P w = r at *
  cases r with
  | ok n w' =>
    cases n <;> simp only [Oper.quietUpon] at h3 <;> simp only [Oper.uponIn]
    case value u =>
      obtain ⟨e1, e2⟩ := h3
      rw [e1, e2]
      exact h _ _ hw h2
    case skip =>
      obtain ⟨e1, e2⟩ := h3
      rw [e1, ← e2]
      exact h _ _ hw h2
    case enter f args =>
      obtain ⟨e1, hc⟩ := h3
      rw [e1]
      exact ⟨fun h => (by cases h), callsIn_WF (hc.mono fun e w'' ⟨he, hw''⟩ => by subst he; exact h _ _ hw'' h2)⟩
  | halt x w' => simp only [Oper.quietUpon] at h3

theorem wpOpIn_of_qOp {P : Program} {ro : Option Nat} {C : World → Prop} {ops : Array Oper} {i : Nat} {a : Act} {K : Act → Prop} {K' : Act → World → Prop} {Q' : Exit → Act → World → Prop} {w : World} (hd : ∀ o ∈ ops.toList, ∀ c, o.op ≠ .defer c) (hC : C w) (h : ∀ a w', C w' → K a → K' a w') (hh : qOp P ops C i K a) : wpOpIn (WF ro) 0 P ops Q' i K' a w := by
  unfold qOp at hh
  unfold wpOpIn
  split
  · rename_i ho; simp only [ho] at hh; exact h _ _ hC hh
  · rename_i o ho
    simp only [ho] at hh
    split
    · rename_i hw; simp only [hw, if_true] at hh; exact Oper.wpIn_of_quiet (hd o (Array.mem_toList_iff.2 (Array.mem_of_getElem? ho))) hC h hh
    · rename_i hw; simp only [hw] at hh; exact ⟨fun _ _ => trivial, h _ _ hC hh⟩

theorem wpAnyIn_of_quiet {P : Program} {ro : Option Nat} {C : World → Prop} {md : Region.Mode} {ops : Array Oper} (hd : ∀ o ∈ ops.toList, ∀ c, o.op ≠ .defer c) {Q : Act → Prop} {Q' : Exit → Act → World → Prop} (hQ : ∀ a w, C w → Q a → Q' .normal a w) : ∀ (fuel : Nat) (listed : Array Bool) (a : Act) (w : World), C w →
    wpAnyQ P md ops C Q fuel listed a → wpAnyIn (WF ro) 0 P md ops Q' fuel listed a w
  | 0, _, _, _, hw, h => ⟨h.1, hQ _ _ hw h.2⟩
  | fuel + 1, _, _, _, hw, h => ⟨fun h0 => hQ _ _ hw (h.1 h0), fun i hi => wpOpIn_of_qOp hd hw (fun a' w' hw' => wpAnyIn_of_quiet hd hQ fuel _ a' w' hw') (h.2 i hi)⟩

theorem wpAnyIn_of_seq {P : Program} {F : Fence} {n : Nat} {md : Region.Mode} {ops : Array Oper} {Q' : Exit → Act → World → Prop} : ∀ (l : List Oper) (k : Nat) (listed : Array Bool) (a : Act) (w : World), (∀ j, l[j]? = ops[k + j]?) →
    Region.seqB md ops l.length k listed = true → wpListIn F n P ops Q' l a w → wpAnyIn F n P md ops Q' l.length listed a w
  | [], _, _, _, _, _, hB, h => ⟨by simpa [Region.seqB] using hB, h⟩
  | o :: l, k, listed, a, w, hl, hB, h => by
    have h0 : ops[k]? = some o := by simpa using (hl 0).symm
    simp only [List.length_cons, Region.seqB, Bool.and_eq_true, decide_eq_true_eq] at hB
    refine ⟨fun h1 => (by rw [hB.1] at h1; cases h1), fun i hi => ?_⟩
    rw [hB.1] at hi
    have hik : i = k := by simpa using hi
    subst hik
    have hw : wpOpIn F n P ops Q' i (wpListIn F n P ops Q' l) a w := by unfold wpOpIn; simp only [h0]; exact h
    exact wpOpIn_mono (fun a' w' h' => wpAnyIn_of_seq l (i + 1) _ a' w' (fun j => by have := hl (j + 1); simpa [Nat.add_assoc, Nat.add_comm 1 j] using this) hB.2 h') hw

theorem wpOp_of_qOp_head {P : Program} {ro : Option Nat} {ops : Array Oper} {C : World → Prop} {k i : Nat} {a : Act} {w : World} {Q : Exit → Act → World → Prop} {K : Act → Prop} {K' : Act → World → Prop} (hk : k ≤ ops.size) (hi : i < k) (hg : guardsB ops k = true) (hC : C w) (hd : ∀ o ∈ (ops.extract 0 k).toList, ∀ c, o.op ≠ .defer c)
    (h : ∀ a w', C w' → K a → K' a w') (hh : qOp P (ops.extract 0 k) C i K a) : wpOpIn (WF ro) 0 P ops Q i K' a w := by
  have h1 : (ops.extract 0 k)[i]? = ops[i]? := by
    have h2 : i < min k ops.size := by omega
    rw [Array.getElem?_extract]; simp [h2]
  have := wpOpIn_of_qOp (ro := ro) (Q' := Q) hd hC h hh
  unfold wpOpIn at this ⊢
  rw [h1] at this
  cases ho : ops[i]? with
  | none => rw [ho] at this; exact this
  | some o =>
    rw [ho] at this
    simp only at this ⊢
    have hwant : Region.wanted o (yielded (ops.extract 0 k) a.tmps) = Region.wanted o (yielded ops a.tmps) := by
      unfold Region.wanted
      cases hgo : o.guard with
      | none => rfl
      | some gb =>
        obtain ⟨g, b⟩ := gb
        have h3 := List.all_eq_true.1 hg i (List.mem_range.2 hi)
        rw [ho] at h3
        simp only [Option.bind_some, hgo, decide_eq_true_eq] at h3
        have h4 : g < ops.size := by omega
        have h5 : g < min k ops.size := by omega
        simp only [yielded, Array.getElem?_extract]
        simp [h4, h5]
    rw [hwant] at this
    exact this

theorem wpAny_head {P : Program} {ro : Option Nat} {ops : Array Oper} {C : World → Prop} {k : Nat} {L : Act → Prop} {Q : Exit → Act → World → Prop} (hk : k < ops.size) (hg : guardsB ops k = true) (hs : Region.sinkB .any ops k = true) (hc : Region.chainB .any ops k = true) (hd : depsB ops k = true) (hdf : ∀ o ∈ (ops.extract 0 k).toList, ∀ c, o.op ≠ .defer c)
    (hL : ∀ a w, C w → L a → wpAnyIn (WF ro) 0 P .any ops Q (ops.size - k) (headDone ops k) a w) :
    ∀ (f : Nat) (listed : Array Bool) (a : Act) (w : World), C w → HeadInv .any ops k listed → ((List.range k).filter fun i => !listed.getD i true).length = f →
      wpAnyQ P .any (ops.extract 0 k) C L f (listed.extract 0 k) a → wpAnyIn (WF ro) 0 P .any ops Q (f + (ops.size - k)) listed a w := by
  intro f
  induction f with
  | zero =>
    intro listed a w hw inv hcount h
    have hall : ∀ i, i < k → listed.getD i true = true := by
      intro i hi
      have h1 : (List.range k).filter (fun i => !listed.getD i true) = [] := List.length_eq_zero_iff.1 hcount
      have h2 := List.filter_eq_nil_iff.1 h1 i (List.mem_range.2 hi)
      simpa using h2
    have hl : listed = headDone ops k := by
      apply Array.ext
      · rw [inv.size]; simp [headDone]; omega
      · intro i h1 h2
        rw [inv.size] at h1
        by_cases hik : i < k
        · have h3 := hall i hik
          have h4 : i < listed.size := by rw [inv.size]; exact h1
          simp [h4] at h3
          simp [headDone, hik, h3]
        · have h3 := inv.tail i (by omega) h1
          have h4 : i < listed.size := by rw [inv.size]; exact h1
          simp [h4] at h3
          simp only [headDone]
          rw [Array.getElem_append_right (by simpa using hik)]
          simp [h3]
    subst hl
    rw [Nat.zero_add]
    exact hL a w hw h.2
  | succ f ih =>
    intro listed a w hw inv hcount h
    have hex : ∃ i, i < k ∧ listed.getD i true = false := by
      have h1 : (List.range k).filter (fun i => !listed.getD i true) ≠ [] := by intro h0; rw [h0] at hcount; cases hcount
      obtain ⟨i, hi⟩ := List.exists_mem_of_ne_nil _ h1
      rw [List.mem_filter, List.mem_range] at hi
      exact ⟨i, hi.1, by simpa using hi.2⟩
    obtain ⟨i0, hi0, hun0⟩ := hex
    have hnone := tail_waits hs hc hk inv (k - i0) i0 rfl hi0 hun0
    rw [show f + 1 + (ops.size - k) = (f + (ops.size - k)) + 1 by omega]
    have hne : Region.ready .any ops listed ≠ [] := by
      obtain ⟨i1, hi1, hun1, hlow⟩ := least_un i0 hi0 hun0
      have : i1 ∈ Region.ready .any ops listed := by
        have hlt : i1 < ops.size := by omega
        refine mem_ready.2 ⟨hun1, ops[i1], by simp [hlt], fun e he hb => ?_⟩
        have h1 := List.all_eq_true.1 hd i1 (List.mem_range.2 hi1)
        simp only [Array.getElem?_eq_getElem hlt, Option.getD_some] at h1
        have h2 := (Array.all_eq_true_iff_forall_mem.1 h1) e he
        simp only [hb, Bool.not_true, Bool.false_or, decide_eq_true_eq] at h2
        have h3 := hlow e.on h2
        have h4 : e.on < listed.size := by rw [inv.size]; omega
        simp [h4] at h3 ⊢
        exact h3
      intro h0; rw [h0] at this; cases this
    refine ⟨fun h0 => absurd h0 hne, fun i hi => ?_⟩
    have hik : i < k := by
      rcases Nat.lt_or_ge i k with h1 | h1
      · exact h1
      · exact absurd hi (hnone i h1)
    have hir := ready_head (by omega) inv hik hi
    refine wpOp_of_qOp_head (by omega) hik hg hw hdf (fun a' w' hw' h' => ?_) (h.2 i hir)
    have hun : listed.getD i true = false := (mem_ready.1 hi).1
    have hlt : i < listed.size := by rw [inv.size]; omega
    refine ih (listed.setIfInBounds i true) a' w' hw' (inv.set hi hik) ?_ ?_
    · have := filter_drop_one (k := k) (i := i) (p := fun j => !listed.getD j true) (q := fun j => !(listed.setIfInBounds i true).getD j true) (by simp only [hun, Bool.not_false]) (by simp [hlt]) (fun j hj => by rw [getD_set_ne true (Ne.symm hj)]) hik
      omega
    · have : (listed.setIfInBounds i true).extract 0 k = (listed.extract 0 k).setIfInBounds i true := by
        apply Array.ext_getElem?
        intro j
        simp only [Array.getElem?_extract, Array.getElem?_setIfInBounds, Array.size_extract]
        by_cases hji : i = j
        · subst hji; simp [hik, hlt]
        · simp [hji]
      rw [this]
      exact h'


theorem guardsB_spec {ops : Array Oper} {k : Nat} (h : guardsB ops k = true) (hk : k ≤ ops.size) : ∀ o ∈ (ops.extract 0 k).toList, ∀ g b, o.guard = some (g, b) → ((ops.extract 0 k)[g]?).bind (·.dst) = (ops[g]?).bind (·.dst) := by
  intro o ho g b hg
  obtain ⟨i, hi, hio⟩ := List.getElem_of_mem ho
  simp only [Array.length_toList, Array.size_extract] at hi
  have hik : i < k := by omega
  have h1 := List.all_eq_true.1 h i (List.mem_range.2 hik)
  have h2 : ops[i]? = some o := by
    have h3 : i < ops.size := by omega
    rw [Array.getElem?_eq_getElem h3]
    simp at hio
    simp [hio]
  rw [h2] at h1
  simp only [Option.bind_some, hg, decide_eq_true_eq] at h1
  have h4 : g < min k ops.size := by omega
  rw [Array.getElem?_extract]
  simp [h4]

theorem draw_sound {P : Program} {ro : Option Nat} (hm : P.follows .mixedOrders = true) {n id k : Nat} {ops : Array Oper} {K : Fr → Hp → Prop} {X : List PanicEntry → Hp → Prop} {Q : Exit → Act → World → Prop} {F : Fr} {a : Act} {w0 w : World} {a0 : Act}
    (hK : ∀ F a w, FrOK n F a → Dfs a0 a → EnvEq w0 w → K F w.heap → Q .normal a w) (hX : ∀ c a w, FrOK n [] a → Dfs a0 a → EnvEq w0 w → X c w.heap → Q (.panic c) a w) (h0 : w0 = w) (hDa : Dfs a0 a)
    (hs : splitOf ops = some k) (hok : ∀ o ∈ ops.toList, okOper n ops o = true) (ha : FrOK n F a) (h : aq P K X k (ops.toList.map (toO ops)) F w.heap) : (Code.region id ops true).wpIn (WF ro) 0 P Q a w := by
  subst h0
  have hd : Cls w0 { w0 with drawn := w0.drawn + 1 } := ⟨.drawn w0 _, rfl⟩
  have hdf : ∀ o ∈ ops.toList, ∀ c, o.op ≠ .defer c := fun o ho => okOper_def (hok o ho)
  rcases splitOf_ok hs with ⟨rfl, hlex, hg⟩ | hB
  · refine wpIn_region_any hm ?_
    have hq := aq_quiet (n := n) (ops := ops) (w := w0) (a0 := a0) ops (fun _ _ _ _ _ => rfl) ops.toList (fun o ho => ⟨ho, hok o ho⟩) [] F a ha hDa (by simpa using h)
    simp only [Region.lexB, Bool.and_eq_true] at hlex
    have := wpAnyQ_lex (C := Cls w0) (md := .any) hlex.1 ops.toList 0 (Array.replicate ops.size false) a (by simp) (by simpa using hlex.2) hq
    refine wpAnyIn_of_quiet (C := Cls w0) (Q := fun a' => ∃ F', FrOK n F' a' ∧ Dfs a0 a' ∧ aops P K X (([] : List Oper).map (toO ops)) F' w0.heap) hdf ?_ _ _ _ _ hd (by simpa using this)
    rintro a' w' hw' ⟨F', hF', hD', hk⟩
    exact hK F' a' w' hF' hD' hw'.1 (by rw [hw'.2]; exact hk)
  · simp only [splitB, Bool.and_eq_true, decide_eq_true_eq] at hB
    obtain ⟨⟨⟨⟨⟨⟨⟨hk, hsel⟩, hg⟩, hdep⟩, hsink⟩, hchain⟩, hlex⟩, hseq⟩ := hB
    refine wpIn_region_any hm ?_
    have htl : (ops.extract 0 k).toList.length = k := by simp; omega
    have hle : k ≤ ops.size := by omega
    have hsplit : ops.toList = (ops.extract 0 k).toList ++ (ops.toList.drop k) := by
      rw [Array.toList_extract]; simp [List.extract]
    have hq := aq_quiet (P := P) (K := K) (X := X) (n := n) (ops := ops.extract 0 k) (w := w0) (a0 := a0) ops (guardsB_spec hg hle) (ops.extract 0 k).toList (fun o ho => ⟨ho, hok o (by rw [hsplit]; exact List.mem_append_left _ ho)⟩) (ops.toList.drop k) F a ha hDa (by rw [htl, ← hsplit]; exact h)
    have hsel' := Region.noSelect_spec hsel
    simp only [Region.lexB, Bool.and_eq_true] at hlex
    have hlexq := wpAnyQ_lex (C := Cls w0) (md := .any) hlex.1 (ops.extract 0 k).toList 0 (Array.replicate (ops.extract 0 k).size false) a (fun j => by simp only [Array.getElem?_toList, Nat.zero_add]) (by simpa using hlex.2) hq
    have hsz : (ops.extract 0 k).size = k := by simp; omega
    have hrep : (Array.replicate ops.size false).extract 0 k = Array.replicate (ops.extract 0 k).size false := by
      apply Array.ext
      · simp
      · intro i h1 h2; simp
    have inv0 : HeadInv .any ops k (Array.replicate ops.size false) :=
      ⟨by simp, fun j oj _ hl => (by rw [getD_replicate_false] at hl; cases hl), fun t _ ht => getD_in (by simpa using ht) (getD_replicate_false _ _)⟩
    have hcount : ((List.range k).filter fun i => !(Array.replicate ops.size false).getD i true).length = k := by
      have : (List.range k).filter (fun i => !(Array.replicate ops.size false).getD i true) = List.range k := by
        apply List.filter_eq_self.2
        intro i hi
        have h1 := List.mem_range.1 hi
        have h2 : i < ops.size := by omega
        simp [h2]
      rw [this]; simp
    have hdf' : ∀ o ∈ (ops.extract 0 k).toList, ∀ c, o.op ≠ .defer c := fun o ho => hdf o (by rw [hsplit]; exact List.mem_append_left _ ho)
    have H := wpAny_head (ro := ro) (P := P) (C := Cls w0) (Q := Q) (L := fun a' => ∃ F', FrOK n F' a' ∧ Dfs a0 a' ∧ aops P K X ((ops.toList.drop k).map (toO ops)) F' w0.heap) hk hg hsink hchain hdep hdf' (fun a' w' hw' ⟨F', hF', hD', hh⟩ => by
      have hl : (ops.toList.drop k).length = ops.size - k := by simp
      have := wpAnyIn_of_seq (F := WF ro) (n := 0) (P := P) (md := .any) (ops := ops) (Q' := Q) (ops.toList.drop k) k (headDone ops k) a' w' (fun j => by simp [List.getElem?_drop]) (by rw [hl]; exact hseq)
        (aops_sound (ro := ro) (n := n) (w0 := w0) (a0 := a0) hK hX (ops.toList.drop k) (fun o ho => hok o (List.mem_of_mem_drop ho)) F' a' w' hF' hD' hw'.1 (by rw [hw'.2]; exact hh))
      rwa [hl] at this) k (Array.replicate ops.size false) a { w0 with drawn := w0.drawn + 1 } hd inv0 hcount (by rw [hrep]; rw [htl] at hlexq; exact hlexq)
    rwa [show k + (ops.size - k) = ops.size by omega] at H

end Go.Hw

/- Regions that draw their order: quiet operations taken first, the others one behind the other; over the heap alone. -/
set_option linter.unusedSimpArgs false
set_option linter.unusedVariables false
namespace Go.Hw

theorem ext_get {H H' : Hp} (h : Ext H H') {b : Nat} {o : Obj} (hb : H[b]? = some o) : H'[b]? = some o := by
  refine (h.blk b ?_).trans hb
  rcases Nat.lt_or_ge b H.size with h1 | h1
  · exact h1
  · rw [Array.getElem?_eq_none h1] at hb; cases hb

/-- What is read is read in every heap that holds more. -/
theorem rd_ext {α : Type} {P : Program} {H G : Hp} (e : Ext H G) : ∀ (s : Sem α) (v : α), rd P s H = some v → rd P s G = some v := by
  intro s
  induction s with
  | pure a => intro v h; exact h
  | load m a k ih =>
    intro v h
    simp only [rd] at h ⊢
    have hc : ∀ u, cellH H a = some u → cellH G a = some u := by
      intro u hu
      unfold cellH at hu ⊢
      cases hb : H[a.block]? with
      | none => rw [hb] at hu; cases hu
      | some o => rw [hb] at hu; rw [ext_get e hb]; exact hu
    cases hca : cellH H a with
    | none => rw [hca] at h; cases h
    | some u => rw [hca] at h; rw [hc u hca]; exact ih u v h
  | shape r k ih =>
    intro v h
    simp only [rd] at h ⊢
    split at h
    · rename_i hr
      rw [if_pos (Nat.lt_of_lt_of_le hr e.size)]
      have : shapeH G r = shapeH H r := by unfold shapeH; rw [e.blk r hr]
      rw [this]; exact ih _ v h
    · cases h
  | frozen a k ih =>
    intro v h
    simp only [rd] at h ⊢
    split at h
    · rename_i hr
      rw [if_pos (Nat.lt_of_lt_of_le hr e.size)]
      have : frozenH G a = frozenH H a := by unfold frozenH; rw [e.blk a.block hr]
      rw [this]; exact ih _ v h
    · cases h
  | getObj r k ih =>
    intro v h
    simp only [rd] at h ⊢
    cases ho : H[r]? with
    | none => rw [ho] at h; cases h
    | some o =>
      rw [ho] at h
      rw [ext_get e ho]
      simp only at h ⊢
      split at h
      · cases h
      · rename_i hc; rw [if_neg hc]; exact ih o v h
  | program k ih => intro v h; exact ih _ v h
  | mark m k ih => intro v h; exact ih v h
  | store m a u k ih => intro v h; cases h
  | new o k ih => intro v h; cases h
  | freeze a n k ih => intro v h; cases h
  | setObj r o k ih => intro v h; cases h
  | choose q k ih => intro v h; cases h
  | sys c k ih => intro v h; cases h
  | halt x => intro v h; cases h

theorem hwx_of_rd {α : Type} {P : Program} : ∀ (s : Sem α) (H : Hp) (v : α) {K : α → Hp → Prop} {X : Value → Hp → Prop}, rd P s H = some v → K v H → hwx P s K X H := by
  intro s
  induction s with
  | pure a => intro H v K X h hk; simp only [rd, Option.some.injEq] at h; subst h; exact hk
  | load m a k ih =>
    intro H v K X h hk
    simp only [rd, hwx] at h ⊢
    cases hc : cellH H a with
    | none => rw [hc] at h; cases h
    | some u => rw [hc] at h; exact ih u H v h hk
  | shape r k ih => intro H v K X h hk; simp only [rd] at h; split at h; exact ih _ H v h hk; cases h
  | frozen a k ih => intro H v K X h hk; simp only [rd] at h; split at h; exact ih _ H v h hk; cases h
  | getObj r k ih =>
    intro H v K X h hk
    simp only [rd, hwx] at h ⊢
    cases ho : H[r]? with
    | none => rw [ho] at h; cases h
    | some o =>
      rw [ho] at h
      simp only at h ⊢
      split at h
      · cases h
      · rename_i hc
        exact ⟨by simpa using hc, ih o H v h hk⟩
  | program k ih => intro H v K X h hk; exact ih _ H v h hk
  | mark m k ih => intro H v K X h hk; exact ih H v h hk
  | store m a u k ih => intro H v K X h hk; cases h
  | new o k ih => intro H v K X h hk; cases h
  | freeze a n k ih => intro H v K X h hk; cases h
  | setObj r o k ih => intro H v K X h hk; cases h
  | choose q k ih => intro H v K X h hk; cases h
  | sys c k ih => intro H v K X h hk; cases h
  | halt x => intro H v K X h hk; cases h

section
variable {P : Program} {ops : Array Oper} {X : List PanicEntry → Hp → Prop}

def opV (P : Program) (o : Oper) (a : Act) (K : Value → Hp → Prop) (X : List PanicEntry → Hp → Prop) (H : Hp) : Prop :=
  hwx P (execOp a.eval o) (nextK P K X) (fun v H' => X [{ v, recovered := false }] H') H

def hOp (P : Program) (ops : Array Oper) (X : List PanicEntry → Hp → Prop) (i : Nat) (K : Act → Hp → Prop) (a : Act) (H : Hp) : Prop :=
  match ops[i]? with
  | none => K a H
  | some o => if Region.wanted o (yielded ops a.tmps) then opV P o a (fun v H' => K (a.put o.dst v) H') X H else K (a.put o.dst undef) H

theorem nextK_mono {K K' : Value → Hp → Prop} (hk : ∀ v H, K v H → K' v H) {nx : Next} {H : Hp} (h : nextK P K X nx H) : nextK P K' X nx H := by
  cases nx <;> simp only [nextK] at h ⊢
  case value v => exact hk _ _ h
  case skip => exact hk _ _ h
  case enter f args => exact h.mono fun e H2 h2 => by cases e <;> simp only [callK] at h2 ⊢ <;> first | exact hk _ _ h2 | exact h2
  case round l f tmps assign body => exact h.mono fun e H2 h2 => by cases e <;> simp only [callK] at h2 ⊢ <;> first | exact hk _ _ h2 | exact h2

theorem opV_mono {o : Oper} {a : Act} {K K' : Value → Hp → Prop} (hk : ∀ v H, K v H → K' v H) {H : Hp} (h : opV P o a K X H) : opV P o a K' X H :=
  hwx_mono (fun nx H' hh => nextK_mono hk hh) (fun v H' hh => hh) _ _ h

theorem hOp_mono {i : Nat} {K K' : Act → Hp → Prop} (hk : ∀ a H, K a H → K' a H) {a : Act} {H : Hp} (h : hOp P ops X i K a H) : hOp P ops X i K' a H := by
  unfold hOp at *
  split
  · rename_i ho; simp only [ho] at h; exact hk _ _ h
  · rename_i o ho
    simp only [ho] at h
    split
    · rename_i hw; simp only [hw, if_true] at h; exact opV_mono (fun v H' hh => hk _ _ hh) h
    · rename_i hw; simp only [hw] at h; exact hk _ _ h

/-- Whatever order is picked; behind the operations of fl the heap holds what it held. -/
def hAny (P : Program) (ops : Array Oper) (fl : Nat → Bool) (X : List PanicEntry → Hp → Prop) (K : Act → Hp → Prop) : Nat → Array Bool → Act → Hp → Prop
  | 0, listed, a, H => Region.ready .any ops listed = [] ∧ K a H
  | f + 1, listed, a, H => (Region.ready .any ops listed = [] → K a H) ∧
    ∀ i ∈ Region.ready .any ops listed, hOp P ops X i (fun a' H' => (fl i = true → Ext H H') ∧ hAny P ops fl X K f (listed.setIfInBounds i true) a' H') a H

theorem hOp_sound {ro : Option Nat} {n : Nat} {Q : Exit → Act → World → Prop} {w0 : World} {a0 : Act} (hd : ∀ o ∈ ops.toList, ∀ c, o.op ≠ .defer c)
    (hX : ∀ c a w, a.tmps.size = n → Dfs a0 a → EnvEq w0 w → X c w.heap → Q (.panic c) a w) {i : Nat} {K : Act → Hp → Prop} {K' : Act → World → Prop}
    (hK : ∀ a w, a.tmps.size = n → Dfs a0 a → EnvEq w0 w → K a w.heap → K' a w) {a : Act} {w : World} (hn : a.tmps.size = n) (hD : Dfs a0 a) (he : EnvEq w0 w) (h : hOp P ops X i K a w.heap) :
    wpOpIn (WF ro) 0 P ops Q i K' a w := by
  have hput : ∀ (d : Option Nat) (v : Value), (a.put d v).tmps.size = n := by intro d v; cases d <;> simp [Act.put, hn]
  unfold hOp at h
  unfold wpOpIn
  split
  · rename_i ho; simp only [ho] at h; exact hK _ _ hn hD he h
  · rename_i o ho
    simp only [ho] at h
    split
    · rename_i hw
      simp only [hw, if_true] at h
      unfold Oper.wpIn
      refine ⟨fun _ _ => trivial, ?_⟩
      rw [Oper.semAt_eq _ _ _ (hd o (Array.mem_toList_iff.2 (Array.mem_of_getElem? ho)))]
      obtain ⟨w', he', hres⟩ := run_of_hwx _ w h
      rcases hres with ⟨nx, hrun, hk⟩ | ⟨v, hrun, hx⟩
      · rw [hrun]
        cases nx <;> simp only [nextK] at hk <;> simp only [Oper.uponIn]
        case value v => exact hK _ _ (hput _ _) (hD.put _ _) (he.trans he') hk
        case skip => exact hK _ _ (hput _ _) (hD.put _ _) (he.trans he') hk
        case enter f args =>
          refine ⟨fun h => (by cases h), callsIn_WF ((hk w' rfl).mono fun e w2 ⟨he2, hK2⟩ => ?_)⟩
          cases e with
          | returned v => exact hK _ _ (hput _ _) (hD.put _ _) ((he.trans he').trans he2) hK2
          | panicked c => exact hX _ _ _ hn hD ((he.trans he').trans he2) hK2
          | outgrown => exact hK2.elim
        case round l f tmps assign body =>
          refine ⟨fun h => (by cases h), RoundIn.mono (F := Fence.wide) (hk w' rfl) fun e w2 ⟨he2, hK2⟩ => ?_⟩
          cases e with
          | returned v => exact hK _ _ (hput _ _) (hD.put _ _) ((he.trans he').trans he2) hK2
          | panicked c => exact hX _ _ _ hn hD ((he.trans he').trans he2) hK2
          | outgrown => exact hK2.elim
      · rw [hrun]
        exact hX _ _ _ hn hD (he.trans he') hx
    · rename_i hw
      simp only [hw] at h
      exact ⟨fun _ _ => trivial, hK _ _ (hput _ _) (hD.put _ _) he h⟩

theorem hAny_sound {ro : Option Nat} {n : Nat} {fl : Nat → Bool} {K : Act → Hp → Prop} {Q : Exit → Act → World → Prop} {w0 : World} {a0 : Act} (hd : ∀ o ∈ ops.toList, ∀ c, o.op ≠ .defer c)
    (hX : ∀ c a w, a.tmps.size = n → Dfs a0 a → EnvEq w0 w → X c w.heap → Q (.panic c) a w)
    (hK : ∀ a w, a.tmps.size = n → Dfs a0 a → EnvEq w0 w → K a w.heap → Q .normal a w) : ∀ (f : Nat) (listed : Array Bool) (a : Act) (w : World), a.tmps.size = n → Dfs a0 a → EnvEq w0 w → hAny P ops fl X K f listed a w.heap →
    wpAnyIn (WF ro) 0 P .any ops Q f listed a w
  | 0, listed, a, w, hn, hD, he, h => ⟨h.1, hK _ _ hn hD he h.2⟩
  | f + 1, listed, a, w, hn, hD, he, h =>
    ⟨fun h0 => hK _ _ hn hD he (h.1 h0), fun i hi => hOp_sound (n := n) (w0 := w0) (a0 := a0) hd hX (fun a' w' hn' hD' he' hh => hAny_sound hd hX hK f _ a' w' hn' hD' he' hh.2) hn hD he (h.2 i hi)⟩

/-! ### Taking a quiet operation first -/

def YieldsS (P : Program) (ops : Array Oper) (S : Hp → Prop) (o : Oper) (v : Value) (a : Act) : Prop :=
  (Region.wanted o (yielded ops a.tmps) = true ∧ ∀ G, S G → ∀ (K : Value → Hp → Prop) (X : List PanicEntry → Hp → Prop), K v G → opV P o a K X G) ∨
  (Region.wanted o (yielded ops a.tmps) = false ∧ v = undef)

theorem YieldsS.of_same {S : Hp → Prop} {o : Oper} {v : Value} {a a' : Act} (hy : YieldsS P ops S o v a) (he : execOp a'.eval o = execOp a.eval o)
    (hw : Region.wanted o (yielded ops a'.tmps) = Region.wanted o (yielded ops a.tmps)) : YieldsS P ops S o v a' := by
  unfold YieldsS opV at *
  rw [he, hw]
  exact hy

theorem YieldsS.hOp {S : Hp → Prop} {i : Nat} {o : Oper} {v : Value} {a : Act} (hi : ops[i]? = some o) (hy : YieldsS P ops S o v a) {K : Act → Hp → Prop} {H : Hp} (hS : S H) (h : K (a.put o.dst v) H) : hOp P ops X i K a H := by
  unfold Go.Hw.hOp
  simp only [hi]
  rcases hy with ⟨hw, hv⟩ | ⟨hw, rfl⟩
  · simp only [hw, if_true]; exact hv H hS _ _ h
  · simp only [hw, Bool.false_eq_true, if_false]; exact h

theorem hOp_putS {S : Hp → Prop} {j : Nat} {oi oj : Oper} {v : Value} (hj : ops[j]? = some oj) (hap : oi.apart ops oj = true)
    (hsi : ∀ cs b, oi.op ≠ .select cs b) (hsj : ∀ cs b, oj.op ≠ .select cs b) {K : Act → Hp → Prop} {a : Act} {H : Hp}
    (hy : YieldsS P ops S oi v a) (h : hOp P ops X j K (a.put oi.dst v) H) :
    hOp P ops X j (fun a' H' => YieldsS P ops S oi v a' ∧ K (a'.put oi.dst v) H') a H := by
  obtain ⟨h1, h2, h3⟩ := Oper.apart_spec hap
  have keep : ∀ u, YieldsS P ops S oi v (a.put oj.dst u) := fun u => hy.of_same (execOp_put oi hsi a oj.dst u h3) (wanted_put oi a oj.dst u h3)
  unfold hOp at *
  simp only [hj] at *
  rw [wanted_put oj a oi.dst v h1] at h
  split
  · rename_i hw
    simp only [hw, if_true] at h
    unfold opV at *
    rw [execOp_put oj hsj a oi.dst v h1] at h
    refine hwx_mono (fun nx H' hh => nextK_mono (fun u G hu => ⟨keep u, ?_⟩) hh) (fun v H' hh => hh) _ _ h
    rw [← Act.put_comm a v u h2]; exact hu
  · rename_i hw
    simp only [hw] at h
    exact ⟨keep _, by rw [← Act.put_comm a v undef h2]; exact h⟩

/-- What can come up before i does: C holds all that waits for none but what C holds. -/
def fixB (ops : Array Oper) (i : Nat) (C : Array Bool) : Bool :=
  (List.range ops.size).all fun j => j == i || C.getD j false || !((ops[j]?).map (·.after.all fun e => !Region.binds .any e || C.getD e.on false)).getD false

theorem fixB_spec {i : Nat} {C : Array Bool} (h : fixB ops i C = true) {listed : Array Bool} (hl : ∀ j, listed.getD j false = true → C.getD j false = true) {j : Nat} (hj : j ∈ Region.ready .any ops listed) (hne : j ≠ i) : C.getD j false = true := by
  obtain ⟨_, o, ho, hall⟩ := mem_ready.1 hj
  have hlt : j < ops.size := (Array.getElem?_eq_some_iff.1 ho).1
  have h1 := List.all_eq_true.1 h j (List.mem_range.2 hlt)
  simp only [ho, Option.map_some, Option.getD_some, Bool.or_eq_true, beq_iff_eq, Bool.not_eq_true'] at h1
  rcases h1 with (h1 | h1) | h1
  · exact absurd h1 hne
  · exact h1
  · have : (o.after.all fun e => !Region.binds .any e || C.getD e.on false) = true := by
      rw [Array.all_eq_true_iff_forall_mem]
      intro e he
      cases hb : Region.binds .any e with
      | false => rfl
      | true => simp only [Bool.not_true, Bool.false_or]; exact hl _ (hall e he hb)
    rw [this] at h1; cases h1

theorem hAny_first {S : Hp → Prop} {fl : Nat → Bool} {K : Act → Hp → Prop} {i : Nat} {oi : Oper} {v : Value} {C : Array Bool} {l0 : Array Bool} (hi : ops[i]? = some oi) (hsel : ∀ (j : Nat) (o : Oper) cs b, ops[j]? = some o → o.op ≠ .select cs b)
    (hC : fixB ops i C = true)
    (hS : ∀ j H H', C.getD j false = true → l0.getD j true = false → S H → (fl j = true → Ext H H') → S H') :
    ∀ (f : Nat) (listed : Array Bool) (a : Act) (H : Hp),
      (∀ j, listed.getD j false = true → C.getD j false = true) → (∀ j, l0.getD j true = true → listed.getD j true = true) →
      (∀ j oj, ops[j]? = some oj → j ≠ i → listed.getD j true = false → (∀ e ∈ oj.after, Region.binds .any e = true → e.on ≠ i) → oi.apart ops oj = true) →
      i ∈ Region.ready .any ops listed → YieldsS P ops S oi v a → S H →
      hAny P ops fl X K f (listed.setIfInBounds i true) (a.put oi.dst v) H → hAny P ops fl X K (f + 1) listed a H := by
  intro f
  induction f with
  | zero =>
    intro listed a H _ _ _ hr hy hSH h
    refine ⟨fun h0 => (by rw [h0] at hr; cases hr), fun j hj => ?_⟩
    by_cases hji : j = i
    · subst hji; exact hy.hOp hi hSH ⟨fun _ => Ext.refl _, h⟩
    · have := ready_mono hj hji
      rw [h.1] at this
      cases this
  | succ f ih =>
    intro listed a H hlC hl0 hfree hr hy hSH h
    refine ⟨fun h0 => (by rw [h0] at hr; cases hr), fun j hj => ?_⟩
    by_cases hji : j = i
    · subst hji; exact hy.hOp hi hSH ⟨fun _ => Ext.refl _, h⟩
    · have h1 := h.2 j (ready_mono hj hji)
      obtain ⟨hjun, oj, hoj, hall⟩ := mem_ready.1 hj
      have hnot : ∀ e ∈ oj.after, Region.binds .any e = true → e.on ≠ i := fun e he hb heq => by
        have h1 := hall e he hb
        have h0 := (mem_ready.1 hr).1
        rw [heq] at h1
        rcases Nat.lt_or_ge i listed.size with h' | h'
        · simp [h'] at h0 h1; rw [h0] at h1; cases h1
        · simp [Array.getElem?_eq_none h'] at h1
      have h2 := hOp_putS hoj (hfree j oj hoj hji hjun hnot) (fun cs b => hsel i oi cs b hi) (fun cs b => hsel j oj cs b hoj) hy h1
      have hjC := fixB_spec hC hlC hj hji
      have hj0 : l0.getD j true = false := by
        cases hh : l0.getD j true with
        | false => rfl
        | true => have := hl0 j hh; rw [hjun] at this; cases this
      have hfree' : ∀ k ok, ops[k]? = some ok → k ≠ i → (listed.setIfInBounds j true).getD k true = false →
          (∀ e ∈ ok.after, Region.binds .any e = true → e.on ≠ i) → oi.apart ops ok = true := fun k ok hk hki hun hno => by
        refine hfree k ok hk hki ?_ hno
        by_cases hjk : j = k
        · subst hjk; exact hjun
        · rw [getD_set_ne true hjk] at hun; exact hun
      refine hOp_mono (fun a' H' h3 => ⟨h3.2.1, ih (listed.setIfInBounds j true) a' H' ?_ ?_ hfree' (ready_mono hr (Ne.symm hji)) h3.1 (hS j H H' hjC hj0 hSH h3.2.1) ?_⟩) h2
      · intro k hk
        by_cases hjk : j = k
        · subst hjk; exact hjC
        · rw [getD_set_ne false hjk] at hk; exact hlC k hk
      · intro k hk
        have := hl0 k hk
        by_cases hjk : j = k
        · subst hjk
          rw [hjun] at this; cases this
        · rw [getD_set_ne true hjk]; exact this
      · rw [Array.setIfInBounds_comm _ _ hji]
        exact h3.2.2

/-! ### A plan: which operation comes when, and its kind: 0 an operation; 3 one that leaves what was there; 1 a quiet one; 2 a quiet one that reads nothing -/

def flOf (pl : List (Nat × Nat)) (j : Nat) : Bool :=
  match pl.lookup j with
  | some 0 => false
  | _ => true

def growB (ops : Array Oper) (i : Nat) (C : Array Bool) : Array Bool :=
  (List.range ops.size).foldl (fun C j => if (j != i && ((ops[j]?).map (·.after.all fun e => !Region.binds .any e || C.getD e.on false)).getD false) = true then C.setIfInBounds j true else C) C
def closeB (ops : Array Oper) (i : Nat) : Nat → Array Bool → Array Bool
  | 0, C => C
  | n + 1, C => let C' := growB ops i C; if C' == C then C else closeB ops i n C'

def beforeB (ops : Array Oper) (i k : Nat) : Array Bool := if k = 2 then Array.replicate ops.size true else closeB ops i ops.size (Array.replicate ops.size false)

def planG (ops : Array Oper) (pl0 : List (Nat × Nat)) (fin : Array Bool → Bool) : List (Nat × Nat) → Array Bool → Bool
  | [], listed => fin listed
  | (i, k) :: r, listed =>
    if k = 1 ∨ k = 2 then
      (Region.ready .any ops listed).contains i && Region.free .any ops listed i && fixB ops i (beforeB ops i k) &&
      ((List.range ops.size).all fun j => !listed.getD j false || (beforeB ops i k).getD j false) &&
      (decide (k = 2) || (List.range ops.size).all fun j => !(beforeB ops i k).getD j false || listed.getD j false || flOf pl0 j) &&
      planG ops pl0 fin r (listed.setIfInBounds i true)
    else decide (Region.ready .any ops listed = [i]) && planG ops pl0 fin r (listed.setIfInBounds i true)
def planB (ops : Array Oper) (pl0 : List (Nat × Nat)) : List (Nat × Nat) → Array Bool → Bool := planG ops pl0 fun listed => (Region.ready .any ops listed).isEmpty

def dop (P : Program) (k : Nat) (o : O) (F : Fr) (H : Hp) (K : Value → Hp → Prop) (X : List PanicEntry → Hp → Prop) : Prop :=
  match k with
  | 0 => opA P o F H K X
  | 1 => qA P o F H fun v => K v H
  | 2 => qA P o F #[] fun v => K v H
  | _ => opA P o F H (fun v H' => Ext H H' ∧ K v H') X

def dwk (P : Program) (K : Fr → Hp → Prop) (X : List PanicEntry → Hp → Prop) : List (Nat × O) → Fr → Hp → Prop
  | [], F, H => K F H
  | (k, o) :: r, F, H => match o.guard with
    | none => dop P k o F H (fun v H' => dwk P K X r (upd o.dst v F) H') X
    | some (s, b) => match look? F s with
      | some (.bool c) => if c = b then dop P k o F H (fun v H' => dwk P K X r (upd o.dst v F) H') X else dwk P K X r (upd o.dst undef F) H
      | some _ => dwk P K X r (upd o.dst undef F) H
      | none => False

def pickO (ops : Array Oper) : List (Nat × Nat) → List (Nat × O)
  | [] => []
  | (i, k) :: r => match ops[i]? with
    | some o => (k, toO ops o) :: pickO ops r
    | none => pickO ops r

theorem opV_of_opA {o : O} {r : Oper} {n : Nat} {F : Fr} {a : Act} {H : Hp} {K : Value → Hp → Prop}
    (h1 : r.op = o.op) (h2 : r.type = o.type) (hs : ∀ cs b, r.op ≠ .select cs b) (hF : FrOK n F a) (h : opA P o F H K X) : opV P r a K X H := by
  obtain ⟨hk, hr⟩ := h
  have hex : execOp a.eval r = execOp (evd F) o.oper := by
    have e1 : execOp a.eval r = execOp (evd F) r := execOp_congr r hs fun x hx => by
      rw [h1] at hx
      have := (Array.all_eq_true_iff_forall_mem.1 hk) x hx
      obtain ⟨v, hv⟩ := Option.isSome_iff_exists.1 this
      rw [hF.eval hv, evd, hv]; rfl
    rw [e1]
    unfold execOp O.oper
    simp only [h1, h2]
  unfold opV
  rw [hex]
  exact hr

theorem yields_of_qA {o : O} {r : Oper} {n : Nat} {F : Fr} {a : Act} {H : Hp} {K : Value → Prop}
    (h1 : r.op = o.op) (h2 : r.type = o.type) (hs : ∀ cs b, r.op ≠ .select cs b) (hF : FrOK n F a) (h : qA P o F H K) :
    ∃ v, K v ∧ ∀ G, Ext H G → ∀ (K : Value → Hp → Prop) (X : List PanicEntry → Hp → Prop), K v G → opV P r a K X G := by
  obtain ⟨hk, hr⟩ := h
  have hex : execOp a.eval r = execOp (evd F) o.oper := by
    have e1 : execOp a.eval r = execOp (evd F) r := execOp_congr r hs fun x hx => by
      rw [h1] at hx
      have := (Array.all_eq_true_iff_forall_mem.1 hk) x hx
      obtain ⟨v, hv⟩ := Option.isSome_iff_exists.1 this
      rw [hF.eval hv, evd, hv]; rfl
    rw [e1]
    unfold execOp O.oper
    simp only [h1, h2]
  unfold opV
  rw [hex]
  cases hrd : rd P (execOp (evd F) o.oper) H with
  | none => rw [hrd] at hr; exact hr.elim
  | some nx =>
    rw [hrd] at hr
    cases nx <;> simp only at hr
    case value v => exact ⟨v, hr, fun G hG K X hK => hwx_of_rd _ _ _ (rd_ext hG _ _ hrd) hK⟩
    case skip => exact ⟨undef, hr, fun G hG K X hK => hwx_of_rd _ _ _ (rd_ext hG _ _ hrd) hK⟩
    case enter f args =>
      obtain ⟨v, hc, hk'⟩ := hr
      refine ⟨v, hk', fun G hG K X hK => hwx_of_rd _ _ _ (rd_ext hG _ _ hrd) ?_⟩
      exact (hc G hG).mono fun e H' ⟨h1, h2⟩ => by subst h1 h2; exact hK

theorem ext_empty (G : Hp) : Ext #[] G := ⟨Nat.zero_le _, fun b hb => by simp at hb⟩

theorem noisy_step {n : Nat} {a0 : Act} {Kw : Fr → Hp → Prop} {KN : Act → Hp → Prop} {pl0 : List (Nat × Nat)} {r : List (Nat × O)} {j k : Nat} {o : Oper} {F : Fr} {a : Act} {H : Hp} (ho : ops[j]? = some o) (hoo : okOper n ops o = true) (hk : ¬ (k = 1 ∨ k = 2)) (hpk : pl0.lookup j = some k) (hF : FrOK n F a) (hD : Dfs a0 a)
    (next : ∀ v H', dwk P Kw X r (upd o.dst v F) H' → KN (a.put o.dst v) H') (h : dwk P Kw X ((k, toO ops o) :: r) F H) : hOp P ops X j (fun a' H' => (flOf pl0 j = true → Ext H H') ∧ KN a' H') a H := by
  simp only [dwk] at h
  obtain ⟨hw1, hw2, hw3⟩ := wanted_of_guard hoo hF
  have main : Region.wanted o (yielded ops a.tmps) = true → dop P k (toO ops o) F H (fun v H' => dwk P Kw X r (upd o.dst v F) H') X →
      hOp P ops X j (fun a' H' => (flOf pl0 j = true → Ext H H') ∧ KN a' H') a H := by
    intro hwant hd
    unfold hOp
    simp only [ho, hwant, if_true]
    match k, hk, hpk, hd with
    | 0, _, hpk, hd =>
      refine opV_mono (fun v H' hrest => ⟨fun hfl => ?_, next v H' hrest⟩) (opV_of_opA (r := o) (n := n) (by rfl) (by rfl) (okOper_sel hoo) hF hd)
      unfold flOf at hfl
      rw [hpk] at hfl; cases hfl
    | 1, hk, _, _ => exact absurd (Or.inl rfl) hk
    | 2, hk, _, _ => exact absurd (Or.inr rfl) hk
    | k + 3, _, _, hd => exact opV_mono (fun v H' hrest => ⟨fun _ => hrest.1, next v H' hrest.2⟩) (opV_of_opA (r := o) (n := n) (by rfl) (by rfl) (okOper_sel hoo) hF hd)
  have skip : Region.wanted o (yielded ops a.tmps) = false → dwk P Kw X r (upd o.dst undef F) H →
      hOp P ops X j (fun a' H' => (flOf pl0 j = true → Ext H H') ∧ KN a' H') a H := by
    intro hwant hrest
    unfold hOp
    simp only [ho, hwant, Bool.false_eq_true, if_false]
    exact ⟨fun _ => Ext.refl _, next undef H hrest⟩
  simp only [toO] at h
  cases hg : guardOf ops o with
  | none => rw [hg] at h; exact main (hw2 hg) (by simpa only [toO, hg] using h)
  | some sb =>
    obtain ⟨s, b⟩ := sb
    rw [hg] at h
    simp only at h
    split at h
    · rename_i c hc
      by_cases hcb : c = b
      · rw [if_pos hcb] at h; exact main (by rw [hw1 s b c hg hc]; simpa using hcb) (by simpa only [toO, hg] using h)
      · rw [if_neg hcb] at h; exact skip (by rw [hw1 s b c hg hc]; simpa using hcb) h
    · rename_i v hnb hc; exact skip (hw3 s b v hg hc (fun c h => hnb c h)) h
    · exact h.elim

theorem plan_soundG {n : Nat} {a0 : Act} {Kf : Fr → Hp → Prop} {KA : Act → Hp → Prop} (hsel : Region.noSelect ops = true) (hok : ∀ o ∈ ops.toList, okOper n ops o = true) (pl0 : List (Nat × Nat)) (m : Nat) (fin : Array Bool → Bool)
    (hfin : ∀ (listed : Array Bool) (F : Fr) (a : Act) (H : Hp), listed.size = ops.size → fin listed = true → FrOK n F a → Dfs a0 a → Kf F H → hAny P ops (flOf pl0) X KA m listed a H) : ∀ (pl : List (Nat × Nat)) (listed : Array Bool) (F : Fr) (a : Act) (H : Hp), listed.size = ops.size →
    planG ops pl0 fin pl listed = true → FrOK n F a → Dfs a0 a → dwk P Kf X (pickO ops pl) F H → (∀ x ∈ pl, pl0.lookup x.1 = some x.2) →
    hAny P ops (flOf pl0) X KA (pl.length + m) listed a H := by
  intro pl
  induction pl with
  | nil =>
    intro listed F a H hsz hB hF hD h _
    simp only [planG] at hB
    rw [List.length_nil, Nat.zero_add]
    exact hfin listed F a H hsz hB hF hD h
  | cons x r ih =>
    obtain ⟨i, k⟩ := x
    intro listed F a H hsz hB hF hD h hpl
    have hplr := fun x hx => hpl x (List.mem_cons_of_mem _ hx)
    have hpk := hpl (i, k) (by simp)
    have ready_o : i ∈ Region.ready .any ops listed → ∃ o, ops[i]? = some o := fun hr => by obtain ⟨_, o, ho, _⟩ := mem_ready.1 hr; exact ⟨o, ho⟩
    simp only [planG] at hB
    rw [List.length_cons, Nat.add_right_comm]
    by_cases hk : k = 1 ∨ k = 2
    · rw [if_pos hk] at hB
      simp only [Bool.and_eq_true, List.contains_iff_mem] at hB
      obtain ⟨⟨⟨⟨⟨hr, hfree⟩, hfix⟩, hlC⟩, hall⟩, hB'⟩ := hB
      obtain ⟨o, ho⟩ := ready_o hr
      have hoo := hok o (Array.mem_toList_iff.2 (Array.mem_of_getElem? ho))
      have hlC' : ∀ j, listed.getD j false = true → (beforeB ops i k).getD j false = true := by
        intro j hj
        rcases Nat.lt_or_ge j ops.size with hlt | hge
        · have := List.all_eq_true.1 hlC j (List.mem_range.2 hlt)
          rw [hj] at this; simpa using this
        · have : listed.getD j false = false := by simp [Array.getElem?_eq_none (show listed.size ≤ j by omega)]
          rw [this] at hj; cases hj
      simp only [pickO, ho, dwk] at h
      -- take it first
      have take : ∀ v, YieldsS P ops (if k = 2 then fun _ => True else fun G => Ext H G) o v a → dwk P Kf X (pickO ops r) (upd o.dst v F) H →
          hAny P ops (flOf pl0) X KA (r.length + m + 1) listed a H := by
        intro v hy hrest
        refine hAny_first (C := beforeB ops i k) (l0 := listed) ho (Region.noSelect_spec hsel) hfix ?_ (r.length + m) listed a H hlC' (fun j hj => hj) (Region.free_spec ho hfree) hr hy ?_ (ih _ _ _ _ (by simpa using hsz) hB' (hF.put _ (okOper_dst hoo) v) (hD.put _ _) hrest hplr)
        · intro j H1 H2 hjC hj0 hS1 hE
          by_cases h2 : k = 2
          · rw [if_pos h2]; trivial
          · rw [if_neg h2] at hS1 ⊢
            have hlt : j < ops.size := by
              rcases Nat.lt_or_ge j ops.size with hlt | hge
              · exact hlt
              · have : listed.getD j true = true := by simp [Array.getElem?_eq_none (show listed.size ≤ j by omega)]
                rw [this] at hj0; cases hj0
            simp only [h2, decide_false, Bool.false_or] at hall
            have := List.all_eq_true.1 hall j (List.mem_range.2 hlt)
            have hj1 : listed.getD j false = false := by
              have hl : j < listed.size := by omega
              simp [hl] at hj0 ⊢; exact hj0
            rw [hjC, hj1] at this
            simp only [Bool.not_true, Bool.false_or] at this
            exact hS1.trans (hE this)
        · by_cases h2 : k = 2
          · rw [if_pos h2]; trivial
          · rw [if_neg h2]; exact Ext.refl _
      obtain ⟨hw1, hw2, hw3⟩ := wanted_of_guard hoo hF
      have main : Region.wanted o (yielded ops a.tmps) = true → dop P k (toO ops o) F H (fun v H' => dwk P Kf X (pickO ops r) (upd o.dst v F) H') X →
          hAny P ops (flOf pl0) X KA (r.length + m + 1) listed a H := by
        intro hwant hd
        rcases hk with rfl | rfl
        · obtain ⟨v, hv, hy⟩ := yields_of_qA (r := o) (n := n) (by rfl) (by rfl) (okOper_sel hoo) hF hd
          exact take v (.inl ⟨hwant, hy⟩) hv
        · obtain ⟨v, hv, hy⟩ := yields_of_qA (r := o) (n := n) (by rfl) (by rfl) (okOper_sel hoo) hF hd
          exact take v (.inl ⟨hwant, fun G _ => hy G (ext_empty G)⟩) hv
      have skip : Region.wanted o (yielded ops a.tmps) = false → dwk P Kf X (pickO ops r) (upd o.dst undef F) H →
          hAny P ops (flOf pl0) X KA (r.length + m + 1) listed a H := fun hwant hrest => take undef (.inr ⟨hwant, rfl⟩) hrest
      simp only [toO] at h
      cases hg : guardOf ops o with
      | none => rw [hg] at h; exact main (hw2 hg) (by simpa only [toO, hg] using h)
      | some sb =>
        obtain ⟨s, b⟩ := sb
        rw [hg] at h
        simp only at h
        split at h
        · rename_i c hc
          by_cases hcb : c = b
          · rw [if_pos hcb] at h; exact main (by rw [hw1 s b c hg hc]; simpa using hcb) (by simpa only [toO, hg] using h)
          · rw [if_neg hcb] at h; exact skip (by rw [hw1 s b c hg hc]; simpa using hcb) h
        · rename_i v hnb hc; exact skip (hw3 s b v hg hc (fun c h => hnb c h)) h
        · exact h.elim
    · rw [if_neg hk] at hB
      simp only [Bool.and_eq_true, decide_eq_true_eq] at hB
      obtain ⟨hr, hB'⟩ := hB
      obtain ⟨o, ho⟩ := ready_o (by rw [hr]; simp)
      have hoo := hok o (Array.mem_toList_iff.2 (Array.mem_of_getElem? ho))
      refine ⟨fun h0 => (by rw [hr] at h0; cases h0), fun j hj => ?_⟩
      rw [hr] at hj
      have hji : j = i := by simpa using hj
      subst hji
      simp only [pickO, ho] at h
      exact noisy_step ho hoo hk hpk hF hD (fun v H' hrest => ih _ _ _ _ (by simpa using hsz) hB' (hF.put _ (okOper_dst hoo) v) (hD.put _ _) hrest hplr) h

theorem plan_sound {n : Nat} {a0 : Act} {Kf : Fr → Hp → Prop} (hsel : Region.noSelect ops = true) (hok : ∀ o ∈ ops.toList, okOper n ops o = true) (pl0 : List (Nat × Nat)) (pl : List (Nat × Nat)) (listed : Array Bool) (F : Fr) (a : Act) (H : Hp) (hsz : listed.size = ops.size)
    (hB : planB ops pl0 pl listed = true) (hF : FrOK n F a) (hD : Dfs a0 a) (h : dwk P Kf X (pickO ops pl) F H) (hpl : ∀ x ∈ pl, pl0.lookup x.1 = some x.2) :
    hAny P ops (flOf pl0) X (fun a' H' => ∃ F', FrOK n F' a' ∧ Dfs a0 a' ∧ Kf F' H') pl.length listed a H :=
  plan_soundG hsel hok pl0 0 _ (fun listed F a H _ hB hF hD h => ⟨by simpa using hB, F, hF, hD, h⟩) pl listed F a H hsz hB hF hD h hpl

/-! ### A fork: two operations that are ready at once -/
def forkB (ops : Array Oper) (pl0 : List (Nat × Nat)) : List (Nat × Nat) → List (Nat × Nat) → Array Bool → Bool
  | (i1, k1) :: r1, (i2, k2) :: r2, listed => decide (Region.ready .any ops listed = [i1, i2] ∨ Region.ready .any ops listed = [i2, i1]) && !(k1 == 1 || k1 == 2) && !(k2 == 1 || k2 == 2) && decide (r1.length = r2.length) &&
      planB ops pl0 r1 (listed.setIfInBounds i1 true) && planB ops pl0 r2 (listed.setIfInBounds i2 true)
  | _, _, _ => false

theorem fork_sound {n : Nat} {a0 : Act} {Kf : Fr → Hp → Prop} (hsel : Region.noSelect ops = true) (hok : ∀ o ∈ ops.toList, okOper n ops o = true) (pl0 : List (Nat × Nat)) (p1 p2 : List (Nat × Nat)) (listed : Array Bool) (F : Fr) (a : Act) (H : Hp) (hsz : listed.size = ops.size)
    (hB : forkB ops pl0 p1 p2 listed = true) (hF : FrOK n F a) (hD : Dfs a0 a) (h : dwk P Kf X (pickO ops p1) F H ∧ dwk P Kf X (pickO ops p2) F H) (hpl1 : ∀ x ∈ p1, pl0.lookup x.1 = some x.2) (hpl2 : ∀ x ∈ p2, pl0.lookup x.1 = some x.2) :
    hAny P ops (flOf pl0) X (fun a' H' => ∃ F', FrOK n F' a' ∧ Dfs a0 a' ∧ Kf F' H') p1.length listed a H := by
  match p1, p2, hB, h, hpl1, hpl2 with
  | (i1, k1) :: r1, (i2, k2) :: r2, hB, h, hpl1, hpl2 =>
    simp only [forkB, Bool.and_eq_true, decide_eq_true_eq, Bool.not_eq_true', Bool.or_eq_false_iff, beq_eq_false_iff_ne] at hB
    obtain ⟨⟨⟨⟨⟨hr, hk1⟩, hk2⟩, hlen⟩, hB1⟩, hB2⟩ := hB
    have ready_o : ∀ i, i ∈ Region.ready .any ops listed → ∃ o, ops[i]? = some o := fun i hr => by obtain ⟨_, o, ho, _⟩ := mem_ready.1 hr; exact ⟨o, ho⟩
    obtain ⟨o1, ho1⟩ := ready_o i1 (by rcases hr with hr | hr <;> rw [hr] <;> simp)
    obtain ⟨o2, ho2⟩ := ready_o i2 (by rcases hr with hr | hr <;> rw [hr] <;> simp)
    have hoo1 := hok o1 (Array.mem_toList_iff.2 (Array.mem_of_getElem? ho1))
    have hoo2 := hok o2 (Array.mem_toList_iff.2 (Array.mem_of_getElem? ho2))
    simp only [pickO, ho1, ho2] at h
    show hAny P ops (flOf pl0) X _ (r1.length + 1) listed a H
    refine ⟨fun h0 => (by rcases hr with hr | hr <;> (rw [hr] at h0; cases h0)), fun j hj => ?_⟩
    have hji : j = i1 ∨ j = i2 := by
      rcases hr with hr | hr <;> (rw [hr] at hj; simp at hj)
      · exact hj
      · exact hj.symm
    rcases hji with rfl | rfl
    · exact noisy_step ho1 hoo1 (by omega) (hpl1 (j, k1) (by simp)) hF hD (fun v H' hrest => plan_sound hsel hok pl0 r1 _ _ _ _ (by simpa using hsz) hB1 (hF.put _ (okOper_dst hoo1) v) (hD.put _ _) hrest fun x hx => hpl1 x (List.mem_cons_of_mem _ hx)) h.1
    · rw [hlen]
      exact noisy_step ho2 hoo2 (by omega) (hpl2 (j, k2) (by simp)) hF hD (fun v H' hrest => plan_sound hsel hok pl0 r2 _ _ _ _ (by simpa using hsz) hB2 (hF.put _ (okOper_dst hoo2) v) (hD.put _ _) hrest fun x hx => hpl2 x (List.mem_cons_of_mem _ hx)) h.2

def planOK (ops : Array Oper) (pl : List (Nat × Nat)) : Bool :=
  Region.noSelect ops && decide (pl.length = ops.size) && planB ops pl pl (Array.replicate ops.size false) && pl.all fun x => pl.lookup x.1 == some x.2

theorem drn_sound {ro : Option Nat} (hm : P.follows .mixedOrders = true) {n id : Nat} {pl : List (Nat × Nat)} {K : Fr → Hp → Prop} {Q : Exit → Act → World → Prop} {F : Fr} {a : Act} {w : World}
    (hK : ∀ F a' w', FrOK n F a' → Dfs a a' → EnvEq w w' → K F w'.heap → Q .normal a' w') (hX : ∀ c a' w', FrOK n [] a' → Dfs a a' → EnvEq w w' → X c w'.heap → Q (.panic c) a' w')
    (hp : planOK ops pl = true) (hok : ∀ o ∈ ops.toList, okOper n ops o = true) (ha : FrOK n F a) (h : dwk P K X (pickO ops pl) F w.heap) : (Code.region id ops true).wpIn (WF ro) 0 P Q a w := by
  simp only [planOK, Bool.and_eq_true, decide_eq_true_eq] at hp
  obtain ⟨⟨⟨hsel, hlen⟩, hB⟩, hl⟩ := hp
  refine wpIn_region_any hm ?_
  have := plan_sound (n := n) (a0 := a) (P := P) (X := X) (Kf := K) hsel hok pl pl (Array.replicate ops.size false) F a w.heap (by simp) hB ha (.refl _) h (fun x hx => by simpa using List.all_eq_true.1 hl x hx)
  rw [hlen] at this
  exact hAny_sound (n := n) (w0 := w) (a0 := a) (K := fun a' H' => ∃ F', FrOK n F' a' ∧ Dfs a a' ∧ K F' H') (fun o ho => okOper_def (hok o ho)) (fun c a' w' hn hD he hx => hX c a' w' ⟨hn, fun t v ht => by simp [look?] at ht⟩ hD he hx) (fun a' w' hn hD he ⟨F', hF', hD', hk⟩ => hK F' a' w' hF' hD' he hk) ops.size _ a { w with drawn := w.drawn + 1 } ha.size (.refl _) (.drawn w _) this

def forkOK (ops : Array Oper) (pre p1 p2 : List (Nat × Nat)) : Bool :=
  Region.noSelect ops && decide ((pre ++ p1).length = ops.size) && planG ops (pre ++ p1) (forkB ops (pre ++ p1) p1 p2) pre (Array.replicate ops.size false) && ((pre ++ p1).all fun x => (pre ++ p1).lookup x.1 == some x.2) && (p2.all fun x => (pre ++ p1).lookup x.1 == some x.2)

theorem drf_sound {ro : Option Nat} (hm : P.follows .mixedOrders = true) {n id : Nat} {pre p1 p2 : List (Nat × Nat)} {kp : List Nat} {K : Fr → Hp → Prop} {Q : Exit → Act → World → Prop} {F : Fr} {a : Act} {w : World}
    (hK : ∀ F a' w', FrOK n F a' → Dfs a a' → EnvEq w w' → K F w'.heap → Q .normal a' w') (hX : ∀ c a' w', FrOK n [] a' → Dfs a a' → EnvEq w w' → X c w'.heap → Q (.panic c) a' w')
    (hp : forkOK ops pre p1 p2 = true) (hok : ∀ o ∈ ops.toList, okOper n ops o = true) (ha : FrOK n F a) (h : dwk P (fun F' H' => dwk P K X (pickO ops p1) (trim kp F') H' ∧ dwk P K X (pickO ops p2) (trim kp F') H') X (pickO ops pre) F w.heap) : (Code.region id ops true).wpIn (WF ro) 0 P Q a w := by
  simp only [forkOK, Bool.and_eq_true, decide_eq_true_eq] at hp
  obtain ⟨⟨⟨⟨hsel, hlen⟩, hB⟩, hl⟩, hl2⟩ := hp
  have hl' : ∀ x ∈ pre ++ p1, (pre ++ p1).lookup x.1 = some x.2 := fun x hx => by simpa using List.all_eq_true.1 hl x hx
  refine wpIn_region_any hm ?_
  have := plan_soundG (n := n) (a0 := a) (P := P) (X := X) (Kf := fun F' H' => dwk P K X (pickO ops p1) (trim kp F') H' ∧ dwk P K X (pickO ops p2) (trim kp F') H') (KA := fun a' H' => ∃ F', FrOK n F' a' ∧ Dfs a a' ∧ K F' H') hsel hok (pre ++ p1) p1.length (forkB ops (pre ++ p1) p1 p2)
    (fun listed F a' H hsz hB hF hD hh => fork_sound hsel hok (pre ++ p1) p1 p2 listed (trim kp F) a' H hsz hB (hF.trim _) hD hh (fun x hx => hl' x (List.mem_append_right _ hx)) (fun x hx => by simpa using List.all_eq_true.1 hl2 x hx)) pre (Array.replicate ops.size false) F a w.heap (by simp) hB ha (.refl _) h (fun x hx => hl' x (List.mem_append_left _ hx))
  rw [← List.length_append, hlen] at this
  exact hAny_sound (n := n) (w0 := w) (a0 := a) (K := fun a' H' => ∃ F', FrOK n F' a' ∧ Dfs a a' ∧ K F' H') (fun o ho => okOper_def (hok o ho)) (fun c a' w' hn hD he hx => hX c a' w' ⟨hn, fun t v ht => by simp [look?] at ht⟩ hD he hx) (fun a' w' hn hD he ⟨F', hF', hD', hk⟩ => hK F' a' w' hF' hD' he hk) ops.size _ a { w with drawn := w.drawn + 1 } ha.size (.refl _) (.drawn w _) this

end
end Go.Hw

/- Code: the calculus 'aw' over a plain tree, read off the model's code by 'toA'; its ground. -/
set_option linter.unusedSimpArgs false
set_option linter.unusedVariables false
namespace Go.Hw

inductive A where
  | skip
  | ret
  | exit (id : Nat)
  | seq (a b : A)
  | cond (c : Operand) (a b : A)
  | block (id : Nat) (a : A)
  | loop (a : A)
  | reg (ops : List O) (keep : List Nat)
  | draw (k : Nat) (ops : List O) (keep : List Nat)
  | drn (ops : List (Nat × O)) (keep : List Nat)
  | drf (pre : List (Nat × O)) (kp : List Nat) (a1 a2 : List (Nat × O)) (keep : List Nat)
  | keep (ks : List Nat)
  | rf (g : Operand) (ps : List Nat) (a b : A)
  | raw (c : Code)

/-- No loop over a function. -/
def flat : A → Bool
  | .seq a b => flat a && flat b
  | .cond _ a b => flat a && flat b
  | .block _ a => flat a
  | .loop a => flat a
  | .rf .. => false
  | _ => true

inductive E where
  | normal
  | exit (id : Nat)
  | ret
  | panic (chain : List PanicEntry)

/-- An exit of the model's, over the heap alone. -/
def QE (Q : E → Act → Hp → Prop) : Exit → Act → Hp → Prop
  | .normal, a, H => Q .normal a H
  | .exit id, a, H => Q (.exit id) a H
  | .ret, a, H => Q .ret a H
  | .panic c, a, H => Q (.panic c) a H
  | .goto _, _, _ => False
  | .outgrown, _, _ => False

/-- A function with a body that is entered like any other. -/
def Plain (P : Program) (f : FuncId) : Prop := ∃ fn, P.funcs[f]? = some fn ∧ fn.body.isNone = false ∧ (fn.name == "runtime.NumGoroutine") = false

/-- The record of a loop over a function, as it is between two rounds. -/
structure LoopR (ps : List Nat) (D : Nat) (lp : Loop) : Prop where
  state : lp.state = .ready
  pending : lp.pending = none
  params : lp.params.toList = ps
  defers : lp.defers = D

def bindF : List Nat → List Value → Fr → Fr
  | p :: ps, v :: vs, F => bindF ps vs ((p, v) :: F)
  | _, _, F => F

/-- A call of yield. -/
def HYield (P : Program) (l : Nat) (lp : Loop) (vs : List Value) (H : Hp) (K : Ending → Hp → Prop) : Prop :=
  HRound P l lp.fn ((lp.params.zip vs.toArray).foldl (fun tmps (t, a) => tmps.setIfInBounds t a) lp.tmps) lp.assign lp.body H K

/-- What is asked at a round's end. -/
def rndK (l : Nat) (lp : Loop) (K : Ending → Hp → Prop) : E → Fr → Hp → Prop
  | .normal, _, H => H[l]? = some (.loop { lp with state := .busy }) ∧ K (.returned (.bool true)) (H.setIfInBounds l (.loop lp))
  | .ret, _, H => H[l]? = some (.loop { lp with state := .busy }) ∧ K (.returned (.bool false)) (H.setIfInBounds l (.loop { lp with state := .done, pending := some .ret }))
  | .exit id, _, H => H[l]? = some (.loop { lp with state := .busy }) ∧ K (.returned (.bool false)) (H.setIfInBounds l (.loop { lp with state := .done, pending := some (.exit id) }))
  | .panic _, _, _ => False

/-- What is asked behind the loop. -/
def rfK (l : Nat) (Q : E → Fr → Hp → Prop) (F : Fr) : Ending → Hp → Prop
  | .returned _, H => ∃ lp : Loop, H[l]? = some (.loop lp) ∧ lp.state ≠ .busy ∧ (match lp.pending with
      | none => Q .normal F (H.setIfInBounds l (.loop { lp with state := .exhausted }))
      | some .ret => Q .ret F (H.setIfInBounds l (.loop { lp with state := .exhausted }))
      | some (.exit id) => Q (.exit id) F (H.setIfInBounds l (.loop { lp with state := .exhausted }))
      | _ => False)
  | .panicked c, H => Q (.panic c) [] H
  | .outgrown, _ => False

def noE (K : Fr → Hp → Prop) : E → Fr → Hp → Prop
  | .normal, F, H => K F H
  | _, _, _ => False

def onE (K : Fr → Hp → Prop) (Q : E → Fr → Hp → Prop) : E → Fr → Hp → Prop
  | .normal, F, H => K F H
  | .exit id, F, H => Q (.exit id) F H
  | .ret, F, H => Q .ret F H
  | .panic c, F, H => Q (.panic c) F H

def blkE (id : Nat) (Q : E → Fr → Hp → Prop) : E → Fr → Hp → Prop
  | .normal, F, H => Q .normal F H
  | .exit j, F, H => if j = id then Q .normal F H else Q (.exit j) F H
  | .ret, F, H => Q .ret F H
  | .panic c, F, H => Q (.panic c) F H

def aw (P : Program) (n : Nat) : A → (E → Fr → Hp → Prop) → Fr → Hp → Prop
  | .skip, Q, F, H => Q .normal F H
  | .ret, Q, F, H => Q .ret F H
  | .exit id, Q, F, H => Q (.exit id) F H
  | .seq a b, Q, F, H => aw P n a (onE (aw P n b Q) Q) F H
  | .cond c a b, Q, F, H => withv F c fun v => match v with
    | .bool t => if t = true then aw P n a Q F H else aw P n b Q F H
    | _ => False
  | .block id a, Q, F, H => aw P n a (blkE id Q) F H
  | .loop a, Q, F, H => ∀ R : Fr → Hp → Prop, (∀ F' H', aw P n a (onE R Q) F' H' → R F' H') → R F H
  | .reg ops keep, Q, F, H => aops P (fun F' H' => Q .normal (trim keep F') H') (fun c H' => Q (.panic c) [] H') ops F H
  | .draw k ops keep, Q, F, H => aq P (fun F' H' => Q .normal (trim keep F') H') (fun c H' => Q (.panic c) [] H') k ops F H
  | .drn ops keep, Q, F, H => dwk P (fun F' H' => Q .normal (trim keep F') H') (fun c H' => Q (.panic c) [] H') ops F H
  | .drf pre kp a1 a2 keep, Q, F, H => dwk P (fun F' H' => dwk P (fun F' H' => Q .normal (trim keep F') H') (fun c H' => Q (.panic c) [] H') a1 (trim kp F') H' ∧ dwk P (fun F' H' => Q .normal (trim keep F') H') (fun c H' => Q (.panic c) [] H') a2 (trim kp F') H') (fun c H' => Q (.panic c) [] H') pre F H
  | .keep ks, Q, F, H => Q .normal (trim ks F) H
  | .rf g ps a b, Q, F, H => withv F g fun v => match v with
    | .func (.func it) first cap => (Plain P it ∧ (flat a && flat b && ps.all fun p => decide (p < n)) = true) ∧
        ∀ lp : Loop, LoopR ps H.size lp →
          (∀ (vs : List Value) (H' : Hp) (K : Ending → Hp → Prop), vs.length = ps.length → H'[H.size + 1]? = some (.loop lp) →
            aw P n a (noE fun F1 H1 => H1[H.size + 1]? = some (.loop lp) ∧ aw P n b (rndK (H.size + 1) lp K) F1 (H1.setIfInBounds (H.size + 1) (.loop { lp with state := .busy }))) (bindF ps vs F) H' →
            HYield P (H.size + 1) lp vs H' K) →
          HCall P it (first ++ #[.func (.yield (H.size + 1)) #[] #[]] ++ cap) ((H.push (.deferred (some []))).push (.loop lp)) (rfK (H.size + 1) Q F)
    | _ => False
  | .raw c, Q, F, H => False

theorem opA_mono {P : Program} {o : O} {F : Fr} {H : Hp} {K K' : Value → Hp → Prop} {X X' : List PanicEntry → Hp → Prop} (hk : ∀ v H, K v H → K' v H) (hx : ∀ c H, X c H → X' c H)
    (h : opA P o F H K X) : opA P o F H K' X' := by
  refine ⟨h.1, hwx_mono (fun nx H' hh => ?_) (fun v H' hh => hx _ _ hh) _ _ h.2⟩
  cases nx <;> simp only [nextK] at hh ⊢
  case value v => exact hk _ _ hh
  case skip => exact hk _ _ hh
  case enter f args => exact hh.mono fun e H2 h2 => by cases e <;> simp only [callK] at h2 ⊢ <;> first | exact hk _ _ h2 | exact hx _ _ h2
  case round l f tmps assign body => exact hh.mono fun e H2 h2 => by cases e <;> simp only [callK] at h2 ⊢ <;> first | exact hk _ _ h2 | exact hx _ _ h2

theorem aops_mono {P : Program} {K K' : Fr → Hp → Prop} {X X' : List PanicEntry → Hp → Prop} (hk : ∀ F H, K F H → K' F H) (hx : ∀ c H, X c H → X' c H) :
    ∀ (l : List O) (F : Fr) (H : Hp), aops P K X l F H → aops P K' X' l F H
  | [], F, H, h => hk F H h
  | o :: r, F, H, h => by
    simp only [aops] at h ⊢
    split at h
    · rename_i hg; exact opA_mono (fun v H' h' => aops_mono hk hx r _ _ h') hx h
    · rename_i s b hg
      split at h
      · rename_i c hc
        split at h
        · rename_i hcb; rw [if_pos hcb]; exact opA_mono (fun v H' h' => aops_mono hk hx r _ _ h') hx h
        · rename_i hcb; rw [if_neg hcb]; exact aops_mono hk hx r _ _ h
      · exact aops_mono hk hx r _ _ h
      · exact h.elim

theorem aq_mono {P : Program} {K K' : Fr → Hp → Prop} {X X' : List PanicEntry → Hp → Prop} (hk : ∀ F H, K F H → K' F H) (hx : ∀ c H, X c H → X' c H) :
    ∀ (k : Nat) (l : List O) (F : Fr) (H : Hp), aq P K X k l F H → aq P K' X' k l F H
  | 0, l, F, H, h => aops_mono hk hx l F H h
  | k + 1, [], F, H, h => hk F H h
  | k + 1, o :: r, F, H, h => by
    simp only [aq] at h ⊢
    split at h
    · exact qA_mono (fun v h' => aq_mono hk hx k r _ _ h') h
    · split at h
      · split at h
        · rename_i hcb; rw [if_pos hcb]; exact qA_mono (fun v h' => aq_mono hk hx k r _ _ h') h
        · rename_i hcb; rw [if_neg hcb]; exact aq_mono hk hx k r _ _ h
      · exact aq_mono hk hx k r _ _ h
      · exact h.elim

theorem dop_mono {P : Program} {k : Nat} {o : O} {F : Fr} {H : Hp} {K K' : Value → Hp → Prop} {X X' : List PanicEntry → Hp → Prop} (hk : ∀ v H, K v H → K' v H) (hx : ∀ c H, X c H → X' c H) (h : dop P k o F H K X) : dop P k o F H K' X' := by
  match k, h with
  | 0, h => exact opA_mono hk hx h
  | 1, h => exact qA_mono (fun v hv => hk v _ hv) h
  | 2, h => exact qA_mono (fun v hv => hk v _ hv) h
  | k + 3, h => exact opA_mono (fun v H' hv => ⟨hv.1, hk v _ hv.2⟩) hx h

theorem dwk_mono {P : Program} {K K' : Fr → Hp → Prop} {X X' : List PanicEntry → Hp → Prop} (hk : ∀ F H, K F H → K' F H) (hx : ∀ c H, X c H → X' c H) : ∀ (l : List (Nat × O)) (F : Fr) (H : Hp), dwk P K X l F H → dwk P K' X' l F H
  | [], F, H, h => hk F H h
  | (k, o) :: r, F, H, h => by
    simp only [dwk] at h ⊢
    split at h
    · exact dop_mono (fun v H' h' => dwk_mono hk hx r _ _ h') hx h
    · split at h
      · split at h
        · rename_i hcb; rw [if_pos hcb]; exact dop_mono (fun v H' h' => dwk_mono hk hx r _ _ h') hx h
        · rename_i hcb; rw [if_neg hcb]; exact dwk_mono hk hx r _ _ h
      · exact dwk_mono hk hx r _ _ h
      · exact h.elim

theorem aw_mono {P : Program} {n : Nat} : ∀ (a : A) {Q Q' : E → Fr → Hp → Prop} (_ : ∀ e F H, Q e F H → Q' e F H) (F : Fr) (H : Hp), aw P n a Q F H → aw P n a Q' F H := by
  intro a
  induction a with
  | skip => intro Q Q' hq F H h; exact hq _ _ _ h
  | ret => intro Q Q' hq F H h; exact hq _ _ _ h
  | exit id => intro Q Q' hq F H h; exact hq _ _ _ h
  | seq a b iha ihb =>
    intro Q Q' hq F H h
    exact iha (fun e F H h => by cases e <;> simp only [onE] at h ⊢ <;> first | exact ihb hq _ _ h | exact hq _ _ _ h) F H h
  | cond c a b iha ihb =>
    intro Q Q' hq F H h
    simp only [aw, withv] at h ⊢
    split at h
    · split at h
      · split at h
        · rename_i ht; rw [if_pos ht]; exact iha hq _ _ h
        · rename_i ht; rw [if_neg ht]; exact ihb hq _ _ h
      · exact h.elim
    · exact h.elim
  | block id a iha =>
    intro Q Q' hq F H h
    refine iha (fun e F H h => ?_) F H h
    cases e <;> simp only [blkE] at h ⊢
    case exit j => split at h <;> rename_i hj <;> first | (rw [if_pos hj]; exact hq _ _ _ h) | (rw [if_neg hj]; exact hq _ _ _ h)
    all_goals exact hq _ _ _ h
  | loop a iha =>
    intro Q Q' hq F H h R hR
    exact h R fun F' H' h' => hR F' H' (iha (fun e F H h => by cases e <;> simp only [onE] at h ⊢ <;> first | exact h | exact hq _ _ _ h) F' H' h')
  | reg ops keep => intro Q Q' hq F H h; exact aops_mono (fun _ _ h => hq _ _ _ h) (fun _ _ h => hq _ _ _ h) _ _ _ h
  | draw k ops keep => intro Q Q' hq F H h; exact aq_mono (fun _ _ h => hq _ _ _ h) (fun _ _ h => hq _ _ _ h) _ _ _ _ h
  | drn ops keep => intro Q Q' hq F H h; exact dwk_mono (fun _ _ h => hq _ _ _ h) (fun _ _ h => hq _ _ _ h) _ _ _ h
  | drf pre kp a1 a2 keep => intro Q Q' hq F H h; exact dwk_mono (fun _ _ h => ⟨dwk_mono (fun _ _ h => hq _ _ _ h) (fun _ _ h => hq _ _ _ h) _ _ _ h.1, dwk_mono (fun _ _ h => hq _ _ _ h) (fun _ _ h => hq _ _ _ h) _ _ _ h.2⟩) (fun _ _ h => hq _ _ _ h) _ _ _ h
  | keep ks => intro Q Q' hq F H h; exact hq _ _ _ h
  | rf g ps a b =>
    intro Q Q' hq F H h
    simp only [aw, withv] at h ⊢
    split at h
    · split at h
      · refine ⟨h.1, fun lp hlp hr => (h.2 lp hlp hr).mono fun e H' h' => ?_⟩
        cases e with
        | returned v =>
          obtain ⟨lp', h1, h2, h3⟩ := h'
          refine ⟨lp', h1, h2, ?_⟩
          split at h3 <;> first | exact hq _ _ _ h3 | exact h3.elim
        | panicked c => exact hq _ _ _ h'
        | outgrown => exact h'.elim
      · exact h.elim
    · exact h.elim
  | raw c => intro Q Q' hq F H h; exact h.elim

/-- A loop is its body, and the loop behind it. -/
theorem aw_loop {P : Program} {n : Nat} {a : A} {Q : E → Fr → Hp → Prop} {F : Fr} {H : Hp} (h : aw P n a (onE (aw P n (.loop a) Q) Q) F H) : aw P n (.loop a) Q F H := by
  intro R hR
  refine hR F H (aw_mono a (fun e F' H' h' => ?_) F H h)
  cases e <;> simp only [onE] at h' ⊢ <;> first | exact h' R hR | exact h'

/-! ### Reading the model's code -/

def keepOf (ks : List (Nat × List Nat)) (id : Nat) : List Nat := (ks.lookup id).getD []

/-- The first region's number. -/
def firstReg : Code → Option Nat
  | .region id _ _ => some id
  | .seq a b => (firstReg a).orElse fun _ => firstReg b
  | .cond _ a b => (firstReg a).orElse fun _ => firstReg b
  | .block _ a => firstReg a
  | .loop a => firstReg a
  | .scope a => firstReg a
  | _ => none

/-- Does it end where ways meet? -/
def endsCond : Code → Bool
  | .cond _ _ _ => true
  | .seq _ b => endsCond b
  | _ => false

/-- The plan that is given for a region. -/
def planFor (ks : List (Nat × List Nat)) (id : Nat) (ops : Array Oper) : Option (List (Nat × Nat)) :=
  match ks.lookup (5000 + id) with
  | some l => if planOK ops (l.map fun c => (c / 4, c % 4)) = true then some (l.map fun c => (c / 4, c % 4)) else none
  | none => none

theorem planFor_ok {ks : List (Nat × List Nat)} {id : Nat} {ops : Array Oper} {pl : List (Nat × Nat)} (h : planFor ks id ops = some pl) : planOK ops pl = true := by
  unfold planFor at h
  split at h
  · split at h
    · rename_i hp; cases h; exact hp
    · cases h
  · cases h

/-- A fork that is given for a region. -/
def forkFor (ks : List (Nat × List Nat)) (id : Nat) (ops : Array Oper) : Option (List (Nat × Nat) × List (Nat × Nat) × List (Nat × Nat)) :=
  match ks.lookup (6000 + id) with
  | some l =>
    if forkOK ops (l.map fun c => (c / 4, c % 4)) ((keepOf ks (7000 + id)).map fun c => (c / 4, c % 4)) ((keepOf ks (8000 + id)).map fun c => (c / 4, c % 4)) = true then
      some (l.map fun c => (c / 4, c % 4), (keepOf ks (7000 + id)).map fun c => (c / 4, c % 4), (keepOf ks (8000 + id)).map fun c => (c / 4, c % 4)) else none
  | none => none
theorem forkFor_ok {ks : List (Nat × List Nat)} {id : Nat} {ops : Array Oper} {pre p1 p2 : List (Nat × Nat)} (h : forkFor ks id ops = some (pre, p1, p2)) : forkOK ops pre p1 p2 = true := by
  unfold forkFor at h
  split at h
  · split at h
    · rename_i hp; cases h; exact hp
    · cases h
  · cases h

def toA (n : Nat) (ks : List (Nat × List Nat)) : Code → A
  | .skip => .skip
  | .label _ => .skip
  | .ret => .ret
  | .exit id => .exit id
  | .seq a b => if endsCond a = true then .seq (toA n ks a) (.seq (.keep (keepOf ks (2000 + (firstReg b).getD 0))) (toA n ks b)) else .seq (toA n ks a) (toA n ks b)
  | .cond c a b => .cond c (toA n ks a) (toA n ks b)
  | .block id a => .block id (toA n ks a)
  | .scope a => toA n ks a
  | .loop a => .loop (.seq (toA n ks a) (.keep (keepOf ks (1000 + (firstReg a).getD 0))))
  | .region id ops false => if ops.toList.all (okOper n ops) then .reg (ops.toList.map (toO ops)) (keepOf ks id) else .raw (.region id ops false)
  | .region id ops true =>
    if ops.toList.all (okOper n ops) then
      match planFor ks id ops with
      | some pl => .drn (pickO ops pl) (keepOf ks id)
      | none => match forkFor ks id ops with
      | some (pre, p1, p2) => .drf (pickO ops pre) (keepOf ks (9000 + id)) (pickO ops p1) (pickO ops p2) (keepOf ks id)
      | none => match splitOf ops with
      | some k => .draw k (ops.toList.map (toO ops)) (keepOf ks id)
      | none => .raw (.region id ops true)
    else .raw (.region id ops true)
  | .rangeFunc g ps x y => .rf g ps.toList (toA n ks x) (toA n ks y)
  | c => .raw c

def markOf (D : Nat) : Deferred := { target := .collected D, args := #[] }

/-- What is known of an activation's put-off calls: B: the heap's size when the call began; fl: no loop over a function. -/
structure St (a0 : Act) (B : Nat) (fl : Bool) (a : Act) (H : Hp) : Prop where
  same : fl = true → a.defers = a0.defers
  size : B ≤ H.size
  marks : ∃ Ds : List Nat, a.defers = Ds.map markOf ++ a0.defers ∧ Ds.Nodup ∧ ∀ D ∈ Ds, B ≤ D ∧ H[D]? = some (Obj.deferred (some []))

theorem St.next {a0 a a' : Act} {B : Nat} {fl : Bool} {w w' : World} (h : St a0 B fl a w.heap) (hd : Dfs a a') (he : EnvEq w w') : St a0 B fl a' w'.heap := by
  obtain ⟨h1, h2, Ds, h3, h4, h5⟩ := h
  exact ⟨fun hf => (Eq.trans hd (h1 hf)), Nat.le_trans h2 he.size, Ds, Eq.trans hd h3, h4, fun D hD => ⟨(h5 D hD).1, he.defs D (h5 D hD).2⟩⟩

def PQ (a0 : Act) (B : Nat) (fl : Bool) (n : Nat) (w : World) (Q : E → Fr → Hp → Prop) : Exit → Act → World → Prop :=
  fun e a' w' => EnvEq w w' ∧ St a0 B fl a' w'.heap ∧ QE (fun e a' H' => ∃ F', FrOK n F' a' ∧ Q e F' H') e a' w'.heap

theorem PQ.trans {a0 : Act} {B : Nat} {fl : Bool} {n : Nat} {w w1 : World} {Q : E → Fr → Hp → Prop} (he : EnvEq w w1) {e : Exit} {a : Act} {w2 : World} (h : PQ a0 B fl n w1 Q e a w2) : PQ a0 B fl n w Q e a w2 :=
  ⟨he.trans h.1, h.2⟩

theorem FrOK.bind {n : Nat} : ∀ (ps : List Nat) (vs : List Value) (F : Fr) (a : Act), (ps.all fun p => decide (p < n)) = true → FrOK n F a →
    FrOK n (bindF ps vs F) { a with tmps := (ps.zip vs).foldl (fun tmps x => tmps.setIfInBounds x.1 x.2) a.tmps }
  | [], vs, F, a, _, h => by simpa [bindF] using h
  | p :: ps, [], F, a, _, h => by simpa [bindF] using h
  | p :: ps, v :: vs, F, a, hp, h => by
    simp only [List.all_cons, Bool.and_eq_true, decide_eq_true_eq] at hp
    have := FrOK.bind ps vs ((p, v) :: F) { a with tmps := a.tmps.setIfInBounds p v } hp.2 (by
      have := h.put (some p) (fun i hi => by cases hi; exact hp.1) v
      exact ⟨by simpa [Act.put] using this.size, this.slot⟩)
    simpa [bindF] using this

/-- No goto. -/
def noG (Q : Exit → Act → World → Prop) : Exit → Act → World → Prop
  | .goto _, _, _ => False
  | e, a, w => Q e a w

theorem wpIn_scopeS {F : Fence} {n : Nat} {P : Program} {c : Code} {Q : Exit → Act → World → Prop} {a : Act} {w : World} (h : c.wpIn F n P (noG Q) a w) : (Code.scope c).wpIn F n P Q a w := by
  intro b k cs hro hb hr
  have s1 : step P (lone (b.atR a (.code (.scope c) :: k)) cs w) = .next (lone (b.atR a (.code c :: .inScope c :: k)) cs w) := step_lone_go (by simp [stepG, stepG.exec, Frame.atR])
  have h0 : (lone (b.atR a (.code (.scope c) :: k)) cs w).fenced P F := fenced_calm hb hr rfl
  obtain ⟨e, a₁, w₁, hq, harr⟩ := h b (.inScope c :: k) cs hro hb hr
  cases e with
  | normal =>
    have s2 : step P (lone (b.atR a₁ (.inScope c :: k)) cs w₁) = .next (lone (b.atR a₁ k) cs w₁) := step_lone_go (by simp [stepG, stepG.exec, Frame.atR])
    exact ⟨.normal, a₁, w₁, hq, .head h0 s1 (StepsIn.trans harr (.one (fenced_calm hb hr rfl) s2))⟩
  | exit id =>
    have hx : exitTo id (.inScope c :: k) = exitTo id k := by simp [exitTo]
    exact ⟨.exit id, a₁, w₁, hq, fun k' hk => .head h0 s1 (harr.1 k' (by rw [hx]; exact hk)), fun hr' hk => let ⟨k₁, h1, h2⟩ := harr.2 hr' (by rw [hx]; exact hk); ⟨k₁, h1, .head h0 s1 h2⟩⟩
  | goto l => exact hq.elim
  | ret => exact ⟨_, a₁, w₁, hq, .of_steps (.one h0 s1) harr⟩
  | panic ch => exact ⟨_, a₁, w₁, hq, .of_steps (.one h0 s1) harr⟩
  | outgrown => exact ⟨_, a₁, w₁, hq, .of_steps (.one h0 s1) harr⟩

theorem run_resolve_yield {P : Program} {a : Act} {g : Operand} {l : Nat} {w : World} {fn : Fn} {first cap : Array Value} (h : a.eval g = .func fn first cap) :
    (resolve a.eval (rangeCall g l) 0).run P w = .ok { target := .fn fn cap, args := first ++ #[.func (.yield l) #[] #[]] } w := by
  unfold resolve rangeCall
  simp only [h]
  show Sem.run P (Deferred.ofValue (Value.func fn first cap) (Array.map a.eval #[Operand.const (Value.func (Fn.yield l) #[] #[])])) w = _
  have e : Array.map a.eval #[Operand.const (Value.func (Fn.yield l) #[] #[])] = #[Value.func (Fn.yield l) #[] #[]] := by simp [Act.eval]
  rw [e]
  rfl

theorem run_invoke_plain {P : Program} {it : FuncId} {cap args : Array Value} {w : World} (h : Plain P it) :
    (invoke (.fn (.func it) cap) args).run P w = .ok (.enter it (args ++ cap)) w := by
  obtain ⟨fn, h1, h2, h3⟩ := h
  show (callFunc it (args ++ cap)).run P w = _
  unfold callFunc
  show (match P.funcs[it]? with | none => _ | some fn => _ : Sem Next).run P w = _
  rw [h1]
  simp only [h2, h3, Bool.false_eq_true, if_false]
  rfl

theorem fold_zip (ps : Array Nat) (vs : List Value) (t : Array Value) : (ps.zip vs.toArray).foldl (fun tmps (x : Nat × Value) => tmps.setIfInBounds x.1 x.2) t = (ps.toList.zip vs).foldl (fun tmps x => tmps.setIfInBounds x.1 x.2) t := by
  rw [← Array.foldl_toList]
  simp

def optK (j : Option Code) (A : Prop) (B : Code → Prop) : Prop :=
  match j with
  | none => A
  | some c => B c

theorem aw_sound {P : Program} (hm : P.follows .mixedOrders = true) {n : Nat} {ks : List (Nat × List Nat)} : ∀ (c : Code) (ro : Option Nat) (a0 : Act) (B : Nat) (fl : Bool) (_ : fl = true → flat (toA n ks c) = true) (_ : fl = false → ro = none) (Q : E → Fr → Hp → Prop) (F : Fr) (H : Hp), aw P n (toA n ks c) Q F H → ∀ (a : Act) (w : World), FrOK n F a → w.heap = H → St a0 B fl a w.heap →
    c.wpIn (WF ro) 0 P (PQ a0 B fl n w Q) a w := by
  intro c
  induction c with
  | skip => intro ro a0 B fl hfl hro Q F H h a w ha hw hst; exact wpIn_skip ⟨.refl _, hst, F, ha, by rw [hw]; exact h⟩
  | label l => intro ro a0 B fl hfl hro Q F H h a w ha hw hst; exact wpIn_label ⟨.refl _, hst, F, ha, by rw [hw]; exact h⟩
  | ret => intro ro a0 B fl hfl hro Q F H h a w ha hw hst; exact wpIn_ret ⟨.refl _, hst, F, ha, by rw [hw]; exact h⟩
  | exit id => intro ro a0 B fl hfl hro Q F H h a w ha hw hst; exact wpIn_exit ⟨.refl _, hst, F, ha, by rw [hw]; exact h⟩
  | seq x y ihx ihy =>
    intro ro a0 B fl hfl hro Q F H h a w ha hw hst
    have hflx : fl = true → flat (toA n ks x) = true := fun hf => by
      have := hfl hf
      simp only [toA] at this
      split at this <;> (simp only [flat, Bool.and_eq_true] at this; exact this.1)
    have hfly : fl = true → flat (toA n ks y) = true := fun hf => by
      have := hfl hf
      simp only [toA] at this
      split at this
      · simp only [flat, Bool.and_eq_true] at this; exact this.2.2
      · simp only [flat, Bool.and_eq_true] at this; exact this.2
    have h' : aw P n (toA n ks x) (onE (fun F' H' => ∃ ks', aw P n (toA n ks y) Q (trim ks' F') H' ∨ aw P n (toA n ks y) Q F' H') Q) F H := by
      simp only [toA] at h
      split at h
      · exact aw_mono _ (fun e F' H' hh => by cases e <;> simp only [onE] at hh ⊢ <;> first | exact ⟨_, .inl hh⟩ | exact hh) F H h
      · exact aw_mono _ (fun e F' H' hh => by cases e <;> simp only [onE] at hh ⊢ <;> first | exact ⟨[], .inr hh⟩ | exact hh) F H h
    refine wpIn_seq (wpIn_mono (ihx ro a0 B fl hflx hro _ F H h' a w ha hw hst) (fun e a1 w1 h1 => ?_))
    obtain ⟨he, hs, hq⟩ := h1
    cases e with
    | normal =>
      obtain ⟨F1, hF1, ks', hy⟩ := hq
      rcases hy with hy | hy
      · exact wpIn_mono (ihy ro a0 B fl hfly hro Q _ _ hy a1 w1 (hF1.trim _) rfl hs) (fun e2 a2 w2 h2 => h2.trans he)
      · exact wpIn_mono (ihy ro a0 B fl hfly hro Q F1 _ hy a1 w1 hF1 rfl hs) (fun e2 a2 w2 h2 => h2.trans he)
    | exit id => exact ⟨he, hs, hq⟩
    | ret => exact ⟨he, hs, hq⟩
    | panic c => exact ⟨he, hs, hq⟩
    | goto l => exact hq.elim
    | outgrown => exact hq.elim
  | cond c x y ihx ihy =>
    intro ro a0 B fl hfl hro Q F H h a w ha hw hst
    have hflx : fl = true → flat (toA n ks x) = true := fun hf => by
      have := hfl hf
      simp only [toA, flat, Bool.and_eq_true] at this; exact this.1
    have hfly : fl = true → flat (toA n ks y) = true := fun hf => by
      have := hfl hf
      simp only [toA, flat, Bool.and_eq_true] at this; exact this.2
    simp only [toA, aw, withv] at h
    split at h
    · rename_i v hv
      split at h
      · rename_i t
        refine wpIn_cond (ha.eval hv) ?_
        split at h
        · rename_i ht; rw [if_pos ht]; exact ihx ro a0 B fl hflx hro Q F H h a w ha hw hst
        · rename_i ht; rw [if_neg ht]; exact ihy ro a0 B fl hfly hro Q F H h a w ha hw hst
      · exact h.elim
    · exact h.elim
  | block id x ihx =>
    intro ro a0 B fl hfl hro Q F H h a w ha hw hst
    refine wpIn_block (wpIn_mono (ihx ro a0 B fl hfl hro _ F H h a w ha hw hst) (fun e a1 w1 h1 => ?_))
    obtain ⟨he, hs, hq⟩ := h1
    cases e with
    | normal => exact ⟨he, hs, hq⟩
    | exit j =>
      obtain ⟨F1, hF1, hy⟩ := hq
      simp only [blkE] at hy
      simp only [Exit.inBlock]
      split at hy
      · rename_i hj; rw [if_pos hj]; exact ⟨he, hs, F1, hF1, hy⟩
      · rename_i hj; rw [if_neg hj]; exact ⟨he, hs, F1, hF1, hy⟩
    | ret => exact ⟨he, hs, hq⟩
    | panic c => exact ⟨he, hs, hq⟩
    | goto l => exact hq.elim
    | outgrown => exact hq.elim
  | loop x ihx =>
    intro ro a0 B fl hfl hro Q F H h a w ha hw hst
    have hflx : fl = true → flat (toA n ks x) = true := fun hf => by
      have := hfl hf
      simp only [toA, flat, Bool.and_eq_true] at this; exact this.1
    intro b k cs hbo hb hr
    have key : ∀ a w, FrOK n F a → w.heap = H → St a0 B fl a w.heap → ∃ e a' w', PQ a0 B fl n w Q e a' w' ∧ ArrivesIn (Machine.fenced P (WF ro)) P (lone (b.atR a (.code x :: .inLoop x :: k)) cs w) b k cs e a' w' := by
      refine h (fun F H => ∀ a w, FrOK n F a → w.heap = H → St a0 B fl a w.heap → ∃ e a' w', PQ a0 B fl n w Q e a' w' ∧ ArrivesIn (Machine.fenced P (WF ro)) P (lone (b.atR a (.code x :: .inLoop x :: k)) cs w) b k cs e a' w') ?_
      intro F' H' h' a w ha hw hst
      obtain ⟨e, a1, w1, ⟨he, hs, hq⟩, harr⟩ := ihx ro a0 B fl hflx hro _ F' H' h' a w ha hw hst b (.inLoop x :: k) cs hbo hb hr
      cases e with
      | normal =>
        obtain ⟨F1, hF1, hR⟩ := hq
        obtain ⟨e2, a2, w2, hq2, harr2⟩ := hR a1 w1 (hF1.trim _) rfl hs
        exact ⟨e2, a2, w2, hq2.trans he, .of_steps (StepsIn.trans harr (.one (fenced_calm hb hr rfl) stepR_inLoop)) harr2⟩
      | exit id => exact ⟨.exit id, a1, w1, ⟨he, hs, hq⟩, .pass (x := .inLoop x) rfl (fun _ _ => .inl (by simp)) harr⟩
      | ret => exact ⟨.ret, a1, w1, ⟨he, hs, hq⟩, .pass (x := .inLoop x) rfl (fun _ _ => .inl (by simp)) harr⟩
      | panic c => exact ⟨.panic c, a1, w1, ⟨he, hs, hq⟩, .pass (x := .inLoop x) rfl (fun _ _ => .inl (by simp)) harr⟩
      | goto l => exact hq.elim
      | outgrown => exact hq.elim
    obtain ⟨e, a', w', hq, harr⟩ := key a w ha hw hst
    exact ⟨e, a', w', hq, .of_steps (.one (fenced_calm hb hr rfl) stepR_loop) harr⟩
  | region id ops draw =>
    intro ro a0 B fl hfl hro Q F H h a w ha hw hst
    cases draw with
    | false =>
      simp only [toA] at h
      split at h
      · rename_i hok
        subst hw
        exact wpIn_region_list (aops_sound (ro := ro) (n := n) (w0 := w) (a0 := a) (fun F' a' w' hF' hD he hq => ⟨he, hst.next hD he, _, hF'.trim _, hq⟩) (fun c a' w' hF' hD he hq => ⟨he, hst.next hD he, _, hF', hq⟩) ops.toList (fun o ho => List.all_eq_true.1 hok o ho) F a w ha (.refl _) (.refl _) h)
      · exact h.elim
    | true =>
      simp only [toA] at h
      split at h
      · rename_i hok
        split at h
        · rename_i pl hpl
          subst hw
          exact drn_sound hm (ro := ro) (n := n) (fun F' a' w' hF' hD he hq => ⟨he, hst.next hD he, _, hF'.trim _, hq⟩) (fun c a' w' hF' hD he hq => ⟨he, hst.next hD he, _, hF', hq⟩) (planFor_ok hpl) (fun o ho => List.all_eq_true.1 hok o ho) ha h
        split at h
        · rename_i pre p1 p2 hpl
          subst hw
          exact drf_sound hm (ro := ro) (n := n) (fun F' a' w' hF' hD he hq => ⟨he, hst.next hD he, _, hF'.trim _, hq⟩) (fun c a' w' hF' hD he hq => ⟨he, hst.next hD he, _, hF', hq⟩) (forkFor_ok hpl) (fun o ho => List.all_eq_true.1 hok o ho) ha h
        split at h
        · rename_i k hk
          subst hw
          exact draw_sound hm (ro := ro) (n := n) (w0 := w) (a0 := a) (fun F' a' w' hF' hD he hq => ⟨he, hst.next hD he, _, hF'.trim _, hq⟩) (fun c a' w' hF' hD he hq => ⟨he, hst.next hD he, _, hF', hq⟩) rfl (.refl _) hk (fun o ho => List.all_eq_true.1 hok o ho) ha h
        · exact h.elim
      · exact h.elim
  | rangeFunc g ps x y ihx ihy =>
    intro ro a0 B fl hfl hro Q F H h a w ha hw hst
    have hfl' : fl = false := by
      cases fl with
      | false => rfl
      | true => have := hfl rfl; simp [toA, flat] at this
    have hro' := hro hfl'
    subst hro'
    subst hw
    simp only [toA, aw, withv] at h
    split at h
    · rename_i v hv
      split at h
      · rename_i it first cap
        obtain ⟨⟨hpl, hfs⟩, hlp⟩ := h
        simp only [Bool.and_eq_true] at hfs
        obtain ⟨⟨hfx, hfy⟩, hps⟩ := hfs
        refine wpIn_rangeFunc fun fn _ => ?_
        have hg := ha.eval hv
        let lp : Loop := { state := .ready, pending := none, fn, tmps := a.tmps, params := ps, assign := x, body := y, defers := w.heap.size }
        have hLR : LoopR ps.toList w.heap.size lp := ⟨rfl, rfl, rfl, rfl⟩
        refine ⟨w.heap.size + 1, [markOf w.heap.size], _, _, _, it, _, _, run_enterLoop_outer (P := P) (w := w) fn a.tmps ps x y, run_resolve_yield hg, fun _ _ => trivial, run_invoke_plain hpl, fun h => (by cases h), ?_⟩
        have hround : ∀ (vs : List Value) (H' : Hp) (K : Ending → Hp → Prop), vs.length = ps.toList.length → H'[w.heap.size + 1]? = some (.loop lp) →
            aw P n (toA n ks x) (noE fun F1 H1 => H1[w.heap.size + 1]? = some (.loop lp) ∧ aw P n (toA n ks y) (rndK (w.heap.size + 1) lp K) F1 (H1.setIfInBounds (w.heap.size + 1) (.loop { lp with state := .busy }))) (bindF ps.toList vs F) H' →
            HYield P (w.heap.size + 1) lp vs H' K := by
          intro vs H' K hlen hl hb w1 hw1
          refine roundIn_of_wpIn (F := Fence.wide) trivial ?_
          have hF0 := FrOK.bind ps.toList vs F { a with defers := [] } hps ⟨ha.size, ha.slot⟩
          have htm : (lp.params.zip vs.toArray).foldl (fun tmps (t, a) => tmps.setIfInBounds t a) lp.tmps = (ps.toList.zip vs).foldl (fun tmps x => tmps.setIfInBounds x.1 x.2) a.tmps := fold_zip ps vs a.tmps
          rw [htm]
          have hA := ihx (some (w.heap.size + 1)) { tmps := (ps.toList.zip vs).foldl (fun tmps x => tmps.setIfInBounds x.1 x.2) a.tmps, defers := [] } 0 true (fun _ => hfx) (fun h => (by cases h)) _ _ _ hb _ w1 hF0 hw1 ⟨fun _ => rfl, Nat.zero_le _, [], rfl, by simp, by simp⟩
          refine wpIn_mono hA fun e a1 w2 h2 => ?_
          obtain ⟨he2, hs2, hq2⟩ := h2
          cases e with
          | normal =>
            obtain ⟨F1, hF1, hl1, hb1⟩ := hq2
            refine ⟨_, run_beginRound hl1 rfl, ?_⟩
            have heB : EnvEq w2 (w2.putObj (w.heap.size + 1) (.loop { lp with state := .busy })) := .put w2 _ hl1 (by simp)
            have hB := ihy (some (w.heap.size + 1)) { tmps := a1.tmps, defers := a1.defers } 0 true (fun _ => hfy) (fun h => (by cases h)) _ _ _ hb1 a1 (w2.putObj (w.heap.size + 1) (.loop { lp with state := .busy })) hF1 rfl ⟨fun _ => rfl, Nat.zero_le _, [], rfl, by simp, by simp⟩
            refine wpIn_mono hB fun e a3 w3 h3 => ?_
            obtain ⟨he3, hs3, hq3⟩ := h3
            cases e with
            | normal =>
              obtain ⟨F3, hF3, hl3, hk3⟩ := hq3
              refine ⟨_, _, run_endRound none hl3, (he2.trans heB).trans (he3.trans (.put w3 _ hl3 (by simp))), ?_⟩
              exact hk3
            | ret =>
              obtain ⟨F3, hF3, hl3, hk3⟩ := hq3
              exact ⟨_, _, run_endRound (some .ret) hl3, (he2.trans heB).trans (he3.trans (.put w3 _ hl3 (by simp))), hk3⟩
            | exit id =>
              obtain ⟨F3, hF3, hl3, hk3⟩ := hq3
              exact ⟨_, _, run_endRound (some (.exit id)) hl3, (he2.trans heB).trans (he3.trans (.put w3 _ hl3 (by simp))), hk3⟩
            | panic c => obtain ⟨F3, hF3, hk3⟩ := hq3; exact hk3.elim
            | goto l => exact hq3.elim
            | outgrown => exact hq3.elim
          | exit id => obtain ⟨F1, hF1, hk⟩ := hq2; exact hk.elim
          | ret => obtain ⟨F1, hF1, hk⟩ := hq2; exact hk.elim
          | panic c => obtain ⟨F1, hF1, hk⟩ := hq2; exact hk.elim
          | goto l => exact hq2.elim
          | outgrown => exact hq2.elim
        have hcall := hlp lp hLR hround
        refine callsIn_WF (r := none) ((hcall _ rfl).mono fun e w3 h3 => ?_)
        obtain ⟨he3, hk3⟩ := h3
        have heA : EnvEq w ((w.alloc (.deferred (some []))).alloc (.loop lp)) := (EnvEq.push w _).trans (EnvEq.push _ _)
        have hst' : ∀ w4 : World, EnvEq ((w.alloc (.deferred (some []))).alloc (.loop lp)) w4 → St a0 B fl { a with defers := [markOf w.heap.size] ++ a.defers } w4.heap := by
          intro w4 he4
          obtain ⟨h1, h2, Ds, h3, h4, h5⟩ := hst
          refine ⟨fun hf => (by rw [hfl'] at hf; cases hf), Nat.le_trans h2 (heA.trans he4).size, w.heap.size :: Ds, by simp [h3], ?_, ?_⟩
          · refine List.nodup_cons.2 ⟨fun hD => ?_, h4⟩
            have := (h5 _ hD).2
            rw [Array.getElem?_eq_none (Nat.le_refl _)] at this
            cases this
          · intro D hD
            rcases List.mem_cons.1 hD with rfl | hD
            · refine ⟨h2, he4.defs _ ?_⟩
              show ((w.heap.push (Obj.deferred (some []))).push (Obj.loop lp))[w.heap.size]? = _
              rw [Array.getElem?_push, if_neg (by simp), Array.getElem?_push, if_pos rfl]
            · exact ⟨(h5 D hD).1, (heA.trans he4).defs D (h5 D hD).2⟩
        have hFr : FrOK n F { a with defers := [markOf w.heap.size] ++ a.defers } := ⟨ha.size, ha.slot⟩
        cases e with
        | returned v =>
          obtain ⟨lp', h1, h2, h4⟩ := hk3
          refine ⟨_, _, run_endLoop h1 h2, ?_⟩
          have he4 : EnvEq w3 (w3.putObj (w.heap.size + 1) (.loop { lp' with state := .exhausted })) := .put w3 _ h1 (by simp)
          have hs4 := hst' _ (he3.trans he4)
          change optK lp'.pending (PQ a0 B fl n w Q .normal { a with defers := [markOf w.heap.size] ++ a.defers } (w3.putObj (w.heap.size + 1) (.loop { lp' with state := .exhausted }))) (fun c => c.wpIn (WF none) 0 P (PQ a0 B fl n w Q) { a with defers := [markOf w.heap.size] ++ a.defers } (w3.putObj (w.heap.size + 1) (.loop { lp' with state := .exhausted })))
          split at h4
          · rename_i hp; exact Eq.mpr (congrArg (fun j => optK j _ _) hp) (show PQ a0 B fl n w Q .normal _ _ from ⟨heA.trans (he3.trans he4), hs4, F, hFr, h4⟩)
          · rename_i hp; exact Eq.mpr (congrArg (fun j => optK j _ _) hp) (wpIn_ret (show PQ a0 B fl n w Q .ret _ _ from ⟨heA.trans (he3.trans he4), hs4, F, hFr, h4⟩))
          · rename_i id hp; exact Eq.mpr (congrArg (fun j => optK j _ _) hp) (wpIn_exit (show PQ a0 B fl n w Q (.exit _) _ _ from ⟨heA.trans (he3.trans he4), hs4, F, hFr, h4⟩))
          · exact h4.elim
        | panicked c => exact ⟨heA.trans he3, hst' _ he3, [], hFr.nil, hk3⟩
        | outgrown => exact hk3.elim
      · exact h.elim
    · exact h.elim
  | scope body ih =>
    intro ro a0 B fl hfl hro Q F H h a w ha hw hst
    refine wpIn_scopeS (wpIn_mono (ih ro a0 B fl hfl hro Q F H h a w ha hw hst) (fun e a1 w1 h1 => ?_))
    cases e <;> first | exact h1 | exact h1.2.2.elim
  | goto l => intro ro a0 B fl hfl hro Q F H h; exact h.elim
  | refuse why => intro ro a0 B fl hfl hro Q F H h; exact h.elim

end Go.Hw

/- A function's call out of its body. -/
set_option linter.unusedSimpArgs false
set_option linter.unusedVariables false
namespace Go.Hw

theorem rd_bind {α β : Type} {P : Program} {f : α → Sem β} : ∀ (s : Sem α) (H : Hp), rd P (s.bind f) H = (rd P s H).bind fun a => rd P (f a) H := by
  intro s
  induction s with
  | pure a => intro H; rfl
  | load m a k ih => intro H; simp only [Sem.bind, rd]; cases cellH H a <;> simp [ih]
  | shape r k ih => intro H; simp only [Sem.bind, rd, ih]; split <;> rfl
  | frozen a k ih => intro H; simp only [Sem.bind, rd, ih]; split <;> rfl
  | getObj r k ih =>
    intro H; simp only [Sem.bind, rd]
    cases H[r]? with
    | none => rfl
    | some o => simp only [ih]; split <;> simp
  | program k ih => intro H; simp only [Sem.bind, rd, ih]
  | mark m k ih => intro H; simp only [Sem.bind, rd, ih]
  | store m a v k ih => intro H; rfl
  | new o k ih => intro H; rfl
  | freeze a n k ih => intro H; rfl
  | setObj r o k ih => intro H; rfl
  | choose q k ih => intro H; rfl
  | sys c k ih => intro H; rfl
  | halt x => intro H; rfl

/-- The results of a function. -/
def resW (P : Program) (F : Fr) (H : Hp) (K : List Value → Prop) : List ResultVar → Prop
  | [] => K []
  | .tmp t :: r => withv F (.tmp t) fun v => resW P F H (fun vs => K (v :: vs)) r
  | .cell a t :: r => withv F (.tmp a) fun v => match v with
    | .pointer (some ad) => match rd P (loadVar t ad) H with
      | some u => resW P F H (fun vs => K (u :: vs)) r
      | none => False
    | _ => False

def pack : List Value → Value
  | [v] => v
  | vs => .tuple vs.toArray

def retK (P : Program) (rs : List ResultVar) (K : Ending → Hp → Prop) : E → Fr → Hp → Prop
  | .normal, F, H => resW P F H (fun vs => K (.returned (pack vs)) H) rs
  | .ret, F, H => resW P F H (fun vs => K (.returned (pack vs)) H) rs
  | .panic c, _, H => K (.panicked c) H
  | .exit _, _, _ => False

def resG (tmps : Array Value) : ResultVar → Sem Value
  | .tmp t => pure (tmps.getD t undef)
  | .cell a t => do loadVar t (← asAddr (tmps.getD a undef))

theorem resW_rd {P : Program} {n : Nat} {F : Fr} {a : Act} {H : Hp} (hF : FrOK n F a) : ∀ (rs : List ResultVar) (K : List Value → Prop), resW P F H K rs →
    ∃ vs, rd P (rs.mapM (resG a.tmps)) H = some vs ∧ K vs := by
  intro rs
  induction rs with
  | nil => intro K h; exact ⟨[], rfl, h⟩
  | cons r rs ih =>
    intro K h
    have step : ∀ u, rd P (resG a.tmps r) H = some u → resW P F H (fun vs => K (u :: vs)) rs → ∃ vs, rd P ((r :: rs).mapM (resG a.tmps)) H = some vs ∧ K vs := by
      intro u hu hh
      obtain ⟨vs, h1, h2⟩ := ih _ hh
      refine ⟨u :: vs, ?_, h2⟩
      rw [List.mapM_cons]
      show rd P ((resG a.tmps r).bind fun b => (rs.mapM (resG a.tmps)).bind fun bs => Sem.pure (b :: bs)) H = _
      rw [rd_bind, hu, Option.bind_some, rd_bind, h1, Option.bind_some]
      rfl
    cases r with
    | tmp t =>
      simp only [resW, withv] at h
      split at h
      · rename_i v hv
        refine step v ?_ h
        have := hF.slot t v hv
        show some (a.tmps.getD t undef) = some v
        rw [Array.getD_eq_getD_getElem?, this]; rfl
      · exact h.elim
    | cell ad t =>
      simp only [resW, withv] at h
      split at h
      · rename_i v hv
        split at h
        · rename_i x
          split at h
          · rename_i u hu
            refine step u ?_ h
            have := hF.slot ad _ hv
            show rd P ((asAddr (a.tmps.getD ad undef)).bind (loadVar t)) H = some u
            rw [Array.getD_eq_getD_getElem?, this]
            exact hu
          · exact h.elim
        · exact h.elim
      · exact h.elim

theorem results_run {P : Program} {fn : Func} {n : Nat} {F : Fr} {a : Act} {w : World} {K : List Value → Prop} (hF : FrOK n F a) (h : resW P F w.heap K fn.results.toList) :
    ∃ vs, (results fn a.tmps).run P w = .ok (pack vs) w ∧ K vs := by
  obtain ⟨vs, h1, h2⟩ := resW_rd hF _ _ h
  refine ⟨vs, ?_, h2⟩
  have e : results fn a.tmps = (fn.results.mapM (resG a.tmps)).bind fun vs => Sem.pure (if h : vs.size = 1 then vs[0] else .tuple vs) := rfl
  rw [e, Array.mapM_eq_mapM_toList]
  refine run_of_rd _ _ _ ?_
  rw [rd_bind]
  show (rd P (List.toArray <$> _) w.heap).bind _ = _
  have e2 : (List.toArray <$> fn.results.toList.mapM (resG a.tmps) : Sem (Array Value)) = (fn.results.toList.mapM (resG a.tmps)).bind fun l => Sem.pure l.toArray := map_eq_pure_bind _ _
  rw [e2, rd_bind, h1]
  simp only [Option.bind_some, rd, Option.some.injEq]
  match vs with
  | [] => rfl
  | [v] => rfl
  | _ :: _ :: _ => simp [pack]

def enumF : Nat → List Value → Fr
  | _, [] => []
  | k, v :: r => (k, v) :: enumF (k + 1) r

theorem look?_enumF {t : Nat} {v : Value} : ∀ (l : List Value) (k : Nat), look? (enumF k l) t = some v → k ≤ t ∧ l[t - k]? = some v
  | [], _, h => by simp [enumF, look?] at h
  | u :: r, k, h => by
    simp only [enumF, look?] at h
    split at h
    · rename_i hk; subst hk; simpa using h
    · rename_i hk
      obtain ⟨h1, h2⟩ := look?_enumF r (k + 1) h
      refine ⟨by omega, ?_⟩
      rw [show t - k = (t - (k + 1)) + 1 by omega]
      simpa using h2

/-- Function f has this body. -/
def Body (P : Program) (f : FuncId) (n : Nat) (rs : List ResultVar) (A : A) : Prop :=
  flat A = true ∧ ∃ fn c ks, P.funcs[f]? = some fn ∧ fn.body = some c ∧ fn.ntmps = n ∧ fn.results.toList = rs ∧ toA n ks c = A

/-- .. with a loop over a function in it. -/
def BodyR (P : Program) (f : FuncId) (n : Nat) (rs : List ResultVar) (A : A) : Prop :=
  ∃ fn c ks, P.funcs[f]? = some fn ∧ fn.body = some c ∧ fn.ntmps = n ∧ fn.results.toList = rs ∧ toA n ks c = A

theorem FrOK.enter {n : Nat} {args : List Value} {fn : Func} (hn : fn.ntmps = n) (hsz : args.length ≤ n) :
    FrOK n (enumF 0 args) { tmps := args.toArray ++ Array.replicate (fn.ntmps - args.toArray.size) undef, defers := [] } := by
  refine ⟨by simp [hn]; omega, fun t v ht => ?_⟩
  obtain ⟨_, h2⟩ := look?_enumF args 0 ht
  simp only [Nat.sub_zero] at h2
  have h3 : t < args.length := by
    rcases Nat.lt_or_ge t args.length with h4 | h4
    · exact h4
    · rw [List.getElem?_eq_none h4] at h2; cases h2
  rw [Array.getElem?_append_left (by simpa using h3)]
  simpa using h2

theorem hcall {P : Program} (hm : P.follows .mixedOrders = true) {f : FuncId} {n : Nat} {rs : List ResultVar} {A : A} (hB : Body P f n rs A) {args : List Value} {H : Hp} {K : Ending → Hp → Prop} (hsz : args.length ≤ n)
    (h : aw P n A (retK P rs K) (enumF 0 args) H) : HCall P f args.toArray H K := by
  obtain ⟨hfl, fn, c, ks, hf, hb, hn, hr, hA⟩ := hB
  subst hA
  intro w hw
  refine (callsIn_wide (n := 0)).1 (callsIn_of_wp hf hb trivial (wpIn_mono (aw_sound hm c none { tmps := #[], defers := [] } 0 true (fun _ => hfl) (fun h => (by cases h)) _ _ _ h _ w (FrOK.enter hn hsz) hw ⟨fun _ => rfl, Nat.zero_le _, [], rfl, by simp, by simp⟩) (fun e a' w' hq => ?_)))
  obtain ⟨he, hs, hq⟩ := hq
  have hd : a'.defers = [] := hs.same rfl
  cases e with
  | normal =>
    obtain ⟨F', hF', hr'⟩ := hq
    rw [← hr] at hr'
    obtain ⟨vs, h1, h2⟩ := results_run hF' hr'
    exact ⟨hd, _, h1, he, h2⟩
  | ret =>
    obtain ⟨F', hF', hr'⟩ := hq
    rw [← hr] at hr'
    obtain ⟨vs, h1, h2⟩ := results_run hF' hr'
    exact ⟨hd, _, h1, he, h2⟩
  | panic ch =>
    obtain ⟨F', hF', hr'⟩ := hq
    exact ⟨hd, he, hr'⟩
  | exit id => obtain ⟨F', hF', hr'⟩ := hq; exact hr'.elim
  | goto l => exact hq.elim
  | outgrown => exact hq.elim

/-- The blocks for put-off calls, laid since the heap had size B, are shut; all else is as it was. -/
def Shut (B : Nat) (H H' : Hp) : Prop := H'.size = H.size ∧ ∀ b, (b < B ∨ ∀ d, H[b]? ≠ some (Obj.deferred d)) → H'[b]? = H[b]?

theorem Shut.refl (B : Nat) (H : Hp) : Shut B H H := ⟨rfl, fun _ _ => rfl⟩

def retS (P : Program) (B : Nat) (rs : List ResultVar) (K : Ending → Hp → Prop) : E → Fr → Hp → Prop
  | .normal, F, H => ∀ H', Shut B H H' → resW P F H' (fun vs => K (.returned (pack vs)) H') rs
  | .ret, F, H => ∀ H', Shut B H H' → resW P F H' (fun vs => K (.returned (pack vs)) H') rs
  | .panic c, _, H => ∀ H', Shut B H H' → K (.panicked c) H'
  | .exit _, _, _ => False

theorem leavesM {P : Program} {fn : Func} {tmps : Array Value} {R : Ending → World → Prop} {u : FrameMode} {w0 : World} (hu : u ≠ .run) : ∀ (Ds : List Nat) (w : World), Ds.Nodup → (∀ D ∈ Ds, w0.heap.size ≤ D ∧ w.heap[D]? = some (Obj.deferred (some []))) → EnvEq w0 w →
    (∀ w' : World, Shut w0.heap.size w.heap w'.heap → EnvEq w0 w' → LeavesInM Fence.wide 0 P fn tmps R [] u w') →
    LeavesInM Fence.wide 0 P fn tmps R (Ds.map markOf) u w
  | [], w, _, _, he, h => h w (Shut.refl _ _) he
  | D :: Ds, w, hn, hD, he, h => by
    obtain ⟨h1, h2⟩ := List.nodup_cons.1 hn
    obtain ⟨h3, h4⟩ := hD D (by simp)
    have hlt : D < w.heap.size := by
      rcases Nat.lt_or_ge D w.heap.size with h | h
      · exact h
      · rw [Array.getElem?_eq_none h] at h4; cases h4
    refine ⟨hu, .inl ⟨D, _, rfl, run_takeDeferred h4, ?_⟩⟩
    have he' : EnvEq w0 (w.putObj D (.deferred none)) := by
      refine ⟨he.os, he.tape, he.output, Nat.le_trans he.size (by show _ ≤ (w.heap.setIfInBounds _ _).size; simp), fun E hE => ?_⟩
      have hlt' : E < w0.heap.size := by
        rcases Nat.lt_or_ge E w0.heap.size with h | h
        · exact h
        · rw [Array.getElem?_eq_none h] at hE; cases hE
      exact (World.putObj_heap_other (by omega)).trans (he.defs E hE)
    refine leavesM hu Ds _ h2 (fun E hE => ⟨(hD E (by simp [hE])).1, ?_⟩) he' (fun w' hs he2 => h w' ?_ he2)
    · refine (World.putObj_heap_other ?_).trans (hD E (by simp [hE])).2
      intro e; subst e; exact h1 hE
    · obtain ⟨s1, s2⟩ := hs
      refine ⟨by rw [s1]; show (w.heap.setIfInBounds _ _).size = _; simp, fun b hb => ?_⟩
      have hne : b ≠ D := by
        rintro rfl
        rcases hb with hb | hb
        · omega
        · exact hb _ h4
      have e1 : (w.putObj D (.deferred none)).heap[b]? = w.heap[b]? := World.putObj_heap_other hne
      rw [← e1]
      refine s2 b ?_
      rcases hb with hb | hb
      · exact .inl hb
      · exact .inr fun d => by rw [e1]; exact hb d

theorem hcallR {P : Program} (hm : P.follows .mixedOrders = true) {f : FuncId} {n : Nat} {rs : List ResultVar} {A : A} (hB : BodyR P f n rs A) {args : List Value} {H : Hp} {K : Ending → Hp → Prop} (hsz : args.length ≤ n)
    (h : aw P n A (retS P H.size rs K) (enumF 0 args) H) : HCall P f args.toArray H K := by
  obtain ⟨fn, c, ks, hf, hb, hn, hr, hA⟩ := hB
  subst hA
  intro w hw
  refine (callsIn_wide (n := 0)).1 (callsIn_of_wp_marks hf hb trivial (wpIn_mono (aw_sound hm c none { tmps := #[], defers := [] } w.heap.size false (fun h => (by cases h)) (fun _ => rfl) _ _ _ h _ w (FrOK.enter hn hsz) hw ⟨fun _ => rfl, Nat.le_refl _, [], rfl, by simp, by simp⟩) (fun e a' w' hq => ?_)))
  obtain ⟨he, hs, hq⟩ := hq
  obtain ⟨Ds, hd, hnd, hDs⟩ := hs.marks
  simp only [List.append_nil] at hd
  subst hw
  have fin : ∀ F', FrOK n F' a' → (∀ H', Shut w.heap.size w'.heap H' → resW P F' H' (fun vs => K (.returned (pack vs)) H') rs) → LeavesInM Fence.wide 0 P fn a'.tmps (fun e w' => EnvEq w w' ∧ K e w'.heap) a'.defers .returning w' := by
    intro F' hF' hr'
    rw [hd]
    refine leavesM (by simp) Ds w' hnd hDs he fun w2 hs2 he2 => ?_
    have := hr' w2.heap hs2
    rw [← hr] at this
    obtain ⟨vs, h1, h2⟩ := results_run hF' this
    exact ⟨_, h1, he2, h2⟩
  cases e with
  | normal => obtain ⟨F', hF', hr'⟩ := hq; exact fin F' hF' hr'
  | ret => obtain ⟨F', hF', hr'⟩ := hq; exact fin F' hF' hr'
  | panic ch =>
    obtain ⟨F', hF', hr'⟩ := hq
    show LeavesInM Fence.wide 0 P fn a'.tmps _ a'.defers (.panicking ch) w'
    rw [hd]
    exact leavesM (by simp) Ds w' hnd hDs he fun w2 hs2 he2 => ⟨he2, hr' _ hs2⟩
  | exit id => obtain ⟨F', hF', hr'⟩ := hq; exact hr'.elim
  | goto l => exact hq.elim
  | outgrown => exact hq.elim

end Go.Hw

/- One operation at a time: equations for 'opA', 'qA', 'aops', 'aq', 'aw'. -/
set_option linter.unusedSimpArgs false
set_option linter.unusedVariables false
namespace Go.Hw

section
variable {P : Program} {F : Fr} {H : Hp} {K : Value → Hp → Prop} {X : List PanicEntry → Hp → Prop} {KQ : Value → Prop} {d : Option Nat} {ty : TypeId} {g : Option (Nat × Bool)}

theorem hwx_bind {α β : Type} {f : α → Sem β} {K : β → Hp → Prop} {X : Value → Hp → Prop} : ∀ (s : Sem α) (H : Hp), hwx P (s.bind f) K X H = hwx P s (fun a H' => hwx P (f a) K X H') X H := by
  intro s
  induction s with
  | pure a => intro H; rfl
  | load m a k ih => intro H; simp only [Sem.bind, hwx]; cases cellH H a <;> simp [ih]
  | store m a v k ih => intro H; simp only [Sem.bind, hwx, ih]
  | new o k ih => intro H; simp only [Sem.bind, hwx, ih]
  | shape r k ih => intro H; simp only [Sem.bind, hwx, ih]
  | freeze a n k ih => intro H; simp only [Sem.bind, hwx, ih]
  | frozen a k ih => intro H; simp only [Sem.bind, hwx, ih]
  | getObj r k ih => intro H; simp only [Sem.bind, hwx]; cases H[r]? <;> simp [ih]
  | setObj r o k ih => intro H; simp only [Sem.bind, hwx]; cases H[r]? <;> simp [ih]
  | choose q k ih => intro H; simp only [Sem.bind, hwx, ih]
  | sys c k ih => intro H; rfl
  | program k ih => intro H; simp only [Sem.bind, hwx, ih]
  | mark m k ih => intro H; simp only [Sem.bind, hwx, ih]
  | halt x => intro H; cases x <;> rfl

/-- What an operation that yields a value does. -/
def hv (P : Program) (s : Sem Value) (K : Value → Hp → Prop) (X : List PanicEntry → Hp → Prop) (H : Hp) : Prop :=
  hwx P s K (fun v H' => X [{ v, recovered := false }] H') H

theorem opA_1 {op : Op} {x : Operand} {f : Value → Sem Next} (h1 : op.operands = #[x]) (h2 : ∀ ρ, execOp ρ (O.oper ⟨d, op, ty, g⟩) = f (ρ x)) :
    opA P ⟨d, op, ty, g⟩ F H K X = withv F x fun v => hwx P (f v) (nextK P K X) (fun v H' => X [{ v, recovered := false }] H') H := by
  unfold opA withv
  simp only [h1, h2]
  cases hx : evo F x with
  | none => simp [hx]
  | some v => simp [hx, evd]

theorem opA_2 {op : Op} {x y : Operand} {f : Value → Value → Sem Next} (h1 : op.operands = #[x, y]) (h2 : ∀ ρ, execOp ρ (O.oper ⟨d, op, ty, g⟩) = f (ρ x) (ρ y)) :
    opA P ⟨d, op, ty, g⟩ F H K X = withv F x fun v => withv F y fun u => hwx P (f v u) (nextK P K X) (fun v H' => X [{ v, recovered := false }] H') H := by
  unfold opA withv
  simp only [h1, h2]
  cases hx : evo F x with
  | none => simp [hx]
  | some v =>
    cases hy : evo F y with
    | none => simp [hx, hy]
    | some u => simp [hx, hy, evd]

theorem opA_3 {op : Op} {x y z : Operand} {f : Value → Value → Value → Sem Next} (h1 : op.operands = #[x, y, z]) (h2 : ∀ ρ, execOp ρ (O.oper ⟨d, op, ty, g⟩) = f (ρ x) (ρ y) (ρ z)) :
    opA P ⟨d, op, ty, g⟩ F H K X = withv F x fun v => withv F y fun u => withv F z fun t => hwx P (f v u t) (nextK P K X) (fun v H' => X [{ v, recovered := false }] H') H := by
  unfold opA withv
  simp only [h1, h2]
  cases hx : evo F x with
  | none => simp [hx]
  | some v =>
    cases hy : evo F y with
    | none => simp [hx, hy]
    | some u =>
      cases hz : evo F z with
      | none => simp [hx, hy, hz]
      | some t => simp [hx, hy, hz, evd]

theorem opA_0 {op : Op} {f : Sem Next} (h1 : op.operands = #[]) (h2 : ∀ ρ, execOp ρ (O.oper ⟨d, op, ty, g⟩) = f) :
    opA P ⟨d, op, ty, g⟩ F H K X = hwx P f (nextK P K X) (fun v H' => X [{ v, recovered := false }] H') H := by
  unfold opA
  simp [h1, h2]

/-- Operands one behind the other. -/
def withvs (F : Fr) : List Operand → (List Value → Prop) → Prop
  | [], K => K []
  | x :: r, K => withv F x fun v => withvs F r fun vs => K (v :: vs)

theorem withvs_eq : ∀ (l : List Operand) (K : List Value → Prop), withvs F l K = ((l.all fun x => (evo F x).isSome) = true ∧ K (l.map (evd F)))
  | [], K => by simp [withvs]
  | x :: r, K => by
    simp only [withvs, withv]
    cases hx : evo F x with
    | none => simp [hx]
    | some v =>
      simp only []
      rw [withvs_eq r]
      simp [hx, evd]

theorem opA_n {op : Op} {l : List Operand} {f : List Value → Sem Next} (h1 : op.operands.toList = l) (h2 : ∀ ρ, execOp ρ (O.oper ⟨d, op, ty, g⟩) = f (l.map ρ)) :
    opA P ⟨d, op, ty, g⟩ F H K X = withvs F l fun vs => hwx P (f vs) (nextK P K X) (fun v H' => X [{ v, recovered := false }] H') H := by
  rw [withvs_eq]
  unfold opA
  rw [← h1]
  simp only [h2, h1]
  rw [← Array.all_toList, h1]

theorem hv_next (s : Sem Value) : hwx P (do pure (.value (← s)) : Sem Next) (nextK P K X) (fun v H' => X [{ v, recovered := false }] H') H = hv P s K X H :=
  hwx_bind s H

theorem hu_next (s : Sem Unit) : hwx P (do s; pure .skip : Sem Next) (nextK P K X) (fun v H' => X [{ v, recovered := false }] H') H = hwx P s (fun _ H' => K undef H') (fun v H' => X [{ v, recovered := false }] H') H :=
  hwx_bind s H

theorem opA_move (x : Operand) : opA P ⟨d, .move x, ty, g⟩ F H K X = withv F x fun v => K v H := opA_1 rfl (f := fun v => pure (.value v)) fun _ => rfl
theorem opA_assign (x : Operand) : opA P ⟨d, .assign x, ty, g⟩ F H K X = withv F x fun v => K v H := opA_1 rfl (f := fun v => pure (.value v)) fun _ => rfl

def pickA (c a b : Value) (K : Value → Prop) : Prop :=
  match c with
  | .bool t => K (if t then a else b)
  | _ => False

theorem opA_pick (c a b : Operand) : opA P ⟨d, .pick c a b, ty, g⟩ F H K X = withv F c fun vc => withv F a fun va => withv F b fun vb => pickA vc va vb fun v => K v H := by
  rw [opA_3 rfl (f := fun c a b => do pure (.value (if ← asBool c then a else b))) fun _ => rfl]
  congr; funext vc; congr; funext va; congr; funext vb
  cases vc <;> rfl

def extrA (v : Value) (i : Nat) (K : Value → Prop) : Prop :=
  match v with
  | .tuple vs => match vs[i]? with
    | some u => K u
    | none => False
  | _ => False

theorem opA_extract (x : Operand) (i : Nat) : opA P ⟨d, .extract x i, ty, g⟩ F H K X = withv F x fun v => extrA v i fun u => K u H := by
  rw [opA_1 rfl (f := fun v => do pure (.value (← Instr.extract v i))) fun _ => rfl]
  congr; funext v
  rw [hv_next]
  cases v <;> try rfl
  rename_i vs
  simp only [extrA, hv, Instr.extract]
  cases vs[i]? <;> rfl

def unA (P : Program) (op : UnOp) (v : Value) (K : Value → Hp → Prop) (X : List PanicEntry → Hp → Prop) (H : Hp) : Prop := hv P (Op.unary op v) K X H
theorem opA_unOp (op : UnOp) (t : TypeId) (x : Operand) : opA P ⟨d, .unOp op t x, ty, g⟩ F H K X = withv F x fun v => unA P op v K X H := by
  rw [opA_1 rfl (f := fun v => do pure (.value (← Op.unary op v))) fun _ => rfl]
  congr; funext v; exact hv_next _
theorem unA_not (b : Bool) : unA P .not (.bool b) K X H = K (.bool (!b)) H := (rfl)
theorem unA_neg (k : IntKind) (n : Int) : unA P .neg (.int k n) K X H = K (.int k (k.wrap (0 - n))) H := (rfl)

def binA (P : Program) (op : BinOp) (t : TypeId) (x y : Operand) (a b : Value) (K : Value → Hp → Prop) (X : List PanicEntry → Hp → Prop) (H : Hp) : Prop :=
  hv P (do eqGuard op t x y a b; binOp op t a b) K X H
theorem opA_binOp (op : BinOp) (t : TypeId) (x y : Operand) (u : TypeId) : opA P ⟨d, .binOp op t x y u, ty, g⟩ F H K X = withv F x fun a => withv F y fun b => binA P op t x y a b K X H := by
  rw [opA_2 rfl (f := fun a b => do pure (.value (← (do eqGuard op t x y a b; binOp op t a b)))) fun _ => rfl]
  congr; funext v; congr; funext u; exact hv_next _

section bin
variable {t : TypeId} {x y : Operand} {k : IntKind} {a b : Int} {p q : Bool} {s u : ByteArray}
theorem binA_add : binA P .add t x y (.int k a) (.int k b) K X H = K (.int k (k.wrap (a + b))) H := by cases k <;> rfl
theorem binA_sub : binA P .sub t x y (.int k a) (.int k b) K X H = K (.int k (k.wrap (a - b))) H := by cases k <;> rfl
theorem binA_mul : binA P .mul t x y (.int k a) (.int k b) K X H = K (.int k (k.wrap (a * b))) H := by cases k <;> rfl
theorem binA_lss : binA P .lss t x y (.int k a) (.int k b) K X H = K (.bool (decide (a < b))) H := by cases k <;> rfl
theorem binA_leq : binA P .leq t x y (.int k a) (.int k b) K X H = K (.bool (decide (a ≤ b))) H := by cases k <;> rfl
theorem binA_gtr : binA P .gtr t x y (.int k a) (.int k b) K X H = K (.bool (decide (b < a))) H := by cases k <;> rfl
theorem binA_geq : binA P .geq t x y (.int k a) (.int k b) K X H = K (.bool (decide (b ≤ a))) H := by cases k <;> rfl
theorem binA_eql : binA P .eql t x y (.int k a) (.int k b) K X H = K (.bool (decide (a = b))) H := by cases k <;> rfl
theorem binA_neq : binA P .neq t x y (.int k a) (.int k b) K X H = K (.bool (!decide (a = b))) H := by cases k <;> rfl
theorem binA_sadd : binA P .add t x y (.string s) (.string u) K X H = (((s.size + u.size : Nat) : Int) ≤ IntKind.i64.max ∧ K (.string (s ++ u)) H) := by
  have : binA P .add t x y (.string s) (.string u) K X H = hv P (Op.stringOp .add s u) K X H := (rfl)
  rw [this]
  simp only [hv, Op.stringOp]
  by_cases h : ((s.size + u.size : Nat) : Int) > IntKind.i64.max
  · rw [if_pos h]
    have h2 : ¬ (((s.size + u.size : Nat) : Int) ≤ IntKind.i64.max) := by omega
    simp only [h2, false_and, eq_iff_iff, iff_false]
    exact id
  · rw [if_neg h]
    have h2 : (((s.size + u.size : Nat) : Int) ≤ IntKind.i64.max) := by omega
    simp only [h2, true_and]
    rfl
theorem binA_seql : binA P .eql t x y (.string s) (.string u) K X H = K (.bool (s.toList == u.toList)) H := (rfl)
theorem binA_sneq : binA P .neq t x y (.string s) (.string u) K X H = K (.bool (!(s.toList == u.toList))) H := (rfl)
theorem binA_slss : binA P .lss t x y (.string s) (.string u) K X H = K (.bool (Op.bytesLess s.toList u.toList)) H := (rfl)
theorem binA_sleq : binA P .leq t x y (.string s) (.string u) K X H = K (.bool (Op.bytesLess s.toList u.toList || s.toList == u.toList)) H := (rfl)
theorem binA_sgtr : binA P .gtr t x y (.string s) (.string u) K X H = K (.bool (!(Op.bytesLess s.toList u.toList || s.toList == u.toList))) H := (rfl)
theorem binA_sgeq : binA P .geq t x y (.string s) (.string u) K X H = K (.bool (!Op.bytesLess s.toList u.toList)) H := (rfl)
end bin

/-! ### Calls -/

def callSem (c : Callee) (ats : Array TypeId) (ty : TypeId) (cs : Array Bool) : List Value → Sem Next
  | vs => match c with
    | .builtin b => builtin b ats ty cs vs.toArray
    | .value _ => (Deferred.ofValue (vs.headD undef) vs.tail.toArray).bind fun d => invoke d.target d.args
    | .invoke _ name => invoke (.fn (.method name) #[]) (#[vs.headD undef] ++ vs.tail.toArray)

def callA (P : Program) (c : Callee) (ats : Array TypeId) (ty : TypeId) (cs : Array Bool) (vs : List Value) (K : Value → Hp → Prop) (X : List PanicEntry → Hp → Prop) (H : Hp) : Prop :=
  hwx P (callSem c ats ty cs vs) (nextK P K X) (fun v H' => X [{ v, recovered := false }] H') H

def callOps (c : Call) : List Operand := (match c.callee with | .value f => [f] | .invoke r _ => [r] | .builtin _ => []) ++ c.args.toList

def constOf : Operand → Bool
  | .const _ => true
  | _ => false

theorem lmap {α β : Type} (f : α → β) (a : Array α) : (List.map f a.toList).toArray = a.map f := by cases a; simp

theorem callSem_eq (c : Call) (ty : TypeId) (d : Option Nat) (g : Option (Nat × Bool)) (ρ : Operand → Value) :
    execOp ρ (O.oper ⟨d, .call c, ty, g⟩) = callSem c.callee c.argTypes ty (c.args.map constOf) ((callOps c).map ρ) := by
  obtain ⟨callee, args, ats⟩ := c
  cases callee with
  | builtin b =>
    show ((resolve ρ ⟨.builtin b, args, ats⟩ ty).bind fun d => invoke d.target d.args) = _
    unfold resolve
    simp only [callOps, callSem, List.nil_append, lmap]
    show builtin b ats ty (args.map _) (args.map ρ) = _
    congr 1
  | value f =>
    show ((resolve ρ ⟨.value f, args, ats⟩ ty).bind fun d => invoke d.target d.args) = _
    unfold resolve
    simp only [callOps, callSem, List.singleton_append, List.map_cons, List.headD_cons, List.tail_cons, lmap]
  | invoke r name =>
    show ((resolve ρ ⟨.invoke r name, args, ats⟩ ty).bind fun d => invoke d.target d.args) = _
    unfold resolve
    simp only [callOps, callSem, List.singleton_append, List.map_cons, List.headD_cons, List.tail_cons, lmap]
    rfl

theorem opA_call (c : Call) : opA P ⟨d, .call c, ty, g⟩ F H K X = withvs F (callOps c) fun vs => callA P c.callee c.argTypes ty (c.args.map constOf) vs K X H := by
  refine opA_n (l := callOps c) ?_ (f := callSem c.callee c.argTypes ty (c.args.map constOf)) (callSem_eq c ty d g)
  obtain ⟨callee, args, ats⟩ := c
  cases callee <;> simp [Op.operands, Call.operands, callOps]

theorem hw_und {α : Type} {t : TypeId} {d : TypeDesc} {f : TypeDesc → Sem α} {K : α → Hp → Prop} {X : Value → Hp → Prop} (h : P.underlying t = some d) : hwx P ((underlying t).bind f) K X H = hwx P (f d) K X H := by
  unfold underlying
  show hwx P ((match P.underlying t with | some d => pure d | none => _ : Sem TypeDesc).bind _) _ _ H = _
  rw [h]
  rfl

theorem callA_fn {f : FuncId} (h : Plain P f) {o : Operand} {ats : Array TypeId} {cs : Array Bool} {first cap : Array Value} {vs : List Value} :
    callA P (.value o) ats ty cs (.func (.func f) first cap :: vs) K X H = HCall P f (first ++ vs.toArray ++ cap) H (callK K X) := by
  obtain ⟨fn, h1, h2, h3⟩ := h
  unfold callA callSem
  simp only [List.headD_cons, List.tail_cons]
  show hwx P ((callFunc f (first ++ vs.toArray ++ cap))) _ _ H = _
  unfold callFunc
  show hwx P (match P.funcs[f]? with | none => _ | some fn => _) _ _ H = _
  rw [h1]
  simp only [h2, h3, Bool.false_eq_true, if_false]
  rfl

section builtins
variable {t : TypeId} {cs : Array Bool} {ats : Array TypeId}
theorem len_string {s : ByteArray} (h : P.underlying t = some .string) : callA P (.builtin .len) #[t] ty cs [.string s] K X H = K (.int .i64 s.size) H := by
  show hwx P (do let v ← Builtin.len_ #[t] ty #[.string s]; pure (Next.value v)) _ _ H = _
  rw [hv_next]
  unfold hv Builtin.len_
  show hwx P ((underlying t).bind _) _ _ H = _
  rw [hw_und h]
  rfl
theorem len_slice {e : TypeId} {a : Option Addr} {n c : Nat} (h : P.underlying t = some (.slice e)) : callA P (.builtin .len) #[t] ty cs [.slice a n c] K X H = K (.int .i64 n) H := by
  show hwx P (do let v ← Builtin.len_ #[t] ty #[.slice a n c]; pure (Next.value v)) _ _ H = _
  rw [hv_next]
  unfold hv Builtin.len_
  show hwx P ((underlying t).bind _) _ _ H = _
  rw [hw_und h]
  rfl
end builtins

/-! ### Strings -/

def idxA (P : Program) (t : TypeId) (x i : Value) (K : Value → Hp → Prop) (X : List PanicEntry → Hp → Prop) (H : Hp) : Prop := hv P (Instr.index t x i) K X H
theorem opA_index (t : TypeId) (x i : Operand) : opA P ⟨d, .index t x i, ty, g⟩ F H K X = withv F x fun a => withv F i fun b => idxA P t a b K X H := by
  rw [opA_2 rfl (f := fun a b => do pure (.value (← Instr.index t a b))) fun _ => rfl]
  congr; funext v; congr; funext u; exact hv_next _

theorem idxA_string {t : TypeId} {s : ByteArray} {k : IntKind} {i : Int} (h : P.underlying t = some .string) (h0 : 0 ≤ i) (h1 : i < s.size) :
    idxA P t (.string s) (.int k i) K X H = K (.int .u8 ((s.data.toList.getD i.toNat 0).toNat)) H := by
  unfold idxA hv Instr.index
  show hwx P ((underlying t).bind _) _ _ H = _
  rw [hw_und h]
  have h2 : i.toNat < s.size := by omega
  have h4 : i.toNat < s.data.size := h2
  have h3 : s[i.toNat]? = some (s.data.toList.getD i.toNat 0) := by
    rw [getElem?_pos s i.toNat h2]
    have : s[i.toNat] = s.data[i.toNat] := (rfl)
    rw [this]
    simp [List.getD_eq_getElem?_getD, h4, Array.getElem?_eq_getElem h4]
  show hwx P (match (if 0 ≤ i then s[i.toNat]? else none) with | some b => Sem.pure (Value.int .u8 b.toNat) | none => _) _ _ H = _
  rw [if_pos h0, h3]
  rfl

def sliA (P : Program) (t : TypeId) (x : Value) (lo hi mx : Option Value) (K : Value → Hp → Prop) (X : List PanicEntry → Hp → Prop) (H : Hp) : Prop := hv P (Instr.sliceAt t x lo hi mx) K X H

def withov (F : Fr) : Option Operand → (Option Value → Prop) → Prop
  | none, K => K none
  | some x, K => withv F x fun v => K (some v)

theorem opA_slice (t : TypeId) (x : Operand) (lo hi mx : Option Operand) : opA P ⟨d, .slice t x lo hi mx, ty, g⟩ F H K X = withv F x fun v => withov F lo fun l => withov F hi fun h => withov F mx fun m => sliA P t v l h m K X H := by
  cases lo with
  | none =>
    cases hi with
    | none =>
      cases mx with
      | none => rw [opA_1 (x := x) rfl (f := fun v => do pure (.value (← Instr.sliceAt t v none none none))) fun _ => rfl]; congr; funext v; exact hv_next _
      | some m => rw [opA_2 (x := x) (y := m) rfl (f := fun v m => do pure (.value (← Instr.sliceAt t v none none (some m)))) fun _ => rfl]; congr; funext v; simp only [withov]; congr; funext v2; exact hv_next _
    | some h =>
      cases mx with
      | none => rw [opA_2 (x := x) (y := h) rfl (f := fun v m => do pure (.value (← Instr.sliceAt t v none (some m) none))) fun _ => rfl]; congr; funext v; simp only [withov]; congr; funext v2; exact hv_next _
      | some m => rw [opA_3 (x := x) (y := h) (z := m) rfl (f := fun v h m => do pure (.value (← Instr.sliceAt t v none (some h) (some m)))) fun _ => rfl]; congr; funext v; simp only [withov]; congr; funext v2; congr; funext v3; exact hv_next _
  | some l =>
    cases hi with
    | none =>
      cases mx with
      | none => rw [opA_2 (x := x) (y := l) rfl (f := fun v m => do pure (.value (← Instr.sliceAt t v (some m) none none))) fun _ => rfl]; congr; funext v; simp only [withov]; congr; funext v2; exact hv_next _
      | some m => rw [opA_3 (x := x) (y := l) (z := m) rfl (f := fun v h m => do pure (.value (← Instr.sliceAt t v (some h) none (some m)))) fun _ => rfl]; congr; funext v; simp only [withov]; congr; funext v2; congr; funext v3; exact hv_next _
    | some h =>
      cases mx with
      | none => rw [opA_3 (x := x) (y := l) (z := h) rfl (f := fun v h m => do pure (.value (← Instr.sliceAt t v (some h) (some m) none))) fun _ => rfl]; congr; funext v; simp only [withov]; congr; funext v2; congr; funext v3; exact hv_next _
      | some m =>
        rw [opA_n (l := [x, l, h, m]) rfl (f := fun vs => do pure (.value (← Instr.sliceAt t (vs.getD 0 undef) (some (vs.getD 1 undef)) (some (vs.getD 2 undef)) (some (vs.getD 3 undef))))) fun _ => rfl]
        simp only [withvs, withov]
        congr; funext v; congr; funext v2; congr; funext v3; congr; funext v4; exact hv_next _

theorem sliceBound_ok {k : IntKind} {l y : Nat} {c : BoundsCode} (h : l ≤ y) : Instr.sliceBound (.int k (l : Int)) y c = pure l := by
  show (if 0 ≤ (l : Int) ∧ (l : Int) ≤ y then pure (l : Int).toNat else _) = _
  rw [if_pos ⟨by omega, by omega⟩, Int.toNat_natCast]

/-- A bound that may be left out. -/
def BoundIs (v : Option Value) (dflt n : Nat) : Prop := (v = none ∧ n = dflt) ∨ ∃ k i, v = some (.int k i) ∧ i = (n : Int)

theorem BoundIs.no (n : Nat) : BoundIs none n n := .inl ⟨rfl, rfl⟩
theorem BoundIs.nat (k : IntKind) (d n : Nat) : BoundIs (some (.int k (n : Int))) d n := .inr ⟨k, _, rfl, rfl⟩
theorem BoundIs.int {k : IntKind} {d : Nat} {i : Int} (h : 0 ≤ i) : BoundIs (some (.int k i)) d i.toNat := .inr ⟨k, _, rfl, by omega⟩

theorem sliceBounds_ok {b : Bool} {len cap l r : Nat} {lo hi : Option Value} (hl : BoundIs lo 0 l) (hr : BoundIs hi len r) (hlr : l ≤ r) (hrs : r ≤ cap) : Instr.sliceBounds b len cap lo hi none = pure (l, r, cap) := by
  rcases hl with ⟨rfl, rfl⟩ | ⟨k, i, rfl, rfl⟩ <;> rcases hr with ⟨rfl, rfl⟩ | ⟨k', i', rfl, rfl⟩ <;> simp [Instr.sliceBounds, sliceBound_ok, hlr, hrs]

theorem sliceAt_str {t : TypeId} {s : ByteArray} {K : Value → Hp → Prop} {X : Value → Hp → Prop} (h : P.underlying t = some .string) {lo hi : Option Value} : hwx P (Instr.sliceAt t (.string s) lo hi none) K X H = hwx P (Instr.slice t (.string s) lo hi none) K X H := by
  unfold Instr.sliceAt
  show hwx P ((underlying t).bind _) _ _ H = _
  rw [hw_und h]
theorem slice_str {t : TypeId} {s : ByteArray} {K : Value → Hp → Prop} {X : Value → Hp → Prop} (h : P.underlying t = some .string) {lo hi : Option Value} : hwx P (Instr.slice t (.string s) lo hi none) K X H = hwx P ((Instr.sliceBounds false s.size s.size lo hi none).bind fun b => Sem.pure (Value.string (s.extract b.1 b.2.1))) K X H := by
  unfold Instr.slice
  show hwx P ((underlying t).bind _) _ _ H = _
  rw [hw_und h]
  rfl

/-- A string's part. -/
theorem sliA_string {t : TypeId} {s : ByteArray} (h : P.underlying t = some .string) {lo hi : Option Value} {l r : Nat} (hl : BoundIs lo 0 l) (hr : BoundIs hi s.size r) (hlr : l ≤ r) (hrs : r ≤ s.size) :
    sliA P t (.string s) lo hi none K X H = K (.string (s.extract l r)) H := by
  unfold sliA hv
  rw [sliceAt_str h, slice_str h, sliceBounds_ok hl hr hlr hrs]
  rfl

end
end Go.Hw

/- Memory: cells, variables, rows, append. -/
set_option linter.unusedSimpArgs false
set_option linter.unusedVariables false
namespace Go.Hw

theorem Ext.push (H : Hp) (o : Obj) : Ext H (H.push o) := ⟨by simp, fun b hb => by rw [Array.getElem?_push, if_neg (by omega)]⟩

/-- All but the blocks of S is as it was. -/
structure Keep (S : Nat → Prop) (H H' : Hp) : Prop where
  size : H.size ≤ H'.size
  blk : ∀ b, b < H.size → ¬ S b → H'[b]? = H[b]?

theorem Keep.refl (S : Nat → Prop) (H : Hp) : Keep S H H := ⟨Nat.le_refl _, fun _ _ _ => rfl⟩
theorem Keep.trans {S : Nat → Prop} {a b c : Hp} (h : Keep S a b) (k : Keep S b c) : Keep S a c := ⟨Nat.le_trans h.size k.size, fun i hi hs => (k.blk i (Nat.lt_of_lt_of_le hi h.size) hs).trans (h.blk i hi hs)⟩
theorem Keep.mono {S S' : Nat → Prop} {H H' : Hp} (h : Keep S H H') (hs : ∀ b, S b → S' b) : Keep S' H H' := ⟨h.size, fun b hb hn => h.blk b hb fun h1 => hn (hs b h1)⟩
theorem Ext.keep {S : Nat → Prop} {H H' : Hp} (h : Ext H H') : Keep S H H' := ⟨h.size, fun b hb _ => h.blk b hb⟩
theorem Ext.then {H H' H'' : Hp} {S : Nat → Prop} (h : Ext H H') (k : Keep S H' H'') (hs : ∀ b, S b → H.size ≤ b) : Ext H H'' :=
  ⟨Nat.le_trans h.size k.size, fun b hb => (k.blk b (Nat.lt_of_lt_of_le hb h.size) fun h1 => by have := hs b h1; omega).trans (h.blk b hb)⟩
theorem Keep.ext {H H' : Hp} {S : Nat → Prop} (k : Keep S H H') (hs : ∀ b, ¬ S b ∨ H.size ≤ b) : Ext H H' :=
  ⟨k.size, fun b hb => k.blk b hb fun h1 => by rcases hs b with h | h; exact h h1; omega⟩

theorem get_push_lt {H : Hp} {o : Obj} {b : Nat} (h : b < H.size) : (H.push o)[b]? = H[b]? := by rw [Array.getElem?_push, if_neg (by omega)]
theorem get_push_eq {H : Hp} {o : Obj} : (H.push o)[H.size]? = some o := by simp
theorem get_lt {H : Hp} {b : Nat} {o : Obj} (h : H[b]? = some o) : b < H.size := by
  rcases Nat.lt_or_ge b H.size with h1 | h1
  · exact h1
  · rw [Array.getElem?_eq_none h1] at h; cases h
theorem get_eq {H : Hp} {b : Nat} {o : Obj} (h : H[b]? = some o) {hb : b < H.size} : H[b] = o := by
  rw [Array.getElem?_eq_getElem hb] at h; exact Option.some.inj h
theorem Ext.get {H H' : Hp} (h : Ext H H') {b : Nat} {o : Obj} (hb : H[b]? = some o) : H'[b]? = some o := (h.blk b (get_lt hb)).trans hb
theorem Keep.get {S : Nat → Prop} {H H' : Hp} (h : Keep S H H') {b : Nat} {o : Obj} (hb : H[b]? = some o) (hs : ¬ S b) : H'[b]? = some o := (h.blk b (get_lt hb) hs).trans hb

theorem cell_of_blk {H : Hp} {b off : Nat} {c : Array Value} {e : TypeId} {f : Nat × Nat} (h : H[b]? = some (.cells c e f)) : cellH H ⟨b, off, none⟩ = c[off]? := by
  simp [cellH, h]
theorem cell_ext {H H' : Hp} (h : Ext H H') {a : Addr} {v : Value} (hc : cellH H a = some v) : cellH H' a = some v := by
  unfold cellH at hc ⊢
  cases hb : H[a.block]? with
  | none => rw [hb] at hc; cases hc
  | some o => rw [hb] at hc; rw [h.get hb]; exact hc
theorem cell_keep {S : Nat → Prop} {H H' : Hp} (h : Keep S H H') {a : Addr} {v : Value} (hc : cellH H a = some v) (hs : ¬ S a.block) : cellH H' a = some v := by
  unfold cellH at hc ⊢
  cases hb : H[a.block]? with
  | none => rw [hb] at hc; cases hc
  | some o => rw [hb] at hc; rw [h.get hb hs]; exact hc
theorem add_none (b off i : Nat) : (⟨b, off, none⟩ : Addr).add i = ⟨b, off + i, none⟩ := by
  unfold Addr.add
  split
  · rename_i h; subst h; rfl
  · rfl

/-- n cells from a on. -/
def cellsH (H : Hp) (a : Addr) : Nat → Nat → Option (List Value)
  | _, 0 => some []
  | i, n + 1 => match cellH H (a.add i) with
    | some v => (cellsH H a (i + 1) n).map (v :: ·)
    | none => none

theorem cellsH_ext {H H' : Hp} (h : Ext H H') {a : Addr} : ∀ (n i : Nat) {l : List Value}, cellsH H a i n = some l → cellsH H' a i n = some l
  | 0, i, l, hl => hl
  | n + 1, i, l, hl => by
    simp only [cellsH] at hl ⊢
    cases hc : cellH H (a.add i) with
    | none => rw [hc] at hl; cases hl
    | some v =>
      rw [hc] at hl
      rw [cell_ext h hc]
      simp only [Option.map_eq_some_iff] at hl ⊢
      obtain ⟨m, hm, rfl⟩ := hl
      exact ⟨m, cellsH_ext h n (i + 1) hm, rfl⟩

theorem cellsH_of_blk {H : Hp} {b off : Nat} {c : Array Value} {e : TypeId} {f : Nat × Nat} (h : H[b]? = some (.cells c e f)) : ∀ (n i : Nat), off + i + n ≤ c.size → cellsH H ⟨b, off, none⟩ i n = some ((c.toList.drop (off + i)).take n)
  | 0, i, _ => by simp [cellsH]
  | n + 1, i, hn => by
    simp only [cellsH, add_none, cell_of_blk h]
    have h1 : off + i < c.size := by omega
    rw [Array.getElem?_eq_getElem h1]
    simp only []
    rw [cellsH_of_blk h n (i + 1) (by omega)]
    have h2 : off + i < c.toList.length := by simpa using h1
    rw [List.drop_eq_getElem_cons h2]
    simp [Nat.add_assoc]

section
variable {P : Program} {H : Hp} {α : Type} {K : α → Hp → Prop} {X : Value → Hp → Prop}

theorem hw_loadCellsFrom {a : Addr} {K : Array Value → Hp → Prop} : ∀ (n i : Nat) (acc : Array Value) {l : List Value}, cellsH H a i n = some l → hwx P (loadCellsFrom a i n acc) K X H = K (acc ++ l.toArray) H
  | 0, i, acc, l, h => by
    simp only [cellsH, Option.some.injEq] at h
    subst h
    show K acc H = _
    simp
  | n + 1, i, acc, l, h => by
    simp only [cellsH] at h
    cases hc : cellH H (a.add i) with
    | none => rw [hc] at h; cases h
    | some v =>
      rw [hc] at h
      simp only [Option.map_eq_some_iff] at h
      obtain ⟨m, hm, rfl⟩ := h
      show hwx P ((load (a.add i)).bind fun v => loadCellsFrom a (i + 1) n (acc.push v)) K X H = _
      simp only [load, Sem.bind, hwx, hc]
      rw [hw_loadCellsFrom n (i + 1) (acc.push v) hm]
      congr 1
      simp

theorem rd_loadCellsFrom {a : Addr} : ∀ (n i : Nat) (acc : Array Value) {l : List Value}, cellsH H a i n = some l → rd P (loadCellsFrom a i n acc) H = some (acc ++ l.toArray)
  | 0, i, acc, l, h => by
    simp only [cellsH, Option.some.injEq] at h
    subst h
    show some acc = _
    simp
  | n + 1, i, acc, l, h => by
    simp only [cellsH] at h
    cases hc : cellH H (a.add i) with
    | none => rw [hc] at h; cases h
    | some v =>
      rw [hc] at h
      simp only [Option.map_eq_some_iff] at h
      obtain ⟨m, hm, rfl⟩ := h
      show rd P ((load (a.add i)).bind fun v => loadCellsFrom a (i + 1) n (acc.push v)) H = _
      simp only [load, Sem.bind, rd, hc]
      rw [rd_loadCellsFrom n (i + 1) (acc.push v) hm]
      congr 1
      simp

/-- A type's zero, size in cells, bytes. -/
def TyOK (P : Program) (t : TypeId) (z : Option Value) (sz by_ : Nat) : Prop := (P.info? t).map (fun i => (i.zero, i.size, i.bytes)) = some (z, sz, by_)

theorem TyOK.info {t : TypeId} {z : Option Value} {sz by_ : Nat} (h : TyOK P t z sz by_) : ∃ i, P.info? t = some i ∧ i.zero = z ∧ i.size = sz ∧ i.bytes = by_ := by
  unfold TyOK at h
  cases hi : P.info? t with
  | none => rw [hi] at h; cases h
  | some i =>
    rw [hi] at h
    simp only [Option.map_some, Option.some.injEq, Prod.mk.injEq] at h
    exact ⟨i, rfl, h.1, h.2.1, h.2.2⟩

theorem sizeOf_eq {t : TypeId} {z : Option Value} {sz by_ : Nat} (h : TyOK P t z sz by_) (f : Nat → Sem α) : hwx P ((sizeOf t).bind f) K X H = hwx P (f sz) K X H := by
  obtain ⟨i, hi, _, h2, _⟩ := h.info
  show hwx P (((match P.info? t with | some i => Sem.pure i | none => stuck "no such type").bind fun i => Sem.pure i.size).bind f) K X H = _
  rw [hi]
  simp only [Sem.bind, h2]
theorem typeInfo_i {t : TypeId} {i : TypeInfo} (hi : P.info? t = some i) (f : TypeInfo → Sem α) : hwx P ((typeInfo t).bind f) K X H = hwx P (f i) K X H := by
  show hwx P ((match P.info? t with | some i => Sem.pure i | none => stuck "no such type").bind f) K X H = _
  rw [hi]
  rfl
theorem zeroValue_eq {t : TypeId} {z : Value} {sz by_ : Nat} (h : TyOK P t (some z) sz by_) (f : Value → Sem α) : hwx P ((zeroValue t).bind f) K X H = hwx P (f z) K X H := by
  obtain ⟨i, hi, h1, _, _⟩ := h.info
  show hwx P (((match P.info? t with | some i => Sem.pure i | none => stuck "no such type").bind fun i => match i.zero with | some v => Sem.pure v | none => unsupported _).bind f) K X H = _
  rw [hi]
  simp only [Sem.bind, h1]

def aggD : TypeDesc → Bool
  | .struct _ | .array _ _ => true
  | _ => false

theorem isAgg_eq {t : TypeId} {d : TypeDesc} (h : P.underlying t = some d) (f : Bool → Sem α) : hwx P ((isAgg t).bind f) K X H = hwx P (f (aggD d)) K X H := by
  show hwx P (((underlying t).bind fun d => match d with | .struct _ | .array _ _ => Sem.pure true | _ => Sem.pure false).bind f) K X H = _
  rw [hwx_bind, hw_und h]
  cases d <;> rfl

end

/-! ### Variables -/

section
variable {P : Program} {F : Fr} {H : Hp} {K : Value → Hp → Prop} {X : List PanicEntry → Hp → Prop} {d : Option Nat} {ty : TypeId} {g : Option (Nat × Bool)}

def loadA (P : Program) (t : TypeId) (a : Value) (K : Value → Hp → Prop) (X : List PanicEntry → Hp → Prop) (H : Hp) : Prop := hv P (Instr.loadAt t a) K X H
theorem opA_load (t : TypeId) (x : Operand) : opA P ⟨d, .load t x, ty, g⟩ F H K X = withv F x fun v => loadA P t v K X H := by
  rw [opA_1 rfl (f := fun v => do pure (.value (← Instr.loadAt t v))) fun _ => rfl]
  congr; funext v; exact hv_next _
theorem loadA_cell {t : TypeId} {dd : TypeDesc} {a : Addr} {v : Value} (h : P.underlying t = some dd) (hd : aggD dd = false) (hc : cellH H a = some v) : loadA P t (.pointer (some a)) K X H = K v H := by
  unfold loadA hv Instr.loadAt
  show hwx P (loadVar t a) _ _ H = _
  unfold loadVar
  show hwx P ((isAgg t).bind _) _ _ H = _
  rw [isAgg_eq h, hd]
  simp only [Bool.false_eq_true, if_false, load, hwx, hc]
theorem loadA_agg {t : TypeId} {dd : TypeDesc} {z : Option Value} {sz by_ : Nat} {a : Addr} {l : List Value} (h : P.underlying t = some dd) (hd : aggD dd = true) (ht : TyOK P t z sz by_) (hc : cellsH H a 0 sz = some l) : loadA P t (.pointer (some a)) K X H = K (.agg l.toArray) H := by
  unfold loadA hv Instr.loadAt
  show hwx P (loadVar t a) _ _ H = _
  unfold loadVar
  show hwx P ((isAgg t).bind _) _ _ H = _
  rw [isAgg_eq h, hd]
  simp only [if_true]
  show hwx P ((sizeOf t).bind fun n => (loadCells a n).bind fun cs => Sem.pure (Value.agg cs)) _ _ H = _
  rw [sizeOf_eq ht, hwx_bind]
  unfold loadCells
  rw [hw_loadCellsFrom _ _ _ hc]
  simp [hwx]

def boxA (P : Program) (t : TypeId) (v : Value) (K : Value → Hp → Prop) (H : Hp) : Prop := K (.pointer (some ⟨H.size, 0, none⟩)) (H.push (.cells v.cells t))
theorem opA_box (t : TypeId) (x : Operand) : opA P ⟨d, .box t x, ty, g⟩ F H K X = withv F x fun v => boxA P t v K H := by
  rw [opA_1 rfl (f := fun v => do pure (.value (← Instr.box t v))) fun _ => rfl]
  exact congrArg (withv F x) (funext fun v => hv_next _)
theorem opA_alloc (t : TypeId) {z : Value} {sz by_ : Nat} (ht : TyOK P t (some z) sz by_) : opA P ⟨d, .alloc t, ty, g⟩ F H K X = boxA P t z K H := by
  rw [opA_0 rfl (f := do pure (.value (← Instr.alloc t true (.tuple #[])))) fun _ => rfl, hv_next]
  unfold hv Instr.alloc
  show hwx P ((zeroValue t).bind _) _ _ H = _
  rw [zeroValue_eq ht]
  rfl

/-- A store: cell by cell. -/
def putH (H : Hp) (a : Addr) : Nat → List Value → Option Hp
  | _, [] => some H
  | i, v :: r => if oneC v = true ∧ (cellH H (a.add i)).isSome = true ∧ frozenH H (a.add i) = false then putH (setCellH H (a.add i) v) a (i + 1) r else none

def storeA (P : Program) (t : TypeId) (a v : Value) (K : Value → Hp → Prop) (X : List PanicEntry → Hp → Prop) (H : Hp) : Prop := hwx P (Instr.storeAt t a v) (fun _ H' => K undef H') (fun v H' => X [{ v, recovered := false }] H') H
theorem opA_store (t : TypeId) (x y : Operand) : opA P ⟨d, .store t x y, ty, g⟩ F H K X = withv F x fun a => withv F y fun v => storeA P t a v K X H := by
  rw [opA_2 rfl (f := fun a v => do Instr.storeAt t a v; pure .skip) fun _ => rfl]
  congr; funext a; congr; funext v; exact hu_next _
theorem hw_storeCells {a : Addr} {K : Unit → Hp → Prop} {X : Value → Hp → Prop} : ∀ (l : List Value) (i : Nat) (H : Hp) {H' : Hp}, putH H a i l = some H' → hwx P (storeCells a l i) K X H = K () H'
  | [], i, H, H', h => by simp only [putH, Option.some.injEq] at h; subst h; rfl
  | v :: r, i, H, H', h => by
    simp only [putH] at h
    split at h
    · rename_i hc
      obtain ⟨h1, h2, h3⟩ := hc
      unfold storeCells
      show hwx P ((store (a.add i) v).bind fun _ => storeCells a r (i + 1)) K X H = _
      simp only [store, Sem.bind, hwx, h1, h2, h3, true_and]
      exact hw_storeCells r (i + 1) _ h
    · cases h
theorem storeA_put {t : TypeId} {z : Option Value} {sz by_ : Nat} {a : Addr} {v : Value} {H' : Hp} (ht : TyOK P t z sz by_) (hv : v.cells.size = sz) (hp : putH H a 0 v.cells.toList = some H') : storeA P t (.pointer (some a)) v K X H = K undef H' := by
  unfold storeA Instr.storeAt
  show hwx P (storeVar t a v) _ _ H = _
  unfold storeVar
  show hwx P ((sizeOf t).bind _) _ _ H = _
  rw [sizeOf_eq ht]
  simp only [hv, ne_eq, not_true_eq_false, if_false]
  exact hw_storeCells _ _ _ hp

theorem setCell_blk {H : Hp} {b off : Nat} {v : Value} {c : Array Value} {e : TypeId} {f : Nat × Nat} (h : H[b]? = some (.cells c e f)) : setCellH H ⟨b, off, none⟩ v = H.setIfInBounds b (.cells (c.setIfInBounds off v) e f) := by
  unfold setCellH
  apply Array.ext_getElem?
  intro i
  rw [Array.getElem?_modify, Array.getElem?_setIfInBounds]
  by_cases hi : b = i
  · subst hi
    have := get_lt h
    simp [get_eq h, this]
  · simp [hi]

/-- A row of new values into a block of cells that bears no frozen part. -/
def splice (c : Array Value) (off : Nat) : List Value → Array Value
  | [] => c
  | v :: r => splice (c.setIfInBounds off v) (off + 1) r

theorem size_splice : ∀ (l : List Value) (c : Array Value) (off : Nat), (splice c off l).size = c.size
  | [], c, off => rfl
  | v :: r, c, off => by simp only [splice]; rw [size_splice r]; simp

theorem getElem?_splice : ∀ (l : List Value) (c : Array Value) (off i : Nat), off + l.length ≤ c.size → (splice c off l)[i]? = if off ≤ i ∧ i < off + l.length then l[i - off]? else c[i]?
  | [], c, off, i, _ => by simp [splice]; intro h1 h2; omega
  | v :: r, c, off, i, h => by
    simp only [splice]
    simp only [List.length_cons] at h
    rw [getElem?_splice r _ (off + 1) i (by simp; omega)]
    by_cases h1 : off + 1 ≤ i ∧ i < off + 1 + r.length
    · rw [if_pos h1, if_pos (by simp only [List.length_cons]; omega)]
      rw [show i - off = (i - (off + 1)) + 1 by omega]
      simp
    · rw [if_neg h1]
      by_cases h2 : i = off
      · subst h2
        rw [if_pos (by simp only [List.length_cons]; omega)]
        rw [Array.getElem?_setIfInBounds]
        have : i < c.size := by omega
        simp [this]
      · rw [if_neg (by simp only [List.length_cons]; omega), Array.getElem?_setIfInBounds, if_neg (by omega)]

theorem toList_splice (l : List Value) (c : Array Value) (off : Nat) (h : off + l.length ≤ c.size) : (splice c off l).toList = c.toList.take off ++ l ++ c.toList.drop (off + l.length) := by
  apply List.ext_getElem?
  intro i
  rw [Array.getElem?_toList, getElem?_splice l c off i h]
  by_cases h1 : i < off
  · rw [if_neg (by omega), List.append_assoc, List.getElem?_append_left (by simp; omega), List.getElem?_take, if_pos h1]
    simp
  · by_cases h2 : i < off + l.length
    · rw [if_pos ⟨by omega, h2⟩, List.append_assoc, List.getElem?_append_right (by simp; omega), List.getElem?_append_left (by simp; omega)]
      congr 1
      simp
      omega
    · rw [if_neg (by omega), List.getElem?_append_right (by simp; omega), List.getElem?_drop]
      simp
      congr 1
      omega

theorem putH_blk {b off : Nat} {e : TypeId} {f : Nat × Nat} : ∀ (l : List Value) (i : Nat) (H : Hp) (c : Array Value), H[b]? = some (.cells c e f) → (∀ v ∈ l, oneC v = true) → off + i + l.length ≤ c.size → (∀ k, off + i ≤ k → k < off + i + l.length → ¬ (f.1 ≤ k ∧ k < f.2)) →
    putH H ⟨b, off, none⟩ i l = some (H.setIfInBounds b (.cells (splice c (off + i) l) e f))
  | [], i, H, c, h, _, _, _ => by
    simp only [putH, splice, Option.some.injEq]
    apply Array.ext_getElem?
    intro j
    rw [Array.getElem?_setIfInBounds]
    by_cases hj : b = j
    · subst hj; have := get_lt h; simp [get_eq h, this]
    · simp [hj]
  | v :: r, i, H, c, h, h1, h2, h3 => by
    simp only [List.length_cons] at h2 h3
    have hlt : off + i < c.size := by omega
    have hfr : frozenH H ⟨b, off + i, none⟩ = false := by
      have := h3 (off + i) (by omega) (by omega)
      unfold frozenH
      simp only [h]
      obtain ⟨f1, f2⟩ := f
      simp only [Bool.and_eq_false_iff, decide_eq_false_iff_not]
      simp only at this
      omega
    simp only [putH, add_none, cell_of_blk h, Array.getElem?_eq_getElem hlt, Option.isSome_some, hfr, h1 v (by simp), and_self, if_true, setCell_blk h]
    have hb := get_lt h
    rw [putH_blk (e := e) (f := f) r (i + 1) _ (c.setIfInBounds (off + i) v) (by rw [Array.getElem?_setIfInBounds]; simp [hb]) (fun u hu => h1 u (List.mem_cons_of_mem _ hu)) (by simp; omega) (fun k hk hk2 => h3 k (by omega) (by omega))]
    simp only [splice, Option.some.injEq, Array.setIfInBounds_setIfInBounds]
    rfl

end
end Go.Hw

/- Slices of the call's own: append, building, conversions; fields and elements. -/
set_option linter.unusedSimpArgs false
set_option linter.unusedVariables false
namespace Go.Hw

/-- v is a slice of n elements (sz cells each) that owns its row: its cells are l. -/
def OwnS (ok : Nat → Prop) (E : TypeId) (sz : Nat) (H : Hp) (v : Value) (n : Nat) (l : List Value) : Prop :=
  (v = .slice none 0 0 ∧ n = 0 ∧ l = []) ∨
  ∃ b cap c f, v = .slice (some ⟨b, 0, none⟩) n cap ∧ ok b ∧ H[b]? = some (.cells c E f) ∧ c.size = cap * sz ∧ n ≤ cap ∧ l.length = n * sz ∧ c.toList.take (n * sz) = l ∧ ∀ k : Nat, ¬ (f.1 ≤ k ∧ k < f.2)

/-- The block that a slice lies in. -/
def blkOf (v : Value) (b : Nat) : Prop := ∃ off n c, v = .slice (some ⟨b, off, none⟩) n c

theorem OwnS.nil (ok : Nat → Prop) (E : TypeId) (sz : Nat) (H : Hp) : OwnS ok E sz H (.slice none 0 0) 0 [] := .inl ⟨rfl, rfl, rfl⟩
theorem OwnS.ext {ok : Nat → Prop} {E : TypeId} {sz : Nat} {H H' : Hp} {v : Value} {n : Nat} {l : List Value} (h : OwnS ok E sz H v n l) (he : Ext H H') : OwnS ok E sz H' v n l := by
  rcases h with h | ⟨b, cap, c, f, h1, h2, h3, h4⟩
  · exact .inl h
  · exact .inr ⟨b, cap, c, f, h1, h2, he.get h3, h4⟩
theorem OwnS.keep {ok : Nat → Prop} {E : TypeId} {sz : Nat} {H H' : Hp} {v : Value} {n : Nat} {l : List Value} {S : Nat → Prop} (h : OwnS ok E sz H v n l) (he : Keep S H H') (hs : ∀ b, blkOf v b → ¬ S b) : OwnS ok E sz H' v n l := by
  rcases h with h | ⟨b, cap, c, f, h1, h2, h3, h4⟩
  · exact .inl h
  · exact .inr ⟨b, cap, c, f, h1, h2, he.get h3 (hs b ⟨0, n, cap, h1⟩), h4⟩
theorem OwnS.ok {ok : Nat → Prop} {E : TypeId} {sz : Nat} {H : Hp} {v : Value} {n : Nat} {l : List Value} (h : OwnS ok E sz H v n l) : ∀ b, blkOf v b → ok b := by
  rintro b ⟨off, m, cp, hv⟩
  rcases h with ⟨h, _⟩ | ⟨b', cap, c, f, h1, h2, _⟩
  · rw [h] at hv; cases hv
  · rw [h1] at hv; cases hv; exact h2
theorem OwnS.mono {ok ok' : Nat → Prop} {E : TypeId} {sz : Nat} {H : Hp} {v : Value} {n : Nat} {l : List Value} (h : OwnS ok E sz H v n l) (hk : ∀ b, ok b → ok' b) : OwnS ok' E sz H v n l := by
  rcases h with h | ⟨b, cap, c, f, h1, h2, h3⟩
  · exact .inl h
  · exact .inr ⟨b, cap, c, f, h1, hk b h2, h3⟩
theorem OwnS.lt {ok : Nat → Prop} {E : TypeId} {sz : Nat} {H : Hp} {v : Value} {n : Nat} {l : List Value} (h : OwnS ok E sz H v n l) : ∀ b, blkOf v b → b < H.size := by
  rintro b ⟨off, m, cp, hv⟩
  rcases h with ⟨h, _⟩ | ⟨b', cap, c, f, h1, h2, h3, _⟩
  · rw [h] at hv; cases hv
  · rw [h1] at hv; cases hv; exact get_lt h3
theorem OwnS.form {ok : Nat → Prop} {E : TypeId} {sz : Nat} {H : Hp} {v : Value} {n : Nat} {l : List Value} (h : OwnS ok E sz H v n l) : ∃ a c, v = .slice a n c := by
  rcases h with ⟨rfl, rfl, _⟩ | ⟨b, cap, c, f, h1, _⟩
  · exact ⟨_, _, rfl⟩
  · exact ⟨_, _, h1⟩
theorem OwnS.length {ok : Nat → Prop} {E : TypeId} {sz : Nat} {H : Hp} {v : Value} {n : Nat} {l : List Value} (h : OwnS ok E sz H v n l) : l.length = n * sz := by
  rcases h with ⟨_, rfl, rfl⟩ | ⟨b, cap, c, f, _, _, _, _, _, h6, _⟩
  · simp
  · exact h6

/-- What a slice (or a string) holds that is read from: m elements of sz cells. -/
def Src (H : Hp) (sz : Nat) (x : Value) (m : Nat) (l : List Value) : Prop :=
  (∃ a c, x = .slice (some a) m c ∧ cellsH H a 0 (m * sz) = some l) ∨ (∃ c, x = .slice none m c ∧ m * sz = 0 ∧ l = []) ∨ (∃ s : ByteArray, x = .string s ∧ m = s.size ∧ l = s.data.toList.map fun b => .int .u8 b.toNat)

theorem Src.of_own {ok : Nat → Prop} {E : TypeId} {sz : Nat} {H : Hp} {v : Value} {n : Nat} {l : List Value} (h : OwnS ok E sz H v n l) : Src H sz v n l := by
  rcases h with ⟨rfl, rfl, rfl⟩ | ⟨b, cap, c, f, rfl, h2, h3, h4, h5, h6, h7, h8⟩
  · exact .inr (.inl ⟨0, rfl, by simp, rfl⟩)
  · refine .inl ⟨⟨b, 0, none⟩, cap, rfl, ?_⟩
    have h9 : n * sz ≤ cap * sz := Nat.mul_le_mul_right _ h5
    rw [cellsH_of_blk h3 _ _ (by omega)]
    simp [h7]
theorem Src.ext {H H' : Hp} (he : Ext H H') {sz : Nat} {x : Value} {m : Nat} {l : List Value} (h : Src H sz x m l) : Src H' sz x m l := by
  rcases h with ⟨a, c, h1, h2⟩ | h | h
  · exact .inl ⟨a, c, h1, cellsH_ext he _ _ h2⟩
  · exact .inr (.inl h)
  · exact .inr (.inr h)

theorem length_cellsH {H : Hp} {a : Addr} : ∀ (n i : Nat) {l : List Value}, cellsH H a i n = some l → l.length = n
  | 0, i, l, h => by simp only [cellsH, Option.some.injEq] at h; subst h; rfl
  | n + 1, i, l, h => by
    simp only [cellsH] at h
    cases hc : cellH H (a.add i) with
    | none => rw [hc] at h; cases h
    | some v =>
      rw [hc] at h
      simp only [Option.map_eq_some_iff] at h
      obtain ⟨m, hm, rfl⟩ := h
      simp [length_cellsH n (i + 1) hm]

theorem growBy_le (n : Nat) : ∀ (r c : Nat), Builtin.growBy n r c ≤ max c (n + (n + 768) / 4)
  | 0, c => by simp only [Builtin.growBy]; omega
  | r + 1, c => by
    simp only [Builtin.growBy]
    split
    · omega
    · have := growBy_le n r (c + (c + 768) / 4)
      omega

theorem nextslicecap_le {n c : Nat} (h : c < n) : Builtin.nextslicecap n c ≤ 2 * n + 512 := by
  unfold Builtin.nextslicecap
  split
  · omega
  · split
    · omega
    · have := growBy_le n 4 c
      omega

theorem size_zeroCells (z : Array Value) (n : Nat) : (Builtin.zeroCells z n).size = n * z.size := by simp [Builtin.zeroCells]

section
variable {P : Program} {F : Fr} {H : Hp} {K : Value → Hp → Prop} {X : List PanicEntry → Hp → Prop} {d : Option Nat} {ty : TypeId} {g : Option (Nat × Bool)}

theorem hw_firstCells {α : Type} {K : α → Hp → Prop} {X : Value → Hp → Prop} {sz m : Nat} {x : Value} {l : List Value} (h : Src H sz x m l) (hs : (∃ s, x = .string s) → sz = 1) (f : Array Value → Sem α) : hwx P ((Builtin.firstCells sz m x).bind f) K X H = hwx P (f l.toArray) K X H := by
  rcases h with ⟨a, c, rfl, h2⟩ | ⟨c, rfl, h1, rfl⟩ | ⟨s, rfl, rfl, rfl⟩
  · show hwx P ((loadCells a (m * sz)).bind f) K X H = _
    rw [hwx_bind]
    unfold loadCells
    rw [hw_loadCellsFrom _ _ _ h2]
    simp
  · rfl
  · show hwx P (f ((s.extract 0 s.size).data.map fun b => .int .u8 b.toNat)) K X H = _
    rw [lmap]
    congr 2
    simp

theorem lenOf_src {sz m : Nat} {x : Value} {l : List Value} (h : Src H sz x m l) : Builtin.lenOf x = pure m := by
  rcases h with ⟨a, c, rfl, h2⟩ | ⟨c, rfl, h1, rfl⟩ | ⟨s, rfl, rfl, rfl⟩ <;> rfl

def isIntB : TypeDesc → Bool
  | .int _ => true
  | _ => false

def notInt : TypeDesc → Bool
  | .int _ => false
  | _ => true

/-- append onto a slice of the call's own. -/
theorem append_own {T T2 E : TypeId} {d2 : TypeDesc} {z : Value} {sz by_ : Nat} {cs : Array Bool} {ok : Nat → Prop} {v x : Value} {n m : Nat} {l l2 : List Value}
    (own : OwnS ok E sz H v n l) (src : Src H sz x m l2) (hT : P.underlying T = some (.slice E)) (hE : TyOK P E (some z) sz by_) (hT2 : P.underlying T2 = some d2) (hd2 : notInt d2 = true) (hz : z.cells.size = sz) (hs1 : (∃ s, x = .string s) → sz = 1)
    (hone : ∀ u ∈ l2, oneC u = true) (hok : ∀ b, H.size ≤ b → ok b) (hsmall : (2 * (n + m) + 512) * by_ ≤ 281474976710656) (hlen : n + m ≤ 281474976710656)
    (k : ∀ v' H', OwnS ok E sz H' v' (n + m) (l ++ l2) → Keep (blkOf v) H H' → (∀ b, blkOf v' b → blkOf v b ∨ H.size ≤ b) → K v' H') :
    callA P (.builtin .append) #[T, T2] ty cs [v, x] K X H := by
  have hl2 : l2.length = m * sz := by
    rcases src with ⟨a, c, rfl, h2⟩ | ⟨c, rfl, h1, rfl⟩ | ⟨s, rfl, rfl, rfl⟩
    · exact length_cellsH _ _ h2
    · simp [h1]
    · rw [hs1 ⟨s, rfl⟩]; simp
  show hwx P (do let v ← Builtin.append_ #[T, T2] ty #[v, x]; pure (Next.value v)) _ _ H
  rw [hv_next]
  unfold hv Builtin.append_
  show hwx P ((underlying T).bind _) _ _ H
  rw [hw_und hT]
  obtain ⟨a, c0, hv⟩ := own.form
  subst hv
  show hwx P ((sizeOf E).bind _) _ _ H
  rw [sizeOf_eq hE]
  show hwx P ((underlying T2).bind _) _ _ H
  rw [hw_und hT2]
  have hzb : isIntB d2 = false := by cases d2 <;> first | rfl | cases hd2
  show hwx P ((Sem.pure (isIntB d2)).bind _) _ _ H
  rw [hzb]
  simp only [Sem.bind, Bool.false_eq_true, if_false, Bool.not_false, if_true]
  show hwx P ((Builtin.lenOf x).bind _) _ _ H
  rw [lenOf_src src]
  simp only [pure, Sem.bind]
  by_cases hc : n + m ≤ c0
  · rw [if_pos hc]
    show hwx P ((Builtin.firstCells sz m x).bind _) _ _ H
    rw [hw_firstCells src hs1]
    rcases own with ⟨h1, rfl, rfl⟩ | ⟨b, cap, c, f, h1, h2, h3, h4, h5, h6, h7, h8⟩
    · cases h1
      have hm0 : m = 0 := by omega
      subst hm0
      have hl0 : l2 = [] := by simpa using hl2
      subst hl0
      exact k _ _ (.inl ⟨rfl, rfl, rfl⟩) (.refl _ _) (fun b hb => .inl hb)
    · cases h1
      have h9 : n * sz + m * sz ≤ c.size := by rw [h4, ← Nat.add_mul]; exact Nat.mul_le_mul_right _ hc
      have hp := putH_blk (e := E) (f := f) l2 0 H c (off := n * sz) h3 hone (by omega) (fun j hj hj2 => h8 j)
      show hwx P ((storeCells (Addr.add ⟨b, 0, none⟩ (n * sz)) l2.toArray.toList 0).bind _) _ _ H
      rw [hwx_bind, add_none]
      simp only [Nat.zero_add]
      rw [hw_storeCells _ _ _ hp]
      have hb := get_lt h3
      refine k _ _ (.inr ⟨b, c0, splice c (n * sz) l2, f, rfl, h2, by rw [Array.getElem?_setIfInBounds]; simp [hb], by rw [size_splice]; exact h4, hc, by rw [List.length_append, h6, hl2, Nat.add_mul], ?_, h8⟩) ⟨by simp, fun i hi hn => ?_⟩ (fun b' hb' => .inl ?_)
      · rw [toList_splice _ _ _ (by omega), h7, Nat.add_mul, ← hl2, ← h6]
        have : l.length + l2.length = (l ++ l2).length := by simp
        rw [this, List.take_left']
        rfl
      · rw [Array.getElem?_setIfInBounds]
        have : b ≠ i := fun e => hn ⟨0, n, c0, by rw [e]⟩
        rw [if_neg this]
      · obtain ⟨off, n', c', e⟩ := hb'
        cases e
        exact ⟨0, n, c0, rfl⟩
  · rw [if_neg hc]
    have hcap : c0 < n + m := by omega
    obtain ⟨i, hi, e1, e2, e3⟩ := hE.info
    have hnext := nextslicecap_le hcap
    have h48 : Builtin.nextslicecap (n + m) c0 * by_ ≤ 281474976710656 := Nat.le_trans (Nat.mul_le_mul_right _ hnext) hsmall
    show hwx P ((typeInfo E).bind _) _ _ H
    rw [typeInfo_i hi]
    have hno : ¬ (((n + m : Nat) : Int) > IntKind.i64.max ∧ (False ∨ i.bytes = 0)) := by
      intro hh
      have : IntKind.i64.max = 9223372036854775807 := by decide
      omega
    simp only [hno, if_false, Bool.false_eq_true]
    show hwx P ((typeInfo E).bind _) _ _ H
    rw [typeInfo_i hi]
    have h48' : ¬ (Builtin.nextslicecap (n + m) c0 * i.bytes > 2 ^ 48) := by rw [e3]; omega
    simp only [h48', if_false]
    show hwx P ((choose (.appendCap (n + m) c0 E)).bind _) _ _ H
    show (if (Question.appendCap (n + m) c0 E).forced = true then _ else ∀ t, _)
    rw [if_neg (show ¬ ((Question.appendCap (n + m) c0 E).forced = true) from fun h => by cases h)]
    intro t
    generalize hnc : (Question.appendCap (n + m) c0 E).cut t = nc
    have hge : n + m ≤ nc := by rw [← hnc]; exact Nat.le_add_right _ _
    show hwx P ((typeInfo E).bind _) _ _ H
    rw [typeInfo_i hi]
    show hwx P ((askRoom (nc * i.bytes)).bind _) _ _ H
    have hask : ∀ (f : Unit → Sem Value), hwx P ((askRoom (nc * i.bytes)).bind f) K (fun v H' => X [{ v, recovered := false }] H') H = hwx P (f ()) K (fun v H' => X [{ v, recovered := false }] H') H := by
      intro f
      unfold askRoom
      split <;> rfl
    rw [hask]
    show hwx P ((Builtin.firstCells sz n (.slice a n c0)).bind _) _ _ H
    have hsrc := Src.of_own own
    rw [hw_firstCells hsrc (fun ⟨s, h⟩ => by cases h)]
    show hwx P ((Builtin.firstCells sz m x).bind _) _ _ H
    rw [hw_firstCells src hs1]
    show hwx P ((zeroValue E).bind _) _ _ H
    rw [zeroValue_eq hE]
    have hl := own.length
    have hle : (n + m) * sz ≤ nc * sz := Nat.mul_le_mul_right _ hge
    refine k _ _ (.inr ⟨H.size, nc, l.toArray ++ l2.toArray ++ Builtin.zeroCells z.cells (nc - (n + m)), (0, 0), rfl, hok _ (Nat.le_refl _), get_push_eq, ?_, hge, ?_, ?_, fun j hj => by simp at hj⟩) ((Ext.push _ _).keep) (fun b' hb' => .inr ?_)
    · simp only [Array.size_append, List.size_toArray, size_zeroCells, hl, hl2, hz, Nat.sub_mul, Nat.add_mul] at hle ⊢
      omega
    · simp only [List.length_append, hl, hl2, Nat.add_mul]
    · have h1 : (l ++ l2).length = (n + m) * sz := by simp only [List.length_append, hl, hl2, Nat.add_mul]
      simp only [Array.toList_append, List.append_assoc]
      rw [← List.append_assoc, ← h1, List.take_left']
      rfl
    · obtain ⟨off, n', c', e⟩ := hb'
      cases e
      exact Nat.le_refl _

end
end Go.Hw

/- Building, conversions, fields, elements. -/
set_option linter.unusedSimpArgs false
set_option linter.unusedVariables false
namespace Go.Hw

section
variable {P : Program} {F : Fr} {H : Hp} {K : Value → Hp → Prop} {X : List PanicEntry → Hp → Prop} {d : Option Nat} {ty : TypeId} {g : Option (Nat × Bool)}

/-- Parts of a literal, each with its place. -/
def withps (F : Fr) : List (Nat × Operand) → (List (Nat × Value) → Prop) → Prop
  | [], K => K []
  | (i, x) :: r, K => withv F x fun v => withps F r fun vs => K ((i, v) :: vs)

theorem withps_eq : ∀ (l : List (Nat × Operand)) (K : List (Nat × Value) → Prop), withps F l K = ((l.all fun p => (evo F p.2).isSome) = true ∧ K (l.map fun p => (p.1, evd F p.2)))
  | [], K => by simp [withps]
  | (i, x) :: r, K => by
    simp only [withps, withv]
    cases hx : evo F x with
    | none => simp [hx]
    | some v =>
      simp only []
      rw [withps_eq r]
      simp [hx, evd]

theorem opA_ps {op : Op} {l : List (Nat × Operand)} {f : List (Nat × Value) → Sem Next} (h1 : op.operands.toList = l.map (·.2)) (h2 : ∀ ρ, execOp ρ (O.oper ⟨d, op, ty, g⟩) = f (l.map fun p => (p.1, ρ p.2))) :
    opA P ⟨d, op, ty, g⟩ F H K X = withps F l fun vs => hwx P (f vs) (nextK P K X) (fun v H' => X [{ v, recovered := false }] H') H := by
  rw [withps_eq]
  unfold opA
  simp only [h2]
  rw [← Array.all_toList, h1]
  simp [List.all_map, Function.comp_def]

def bslA (P : Program) (t : TypeId) (n : Nat) (ps : List (Nat × Value)) (K : Value → Hp → Prop) (X : List PanicEntry → Hp → Prop) (H : Hp) : Prop := hv P (Instr.buildSlice t n ps.toArray) K X H
def bldA (P : Program) (t : TypeId) (ps : List (Nat × Value)) (K : Value → Hp → Prop) (X : List PanicEntry → Hp → Prop) (H : Hp) : Prop := hv P (Instr.build t ps.toArray) K X H

theorem opA_buildSlice (t : TypeId) (n : Nat) (ps : Array (Nat × Operand)) : opA P ⟨d, .buildSlice t n ps, ty, g⟩ F H K X = withps F ps.toList fun vs => bslA P t n vs K X H := by
  rw [opA_ps (l := ps.toList) (by simp [Op.operands]) (f := fun vs => do pure (.value (← Instr.buildSlice t n vs.toArray))) fun ρ => ?_]
  · exact congrArg (withps F ps.toList) (funext fun vs => hv_next _)
  · simp only [execOp, O.oper, lmap]
theorem opA_build (t : TypeId) (ps : Array (Nat × Operand)) : opA P ⟨d, .build t ps, ty, g⟩ F H K X = withps F ps.toList fun vs => bldA P t vs K X H := by
  rw [opA_ps (l := ps.toList) (by simp [Op.operands]) (f := fun vs => do pure (.value (← Instr.build t vs.toArray))) fun ρ => ?_]
  · exact congrArg (withps F ps.toList) (funext fun vs => hv_next _)
  · simp only [execOp, O.oper, lmap]

theorem bslA_lit {T E : TypeId} {z : Value} {sz by_ n : Nat} {ps : List (Nat × Value)} {c : Array Value} (hT : P.underlying T = some (.slice E)) (hE : TyOK P E (some z) sz by_) (hn : n * sz ≤ 16777216) (hz : sz ≠ 0)
    (hf : Instr.fill (fun i => some (i * sz, sz)) ((Array.range (n * sz)).map (z.cells[· % z.cells.size]!)) ps = some c) (hn0 : n ≠ 0) :
    bslA P T n ps K X H = K (.slice (some ⟨H.size, 0, none⟩) n n) (H.push (.cells c E)) := by
  unfold bslA hv Instr.buildSlice
  show hwx P ((underlying T).bind _) _ _ H = _
  rw [hw_und hT]
  show hwx P ((sizeOf E).bind _) _ _ H = _
  rw [sizeOf_eq hE]
  have h1 : ¬ (n * sz > 2 ^ 24) := by omega
  have h2 : ¬ (n * sz = 0) := by intro h; rcases Nat.mul_eq_zero.1 h with h | h <;> contradiction
  simp only [h1, h2, if_false]
  show hwx P ((zeroValue E).bind _) _ _ H = _
  rw [zeroValue_eq hE]
  show hwx P (match Instr.fill (fun i => some (i * sz, sz)) ((Array.range (n * sz)).map (z.cells[· % z.cells.size]!)) ps with | some cells => _ | _ => _) _ _ H = _
  rw [hf]
  rfl

/-- A slice literal of one element of one cell. -/
theorem bslA_one {T E : TypeId} {z v : Value} {by_ : Nat} (hT : P.underlying T = some (.slice E)) (hE : TyOK P E (some z) 1 by_) (hv1 : v.cells.size = 1) : bslA P T 1 [(0, v)] K X H = K (.slice (some ⟨H.size, 0, none⟩) 1 1) (H.push (.cells v.cells E)) := by
  refine bslA_lit hT hE (by omega) (by omega) ?_ (by omega)
  simp only [Instr.fill, hv1, ne_eq, not_true_eq_false, Nat.mul_one, Nat.one_mul, Array.size_map, Array.size_range, Nat.zero_add, gt_iff_lt, Nat.lt_irrefl, decide_false, Bool.or_false, if_false, Bool.false_eq_true]
  have : ∃ u, v.cells = #[u] := by
    match hc : v.cells, hv1 with
    | ⟨[u]⟩, _ => exact ⟨u, rfl⟩
  obtain ⟨u, hu⟩ := this
  rw [hu]
  congr 1
  have : ∀ A : Array Value, A.size = 1 → A.setIfInBounds 0 u = #[u] := by
    intro A hA
    apply Array.ext
    · simp [hA]
    · intro j h1 h2
      simp at h2
      subst h2
      simp
  have h3 : (#[u] : Array Value).zipIdx = #[(u, 0)] := by simp
  rw [h3]
  exact this _ (by simp)

theorem src_push {H : Hp} {E : TypeId} {c : Array Value} {n sz : Nat} (h : c.size = n * sz) : Src (H.push (.cells c E)) sz (.slice (some ⟨H.size, 0, none⟩) n n) n c.toList := by
  refine .inl ⟨_, _, rfl, ?_⟩
  rw [cellsH_of_blk get_push_eq _ _ (by omega)]
  rw [← h]
  simp [List.take_of_length_le]

/-! ### Conversions -/

def cnvA (P : Program) (s t : TypeId) (v : Value) (K : Value → Hp → Prop) (X : List PanicEntry → Hp → Prop) (H : Hp) : Prop := hv P (convert s t v) K X H
theorem opA_convert (s t : TypeId) (x : Operand) : opA P ⟨d, .convert s t x, ty, g⟩ F H K X = withv F x fun v => cnvA P s t v K X H := by
  rw [opA_1 rfl (f := fun v => do pure (.value (← convert s t v))) fun _ => rfl]
  exact congrArg (withv F x) (funext fun v => hv_next _)

theorem cnvA_int {s t : TypeId} {ds : TypeDesc} {k j : IntKind} {n : Int} (hs : P.underlying s = some ds) (ht : P.underlying t = some (.int k)) : cnvA P s t (.int j n) K X H = K (.int k (k.wrap n)) H := by
  unfold cnvA hv convert
  show hwx P ((underlying s).bind _) _ _ H = _
  rw [hw_und hs]
  show hwx P ((underlying t).bind _) _ _ H = _
  rw [hw_und ht]
  cases ds <;> rfl

def bytesV (l : List UInt8) : List Value := l.map fun b => .int .u8 b.toNat

/-! ### Pointers -/

def nilA (v : Value) (K : Value → Prop) : Prop :=
  match v with
  | .pointer (some a) => K (.pointer (some a))
  | .func (.func f) a b => K (.func (.func f) a b)
  | .iface t u => K (.iface t u)
  | _ => False

def fadA (P : Program) (s : TypeId) (v : Value) (i : Nat) (K : Value → Hp → Prop) (X : List PanicEntry → Hp → Prop) (H : Hp) : Prop := hv P (Instr.fieldAt s v i) K X H
theorem opA_fieldAddr (s : TypeId) (x : Operand) (i : Nat) : opA P ⟨d, .fieldAddr s x i, ty, g⟩ F H K X = withv F x fun v => fadA P s v i K X H := by
  rw [opA_1 rfl (f := fun v => do pure (.value (← Instr.fieldAt s v i))) fun _ => rfl]
  exact congrArg (withv F x) (funext fun v => hv_next _)

def iadA (P : Program) (t : TypeId) (v i : Value) (K : Value → Hp → Prop) (X : List PanicEntry → Hp → Prop) (H : Hp) : Prop := hv P (Instr.indexAt t v i) K X H
theorem opA_indexAddr (t : TypeId) (x i : Operand) : opA P ⟨d, .indexAddr t x i, ty, g⟩ F H K X = withv F x fun v => withv F i fun j => iadA P t v j K X H := by
  rw [opA_2 rfl (f := fun v i => do pure (.value (← Instr.indexAt t v i))) fun _ => rfl]
  exact congrArg (withv F x) (funext fun v => congrArg (withv F i) (funext fun j => hv_next _))

theorem iadA_slice {T E : TypeId} {z : Option Value} {sz by_ : Nat} {a : Addr} {n c : Nat} {k : IntKind} {i : Int} (hT : P.underlying T = some (.slice E)) (hE : TyOK P E z sz by_) (h0 : 0 ≤ i) (h1 : i < n) :
    iadA P T (.slice (some a) n c) (.int k i) K X H = K (.pointer (some (a.add (i.toNat * sz)))) H := by
  unfold iadA hv Instr.indexAt
  show hwx P ((underlying T).bind _) _ _ H = _
  rw [hw_und hT]
  show hwx P ((underlying T).bind _) _ _ H = _
  rw [hw_und hT]
  simp only [pure, Sem.bind]
  rw [if_pos ⟨h0, h1⟩]
  show hwx P ((sizeOf E).bind _) _ _ H = _
  rw [sizeOf_eq hE]
  rfl

def fldA (P : Program) (t : TypeId) (v : Value) (i : Nat) (K : Value → Hp → Prop) (X : List PanicEntry → Hp → Prop) (H : Hp) : Prop := hv P (Instr.field t v i) K X H
theorem opA_field (t : TypeId) (x : Operand) (i : Nat) : opA P ⟨d, .field t x i, ty, g⟩ F H K X = withv F x fun v => fldA P t v i K X H := by
  rw [opA_1 rfl (f := fun v => do pure (.value (← Instr.field t v i))) fun _ => rfl]
  exact congrArg (withv F x) (funext fun v => hv_next _)

end
end Go.Hw

/- Fields' facts; quiet operations. -/
set_option linter.unusedSimpArgs false
set_option linter.unusedVariables false
namespace Go.Hw

theorem hv_rd {P : Program} {s : Sem Value} {H : Hp} {v : Value} {K : Value → Hp → Prop} {X : List PanicEntry → Hp → Prop} : rd P s H = some v → hv P s K X H = K v H := by
  unfold hv
  generalize hX : (fun v H' => X [{ v, recovered := false }] H' : Value → Hp → Prop) = X'
  clear hX
  induction s generalizing H with
  | pure a => intro h; simp only [rd, Option.some.injEq] at h; subst h; rfl
  | load m a k ih =>
    intro h
    simp only [rd] at h
    simp only [hwx]
    cases hc : cellH H a with
    | some u => rw [hc] at h; exact ih u h
    | none => rw [hc] at h; cases h
  | shape r k ih => intro h; simp only [rd] at h; split at h; exact ih _ h; cases h
  | frozen a k ih => intro h; simp only [rd] at h; split at h; exact ih _ h; cases h
  | getObj r k ih =>
    intro h
    simp only [rd] at h
    simp only [hwx]
    cases ho : H[r]? with
    | none => rw [ho] at h; cases h
    | some o =>
      rw [ho] at h
      simp only at h ⊢
      split at h
      · cases h
      · rename_i hc
        have hc' : isCells o = false := by simpa using hc
        rw [hc', ih o h]
        simp
  | program k ih => intro h; exact ih _ h
  | mark m k ih => intro h; exact ih h
  | store m a u k ih => intro h; cases h
  | new o k ih => intro h; cases h
  | freeze a n k ih => intro h; cases h
  | setObj r o k ih => intro h; cases h
  | choose q k ih => intro h; cases h
  | sys c k ih => intro h; cases h
  | halt x => intro h; cases h

theorem tyOK {P : Program} {t : TypeId} {z : Option Value} {sz by_ : Nat} (h : (P.info? t).map (fun i => (i.zero, i.size, i.bytes)) = some (z, sz, by_)) : TyOK P t z sz by_ := h

/-- What a piece that only reads yields. -/
def qv (P : Program) (s : Sem Value) (K : Value → Prop) (H : Hp) : Prop :=
  match rd P s H with
  | some v => K v
  | none => False

theorem qv_rd {P : Program} {s : Sem Value} {H : Hp} {v : Value} {K : Value → Prop} (h : rd P s H = some v) : qv P s K H = K v := by unfold qv; rw [h]

section
variable {P : Program} {F : Fr} {H : Hp} {K : Value → Hp → Prop} {X : List PanicEntry → Hp → Prop} {KQ : Value → Prop} {d : Option Nat} {ty : TypeId} {g : Option (Nat × Bool)}

def nextQ (P : Program) (K : Value → Prop) (H : Hp) : Option Next → Prop
  | some (.value v) => K v
  | some .skip => K undef
  | some (.enter f args) => ∃ v, QCall P f args H v ∧ K v
  | _ => False

theorem qA_eq (o : O) : qA P o F H KQ = ((o.op.operands.all fun x => (evo F x).isSome) = true ∧ nextQ P KQ H (rd P (execOp (evd F) o.oper) H)) := by
  unfold qA
  congr 1

theorem qA_1 {op : Op} {x : Operand} {f : Value → Sem Next} (h1 : op.operands = #[x]) (h2 : ∀ ρ, execOp ρ (O.oper ⟨d, op, ty, g⟩) = f (ρ x)) :
    qA P ⟨d, op, ty, g⟩ F H KQ = withv F x fun v => nextQ P KQ H (rd P (f v) H) := by
  rw [qA_eq]
  unfold withv
  simp only [h1, h2]
  cases hx : evo F x with
  | none => simp [hx]
  | some v => simp [hx, evd]
theorem qA_2 {op : Op} {x y : Operand} {f : Value → Value → Sem Next} (h1 : op.operands = #[x, y]) (h2 : ∀ ρ, execOp ρ (O.oper ⟨d, op, ty, g⟩) = f (ρ x) (ρ y)) :
    qA P ⟨d, op, ty, g⟩ F H KQ = withv F x fun v => withv F y fun u => nextQ P KQ H (rd P (f v u) H) := by
  rw [qA_eq]
  unfold withv
  simp only [h1, h2]
  cases hx : evo F x with
  | none => simp [hx]
  | some v =>
    cases hy : evo F y with
    | none => simp [hx, hy]
    | some u => simp [hx, hy, evd]
theorem qA_n {op : Op} {l : List Operand} {f : List Value → Sem Next} (h1 : op.operands.toList = l) (h2 : ∀ ρ, execOp ρ (O.oper ⟨d, op, ty, g⟩) = f (l.map ρ)) :
    qA P ⟨d, op, ty, g⟩ F H KQ = withvs F l fun vs => nextQ P KQ H (rd P (f vs) H) := by
  rw [withvs_eq, qA_eq]
  simp only [h2]
  rw [← Array.all_toList, h1]
theorem qA_ps {op : Op} {l : List (Nat × Operand)} {f : List (Nat × Value) → Sem Next} (h1 : op.operands.toList = l.map (·.2)) (h2 : ∀ ρ, execOp ρ (O.oper ⟨d, op, ty, g⟩) = f (l.map fun p => (p.1, ρ p.2))) :
    qA P ⟨d, op, ty, g⟩ F H KQ = withps F l fun vs => nextQ P KQ H (rd P (f vs) H) := by
  rw [withps_eq, qA_eq]
  simp only [h2]
  rw [← Array.all_toList, h1]
  simp [List.all_map, Function.comp_def]

theorem q_next (s : Sem Value) : nextQ P KQ H (rd P (do pure (.value (← s)) : Sem Next) H) = qv P s KQ H := by
  show nextQ P KQ H (rd P (s.bind fun v => Sem.pure (Next.value v)) H) = _
  rw [rd_bind]
  unfold qv
  cases rd P s H <;> rfl

theorem qA_move (x : Operand) : qA P ⟨d, .move x, ty, g⟩ F H KQ = withv F x KQ := qA_1 rfl (f := fun v => pure (.value v)) fun _ => rfl
theorem qA_assign (x : Operand) : qA P ⟨d, .assign x, ty, g⟩ F H KQ = withv F x KQ := qA_1 rfl (f := fun v => pure (.value v)) fun _ => rfl
theorem qA_pick (c a b : Operand) : qA P ⟨d, .pick c a b, ty, g⟩ F H KQ = withv F c fun vc => withv F a fun va => withv F b fun vb => pickA vc va vb KQ := by
  rw [qA_n (l := [c, a, b]) rfl (f := fun vs => do pure (.value (if ← asBool (vs.getD 0 undef) then vs.getD 1 undef else vs.getD 2 undef))) fun _ => rfl]
  simp only [withvs]
  congr; funext vc; congr; funext va; congr; funext vb
  cases vc <;> rfl
theorem qA_extract (x : Operand) (i : Nat) : qA P ⟨d, .extract x i, ty, g⟩ F H KQ = withv F x fun v => extrA v i KQ := by
  rw [qA_1 rfl (f := fun v => do pure (.value (← Instr.extract v i))) fun _ => rfl]
  congr; funext v
  rw [q_next]
  cases v <;> try rfl
  rename_i vs
  simp only [extrA, qv, Instr.extract]
  cases vs[i]? <;> rfl
def unQ (P : Program) (op : UnOp) (v : Value) (K : Value → Prop) (H : Hp) : Prop := qv P (Op.unary op v) K H
theorem qA_unOp (op : UnOp) (t : TypeId) (x : Operand) : qA P ⟨d, .unOp op t x, ty, g⟩ F H KQ = withv F x fun v => unQ P op v KQ H := by
  rw [qA_1 rfl (f := fun v => do pure (.value (← Op.unary op v))) fun _ => rfl]
  exact congrArg (withv F x) (funext fun v => q_next _)
theorem unQ_not (b : Bool) : unQ P .not (.bool b) KQ H = KQ (.bool (!b)) := (rfl)
theorem unQ_neg (k : IntKind) (n : Int) : unQ P .neg (.int k n) KQ H = KQ (.int k (k.wrap (0 - n))) := (rfl)
def binQ (P : Program) (op : BinOp) (t : TypeId) (x y : Operand) (a b : Value) (K : Value → Prop) (H : Hp) : Prop := qv P (do eqGuard op t x y a b; binOp op t a b) K H
theorem qA_binOp (op : BinOp) (t : TypeId) (x y : Operand) (u : TypeId) : qA P ⟨d, .binOp op t x y u, ty, g⟩ F H KQ = withv F x fun a => withv F y fun b => binQ P op t x y a b KQ H := by
  rw [qA_2 rfl (f := fun a b => do pure (.value (← (do eqGuard op t x y a b; binOp op t a b)))) fun _ => rfl]
  exact congrArg (withv F x) (funext fun v => congrArg (withv F y) (funext fun j => q_next _))
section bin
variable {t : TypeId} {x y : Operand} {k : IntKind} {a b : Int} {p q : Bool} {s u : ByteArray}
theorem binQ_add : binQ P .add t x y (.int k a) (.int k b) KQ H = KQ (.int k (k.wrap (a + b))) := by cases k <;> rfl
theorem binQ_sub : binQ P .sub t x y (.int k a) (.int k b) KQ H = KQ (.int k (k.wrap (a - b))) := by cases k <;> rfl
theorem binQ_mul : binQ P .mul t x y (.int k a) (.int k b) KQ H = KQ (.int k (k.wrap (a * b))) := by cases k <;> rfl
theorem binQ_lss : binQ P .lss t x y (.int k a) (.int k b) KQ H = KQ (.bool (decide (a < b))) := by cases k <;> rfl
theorem binQ_leq : binQ P .leq t x y (.int k a) (.int k b) KQ H = KQ (.bool (decide (a ≤ b))) := by cases k <;> rfl
theorem binQ_gtr : binQ P .gtr t x y (.int k a) (.int k b) KQ H = KQ (.bool (decide (b < a))) := by cases k <;> rfl
theorem binQ_geq : binQ P .geq t x y (.int k a) (.int k b) KQ H = KQ (.bool (decide (b ≤ a))) := by cases k <;> rfl
theorem binQ_eql : binQ P .eql t x y (.int k a) (.int k b) KQ H = KQ (.bool (decide (a = b))) := by cases k <;> rfl
theorem binQ_neq : binQ P .neq t x y (.int k a) (.int k b) KQ H = KQ (.bool (!decide (a = b))) := by cases k <;> rfl
theorem binQ_seql : binQ P .eql t x y (.string s) (.string u) KQ H = KQ (.bool (s.toList == u.toList)) := (rfl)
theorem binQ_sneq : binQ P .neq t x y (.string s) (.string u) KQ H = KQ (.bool (!(s.toList == u.toList))) := (rfl)
theorem binQ_slss : binQ P .lss t x y (.string s) (.string u) KQ H = KQ (.bool (Op.bytesLess s.toList u.toList)) := (rfl)
theorem binQ_sgtr : binQ P .gtr t x y (.string s) (.string u) KQ H = KQ (.bool (!(Op.bytesLess s.toList u.toList || s.toList == u.toList))) := (rfl)
theorem binQ_sgeq : binQ P .geq t x y (.string s) (.string u) KQ H = KQ (.bool (!Op.bytesLess s.toList u.toList)) := (rfl)
theorem binQ_sleq : binQ P .leq t x y (.string s) (.string u) KQ H = KQ (.bool (Op.bytesLess s.toList u.toList || s.toList == u.toList)) := (rfl)
end bin

def idxQ (P : Program) (t : TypeId) (x i : Value) (K : Value → Prop) (H : Hp) : Prop := qv P (Instr.index t x i) K H
theorem qA_index (t : TypeId) (x i : Operand) : qA P ⟨d, .index t x i, ty, g⟩ F H KQ = withv F x fun a => withv F i fun b => idxQ P t a b KQ H := by
  rw [qA_2 rfl (f := fun a b => do pure (.value (← Instr.index t a b))) fun _ => rfl]
  exact congrArg (withv F x) (funext fun v => congrArg (withv F i) (funext fun j => q_next _))
theorem rd_und {α : Type} {t : TypeId} {dd : TypeDesc} {f : TypeDesc → Sem α} (h : P.underlying t = some dd) : rd P ((underlying t).bind f) H = rd P (f dd) H := by
  unfold underlying
  show rd P ((match P.underlying t with | some d => pure d | none => _ : Sem TypeDesc).bind _) H = _
  rw [h]
  rfl
theorem rd_size {α : Type} {t : TypeId} {z : Option Value} {sz by_ : Nat} (h : TyOK P t z sz by_) (f : Nat → Sem α) : rd P ((sizeOf t).bind f) H = rd P (f sz) H := by
  obtain ⟨i, hi, _, h2, _⟩ := h.info
  show rd P (((match P.info? t with | some i => Sem.pure i | none => stuck "no such type").bind fun i => Sem.pure i.size).bind f) H = _
  rw [hi]
  simp only [Sem.bind, h2]
theorem rd_isAgg {α : Type} {t : TypeId} {dd : TypeDesc} (h : P.underlying t = some dd) (f : Bool → Sem α) : rd P ((isAgg t).bind f) H = rd P (f (aggD dd)) H := by
  show rd P (((underlying t).bind fun d => match d with | .struct _ | .array _ _ => Sem.pure true | _ => Sem.pure false).bind f) H = _
  rw [rd_bind, rd_und h]
  cases dd <;> rfl
theorem rd_index_string {t : TypeId} {s : ByteArray} {k : IntKind} {i : Int} (h : P.underlying t = some .string) (h0 : 0 ≤ i) (h1 : i < s.size) : rd P (Instr.index t (.string s) (.int k i)) H = some (.int .u8 ((s.data.toList.getD i.toNat 0).toNat)) := by
  unfold Instr.index
  show rd P ((underlying t).bind _) H = _
  rw [rd_und h]
  have h2 : i.toNat < s.size := by omega
  have h4 : i.toNat < s.data.size := h2
  have h3 : s[i.toNat]? = some (s.data.toList.getD i.toNat 0) := by
    rw [getElem?_pos s i.toNat h2]
    have : s[i.toNat] = s.data[i.toNat] := (rfl)
    rw [this]
    simp [List.getD_eq_getElem?_getD, h4, Array.getElem?_eq_getElem h4]
  show rd P (match (if 0 ≤ i then s[i.toNat]? else none) with | some b => Sem.pure (Value.int .u8 b.toNat) | none => _) H = _
  rw [if_pos h0, h3]
  rfl
theorem idxQ_string {t : TypeId} {s : ByteArray} {k : IntKind} {i : Int} (h : P.underlying t = some .string) (h0 : 0 ≤ i) (h1 : i < s.size) : idxQ P t (.string s) (.int k i) KQ H = KQ (.int .u8 ((s.data.toList.getD i.toNat 0).toNat)) := qv_rd (rd_index_string h h0 h1)

def sliQ (P : Program) (t : TypeId) (x : Value) (lo hi mx : Option Value) (K : Value → Prop) (H : Hp) : Prop := qv P (Instr.sliceAt t x lo hi mx) K H
theorem qA_slice (t : TypeId) (x : Operand) (lo hi mx : Option Operand) : qA P ⟨d, .slice t x lo hi mx, ty, g⟩ F H KQ = withv F x fun v => withov F lo fun l => withov F hi fun h => withov F mx fun m => sliQ P t v l h m KQ H := by
  cases lo with
  | none =>
    cases hi with
    | none =>
      cases mx with
      | none => rw [qA_1 (x := x) rfl (f := fun v => do pure (.value (← Instr.sliceAt t v none none none))) fun _ => rfl]; congr; funext v; exact q_next _
      | some m => rw [qA_2 (x := x) (y := m) rfl (f := fun v m => do pure (.value (← Instr.sliceAt t v none none (some m)))) fun _ => rfl]; congr; funext v; simp only [withov]; congr; funext v2; exact q_next _
    | some h =>
      cases mx with
      | none => rw [qA_2 (x := x) (y := h) rfl (f := fun v m => do pure (.value (← Instr.sliceAt t v none (some m) none))) fun _ => rfl]; congr; funext v; simp only [withov]; congr; funext v2; exact q_next _
      | some m => rw [qA_n (l := [x, h, m]) rfl (f := fun vs => do pure (.value (← Instr.sliceAt t (vs.getD 0 undef) none (some (vs.getD 1 undef)) (some (vs.getD 2 undef))))) fun _ => rfl]; simp only [withvs, withov]; congr; funext v; congr; funext v2; congr; funext v3; exact q_next _
  | some l =>
    cases hi with
    | none =>
      cases mx with
      | none => rw [qA_2 (x := x) (y := l) rfl (f := fun v m => do pure (.value (← Instr.sliceAt t v (some m) none none))) fun _ => rfl]; congr; funext v; simp only [withov]; congr; funext v2; exact q_next _
      | some m => rw [qA_n (l := [x, l, m]) rfl (f := fun vs => do pure (.value (← Instr.sliceAt t (vs.getD 0 undef) (some (vs.getD 1 undef)) none (some (vs.getD 2 undef))))) fun _ => rfl]; simp only [withvs, withov]; congr; funext v; congr; funext v2; congr; funext v3; exact q_next _
    | some h =>
      cases mx with
      | none => rw [qA_n (l := [x, l, h]) rfl (f := fun vs => do pure (.value (← Instr.sliceAt t (vs.getD 0 undef) (some (vs.getD 1 undef)) (some (vs.getD 2 undef)) none))) fun _ => rfl]; simp only [withvs, withov]; congr; funext v; congr; funext v2; congr; funext v3; exact q_next _
      | some m =>
        rw [qA_n (l := [x, l, h, m]) rfl (f := fun vs => do pure (.value (← Instr.sliceAt t (vs.getD 0 undef) (some (vs.getD 1 undef)) (some (vs.getD 2 undef)) (some (vs.getD 3 undef))))) fun _ => rfl]
        simp only [withvs, withov]
        congr; funext v; congr; funext v2; congr; funext v3; congr; funext v4; exact q_next _
theorem rd_slice_string {t : TypeId} {s : ByteArray} (h : P.underlying t = some .string) {lo hi : Option Value} {l r : Nat} (hl : BoundIs lo 0 l) (hr : BoundIs hi s.size r) (hlr : l ≤ r) (hrs : r ≤ s.size) :
    rd P (Instr.sliceAt t (.string s) lo hi none) H = some (.string (s.extract l r)) := by
  have h1 : rd P (Instr.sliceAt t (.string s) lo hi none) H = rd P (Instr.slice t (.string s) lo hi none) H := by
    unfold Instr.sliceAt
    show rd P ((underlying t).bind _) H = _
    rw [rd_und h]
  have h2 : rd P (Instr.slice t (.string s) lo hi none) H = rd P ((Instr.sliceBounds false s.size s.size lo hi none).bind fun b => Sem.pure (Value.string (s.extract b.1 b.2.1))) H := by
    unfold Instr.slice
    show rd P ((underlying t).bind _) H = _
    rw [rd_und h]
    rfl
  rw [h1, h2, sliceBounds_ok hl hr hlr hrs]
  rfl
theorem sliQ_string {t : TypeId} {s : ByteArray} (h : P.underlying t = some .string) {lo hi : Option Value} {l r : Nat} (hl : BoundIs lo 0 l) (hr : BoundIs hi s.size r) (hlr : l ≤ r) (hrs : r ≤ s.size) :
    sliQ P t (.string s) lo hi none KQ H = KQ (.string (s.extract l r)) := qv_rd (rd_slice_string h hl hr hlr hrs)

/-- A part of a slice. -/
def subAddr (a : Option Addr) (sz l cap : Nat) : Option Addr := if cap = l then a else a.map (·.add (l * sz))
theorem rd_slice_slice {T E : TypeId} {z : Option Value} {sz by_ : Nat} {a : Option Addr} {n c : Nat} (hT : P.underlying T = some (.slice E)) (hE : TyOK P E z sz by_) {lo hi : Option Value} {l r : Nat} (hl : BoundIs lo 0 l) (hr : BoundIs hi n r) (hlr : l ≤ r) (hrs : r ≤ c) :
    rd P (Instr.sliceAt T (.slice a n c) lo hi none) H = some (.slice (subAddr a sz l c) (r - l) (c - l)) := by
  have h1 : rd P (Instr.sliceAt T (.slice a n c) lo hi none) H = rd P (Instr.slice T (.slice a n c) lo hi none) H := by
    unfold Instr.sliceAt
    show rd P ((underlying T).bind _) H = _
    rw [rd_und hT]
  rw [h1]
  unfold Instr.slice
  show rd P ((underlying T).bind _) H = _
  rw [rd_und hT]
  show rd P ((Instr.sliceBounds true n c lo hi none).bind _) H = _
  rw [sliceBounds_ok hl hr hlr hrs]
  show rd P ((sizeOf E).bind _) H = _
  rw [rd_size hE]
  rfl
theorem sliQ_slice {T E : TypeId} {z : Option Value} {sz by_ : Nat} {a : Option Addr} {n c : Nat} (hT : P.underlying T = some (.slice E)) (hE : TyOK P E z sz by_) {lo hi : Option Value} {l r : Nat} (hl : BoundIs lo 0 l) (hr : BoundIs hi n r) (hlr : l ≤ r) (hrs : r ≤ c) :
    sliQ P T (.slice a n c) lo hi none KQ H = KQ (.slice (subAddr a sz l c) (r - l) (c - l)) := qv_rd (rd_slice_slice hT hE hl hr hlr hrs)
theorem sliA_slice {T E : TypeId} {z : Option Value} {sz by_ : Nat} {a : Option Addr} {n c : Nat} (hT : P.underlying T = some (.slice E)) (hE : TyOK P E z sz by_) {lo hi : Option Value} {l r : Nat} (hl : BoundIs lo 0 l) (hr : BoundIs hi n r) (hlr : l ≤ r) (hrs : r ≤ c) :
    sliA P T (.slice a n c) lo hi none K X H = K (.slice (subAddr a sz l c) (r - l) (c - l)) H := hv_rd (rd_slice_slice hT hE hl hr hlr hrs)

def cnvQ (P : Program) (s t : TypeId) (v : Value) (K : Value → Prop) (H : Hp) : Prop := qv P (convert s t v) K H
theorem qA_convert (s t : TypeId) (x : Operand) : qA P ⟨d, .convert s t x, ty, g⟩ F H KQ = withv F x fun v => cnvQ P s t v KQ H := by
  rw [qA_1 rfl (f := fun v => do pure (.value (← convert s t v))) fun _ => rfl]
  exact congrArg (withv F x) (funext fun v => q_next _)

theorem rd_forBytes : ∀ (l : List UInt8) (s : ByteArray),
    rd P (forIn (bytesV l) s fun c s => (match c with | .int .u8 n => pure (ForInStep.yield (s.push (UInt8.ofNat n.toNat))) | _ => stuck "bytesToString: byte expected" : Sem (ForInStep ByteArray))) H = some ⟨s.data ++ l.toArray⟩
  | [], s => by show some s = _; simp
  | b :: r, s => by
    simp only [bytesV, List.map_cons, List.forIn_cons]
    show rd P ((forIn (bytesV r) (s.push (UInt8.ofNat ((b.toNat : Int)).toNat)) _) : Sem ByteArray) H = _
    rw [rd_forBytes r]
    have : UInt8.ofNat ((b.toNat : Int)).toNat = b := by simp
    rw [this]
    have : (s.push b).data = s.data.push b := (rfl)
    rw [this]
    congr 2
    apply Array.toList_inj.1
    simp

theorem cnvQ_bytes {s t e : TypeId} {v : Value} {n : Nat} {l : List UInt8} (hs : P.underlying s = some (.slice e)) (he : P.underlying e = some (.int .u8)) (ht : P.underlying t = some .string) (src : Src H 1 v n (bytesV l)) (hv' : ∃ a c, v = .slice a n c) :
    cnvQ P s t v KQ H = KQ (.string ⟨l.toArray⟩) := by
  refine qv_rd ?_
  obtain ⟨a, c, rfl⟩ := hv'
  unfold convert
  show rd P ((underlying s).bind _) H = _
  rw [rd_und hs]
  show rd P ((underlying t).bind _) H = _
  rw [rd_und ht]
  show rd P ((underlying e).bind _) H = _
  rw [rd_und he]
  show rd P (Conv.bytesToString (.slice a n c)) H = _
  unfold Conv.bytesToString
  rcases src with ⟨ad, c', h1, h2⟩ | ⟨c', h1, h2, h3⟩ | ⟨u, h1, _⟩
  · cases h1
    simp only []
    show rd P ((loadCells ad n).bind _) H = _
    rw [rd_bind]
    unfold loadCells
    rw [Nat.mul_one] at h2
    rw [rd_loadCellsFrom _ _ _ h2]
    simp only [Array.empty_append, List.append_toArray, List.nil_append, Option.bind_some]
    rw [List.forIn_toArray]
    show rd P (Sem.bind _ _) H = _
    rw [rd_bind]
    refine Eq.trans (congrArg (fun o => Option.bind o _) (rd_forBytes l ByteArray.empty)) ?_
    show some (Value.string _) = _
    congr 2
    show ByteArray.mk (#[] ++ l.toArray) = _
    simp
  · cases h1
    have : l = [] := by cases l <;> first | rfl | cases h3
    subst this
    rfl
  · cases h1

def loadQ (P : Program) (t : TypeId) (a : Value) (K : Value → Prop) (H : Hp) : Prop := qv P (Instr.loadAt t a) K H
theorem qA_load (t : TypeId) (x : Operand) : qA P ⟨d, .load t x, ty, g⟩ F H KQ = withv F x fun v => loadQ P t v KQ H := by
  rw [qA_1 rfl (f := fun v => do pure (.value (← Instr.loadAt t v))) fun _ => rfl]
  exact congrArg (withv F x) (funext fun v => q_next _)
theorem rd_loadVar_cell {t : TypeId} {dd : TypeDesc} {a : Addr} {v : Value} (h : P.underlying t = some dd) (hd : aggD dd = false) (hc : cellH H a = some v) : rd P (loadVar t a) H = some v := by
  unfold loadVar
  show rd P ((isAgg t).bind _) H = _
  rw [rd_isAgg h, hd]
  simp only [Bool.false_eq_true, if_false, load, rd, hc]
theorem rd_loadVar_agg {t : TypeId} {dd : TypeDesc} {z : Option Value} {sz by_ : Nat} {a : Addr} {l : List Value} (h : P.underlying t = some dd) (hd : aggD dd = true) (ht : TyOK P t z sz by_) (hc : cellsH H a 0 sz = some l) : rd P (loadVar t a) H = some (.agg l.toArray) := by
  unfold loadVar
  show rd P ((isAgg t).bind _) H = _
  rw [rd_isAgg h, hd]
  simp only [if_true]
  show rd P ((sizeOf t).bind fun n => (loadCells a n).bind fun cs => Sem.pure (Value.agg cs)) H = _
  rw [rd_size ht, rd_bind]
  unfold loadCells
  rw [rd_loadCellsFrom _ _ _ hc]
  simp [rd]
theorem loadQ_cell {t : TypeId} {dd : TypeDesc} {a : Addr} {v : Value} (h : P.underlying t = some dd) (hd : aggD dd = false) (hc : cellH H a = some v) : loadQ P t (.pointer (some a)) KQ H = KQ v := qv_rd (rd_loadVar_cell h hd hc)
theorem loadQ_agg {t : TypeId} {dd : TypeDesc} {z : Option Value} {sz by_ : Nat} {a : Addr} {l : List Value} (h : P.underlying t = some dd) (hd : aggD dd = true) (ht : TyOK P t z sz by_) (hc : cellsH H a 0 sz = some l) : loadQ P t (.pointer (some a)) KQ H = KQ (.agg l.toArray) := qv_rd (rd_loadVar_agg h hd ht hc)

/-- Field i of struct type s lies at offset off (and is no field without cells). -/
def FldOK (P : Program) (s : TypeId) (i off : Nat) : Prop := ∃ fs f z sz by_, P.underlying s = some (.struct fs) ∧ fs[i]? = some f ∧ f.offset = off ∧ TyOK P f.type z (sz + 1) by_
def fadQ (P : Program) (s : TypeId) (v : Value) (i : Nat) (K : Value → Prop) (H : Hp) : Prop := qv P (Instr.fieldAt s v i) K H
theorem qA_fieldAddr (s : TypeId) (x : Operand) (i : Nat) : qA P ⟨d, .fieldAddr s x i, ty, g⟩ F H KQ = withv F x fun v => fadQ P s v i KQ H := by
  rw [qA_1 rfl (f := fun v => do pure (.value (← Instr.fieldAt s v i))) fun _ => rfl]
  exact congrArg (withv F x) (funext fun v => q_next _)
theorem rd_fieldAt {s : TypeId} {i off : Nat} {a : Addr} (h : FldOK P s i off) : rd P (Instr.fieldAt s (.pointer (some a)) i) H = some (.pointer (some (a.add off))) := by
  obtain ⟨fs, f, z, sz, by_, h1, h2, h3, h4⟩ := h
  unfold Instr.fieldAt
  show rd P ((underlying s).bind _) H = _
  rw [rd_und h1]
  show rd P (match fs[i]? with | some f => _ | _ => _) H = _
  rw [h2]
  show rd P ((fieldPlace a f).bind fun b => Sem.pure (Value.pointer (some b))) H = _
  rw [rd_bind]
  unfold fieldPlace
  show (rd P ((sizeOf f.type).bind _) H).bind _ = _
  rw [rd_size h4, if_neg (by omega), h3]
  rfl
theorem fadQ_ok {s : TypeId} {i off : Nat} {a : Addr} (h : FldOK P s i off) : fadQ P s (.pointer (some a)) i KQ H = KQ (.pointer (some (a.add off))) := qv_rd (rd_fieldAt h)
theorem fadA_ok {s : TypeId} {i off : Nat} {a : Addr} (h : FldOK P s i off) : fadA P s (.pointer (some a)) i K X H = K (.pointer (some (a.add off))) H := hv_rd (rd_fieldAt h)

def iadQ (P : Program) (t : TypeId) (v i : Value) (K : Value → Prop) (H : Hp) : Prop := qv P (Instr.indexAt t v i) K H
theorem qA_indexAddr (t : TypeId) (x i : Operand) : qA P ⟨d, .indexAddr t x i, ty, g⟩ F H KQ = withv F x fun v => withv F i fun j => iadQ P t v j KQ H := by
  rw [qA_2 rfl (f := fun v i => do pure (.value (← Instr.indexAt t v i))) fun _ => rfl]
  exact congrArg (withv F x) (funext fun v => congrArg (withv F i) (funext fun j => q_next _))
theorem iadQ_slice {T E : TypeId} {z : Option Value} {sz by_ : Nat} {a : Addr} {n c : Nat} {k : IntKind} {i : Int} (hT : P.underlying T = some (.slice E)) (hE : TyOK P E z sz by_) (h0 : 0 ≤ i) (h1 : i < n) :
    iadQ P T (.slice (some a) n c) (.int k i) KQ H = KQ (.pointer (some (a.add (i.toNat * sz)))) := by
  refine qv_rd ?_
  unfold Instr.indexAt
  show rd P ((underlying T).bind _) H = _
  rw [rd_und hT]
  show rd P ((underlying T).bind _) H = _
  rw [rd_und hT]
  simp only [pure, Sem.bind]
  rw [if_pos ⟨h0, h1⟩]
  show rd P ((sizeOf E).bind _) H = _
  rw [rd_size hE]
  rfl

/-- A literal of a struct. -/
def bldQ (P : Program) (t : TypeId) (ps : List (Nat × Value)) (K : Value → Prop) (H : Hp) : Prop := qv P (Instr.build t ps.toArray) K H
theorem qA_build (t : TypeId) (ps : Array (Nat × Operand)) : qA P ⟨d, .build t ps, ty, g⟩ F H KQ = withps F ps.toList fun vs => bldQ P t vs KQ H := by
  rw [qA_ps (l := ps.toList) (by simp [Op.operands]) (f := fun vs => do pure (.value (← Instr.build t vs.toArray))) fun ρ => ?_]
  · exact congrArg (withps F ps.toList) (funext fun vs => q_next _)
  · simp only [execOp, O.oper, lmap]

/-! ### Calls -/

def callQ (P : Program) (c : Callee) (ats : Array TypeId) (ty : TypeId) (cs : Array Bool) (vs : List Value) (K : Value → Prop) (H : Hp) : Prop := nextQ P K H (rd P (callSem c ats ty cs vs) H)
theorem qA_call (c : Call) : qA P ⟨d, .call c, ty, g⟩ F H KQ = withvs F (callOps c) fun vs => callQ P c.callee c.argTypes ty (c.args.map constOf) vs KQ H := by
  refine qA_n (l := callOps c) ?_ (f := callSem c.callee c.argTypes ty (c.args.map constOf)) (callSem_eq c ty d g)
  obtain ⟨callee, args, ats⟩ := c
  cases callee <;> simp [Op.operands, Call.operands, callOps]
theorem callQ_fn {f : FuncId} (h : Plain P f) {o : Operand} {ats : Array TypeId} {cs : Array Bool} {first cap : Array Value} {vs : List Value} :
    callQ P (.value o) ats ty cs (.func (.func f) first cap :: vs) KQ H = ∃ v, QCall P f (first ++ vs.toArray ++ cap) H v ∧ KQ v := by
  obtain ⟨fn, h1, h2, h3⟩ := h
  unfold callQ callSem
  simp only [List.headD_cons, List.tail_cons]
  show nextQ P KQ H (rd P ((callFunc f (first ++ vs.toArray ++ cap))) H) = _
  unfold callFunc
  show nextQ P KQ H (rd P (match P.funcs[f]? with | none => _ | some fn => _) H) = _
  rw [h1]
  simp only [h2, h3, Bool.false_eq_true, if_false]
  rfl
theorem lenQ_slice {t e : TypeId} {cs : Array Bool} {a : Option Addr} {n c : Nat} (h : P.underlying t = some (.slice e)) : callQ P (.builtin .len) #[t] ty cs [.slice a n c] KQ H = KQ (.int .i64 n) := by
  show nextQ P KQ H (rd P (do let v ← Builtin.len_ #[t] ty #[.slice a n c]; pure (Next.value v)) H) = _
  rw [q_next]
  refine qv_rd ?_
  unfold Builtin.len_
  show rd P ((underlying t).bind _) H = _
  rw [rd_und h]
  rfl

end

/-! ### Operands, by sight -/
section
variable {F : Fr} {K : Value → Prop} {v u : Value} {s t : Nat}
theorem withv_const : withv F (.const v) K = K v := (rfl)
theorem withv_func {f : FuncId} : withv F (.func f) K = K (.func (.func f) #[] #[]) := (rfl)
theorem withv_global {g : Nat} : withv F (.global g) K = K (.pointer (some ⟨g, 0, none⟩)) := (rfl)
theorem withv_hd : withv ((t, v) :: F) (.tmp t) K = K v := by simp [withv, evo, look?]
theorem withv_tl (h : ¬ s = t) : withv ((s, v) :: F) (.tmp t) K = withv F (.tmp t) K := by simp only [withv, evo, look?, if_neg h]
theorem look_hd : look? ((t, v) :: F) t = some v := by simp [look?]
theorem look_tl (h : ¬ s = t) : look? ((s, v) :: F) t = look? F t := by simp only [look?, if_neg h]
theorem look_nil : look? [] t = none := (rfl)
def addO (k : Nat) (v : Option Value) (r : Fr) : Fr :=
  match v with
  | some v => (k, v) :: r
  | none => r
theorem trim_nil : trim [] F = [] := (rfl)
theorem trim_cons {ks : List Nat} : trim (t :: ks) F = addO t (look? F t) (trim ks F) := by
  show (match look? F t with | some v => (t, v) :: trim ks F | none => trim ks F) = _
  cases look? F t <;> rfl
theorem addO_some {r : Fr} : addO t (some v) r = (t, v) :: r := (rfl)
theorem addO_none {r : Fr} : addO t none r = r := (rfl)
theorem upd_some : upd (some t) v F = (t, v) :: F := (rfl)
theorem upd_none : upd none v F = F := (rfl)
theorem withvs_nil {K : List Value → Prop} : withvs F [] K = K [] := (rfl)
theorem withvs_cons {K : List Value → Prop} {x : Operand} {r : List Operand} : withvs F (x :: r) K = withv F x fun v => withvs F r fun vs => K (v :: vs) := (rfl)
theorem withov_none {K : Option Value → Prop} : withov F none K = K none := (rfl)
theorem withov_some {K : Option Value → Prop} {x : Operand} : withov F (some x) K = withv F x fun v => K (some v) := (rfl)
theorem withps_nil {K : List (Nat × Value) → Prop} : withps F [] K = K [] := (rfl)
theorem withps_cons {K : List (Nat × Value) → Prop} {i : Nat} {x : Operand} {r : List (Nat × Operand)} : withps F ((i, x) :: r) K = withv F x fun v => withps F r fun vs => K ((i, v) :: vs) := (rfl)
theorem pickA_true {b : Value} : pickA (.bool true) v b K = K v := (rfl)
theorem pickA_false {b : Value} : pickA (.bool false) v b K = K b := (rfl)
theorem pickA_b {c : Bool} {b : Value} : pickA (.bool c) v b K = K (if c then v else b) := (rfl)
theorem extrA_0 {l : List Value} : extrA (.tuple ⟨v :: l⟩) 0 K = K v := (rfl)
theorem extrA_1 {a : Value} {l : List Value} : extrA (.tuple ⟨a :: v :: l⟩) 1 K = K v := (rfl)
theorem extrA_2 {a b : Value} {l : List Value} : extrA (.tuple ⟨a :: b :: v :: l⟩) 2 K = K v := (rfl)
theorem extrA_3 {a b c : Value} {l : List Value} : extrA (.tuple ⟨a :: b :: c :: v :: l⟩) 3 K = K v := (rfl)
theorem nilA_ptr {a : Addr} : nilA (.pointer (some a)) K = K (.pointer (some a)) := (rfl)
theorem nilA_fn {f : FuncId} {a b : Array Value} : nilA (.func (.func f) a b) K = K (.func (.func f) a b) := (rfl)
theorem nilA_iface {x : TypeId} : nilA (.iface x u) K = K (.iface x u) := (rfl)
theorem resW_nil {P : Program} {H : Hp} {K : List Value → Prop} : resW P F H K [] = K [] := (rfl)
theorem resW_tmp {P : Program} {H : Hp} {K : List Value → Prop} {r : List ResultVar} : resW P F H K (.tmp t :: r) = withv F (.tmp t) fun v => resW P F H (fun vs => K (v :: vs)) r := (rfl)
theorem pack_one : pack [v] = v := (rfl)
theorem pack_two : pack [v, u] = .tuple #[v, u] := (rfl)
theorem pack_three {a : Value} : pack [v, u, a] = .tuple #[v, u, a] := (rfl)
theorem pack_four {a b : Value} : pack [v, u, a, b] = .tuple #[v, u, a, b] := (rfl)
theorem pack_nil : pack [] = .tuple #[] := (rfl)
theorem callK_ret {K : Value → Hp → Prop} {X : List PanicEntry → Hp → Prop} {H : Hp} : callK K X (.returned v) H = K v H := (rfl)
theorem callOps_fn {x : Operand} {l : List Operand} {ats : Array TypeId} : callOps ⟨.value x, ⟨l⟩, ats⟩ = x :: l := (rfl)
theorem callOps_b {b : Builtin} {l : List Operand} {ats : Array TypeId} : callOps ⟨.builtin b, ⟨l⟩, ats⟩ = l := (rfl)
theorem callOps_i {x : Operand} {m : String} {l : List Operand} {ats : Array TypeId} : callOps ⟨.invoke x m, ⟨l⟩, ats⟩ = x :: l := (rfl)
theorem enumF_nil {k : Nat} : enumF k [] = [] := (rfl)
theorem enumF_cons {k : Nat} {l : List Value} : enumF k (v :: l) = (k, v) :: enumF (k + 1) l := (rfl)
end

/-! ### The tree -/
section
variable {P : Program} {n : Nat} {Q : E → Fr → Hp → Prop} {F : Fr} {H : Hp}

def condA (v : Value) (p q : Prop) : Prop :=
  match v with
  | .bool t => if t = true then p else q
  | _ => False

theorem aw_loopc {a L : A} (hL : L = .loop a) (h : aw P n a (onE (aw P n L Q) Q) F H) : aw P n L Q F H := by
  subst hL; exact aw_loop h

theorem aw_skip : aw P n .skip Q F H = Q .normal F H := (rfl)
theorem aw_ret : aw P n .ret Q F H = Q .ret F H := (rfl)
theorem aw_exit {id : Nat} : aw P n (.exit id) Q F H = Q (.exit id) F H := (rfl)
theorem aw_block {id : Nat} {a : A} : aw P n (.block id a) Q F H = aw P n a (blkE id Q) F H := (rfl)
theorem aw_keep {ks : List Nat} : aw P n (.keep ks) Q F H = Q .normal (trim ks F) H := (rfl)
theorem aw_cond {c : Operand} {a b : A} : aw P n (.cond c a b) Q F H = withv F c fun v => condA v (aw P n a Q F H) (aw P n b Q F H) := by
  simp only [aw]
  congr
theorem blkE_normal {i : Nat} : blkE i Q .normal F H = Q .normal F H := (rfl)
theorem blkE_exit {i j : Nat} : blkE i Q (.exit j) F H = if j = i then Q .normal F H else Q (.exit j) F H := (rfl)
theorem blkE_ret {i : Nat} : blkE i Q .ret F H = Q .ret F H := (rfl)
theorem retK_normal {rs : List ResultVar} {K : Ending → Hp → Prop} : retK P rs K .normal F H = resW P F H (fun vs => K (.returned (pack vs)) H) rs := (rfl)
theorem retK_ret {rs : List ResultVar} {K : Ending → Hp → Prop} : retK P rs K .ret F H = resW P F H (fun vs => K (.returned (pack vs)) H) rs := (rfl)
end

section
variable {P : Program} {K : Fr → Hp → Prop} {X : List PanicEntry → Hp → Prop} {F : Fr} {H : Hp} {k : Nat} {r : List O}
def guardA (v : Option Value) (b : Bool) (p q : Prop) : Prop :=
  match v with
  | some (.bool c) => if c = b then p else q
  | some _ => q
  | none => False
end
end Go.Hw

/- Strings as lists of bytes; ranging over a string; equality. -/
set_option linter.unusedSimpArgs false
set_option linter.unusedVariables false
namespace Go.Hw

theorem getD_lt {α : Type} {l : List α} {i : Nat} {d : α} (h : i < l.length) : l.getD i d = l[i] := by
  simp [List.getD_eq_getElem?_getD, h]

/-- A string of bytes. -/
def B (l : List UInt8) : ByteArray := ⟨l.toArray⟩
theorem B_size (l : List UInt8) : (B l).size = l.length := by simp [B, ByteArray.size]
theorem B_list (l : List UInt8) : (B l).data.toList = l := by simp [B]
theorem B_of (s : ByteArray) : B s.data.toList = s := by simp [B]
theorem B_lit {l : List UInt8} : (⟨l.toArray⟩ : ByteArray) = B l := rfl
theorem B_append (a b : List UInt8) : B a ++ B b = B (a ++ b) := by
  have h : (B a ++ B b).data = (B (a ++ b)).data := by
    simp [B]
  cases h1 : B a ++ B b; cases h2 : B (a ++ b)
  rw [h1, h2] at h; simp at h; rw [h]
theorem B_extract (l : List UInt8) (a b : Nat) : (B l).extract a b = B ((l.drop a).take (b - a)) := by
  have h : ((B l).extract a b).data = (B ((l.drop a).take (b - a))).data := by
    simp [B, List.extract]
  cases h1 : (B l).extract a b; cases h2 : B ((l.drop a).take (b - a))
  rw [h1, h2] at h; simp at h; rw [h]
theorem B_inj {a b : List UInt8} : B a = B b ↔ a = b := ⟨fun h => by have := congrArg (fun s => s.data.toList) h; simpa [B_list] using this, fun h => by rw [h]⟩
theorem toList_eq (s : ByteArray) : s.toList = s.data.toList := by
  have key : ∀ (n i : Nat) (r : List UInt8), s.size - i = n → ByteArray.toList.loop s i r = r.reverse ++ s.data.toList.drop i := by
    intro n
    induction n with
    | zero =>
      intro i r h
      unfold ByteArray.toList.loop
      have : ¬ i < s.size := by omega
      rw [if_neg this]
      have h2 : s.data.toList.length ≤ i := by have : s.data.toList.length = s.size := by rw [Array.length_toList]; rfl
                                               omega
      rw [List.drop_of_length_le h2]
      simp
    | succ n ih =>
      intro i r h
      unfold ByteArray.toList.loop
      have : i < s.size := by omega
      rw [if_pos this, ih (i + 1) _ (by omega)]
      have h2 : i < s.data.toList.length := by have : s.data.toList.length = s.size := by rw [Array.length_toList]; rfl
                                               omega
      rw [List.drop_eq_getElem_cons h2]
      have h3 : s.get! i = s.data.toList[i] := by
        have h4 : i < s.data.size := by simpa using h2
        show s.data[i]! = _
        rw [getElem!_pos s.data i h4]
        simp
      rw [h3]
      simp
  unfold ByteArray.toList
  rw [key s.size 0 [] (by omega)]
  simp
theorem B_toList (l : List UInt8) : (B l).toList = l := by rw [toList_eq, B_list]

section
variable {P : Program} {F : Fr} {H : Hp} {K : Value → Hp → Prop} {X : List PanicEntry → Hp → Prop} {KQ : Value → Prop} {d : Option Nat} {ty : TypeId} {g : Option (Nat × Bool)}

theorem wrap_i64 {n : Int} (h1 : -9223372036854775808 ≤ n) (h2 : n ≤ 9223372036854775807) : IntKind.wrap .i64 n = n := IntWalk.i64_in n ⟨h1, h2⟩
theorem wrap_u8 {n : Int} (h1 : 0 ≤ n) (h2 : n ≤ 255) : IntKind.wrap .u8 n = n := IntWalk.u8_in n ⟨h1, h2⟩
theorem callA_fn0 {f : FuncId} (h : Plain P f) {o : Operand} {ats : Array TypeId} {cs : Array Bool} {vs : List Value} :
    callA P (.value o) ats ty cs (.func (.func f) #[] #[] :: vs) K X H = HCall P f vs.toArray H (callK K X) := by
  rw [callA_fn h]; simp
theorem callQ_fn0 {f : FuncId} (h : Plain P f) {o : Operand} {ats : Array TypeId} {cs : Array Bool} {vs : List Value} :
    callQ P (.value o) ats ty cs (.func (.func f) #[] #[] :: vs) KQ H = ∃ v, QCall P f vs.toArray H v ∧ KQ v := by
  rw [callQ_fn h]; simp

section
variable {t : TypeId} {l : List UInt8} {k k2 : IntKind} {i j : Int} {cs : Array Bool}
theorem len_B (h : P.underlying t = some .string) : callA P (.builtin .len) #[t] ty cs [.string (B l)] K X H = K (.int .i64 l.length) H := by rw [len_string h, B_size]
theorem idxA_B (h : P.underlying t = some .string) (h0 : 0 ≤ i) (h1 : i < l.length) : idxA P t (.string (B l)) (.int k i) K X H = K (.int .u8 ((l.getD i.toNat 0).toNat)) H := by
  rw [idxA_string h h0 (by rw [B_size]; exact h1), B_list]
theorem idxQ_B (h : P.underlying t = some .string) (h0 : 0 ≤ i) (h1 : i < l.length) : idxQ P t (.string (B l)) (.int k i) KQ H = KQ (.int .u8 ((l.getD i.toNat 0).toNat)) := by
  rw [idxQ_string h h0 (by rw [B_size]; exact h1), B_list]
theorem sliA_lo (h : P.underlying t = some .string) (h0 : 0 ≤ i) (h1 : i ≤ l.length) : sliA P t (.string (B l)) (some (.int k i)) none none K X H = K (.string (B (l.drop i.toNat))) H := by
  rw [sliA_string h (.int h0) (.no _) (by rw [B_size]; omega) (Nat.le_refl _), B_extract, B_size, List.take_of_length_le (by simp)]
theorem sliA_hi (h : P.underlying t = some .string) (h0 : 0 ≤ i) (h1 : i ≤ l.length) : sliA P t (.string (B l)) none (some (.int k i)) none K X H = K (.string (B (l.take i.toNat))) H := by
  rw [sliA_string h (.no _) (.int h0) (Nat.zero_le _) (by rw [B_size]; omega), B_extract, Nat.sub_zero, List.drop_zero]
theorem sliQ_lo (h : P.underlying t = some .string) (h0 : 0 ≤ i) (h1 : i ≤ l.length) : sliQ P t (.string (B l)) (some (.int k i)) none none KQ H = KQ (.string (B (l.drop i.toNat))) := by
  rw [sliQ_string h (.int h0) (.no _) (by rw [B_size]; omega) (Nat.le_refl _), B_extract, B_size, List.take_of_length_le (by simp)]
theorem sliQ_hi (h : P.underlying t = some .string) (h0 : 0 ≤ i) (h1 : i ≤ l.length) : sliQ P t (.string (B l)) none (some (.int k i)) none KQ H = KQ (.string (B (l.take i.toNat))) := by
  rw [sliQ_string h (.no _) (.int h0) (Nat.zero_le _) (by rw [B_size]; omega), B_extract, Nat.sub_zero, List.drop_zero]
end

theorem binA_beql {t : TypeId} {x y : Operand} {a b : Bool} (h : P.underlying t = some .bool) : binA P .eql t x y (.bool a) (.bool b) K X H = K (.bool (a == b)) H := by
  have : binA P .eql t x y (.bool a) (.bool b) K X H = hv P (do pure (.bool (← Op.equal t (.bool a) (.bool b)))) K X H := rfl
  rw [this]
  refine hv_rd ?_
  show rd P ((Op.equalIn Op.maxDepth t (.bool a) (.bool b)).bind fun r => Sem.pure (Value.bool r)) H = _
  unfold Op.maxDepth Op.equalIn
  show rd P (((underlying t).bind _).bind _) H = _
  rw [rd_bind, rd_und h]
  rfl

/-! ### Ranging over a string -/
def rngA (P : Program) (t : TypeId) (v : Value) (K : Value → Hp → Prop) (X : List PanicEntry → Hp → Prop) (H : Hp) : Prop := hv P (Instr.range t v) K X H
theorem opA_range (t : TypeId) (x : Operand) : opA P ⟨d, .range t x, ty, g⟩ F H K X = withv F x fun v => rngA P t v K X H := by
  rw [opA_1 rfl (f := fun v => do pure (.value (← Instr.range t v))) fun _ => rfl]
  exact congrArg (withv F x) (funext fun v => hv_next _)
theorem rngA_string {t : TypeId} {s : ByteArray} (h : P.underlying t = some .string) : rngA P t (.string s) K X H = K (.pointer (some ⟨H.size, 0, none⟩)) (H.push (.stringIter s 0)) := by
  unfold rngA hv Instr.range
  show hwx P ((underlying t).bind _) _ _ H = _
  rw [hw_und h]
  rfl
def nxtA (P : Program) (v : Value) (b : Bool) (t : TypeId) (K : Value → Hp → Prop) (X : List PanicEntry → Hp → Prop) (H : Hp) : Prop := hv P (Instr.next v b t) K X H
theorem opA_next (x : Operand) (b : Bool) : opA P ⟨d, .next x b, ty, g⟩ F H K X = withv F x fun v => nxtA P v b ty K X H := by
  rw [opA_1 rfl (f := fun v => do pure (.value (← Instr.next v b ty))) fun _ => rfl]
  exact congrArg (withv F x) (funext fun v => hv_next _)
theorem nxtA_string {r pos : Nat} {s : ByteArray} {t : TypeId} (h : H[r]? = some (.stringIter s pos)) (hp : pos < s.size) :
    nxtA P (.pointer (some ⟨r, 0, none⟩)) true t K X H = K (.tuple #[.bool true, .int .i64 pos, .int .i32 (Utf8.decode s pos).1]) (H.setIfInBounds r (.stringIter s (pos + (Utf8.decode s pos).2))) := by
  unfold nxtA hv Instr.next
  show hwx P ((getObj r).bind _) _ _ H = _
  simp only [getObj, Sem.bind, hwx, h, isCells, true_and, hp, if_true]
  show hwx P ((setObj r (.stringIter s (pos + (Utf8.decode s pos).2))).bind _) _ _ H = _
  simp only [setObj, Sem.bind, hwx, h, isCells, true_and]
  rfl
theorem nxtA_string_end {r pos : Nat} {s : ByteArray} {t : TypeId} (h : H[r]? = some (.stringIter s pos)) (hp : ¬ pos < s.size) :
    nxtA P (.pointer (some ⟨r, 0, none⟩)) true t K X H = K (.tuple #[.bool false]) H := by
  unfold nxtA hv Instr.next
  show hwx P ((getObj r).bind _) _ _ H = _
  simp only [getObj, Sem.bind, hwx, h, isCells, true_and, hp, if_false]
  rfl
end

/-- append of a literal's elements onto a slice of the call's own. -/
theorem append_lit {P : Program} {G : Hp} {K : Value → Hp → Prop} {X : List PanicEntry → Hp → Prop} {ty T E : TypeId} {z : Value} {sz by_ m : Nat} {cs : Array Bool} {ok : Nat → Prop} {v : Value} {n : Nat} {l : List Value} {c : Array Value}
    (own : OwnS ok E sz G v n l) (hT : P.underlying T = some (.slice E)) (hE : TyOK P E (some z) sz by_) (hz : z.cells.size = sz) (hc : c.size = m * sz) (hone : ∀ u ∈ c.toList, oneC u = true) (hok : ∀ b, G.size ≤ b → ok b)
    (hsmall : (2 * (n + m) + 512) * by_ ≤ 281474976710656) (hlen : n + m ≤ 281474976710656)
    (k : ∀ v' G', OwnS ok E sz G' v' (n + m) (l ++ c.toList) → Keep (blkOf v) G G' → (∀ b, blkOf v' b → blkOf v b ∨ G.size ≤ b) → K v' G') :
    callA P (.builtin .append) #[T, T] ty cs [v, .slice (some ⟨G.size, 0, none⟩) m m] K X (G.push (.cells c E)) := by
  refine append_own (own.ext (Ext.push _ _)) (src_push hc) hT hE hT rfl hz (fun ⟨s, h⟩ => by cases h) hone (fun b hb => hok b (by simp at hb; omega)) hsmall hlen fun v' G' h1 h2 h3 => k v' G' h1 ?_ ?_
  · exact ⟨Nat.le_trans (by simp) h2.size, fun b hb hn => (h2.blk b (by simp; omega) hn).trans (get_push_lt hb)⟩
  · intro b hb
    rcases h3 b hb with h | h
    · exact .inl h
    · refine .inr ?_; simp at h; omega
theorem Ext.own {H G G' : Hp} {ok : Nat → Prop} {E : TypeId} {sz : Nat} {v : Value} {n : Nat} {l : List Value} (h : Ext H G) (own : OwnS ok E sz G v n l) (hok : ∀ b, ok b → H.size ≤ b) (k : Keep (blkOf v) G G') : Ext H G' :=
  h.then k fun b hb => hok b (own.ok b hb)
theorem Ext.set {H G : Hp} (h : Ext H G) {r : Nat} {o : Obj} (hr : H.size ≤ r) : Ext H (G.setIfInBounds r o) :=
  ⟨by simpa using h.size, fun b hb => by rw [Array.getElem?_setIfInBounds, if_neg (by omega)]; exact h.blk b hb⟩
theorem get_set {G : Hp} {r : Nat} {o o' : Obj} (h : G[r]? = some o') : (G.setIfInBounds r o)[r]? = some o := by
  have := get_lt h
  rw [Array.getElem?_setIfInBounds]; simp [this]
theorem get_set_ne {G : Hp} {r b : Nat} {o : Obj} (h : r ≠ b) : (G.setIfInBounds r o)[b]? = G[b]? := by
  rw [Array.getElem?_setIfInBounds, if_neg h]

/-- What is decoded at a byte beyond ASCII is beyond ASCII. -/
theorem dec_high {l : List UInt8} {i : Nat} {c : UInt8} (h : l[i]? = some c) (hc : 128 ≤ c.toNat) : 128 ≤ (Utf8.decode (B l) i).1 ∧ 1 ≤ (Utf8.decode (B l) i).2 := by
  have hg : ((B l).get! (i + 0)) = c := by
    have hi : i < l.length := by
      rcases Nat.lt_or_ge i l.length with h1 | h1
      · exact h1
      · rw [List.getElem?_eq_none h1] at h; cases h
    show l.toArray[i + 0]! = c
    rw [List.getElem?_eq_getElem hi] at h
    simp [hi]
    exact Option.some.inj h
  unfold Utf8.decode
  simp only [hg]
  have h0 : ¬ c.toNat < 128 := by omega
  simp only [h0, if_false, Utf8.runeError]
  split
  · split <;> simp <;> omega
  · split
    · rename_i h1 h2
      split
      · rename_i h3; simp only [ge_iff_le, Bool.and_eq_true, decide_eq_true_eq] at h3; exact ⟨by omega, by omega⟩
      · exact ⟨by omega, by omega⟩
    · split
      · split
        · rename_i h3; simp only [ge_iff_le, Bool.and_eq_true, decide_eq_true_eq] at h3; exact ⟨by omega, by omega⟩
        · exact ⟨by omega, by omega⟩
      · exact ⟨by omega, by omega⟩
theorem decode_low {l : List UInt8} {i : Nat} {c : UInt8} (h : l[i]? = some c) (hc : c.toNat < 128) : Utf8.decode (B l) i = (c.toNat, 1) := by
  have hg : ((B l).get! (i + 0)) = c := by
    have hi : i < l.length := by
      rcases Nat.lt_or_ge i l.length with h1 | h1
      · exact h1
      · rw [List.getElem?_eq_none h1] at h; cases h
    show l.toArray[i + 0]! = c
    rw [List.getElem?_eq_getElem hi] at h
    simp [hi]
    exact Option.some.inj h
  unfold Utf8.decode
  simp only [hg]
  have h0 : c.toNat < 128 := by omega
  simp only [h0, if_true]

end Go.Hw

/- The walk, head first: what follows is kept whole until its turn comes. -/
set_option linter.unusedSimpArgs false
set_option linter.unusedVariables false
namespace Go.Hw

/-- What comes after b has run. -/
def seqQ (P : Program) (n : Nat) (b : A) (Q : E → Fr → Hp → Prop) : E → Fr → Hp → Prop := onE (aw P n b Q) Q
def panQ (Q : E → Fr → Hp → Prop) (c : List PanicEntry) (H : Hp) : Prop := Q (.panic c) [] H
def regQ (P : Program) (Q : E → Fr → Hp → Prop) (keep : List Nat) (l : List O) (F : Fr) (H : Hp) : Prop := aops P (fun F' H' => Q .normal (trim keep F') H') (panQ Q) l F H
def drwQ (P : Program) (Q : E → Fr → Hp → Prop) (keep : List Nat) (k : Nat) (l : List O) (F : Fr) (H : Hp) : Prop := aq P (fun F' H' => Q .normal (trim keep F') H') (panQ Q) k l F H

def contR (P : Program) (Q : E → Fr → Hp → Prop) (keep : List Nat) (d : Nat) (r : List O) (F : Fr) (v : Value) (H : Hp) : Prop := regQ P Q keep r ((d, v) :: F) H
def contN (P : Program) (Q : E → Fr → Hp → Prop) (keep : List Nat) (r : List O) (F : Fr) (v : Value) (H : Hp) : Prop := regQ P Q keep r F H
def contD (P : Program) (Q : E → Fr → Hp → Prop) (keep : List Nat) (k : Nat) (d : Nat) (r : List O) (F : Fr) (H : Hp) (v : Value) : Prop := drwQ P Q keep k r ((d, v) :: F) H
def contE (P : Program) (Q : E → Fr → Hp → Prop) (keep : List Nat) (k : Nat) (r : List O) (F : Fr) (H : Hp) (v : Value) : Prop := drwQ P Q keep k r F H
def guardR (P : Program) (Q : E → Fr → Hp → Prop) (keep : List Nat) (c : Option Value) (b : Bool) (d : Option Nat) (op : Op) (t : TypeId) (r : List O) (F : Fr) (H : Hp) : Prop :=
  guardA c b (regQ P Q keep (⟨d, op, t, none⟩ :: r) F H) (regQ P Q keep r (upd d undef F) H)
def guardD (P : Program) (Q : E → Fr → Hp → Prop) (keep : List Nat) (k : Nat) (c : Option Value) (b : Bool) (d : Nat) (op : Op) (t : TypeId) (r : List O) (F : Fr) (H : Hp) : Prop :=
  guardA c b (drwQ P Q keep (k + 1) (⟨some d, op, t, none⟩ :: r) F H) (drwQ P Q keep k r ((d, undef) :: F) H)
def condR (P : Program) (n : Nat) (v : Value) (a b : A) (Q : E → Fr → Hp → Prop) (F : Fr) (H : Hp) : Prop := condA v (aw P n a Q F H) (aw P n b Q F H)
def withg (F : Fr) (s : Nat) (K : Option Value → Prop) : Prop := K (look? F s)

section
variable {P : Program} {n : Nat} {Q : E → Fr → Hp → Prop} {F : Fr} {H : Hp} {keep : List Nat} {k : Nat} {r : List O}
theorem aw_seqQ {a b : A} : aw P n (.seq a b) Q F H = aw P n a (seqQ P n b Q) F H := (rfl)
theorem seqQ_normal {b : A} : seqQ P n b Q .normal F H = aw P n b Q F H := (rfl)
theorem seqQ_ret {b : A} : seqQ P n b Q .ret F H = Q .ret F H := (rfl)
theorem seqQ_exit {b : A} {i : Nat} : seqQ P n b Q (.exit i) F H = Q (.exit i) F H := (rfl)
theorem seqQ_panic {b : A} {c : List PanicEntry} : seqQ P n b Q (.panic c) F H = Q (.panic c) F H := (rfl)
theorem blkE_panic {i : Nat} {c : List PanicEntry} : blkE i Q (.panic c) F H = Q (.panic c) F H := (rfl)
theorem panQ_eq {c : List PanicEntry} : panQ Q c H = Q (.panic c) [] H := (rfl)
theorem aw_regQ {ops : List O} : aw P n (.reg ops keep) Q F H = regQ P Q keep ops F H := (rfl)
theorem aw_drwQ {ops : List O} : aw P n (.draw k ops keep) Q F H = drwQ P Q keep k ops F H := (rfl)
theorem regQ_nil : regQ P Q keep [] F H = Q .normal (trim keep F) H := (rfl)
theorem regQ_cons {d : Nat} {op : Op} {t : TypeId} : regQ P Q keep (⟨some d, op, t, none⟩ :: r) F H = opA P ⟨some d, op, t, none⟩ F H (contR P Q keep d r F) (panQ Q) := (rfl)
theorem regQ_consn {op : Op} {t : TypeId} : regQ P Q keep (⟨none, op, t, none⟩ :: r) F H = opA P ⟨none, op, t, none⟩ F H (contN P Q keep r F) (panQ Q) := (rfl)
theorem contR_app {d : Nat} {v : Value} : contR P Q keep d r F v H = regQ P Q keep r ((d, v) :: F) H := (rfl)
theorem contN_app {v : Value} : contN P Q keep r F v H = regQ P Q keep r F H := (rfl)
theorem contD_app {d : Nat} {v : Value} : contD P Q keep k d r F H v = drwQ P Q keep k r ((d, v) :: F) H := (rfl)
theorem contE_app {v : Value} : contE P Q keep k r F H v = drwQ P Q keep k r F H := (rfl)
theorem regQ_guard {d : Nat} {op : Op} {t : TypeId} {s : Nat} {b : Bool} : regQ P Q keep (⟨some d, op, t, some (s, b)⟩ :: r) F H = withg F s fun c => guardR P Q keep c b (some d) op t r F H := (rfl)
theorem regQ_guardn {op : Op} {t : TypeId} {s : Nat} {b : Bool} : regQ P Q keep (⟨none, op, t, some (s, b)⟩ :: r) F H = withg F s fun c => guardR P Q keep c b none op t r F H := (rfl)
theorem guardR_true {d : Option Nat} {op : Op} {t : TypeId} {b : Bool} : guardR P Q keep (some (.bool b)) b d op t r F H = regQ P Q keep (⟨d, op, t, none⟩ :: r) F H := by simp [guardR, guardA]
theorem guardR_tf {d : Nat} {op : Op} {t : TypeId} : guardR P Q keep (some (.bool true)) false (some d) op t r F H = regQ P Q keep r ((d, undef) :: F) H := (rfl)
theorem guardR_ft {d : Nat} {op : Op} {t : TypeId} : guardR P Q keep (some (.bool false)) true (some d) op t r F H = regQ P Q keep r ((d, undef) :: F) H := (rfl)
theorem guardR_un {d : Nat} {op : Op} {t : TypeId} {b : Bool} : guardR P Q keep (some undef) b (some d) op t r F H = regQ P Q keep r ((d, undef) :: F) H := (rfl)
theorem guardR_tfn {op : Op} {t : TypeId} : guardR P Q keep (some (.bool true)) false none op t r F H = regQ P Q keep r F H := (rfl)
theorem guardR_ftn {op : Op} {t : TypeId} : guardR P Q keep (some (.bool false)) true none op t r F H = regQ P Q keep r F H := (rfl)
theorem guardR_unn {op : Op} {t : TypeId} {b : Bool} : guardR P Q keep (some undef) b none op t r F H = regQ P Q keep r F H := (rfl)
theorem drwQ_zero {l : List O} : drwQ P Q keep 0 l F H = regQ P Q keep l F H := (rfl)
theorem drwQ_nil : drwQ P Q keep k [] F H = Q .normal (trim keep F) H := by cases k <;> rfl
theorem drwQ_cons {d : Nat} {op : Op} {t : TypeId} : drwQ P Q keep (k + 1) (⟨some d, op, t, none⟩ :: r) F H = qA P ⟨some d, op, t, none⟩ F H (contD P Q keep k d r F H) := (rfl)
theorem drwQ_consn {op : Op} {t : TypeId} : drwQ P Q keep (k + 1) (⟨none, op, t, none⟩ :: r) F H = qA P ⟨none, op, t, none⟩ F H (contE P Q keep k r F H) := (rfl)
theorem drwQ_guard {d : Nat} {op : Op} {t : TypeId} {s : Nat} {b : Bool} : drwQ P Q keep (k + 1) (⟨some d, op, t, some (s, b)⟩ :: r) F H = withg F s fun c => guardD P Q keep k c b d op t r F H := (rfl)
theorem guardD_true {d : Nat} {op : Op} {t : TypeId} {b : Bool} : guardD P Q keep k (some (.bool b)) b d op t r F H = drwQ P Q keep (k + 1) (⟨some d, op, t, none⟩ :: r) F H := by simp [guardD, guardA, drwQ_cons]
theorem guardD_tf {d : Nat} {op : Op} {t : TypeId} : guardD P Q keep k (some (.bool true)) false d op t r F H = drwQ P Q keep k r ((d, undef) :: F) H := (rfl)
theorem guardD_ft {d : Nat} {op : Op} {t : TypeId} : guardD P Q keep k (some (.bool false)) true d op t r F H = drwQ P Q keep k r ((d, undef) :: F) H := (rfl)
theorem guardD_un {d : Nat} {op : Op} {t : TypeId} {b : Bool} : guardD P Q keep k (some undef) b d op t r F H = drwQ P Q keep k r ((d, undef) :: F) H := (rfl)
theorem aw_condR {c : Operand} {a b : A} : aw P n (.cond c a b) Q F H = withv F c fun v => condR P n v a b Q F H := aw_cond
theorem condR_true {a b : A} : condR P n (.bool true) a b Q F H = aw P n a Q F H := (rfl)
theorem condR_false {a b : A} : condR P n (.bool false) a b Q F H = aw P n b Q F H := (rfl)
theorem withg_hd {i : Nat} {v : Value} {K : Option Value → Prop} : withg ((i, v) :: F) i K = K (some v) := by simp [withg, look?]
theorem withg_tl {i j : Nat} {v : Value} {K : Option Value → Prop} (h : ¬ j = i) : withg ((j, v) :: F) i K = withg F i K := by
  simp only [withg, look_tl h]

theorem aw_loopq {a L : A} (hL : L = .loop a) (h : aw P n a (seqQ P n L Q) F H) : aw P n L Q F H := aw_loopc hL h

/-- A loop whose frames are described by M, with a measure that falls. -/
theorem aw_while {a L : A} (hL : L = .loop a) (M : Nat → Fr → Hp → Prop) {m : Nat} (h0 : M m F H)
    (step : ∀ m F G, (∀ m' F' G', m' < m → M m' F' G' → aw P n L Q F' G') → M m F G → aw P n a (seqQ P n L Q) F G) : aw P n L Q F H := by
  induction m using Nat.strongRecOn generalizing F H with
  | _ m ih =>
    exact aw_loopc hL (step m F H (fun m' F' G' hm h => ih m' hm h) h0)
end

@[congr] theorem aw_congr {P : Program} {n : Nat} {a : A} {Q : E → Fr → Hp → Prop} {F F' : Fr} {H : Hp} (h : F = F') : aw P n a Q F H = aw P n a Q F' H := by subst h; rfl
@[congr] theorem condA_congr {v v' : Value} {p q : Prop} (h : v = v') : condA v p q = condA v' p q := by subst h; rfl
@[congr] theorem guardA_congr {v v' : Option Value} {b : Bool} {p q : Prop} (h : v = v') : guardA v b p q = guardA v' b p q := by subst h; rfl
@[congr] theorem HCall_congr {P : Program} {f : FuncId} {args args' : Array Value} {H : Hp} {K : Ending → Hp → Prop} (h : args = args') : HCall P f args H K = HCall P f args' H K := by subst h; rfl
@[congr] theorem rngA_congr {P : Program} {t : TypeId} {v : Value} {K : Value → Hp → Prop} {X : List PanicEntry → Hp → Prop} {H : Hp} {v' : Value} (hv : v = v') : rngA P t v K X H = rngA P t v' K X H := by subst hv; rfl
@[congr] theorem nxtA_congr {P : Program} {v : Value} {b : Bool} {t : TypeId} {K : Value → Hp → Prop} {X : List PanicEntry → Hp → Prop} {H : Hp} {v' : Value} (hv : v = v') : nxtA P v b t K X H = nxtA P v' b t K X H := by subst hv; rfl
@[congr] theorem withv_congr {F : Fr} {x : Operand} {K : Value → Prop}   : withv F x K = withv F x K := by skip; rfl
@[congr] theorem pickA_congr {c : Value} {a : Value} {b : Value} {K : Value → Prop} {c' : Value} {a' : Value} {b' : Value} (hc : c = c') (ha : a = a') (hb : b = b') : pickA c a b K = pickA c' a' b' K := by subst hc; subst ha; subst hb; rfl
@[congr] theorem extrA_congr {v : Value} {i : Nat} {K : Value → Prop} {v' : Value} (hv : v = v') : extrA v i K = extrA v' i K := by subst hv; rfl
@[congr] theorem unA_congr {P : Program} {op : UnOp} {v : Value} {K : Value → Hp → Prop} {X : List PanicEntry → Hp → Prop} {H : Hp} {v' : Value} (hv : v = v') : unA P op v K X H = unA P op v' K X H := by subst hv; rfl
@[congr] theorem binA_congr {P : Program} {op : BinOp} {t : TypeId} {x : Operand} {y : Operand} {a : Value} {b : Value} {K : Value → Hp → Prop} {X : List PanicEntry → Hp → Prop} {H : Hp} {a' : Value} {b' : Value} (ha : a = a') (hb : b = b') : binA P op t x y a b K X H = binA P op t x y a' b' K X H := by subst ha; subst hb; rfl
@[congr] theorem callA_congr {P : Program} {c : Callee} {ats : Array TypeId} {ty : TypeId} {cs : Array Bool} {vs : List Value} {K : Value → Hp → Prop} {X : List PanicEntry → Hp → Prop} {H : Hp} {vs' : List Value} (hvs : vs = vs') : callA P c ats ty cs vs K X H = callA P c ats ty cs vs' K X H := by subst hvs; rfl
@[congr] theorem idxA_congr {P : Program} {t : TypeId} {x : Value} {i : Value} {K : Value → Hp → Prop} {X : List PanicEntry → Hp → Prop} {H : Hp} {x' : Value} {i' : Value} (hx : x = x') (hi : i = i') : idxA P t x i K X H = idxA P t x' i' K X H := by subst hx; subst hi; rfl
@[congr] theorem sliA_congr {P : Program} {t : TypeId} {x : Value} {lo : Option Value} {hi : Option Value} {mx : Option Value} {K : Value → Hp → Prop} {X : List PanicEntry → Hp → Prop} {H : Hp} {x' : Value} {lo' : Option Value} {hi' : Option Value} {mx' : Option Value} (hx : x = x') (hlo : lo = lo') (hhi : hi = hi') (hmx : mx = mx') : sliA P t x lo hi mx K X H = sliA P t x' lo' hi' mx' K X H := by subst hx; subst hlo; subst hhi; subst hmx; rfl
@[congr] theorem loadA_congr {P : Program} {t : TypeId} {a : Value} {K : Value → Hp → Prop} {X : List PanicEntry → Hp → Prop} {H : Hp} {a' : Value} (ha : a = a') : loadA P t a K X H = loadA P t a' K X H := by subst ha; rfl
@[congr] theorem storeA_congr {P : Program} {t : TypeId} {a : Value} {v : Value} {K : Value → Hp → Prop} {X : List PanicEntry → Hp → Prop} {H : Hp} {a' : Value} {v' : Value} (ha : a = a') (hv : v = v') : storeA P t a v K X H = storeA P t a' v' K X H := by subst ha; subst hv; rfl
@[congr] theorem bslA_congr {P : Program} {t : TypeId} {n : Nat} {ps : List (Nat × Value)} {K : Value → Hp → Prop} {X : List PanicEntry → Hp → Prop} {H : Hp} {ps' : List (Nat × Value)} (hps : ps = ps') : bslA P t n ps K X H = bslA P t n ps' K X H := by subst hps; rfl
@[congr] theorem bldA_congr {P : Program} {t : TypeId} {ps : List (Nat × Value)} {K : Value → Hp → Prop} {X : List PanicEntry → Hp → Prop} {H : Hp} {ps' : List (Nat × Value)} (hps : ps = ps') : bldA P t ps K X H = bldA P t ps' K X H := by subst hps; rfl
@[congr] theorem cnvA_congr {P : Program} {s : TypeId} {t : TypeId} {v : Value} {K : Value → Hp → Prop} {X : List PanicEntry → Hp → Prop} {H : Hp} {v' : Value} (hv : v = v') : cnvA P s t v K X H = cnvA P s t v' K X H := by subst hv; rfl
@[congr] theorem nilA_congr {v : Value} {K : Value → Prop} {v' : Value} (hv : v = v') : nilA v K = nilA v' K := by subst hv; rfl
@[congr] theorem fadA_congr {P : Program} {s : TypeId} {v : Value} {i : Nat} {K : Value → Hp → Prop} {X : List PanicEntry → Hp → Prop} {H : Hp} {v' : Value} (hv : v = v') : fadA P s v i K X H = fadA P s v' i K X H := by subst hv; rfl
@[congr] theorem iadA_congr {P : Program} {t : TypeId} {v : Value} {i : Value} {K : Value → Hp → Prop} {X : List PanicEntry → Hp → Prop} {H : Hp} {v' : Value} {i' : Value} (hv : v = v') (hi : i = i') : iadA P t v i K X H = iadA P t v' i' K X H := by subst hv; subst hi; rfl
@[congr] theorem fldA_congr {P : Program} {t : TypeId} {v : Value} {i : Nat} {K : Value → Hp → Prop} {X : List PanicEntry → Hp → Prop} {H : Hp} {v' : Value} (hv : v = v') : fldA P t v i K X H = fldA P t v' i K X H := by subst hv; rfl
@[congr] theorem unQ_congr {P : Program} {op : UnOp} {v : Value} {K : Value → Prop} {H : Hp} {v' : Value} (hv : v = v') : unQ P op v K H = unQ P op v' K H := by subst hv; rfl
@[congr] theorem binQ_congr {P : Program} {op : BinOp} {t : TypeId} {x : Operand} {y : Operand} {a : Value} {b : Value} {K : Value → Prop} {H : Hp} {a' : Value} {b' : Value} (ha : a = a') (hb : b = b') : binQ P op t x y a b K H = binQ P op t x y a' b' K H := by subst ha; subst hb; rfl
@[congr] theorem idxQ_congr {P : Program} {t : TypeId} {x : Value} {i : Value} {K : Value → Prop} {H : Hp} {x' : Value} {i' : Value} (hx : x = x') (hi : i = i') : idxQ P t x i K H = idxQ P t x' i' K H := by subst hx; subst hi; rfl
@[congr] theorem sliQ_congr {P : Program} {t : TypeId} {x : Value} {lo : Option Value} {hi : Option Value} {mx : Option Value} {K : Value → Prop} {H : Hp} {x' : Value} {lo' : Option Value} {hi' : Option Value} {mx' : Option Value} (hx : x = x') (hlo : lo = lo') (hhi : hi = hi') (hmx : mx = mx') : sliQ P t x lo hi mx K H = sliQ P t x' lo' hi' mx' K H := by subst hx; subst hlo; subst hhi; subst hmx; rfl
@[congr] theorem cnvQ_congr {P : Program} {s : TypeId} {t : TypeId} {v : Value} {K : Value → Prop} {H : Hp} {v' : Value} (hv : v = v') : cnvQ P s t v K H = cnvQ P s t v' K H := by subst hv; rfl
@[congr] theorem loadQ_congr {P : Program} {t : TypeId} {a : Value} {K : Value → Prop} {H : Hp} {a' : Value} (ha : a = a') : loadQ P t a K H = loadQ P t a' K H := by subst ha; rfl
@[congr] theorem fadQ_congr {P : Program} {s : TypeId} {v : Value} {i : Nat} {K : Value → Prop} {H : Hp} {v' : Value} (hv : v = v') : fadQ P s v i K H = fadQ P s v' i K H := by subst hv; rfl
@[congr] theorem iadQ_congr {P : Program} {t : TypeId} {v : Value} {i : Value} {K : Value → Prop} {H : Hp} {v' : Value} {i' : Value} (hv : v = v') (hi : i = i') : iadQ P t v i K H = iadQ P t v' i' K H := by subst hv; subst hi; rfl
@[congr] theorem bldQ_congr {P : Program} {t : TypeId} {ps : List (Nat × Value)} {K : Value → Prop} {H : Hp} {ps' : List (Nat × Value)} (hps : ps = ps') : bldQ P t ps K H = bldQ P t ps' K H := by subst hps; rfl
@[congr] theorem callQ_congr {P : Program} {c : Callee} {ats : Array TypeId} {ty : TypeId} {cs : Array Bool} {vs : List Value} {K : Value → Prop} {H : Hp} {vs' : List Value} (hvs : vs = vs') : callQ P c ats ty cs vs K H = callQ P c ats ty cs vs' K H := by subst hvs; rfl

end Go.Hw

/- Loops with a measure; byte slices; maps of the call's own. -/
set_option linter.unusedSimpArgs false
set_option linter.unusedVariables false
namespace Go.Hw
open Go.RowKit

/-- Appending a byte onto a byte slice of the call's own. -/
theorem append_byte {P : Program} {G H : Hp} {K : Value → Hp → Prop} {X : List PanicEntry → Hp → Prop} {ty T E : TypeId} {cs : Array Bool} {v : Value} {n : Nat} {l : List UInt8} (c : UInt8)
    (own : OwnS (H.size ≤ ·) E 1 G v n (bytesV l)) (hE : Ext H G) (hT : P.underlying T = some (.slice E)) (hTy : TyOK P E (some (.int .u8 0)) 1 1) (hlen : n ≤ 100000000000)
    (k : ∀ v' G', OwnS (H.size ≤ ·) E 1 G' v' (n + 1) (bytesV (l ++ [c])) → Ext H G' → K v' G') :
    callA P (.builtin .append) #[T, T] ty cs [v, .slice (some ⟨G.size, 0, none⟩) 1 1] K X (G.push (.cells (Value.cells (.int .u8 c.toNat)) E)) := by
  refine append_lit (ok := (H.size ≤ ·)) own hT hTy rfl rfl (by intro u hu; simp [Value.cells] at hu; subst hu; rfl) (fun b hb => Nat.le_trans hE.size hb) (by omega) (by omega) fun v' G' h1 h2 h3 => k v' G' ?_ ?_
  · have : bytesV (l ++ [c]) = bytesV l ++ (Value.cells (.int .u8 (c.toNat : Int))).toList := by simp [bytesV, Value.cells]
    rw [this]; exact h1
  · exact hE.own own (fun b hb => hb) h2

/-! ### Contracts of the shelf, as calls over the heap -/

theorem EnvEq.of_below {w w' : World} (h : Below w.heap.size w w') : EnvEq w w' :=
  ⟨h.os, h.tape, h.output, h.size, fun D hD => by
    have hlt : D < w.heap.size := by
      rcases Nat.lt_or_ge D w.heap.size with h1 | h1
      · exact h1
      · rw [Array.getElem?_eq_none h1] at hD; cases hD
    exact (h.block D hlt).trans hD⟩
theorem Ext.of_below {w w' : World} (h : Below w.heap.size w w') : Ext w.heap w'.heap := ⟨h.size, fun b hb => h.block b hb⟩

theorem HCall.of_same {P : Program} {f : FuncId} {args : Array Value} {H : Hp} {v : Value} {K : Ending → Hp → Prop} (h : ∀ w : World, w.heap = H → Calls P f args w fun e w' => e = .returned v ∧ w' = w) (k : K (.returned v) H) : HCall P f args H K :=
  fun w hw => (h w hw).mono fun e w' ⟨h1, h2⟩ => by subst h1 h2; exact ⟨EnvEq.refl _, by rw [hw]; exact k⟩
theorem HCall.of_drew {P : Program} {f : FuncId} {args : Array Value} {H : Hp} {v : Value} {K : Ending → Hp → Prop} (h : ∀ w : World, w.heap = H → Calls P f args w fun e w' => e = .returned v ∧ ∃ n, w' = w.drewN n) (k : K (.returned v) H) : HCall P f args H K :=
  fun w hw => (h w hw).mono fun e w' ⟨h1, n, h2⟩ => by subst h1 h2; exact ⟨⟨rfl, rfl, rfl, Nat.le_refl _, fun _ h => h⟩, by show K _ w.heap; rw [hw]; exact k⟩
theorem HCall.of_below {P : Program} {f : FuncId} {args : Array Value} {H : Hp} {v : Value} {K : Ending → Hp → Prop} (h : ∀ w : World, w.heap = H → Calls P f args w fun e w' => e = .returned v ∧ Below w.heap.size w w') (k : ∀ H', Ext H H' → K (.returned v) H') : HCall P f args H K :=
  fun w hw => (h w hw).mono fun e w' ⟨h1, h2⟩ => by subst h1; exact ⟨EnvEq.of_below h2, k _ (by rw [← hw]; exact Ext.of_below h2)⟩

/-- A variable of the library's that the search functions read. -/
def G0 (H : Hp) : Prop := ∃ m, cellH H ⟨0, 0, none⟩ = some (.int .i64 m)
theorem cellH_ext {H H' : Hp} (h : Ext H H') {a : Addr} {v : Value} (hc : cellH H a = some v) : cellH H' a = some v := by
  have : a.block < H.size := by
    apply Classical.byContradiction
    intro hn
    have : H[a.block]? = none := Array.getElem?_eq_none (by omega)
    unfold cellH at hc
    rw [this] at hc
    cases hc
  unfold cellH at hc ⊢
  rw [h.blk _ this]
  exact hc
theorem G0.ext {H H' : Hp} (h : G0 H) (e : Ext H H') : G0 H' := by
  obtain ⟨m, hm⟩ := h
  exact ⟨m, cellH_ext e hm⟩

end Go.Hw

/- Elements of slices that are read; symbolic conditions. -/
set_option linter.unusedSimpArgs false
set_option linter.unusedVariables false
namespace Go.Hw

theorem cellsH_get {H : Hp} {a : Addr} : ∀ (n i : Nat) {l : List Value}, cellsH H a i n = some l → ∀ j, j < n → ∃ v, l[j]? = some v ∧ cellH H (a.add (i + j)) = some v
  | 0, _, _, _, j, hj => absurd hj (by omega)
  | n + 1, i, l, h, j, hj => by
    unfold cellsH at h
    cases hc : cellH H (a.add i) with
    | none => rw [hc] at h; cases h
    | some v =>
      rw [hc] at h
      simp only at h
      cases hr : cellsH H a (i + 1) n with
      | none => rw [hr] at h; cases h
      | some r =>
        rw [hr] at h
        simp only [Option.map_some, Option.some.injEq] at h
        subst h
        cases j with
        | zero => exact ⟨v, rfl, hc⟩
        | succ j =>
          obtain ⟨u, h1, h2⟩ := cellsH_get n (i + 1) hr j (by omega)
          exact ⟨u, by simpa using h1, by rw [show i + (j + 1) = i + 1 + j by omega]; exact h2⟩

/-- A cell of a slice that is read. -/
theorem src1_cell {H : Hp} {v : Value} {m i : Nat} {l : List Value} (h : Src H 1 v m l) (hv : ∃ a c, v = .slice a m c) (hi : i < m) : ∃ a c u, v = .slice (some a) m c ∧ l[i]? = some u ∧ cellH H (a.add (i * 1)) = some u := by
  obtain ⟨a0, c0, rfl⟩ := hv
  rcases h with ⟨a, c, h1, h2⟩ | ⟨c, h1, h2, _⟩ | ⟨s, h1, _⟩
  · obtain ⟨u, h3, h4⟩ := cellsH_get _ _ h2 i (by omega)
    cases h1
    exact ⟨a, c0, u, rfl, h3, by simpa using h4⟩
  · omega
  · cases h1

end Go.Hw
