/- JobtextCalls returns true for every input of bulk at most 1048576, and its arguments read as they did: the row, and the tied card (the second form). -/
import Derived.Test.YtoabcmhiaknjiaaDoorS39P5
import Derived.Deep.DeepHandedRow
set_option maxRecDepth 100000
set_option linter.unusedVariables false
namespace Go.Proofs.YtoabcmhiaknjiaaDoor
open Go.Hw Go.ChangeShapes Go.WideShapes Go.ChangeAt Go.RowKit Go.WideMaps Go.ChangeMaps

theorem bulk_part {H : Type} {d : DataW H} {l : List (DataW H)} (h : d ∈ l) : Rows.uptoBulk d ≤ Rows.uptoBulkAll l := by
  induction l with
  | nil => cases h
  | cons x r ih =>
    simp only [Rows.uptoBulkAll]
    cases List.mem_cons.1 h with
    | inl e => subst e; omega
    | inr e => have := ih e; omega
theorem bulk_one {H : Type} (d : DataW H) : 1 ≤ Rows.uptoBulk d := by
  cases d with
  | lit l => cases l <;> simp [Rows.uptoBulk]
  | nil => simp [Rows.uptoBulk]
  | ptr d => simp [Rows.uptoBulk]
  | slice elems spare => simp [Rows.uptoBulk]
  | agg parts => simp [Rows.uptoBulk]
  | iface t d => simp [Rows.uptoBulk]
  | map entries => simp [Rows.uptoBulk]
  | held h => simp [Rows.uptoBulk]
theorem bulk_len {H : Type} (l : List (DataW H)) : l.length ≤ Rows.uptoBulkAll l := by
  induction l with
  | nil => simp [Rows.uptoBulkAll]
  | cons x r ih => have := bulk_one x; simp only [Rows.uptoBulkAll, List.length_cons]; omega
theorem open_strsB {H : Type} {enc : TypeId × Value → H} {W : World} {base : Nat} {v : Value} {d : DataW H} {p : List MemPlace} (hok : Value.okWide Tryd.prog W .any base 24 v) (h : DataW.Trod enc Tryd.prog W 0 (fun _ => true) true 24 v d p) :
    ∃ ws : List (List UInt8), StrsV W.heap v ws ∧ (∀ w ∈ ws, w.length ≤ Rows.uptoBulk d) ∧ ws.length ≤ Rows.uptoBulk d := by
  obtain ⟨a0, len, cap, rfl⟩ := okWide_slice uStrs hok
  obtain ⟨fuel, hf⟩ := h
  rcases open_strings uStrs uStr cellsOf_str hf with ⟨hcs, _⟩ | ⟨a, len', cap', ss, hcs, _, hl, hm, hz, hx, hcell, hsz⟩
  · simp [Value.cells] at hcs
    obtain ⟨rfl, rfl, rfl⟩ := hcs
    exact ⟨[], ⟨.inr (.inl ⟨0, rfl, rfl, rfl⟩), _, _, rfl⟩, by simp, by simp⟩
  · simp [Value.cells] at hcs
    obtain ⟨rfl, rfl, rfl⟩ := hcs
    simp only [if_true] at hz
    have hlen : ((ss.take len).map fun s => s.data.toList).length = len := by simp; omega
    have hd := congrArg Prod.fst hx
    simp only at hd
    have hb : Rows.uptoBulkAll ((ss.take len).map fun s => DataW.lit (H := H) (.string s.data.toList)) ≤ Rows.uptoBulk d := by
      rw [hd]
      simp only [Rows.uptoBulk]
      exact Nat.le_trans (Nat.le_add_right _ _) (Nat.le_succ _)
    refine ⟨(ss.take len).map fun s => s.data.toList, ⟨.inl ⟨a, cap, by rw [hlen], ?_⟩, _, _, by rw [hlen]⟩, ?_, ?_⟩
    · rw [hlen, Nat.mul_one, cellsH_of_each (fun j => .string (ss.getD j ByteArray.empty)) len 0 (fun j _ h2 => by rw [← cellH_eq]; exact hcell j (by omega))]
      congr 1
      apply List.ext_getElem
      · simp [strs]; omega
      · intro i h1 h2
        simp only [List.length_map, List.length_range] at h1
        simp [strs, B_data, List.getD, List.getElem?_eq_getElem (show i < ss.length by omega)]
    · intro w hw
      obtain ⟨s, hs, rfl⟩ := List.mem_map.1 hw
      have h1 := bulk_part (List.mem_map.2 ⟨s, hs, rfl⟩ : DataW.lit (H := H) (.string s.data.toList) ∈ (ss.take len).map fun s => DataW.lit (H := H) (.string s.data.toList))
      simp only [Rows.uptoBulk] at h1
      omega
    · have h1 := bulk_len ((ss.take len).map fun s => DataW.lit (H := H) (.string s.data.toList))
      rw [List.length_map] at h1 ⊢
      omega

theorem calls_reads (os : Os) {H : Type} (enc : TypeId × Value → H) : ∃ places, DataW.whole enc Tryd.prog ((World.laidAll Tryd.prog os Rows.jobtextCallsUptoRow.laid).forCall (fun _ _ => 0) ⟨#[], #[.slice none 0 0], []⟩).memory Tryd.f5.params.toList Rows.jobtextCallsSpec.vars false #[Value.slice none 0 0].toList 8 = some ([.nil], [], places) :=
  ⟨[], by kernel_rfl⟩

theorem calls_lifted (os : Os) (started : os.Started) (H : Type) (enc : TypeId × Value → H) (F : Stop.Interp) :
    ReturnsInHanded {} Tryd.checked os 5 .any ((Rows.OpenSpec.upto Rows.jobtextCallsSpec).preRow enc Tryd.prog Tryd.f5 Rows.jobtextCallsUptoRow.domain false Rows.jobtextCallsUptoRow.laid) (((Rows.OpenSpec.upto Rows.jobtextCallsSpec).at F).post enc Tryd.prog Tryd.f5 false true false false) := by
  obtain ⟨places, hx⟩ := calls_reads os enc
  refine returnsInHanded_of_row (C := Tryd.checked) (s := Rows.OpenSpec.upto Rows.jobtextCallsSpec) own_knob started (by kernel_rfl) Tryd.func5
    (witness_row_at (enc := enc) (C := Tryd.checked) false (World.laidAll Tryd.prog os Rows.jobtextCallsUptoRow.laid) #[.slice none 0 0] (World.laidAll_os _ _ _) (by kernel_rfl) (by kernel_rfl) (by kernel_rfl)
      (OpenSpec.preRow_of_cond 8 hx (by kernel_rfl) (fun k hk => by cases hk; kernel_rfl) (by kernel_rfl) (by rw [MakeChecks.laidMetH_plain _ _ _ (by kernel_rfl)]; exact laidMet_laidAll _ (by kernel_rfl) (by kernel_rfl)))) ?_
  intro W base args ds gs before hval hw _ hcond _ hL hsh _
  have hwk := hw
  obtain ⟨p, q, hA, hV, rfl, hfz, hnd⟩ := hw
  obtain ⟨rfl, rfl⟩ := trodVars_none hV
  have hbulk : Rows.uptoBulkAll (ds ++ []) ≤ 1048576 := of_decide_eq_true (hcond _ rfl)
  rw [List.append_nil] at hbulk
  have hA' := hA
  rw [Tryd.params5] at hA' hval
  obtain ⟨v0, d0, p0, rfl, rfl, h0⟩ : ∃ v0 d0 p0, args = #[v0] ∧ ds = [d0] ∧ DataW.Trod enc Tryd.prog W 0 (fun _ => true) true 24 v0 d0 p0 := by
    obtain ⟨v0, vs0, d0, ds0, p0, q0, hargs, rfl, rfl, h0, r0⟩ := trodAll_cons hA'
    obtain ⟨rfl, rfl, rfl⟩ := trodAll_nil r0
    exact ⟨v0, d0, p0, by cases args; simp_all, rfl, h0⟩
  obtain ⟨ls, ha, la, na⟩ := open_strsB (hval 0 24 v0 rfl rfl) h0
  simp only [Rows.uptoBulkAll, Nat.add_zero] at hbulk
  have key : HCall Tryd.prog 5 #[v0] W.heap (fun e G => Ext W.heap G ∧ e = .returned (.bool true)) :=
    calls_law (g0_of hsh) ha (fun s hs => Nat.le_trans (la s hs) hbulk) (Nat.le_trans na hbulk) fun G hE => ⟨hE, rfl⟩
  refine (key W rfl).mono fun e W' ⟨henv, hext, he⟩ => ?_
  subst he
  have hbel := below_of henv hext
  have hread : ∀ t ∈ Tryd.f5.params.toList, Tryd.prog.readableRec t = true ∧ t < Tryd.prog.types.size := of_decide_eq_true (by kernel_rfl)
  refine ⟨_, rfl, ?_⟩
  refine ⟨[d0], [], p ++ [], [], p, [], hwk, ?_, ?_, ?_, hbel.frame _, fun h => by cases h⟩
  · exact trodAll_mk1 (shut_bool Tryd.underlying4 true)
  · exact trodAll_below laid_out hbel hread hA (fun x hx => hwk.lt x (by simpa using hx))
  · exact rfl

theorem calls_holds : Rows.JobtextCallsUptoSaid :=
  OpenClaim.holds_of_cond 5 Tryd.f5 rfl rfl rfl rfl rfl rfl rfl ⟨rfl, rfl, rfl, rfl, rfl⟩ rfl rfl rfl rfl rfl (by kernel_rfl) Tryd.func5 (by kernel_rfl)
    (of_decide_eq_true (by kernel_rfl)) (by unfold Func.isWrapper; first | (rw [if_pos (by decide +kernel)]; kernel_rfl) | (rw [if_neg (by decide +kernel)]; exact ⟨rfl, rfl⟩))
    (fun os started H enc _ F => by rw [OpenClaim.pre_eq_preRow]; exact calls_lifted os started H enc F)

theorem calls_card : Rows.JobtextCallsUptoCardSaid :=
  Claim7.holds_tied_plain_at .later [] _ _ _ _
    calls_holds (fun _ h => by cases h) (by kernel_rfl) (fun _ h => by cases h) jobtextCallsUpto_row_tie rfl ⟨rfl, rfl⟩ (by kernel_rfl) rfl
    (fun f fn hf hfn => by
      obtain rfl : f = 5 := Option.some.inj ((show Tryd.prog.funcNamed "dasd/dasdlaw39.JobtextCalls" = some 5 by kernel_rfl).symm.trans hf) |>.symm
      obtain rfl : fn = Tryd.f5 := (Option.some.inj (Tryd.func5.symm.trans hfn)).symm
      exact ⟨by kernel_rfl, fun j t ht => by
        rw [Tryd.params5] at ht
        have hm : t ∈ [24] := by simpa using Array.mem_of_getElem? ht
        have hall : ([24].all fun u => !Tryd.prog.wantsStandIn u) = true := by kernel_rfl
        exact (show Tryd.prog.wantsStandIn t = false by simpa using List.all_eq_true.1 hall t hm)⟩)
    (by kernel_rfl)
#print axioms calls_card
end Go.Proofs.YtoabcmhiaknjiaaDoor
