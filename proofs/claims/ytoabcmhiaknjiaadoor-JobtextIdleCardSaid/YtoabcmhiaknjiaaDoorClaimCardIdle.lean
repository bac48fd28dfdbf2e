/- JobtextIdle returns true for every input, and its arguments read as they did: the row, and the tied card. -/
import Derived.Test.YtoabcmhiaknjiaaDoorS39P5
set_option maxRecDepth 100000
set_option linter.unusedVariables false
namespace Go.Proofs.YtoabcmhiaknjiaaDoor
open Go.Hw Go.ChangeShapes Go.WideShapes Go.ChangeAt Go.RowKit Go.WideMaps Go.ChangeMaps

theorem idle_lifted (os : Os) (started : os.Started) (H : Type) (enc : TypeId × Value → H) :
    ReturnsInHanded {} Tryd.checked os 8 .any (fun w args => (Rows.jobtextIdleSpec.pre enc Tryd.prog Tryd.f8 [] false w args ∧ laidMetH Tryd.prog Rows.jobtextIdleRow.laid w) ∧ sizedMet enc Tryd.prog Tryd.f8 (OpenSpec.ofChange Rows.jobtextIdleSpec) false w args)
      (Rows.jobtextIdleSpec.post enc Tryd.prog Tryd.f8 false true false false) := by
  refine law_row (C := Tryd.checked) (laid := Rows.jobtextIdleRow.laid) (tb := 4) laid_out own_knob started (by kernel_rfl) Tryd.func8 rfl (of_decide_eq_true (by kernel_rfl)) (by kernel_rfl) Tryd.underlying4 ?_ ?_ ?_
  · intro ds hds
    have h3 : Tryd.f8.params.size = 2 := by rw [Tryd.params8]; rfl
    rw [h3] at hds
    match ds, hds with
    | [d1, d2], _ => rfl
  · exact ChangeSpec.witness_shaped (enc := enc) (C := Tryd.checked) (os := os) (X := fun w _ => laidMetH Tryd.prog Rows.jobtextIdleRow.laid w) false (World.laidAll Tryd.prog os Rows.jobtextIdleRow.laid) #[.string ⟨#[]⟩, .slice none 0 0] 8 (World.laidAll_os _ _ _)
      (World.shaped_of_ZipB (by kernel_rfl) (by kernel_rfl)) (by kernel_rfl) (by kernel_rfl) (by kernel_rfl)
      (by rw [MakeChecks.laidMetH_plain _ _ _ (by kernel_rfl)]; exact laidMet_laidAll _ (by kernel_rfl) (by kernel_rfl))
  · intro W base args ds p hval hA _ hsh
    rw [Tryd.params8] at hA hval
    obtain ⟨v0, v1, d0, d1, p0, p1, rfl, rfl, rfl, h0, h1⟩ := trodAll_two hA
    obtain ⟨a, rfl, la⟩ := open_strV (hval 0 9 v0 rfl rfl) h0
    obtain ⟨b, hb, lb, nb⟩ := open_strsV (hval 1 24 v1 rfl rfl) h1
    exact idle_law (g0_of hsh) la hb lb nb fun G hE => ⟨hE, rfl⟩

theorem idle_holds : Rows.JobtextIdleSaid :=
  OpenClaim.holds_of_wide 8 Tryd.f8 rfl rfl rfl rfl rfl rfl rfl ⟨rfl, rfl, rfl, rfl, rfl⟩ rfl rfl rfl rfl rfl (by kernel_rfl) Tryd.func8 (by kernel_rfl)
    (of_decide_eq_true (by kernel_rfl)) (by unfold Func.isWrapper; first | (rw [if_pos (by decide +kernel)]; kernel_rfl) | (rw [if_neg (by decide +kernel)]; exact ⟨rfl, rfl⟩))
    (fun os started H enc _ => idle_lifted os started H enc)

theorem idle_card : Rows.JobtextIdleCardSaid :=
  Claim7.holds_tied_plain_at .later [] [.data, .pinned] true (true, "28e7bfe22aa8be8d4f36a2028b33350f6faa753e6b3ede4948a2cf3f8780ef11") true
    idle_holds (fun _ h => by cases h) (by kernel_rfl) (fun _ h => by cases h) jobtextIdle_row_tie rfl ⟨rfl, rfl⟩ (by kernel_rfl) rfl
    (fun f fn hf hfn => by
      obtain rfl : f = 8 := Option.some.inj ((show Tryd.prog.funcNamed "dasd/dasdlaw39.JobtextIdle" = some 8 by kernel_rfl).symm.trans hf) |>.symm
      obtain rfl : fn = Tryd.f8 := (Option.some.inj (Tryd.func8.symm.trans hfn)).symm
      exact ⟨by kernel_rfl, fun j t ht => by
        rw [Tryd.params8] at ht
        have hm : t ∈ [9, 24] := by simpa using Array.mem_of_getElem? ht
        have hall : ([9, 24].all fun u => !Tryd.prog.wantsStandIn u) = true := by kernel_rfl
        exact (show Tryd.prog.wantsStandIn t = false by simpa using List.all_eq_true.1 hall t hm)⟩)
    (by kernel_rfl)
#print axioms idle_card
end Go.Proofs.YtoabcmhiaknjiaaDoor
