/- JobtextWords returns true for every input, and its arguments read as they did: the row, and the tied card. -/
import Derived.Test.YtoabcmhiaknjiaaDoorS39P5
import Derived.Test.YtoabcmhiaknjiaaDoorRows
import Derived.Test.YtoabcmhiaknjiaaDoorCards
import Derived.Test.YtoabcmhiaknjiaaDoorTie
import Derived.Shelf.Vars
import Derived.MakeChecks
import Derived.SevenTiedAt
import Derived.JoinedOf
set_option maxRecDepth 100000
set_option linter.unusedVariables false
namespace Go.Proofs.YtoabcmhiaknjiaaDoor
open Go.Hw Go.ChangeShapes Go.WideShapes Go.ChangeAt Go.RowKit Go.WideMaps Go.ChangeMaps

theorem own_knob : ownKnob Tryd.prog.godebug = none := by kernel_rfl
theorem laid_out : laidOutB Tryd.prog = true := by kernel_rfl

theorem g0_of {W : World} (h : W.ShapedOpen Tryd.prog) : G0 W.heap := by
  obtain ⟨m, hm⟩ := cell_of_shapedOpen_int (P := Tryd.prog) (g := 0) (t := 3) (zero := #[.int .i64 0]) (k := .i64) h (of_decide_eq_true (by kernel_rfl)) (by kernel_rfl) rfl (by kernel_rfl) (by kernel_rfl) Tryd.underlying3
  exact ⟨m, by rw [← cellH_eq]; exact hm⟩

theorem open_u8 {H : Type} {enc : TypeId × Value → H} {W : World} {base : Nat} {v : Value} {d : DataW H} {p : List MemPlace} (hok : Value.okWide Tryd.prog W .any base 5 v) (h : DataW.Trod enc Tryd.prog W 0 (fun _ => true) true 5 v d p) :
    ∃ c : UInt8, v = .int .u8 c.toNat := by
  obtain ⟨x, rfl, rfl, rfl, wx⟩ := open_int Tryd.underlying5 hok h
  have hx : 0 ≤ x ∧ x ≤ 255 := by simpa [Lit.wf, IntKind.min, IntKind.max, IntKind.signed, IntKind.bits] using wx
  refine ⟨UInt8.ofNat x.toNat, ?_⟩
  have : (UInt8.ofNat x.toNat).toNat = x.toNat := by simp; omega
  rw [this]
  congr 1
  omega

theorem words_lifted (os : Os) (started : os.Started) (H : Type) (enc : TypeId × Value → H) :
    ReturnsInHanded {} Tryd.checked os 7 .any (fun w args => (Rows.jobtextWordsSpec.pre enc Tryd.prog Tryd.f7 [] false w args ∧ laidMetH Tryd.prog Rows.jobtextWordsRow.laid w) ∧ sizedMet enc Tryd.prog Tryd.f7 (OpenSpec.ofChange Rows.jobtextWordsSpec) false w args)
      (Rows.jobtextWordsSpec.post enc Tryd.prog Tryd.f7 false true false false) := by
  refine law_row (C := Tryd.checked) (laid := Rows.jobtextWordsRow.laid) (tb := 4) laid_out own_knob started (by kernel_rfl) Tryd.func7 rfl (of_decide_eq_true (by kernel_rfl)) (by kernel_rfl) Tryd.underlying4 ?_ ?_ ?_
  · intro ds hds
    have h3 : Tryd.f7.params.size = 3 := by rw [Tryd.params7]; rfl
    rw [h3] at hds
    match ds, hds with
    | [d1, d2, d3], _ => rfl
  · exact ChangeSpec.witness_shaped (enc := enc) (C := Tryd.checked) (os := os) (X := fun w _ => laidMetH Tryd.prog Rows.jobtextWordsRow.laid w) false (World.laidAll Tryd.prog os Rows.jobtextWordsRow.laid) #[.slice none 0 0, .int .u8 0, .int .u8 0] 8 (World.laidAll_os _ _ _)
      (World.shaped_of_ZipB (by kernel_rfl) (by kernel_rfl)) (by kernel_rfl) (by kernel_rfl) (by kernel_rfl)
      (by rw [MakeChecks.laidMetH_plain _ _ _ (by kernel_rfl)]; exact laidMet_laidAll _ (by kernel_rfl) (by kernel_rfl))
  · intro W base args ds p hval hA _ hsh
    rw [Tryd.params7] at hA hval
    obtain ⟨v0, v1, v2, d0, d1, d2, p0, p1, p2, rfl, rfl, rfl, h0, h1, h2⟩ := trodAll_three hA
    obtain ⟨ws, hw, hl, hn⟩ := open_strsV (hval 0 24 v0 rfl rfl) h0
    obtain ⟨b, rfl⟩ := open_u8 (hval 1 5 v1 rfl rfl) h1
    obtain ⟨a, rfl⟩ := open_u8 (hval 2 5 v2 rfl rfl) h2
    exact words_law (g0_of hsh) hw hl hn fun G hE => ⟨hE, rfl⟩

theorem words_holds : Rows.JobtextWordsSaid :=
  OpenClaim.holds_of_wide 7 Tryd.f7 rfl rfl rfl rfl rfl rfl rfl ⟨rfl, rfl, rfl, rfl, rfl⟩ rfl rfl rfl rfl rfl (by kernel_rfl) Tryd.func7 (by kernel_rfl)
    (of_decide_eq_true (by kernel_rfl)) (by unfold Func.isWrapper; first | (rw [if_pos (by decide +kernel)]; kernel_rfl) | (rw [if_neg (by decide +kernel)]; exact ⟨rfl, rfl⟩))
    (fun os started H enc _ => words_lifted os started H enc)

theorem words_card : Rows.JobtextWordsCardSaid :=
  Claim7.holds_tied_plain_at .later [] [.data, .pinned] true (true, "28e7bfe22aa8be8d4f36a2028b33350f6faa753e6b3ede4948a2cf3f8780ef11") true
    words_holds (fun _ h => by cases h) (by kernel_rfl) (fun _ h => by cases h) jobtextWords_row_tie rfl ⟨rfl, rfl⟩ (by kernel_rfl) rfl
    (fun f fn hf hfn => by
      obtain rfl : f = 7 := Option.some.inj ((show Tryd.prog.funcNamed "dasd/dasdlaw39.JobtextWords" = some 7 by kernel_rfl).symm.trans hf) |>.symm
      obtain rfl : fn = Tryd.f7 := (Option.some.inj (Tryd.func7.symm.trans hfn)).symm
      exact ⟨by kernel_rfl, fun j t ht => by
        rw [Tryd.params7] at ht
        have hm : t ∈ [24, 5, 5] := by simpa using Array.mem_of_getElem? ht
        have hall : ([24, 5, 5].all fun u => !Tryd.prog.wantsStandIn u) = true := by kernel_rfl
        exact (show Tryd.prog.wantsStandIn t = false by simpa using List.all_eq_true.1 hall t hm)⟩)
    (by kernel_rfl)
#print axioms words_card
end Go.Proofs.YtoabcmhiaknjiaaDoor
