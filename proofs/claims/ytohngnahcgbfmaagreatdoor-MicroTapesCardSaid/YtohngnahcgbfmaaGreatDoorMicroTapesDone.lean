/-
  'twainlaw11.MicroTapes' returns true and leaves its arguments as they were, for every program, inputs, tapes, dealer and number: a run uses up just what is needed, and with a word, a triple or a bit triple fewer it says what lacks.
  Conditions: errors.errorType starts as the program lays it (the card ties it to the program).
-/
import Derived.Test.YtohngnahcgbfmaaGreatDoorWu2
import Derived.Test.YtohngnahcgbfmaaGreatDoorWu7
import Derived.Test.YtohngnahcgbfmaaGreatDoorRows
import Derived.Test.YtohngnahcgbfmaaGreatDoorTie
import Derived.Test.YtohngnahcgbfmaaGreatDoorCards
import Derived.ChangeSame
import Derived.ChangeVars
import Derived.JoinedOf
import Derived.RowKit
import Derived.RowKitTokens
import Derived.LaidLaws
import Derived.LaidHandle
import Derived.Stop.Joined
import Derived.SevenTiedAt
namespace Go.Proofs.YtohngnahcgbfmaaGreatDoor.microTapesDone
open Go Go.ChangeShapes Go.WideShapes Go.ChangeAt Go.RowKit Go.Proofs.YtohngnahcgbfmaaGreatDoor.Vc
set_option linter.unusedVariables false
theorem own : ownKnob Tryz.prog.godebug = none := by kernel_rfl
theorem laidOut : laidOutB Tryz.prog = true := by kernel_rfl
theorem et : Tryz.prog.globalNamed "errors.errorType" = some 0 := by kernel_rfl
theorem rt : (Tryz.prog.cutTypes.find? (·.1 == "internal/reflectlite.rtype")).map (·.2) = some 193 := by kernel_rfl
theorem oneRow : ((List.range 272).filter fun t => Tryz.prog.rowNamed t [101, 114, 114, 111, 114]) = [31] := by kernel_rfl
theorem size : Tryz.prog.types.size = 272 := by kernel_rfl
theorem gl_of_laid {W : World} (h : laidMetH Tryz.prog [("errors.errorType", Rows.laid_errors_errorType)] W) : Gl W := by
  have h' : laidMet Tryz.prog [] W ∧ handlesMet Tryz.prog [("errors.errorType", Rows.laid_errors_errorType)] W := h
  obtain ⟨name, u, ty, e1, e2, e3, e4, e5⟩ := h'.2 _ (List.mem_singleton.2 rfl)
  have en : name = [101, 114, 114, 111, 114] := (Option.some.inj e1).symm
  subst en
  obtain rfl := Option.some.inj (rt.symm.trans e2)
  have hm : ty ∈ (List.range 272).filter fun t => Tryz.prog.rowNamed t [101, 114, 114, 111, 114] := List.mem_filter.2 ⟨List.mem_range.2 (by rw [← size]; exact e3), e4⟩
  rw [oneRow] at hm
  obtain rfl := List.mem_singleton.1 hm
  exact cell_some (by simpa using World.var?_cell et e5 0)
noncomputable def laidWorld (os : Os) : World :=
  let w0 := World.holding Tryz.prog os ⟨#[], #[], []⟩
  { w0 with heap := w0.heap.modify 0 fun
      | .cells _ t frozen => .cells #[.iface 193 (.agg #[typeHandle Tryz.prog 31])] t frozen
      | o => o }
theorem laidWorld_met (os : Os) (args : Array Value) : laidMetH Tryz.prog [("errors.errorType", Rows.laid_errors_errorType)] ((laidWorld os).forCall (fun _ _ => 0) ⟨#[], args, []⟩).memory :=
  laidMetH_of_parts (laidMet_nil _ _) (by kernel_rfl)
set_option maxRecDepth 100000 in
theorem lifted (os : Os) (started : os.Started) (H : Type) (enc : TypeId × Value → H) :
    ReturnsInHanded {} Tryz.checked os 5 .any (fun w args => (Rows.microTapesSpec.pre enc Tryz.prog Tryz.f5 [] false w args ∧ laidMetH Tryz.prog [("errors.errorType", Rows.laid_errors_errorType)] w) ∧ sizedMet enc Tryz.prog Tryz.f5 (OpenSpec.ofChange Rows.microTapesSpec) false w args) (Rows.microTapesSpec.post enc Tryz.prog Tryz.f5 false true false false) := by
  refine returnsInHanded_of_change_and (C := Tryz.checked) (X := fun w _ => laidMetH Tryz.prog [("errors.errorType", Rows.laid_errors_errorType)] w) (fun _ _ _ hh h => h.of_heap hh) own started (by kernel_rfl) Tryz.func5
    (ChangeSpec.witness_at (enc := enc) (C := Tryz.checked) (os := os) (X := fun w _ => laidMetH Tryz.prog [("errors.errorType", Rows.laid_errors_errorType)] w) false (laidWorld os) #[.agg #[.slice none 0 0, .slice none 0 0, .slice none 0 0, .slice none 0 0, .slice none 0 0, .slice none 0 0], .int .i64 0] 8 rfl (by kernel_rfl) (by kernel_rfl) (by kernel_rfl) (by kernel_rfl) (by kernel_rfl) (laidWorld_met os _)) ?_
  intro W base args ds gs before hval0 hW _ hsz hL _
  have hG := gl_of_laid hL
  have hval : ∀ (j : Nat) t v, Tryz.f5.params[j]? = some t → args[j]? = some v → Value.okWide Tryz.prog W .any base t v := hval0
  have hW' := hW
  obtain ⟨p, q, hA0, hV, rfl, hfz, hnd⟩ := hW
  have hA : DataW.TrodAll enc Tryz.prog W 0 (fun _ => true) true Tryz.f5.params.toList args.toList ds p := hA0
  rw [Tryz.params5] at hA hval
  obtain ⟨v0, vs0, d0, ds0, p0, q0, hargs, rfl, rfl, h0, r0⟩ := trodAll_cons hA
  obtain ⟨v1, vs1, d1, ds1, p1, q1, rfl, rfl, rfl, h1, r1⟩ := trodAll_cons r0
  obtain ⟨rfl, rfl, rfl⟩ := trodAll_nil r1
  obtain rfl : args = #[v0, v1] := by cases args; simp_all
  obtain ⟨rfl, rfl⟩ := trodVars_none hV
  obtain ⟨xao, xops, xno, xa0, xl0, xn0, xa1, xl1, xn1, xa2, xl2, xn2, xa3, xl3, xn3, xa4, xl4, xn4, rfl, rxo, rx0, rx1, rx2, rx3, rx4, kxo, kx0, kx1, kx2, kx3, kx4⟩ := open_run Tryz.underlying26 Tryz.underlying22 (opd_mo Tryz.underlying36 (by kernel_rfl) Tryz.underlying33 Tryz.underlying3 Tryz.underlying3 Tryz.underlying3 Tryz.underlying34 Tryz.underlying3 ⟨rfl, by kernel_rfl⟩ ⟨rfl, by kernel_rfl⟩ ⟨rfl, by kernel_rfl⟩ ⟨rfl, by kernel_rfl⟩ ⟨rfl, by kernel_rfl⟩ ⟨rfl, by kernel_rfl⟩) (show Tryz.prog.bytesOf 36 = 48 by kernel_rfl) Tryz.underlying24 Tryz.underlying24 (by kernel_rfl) Tryz.underlying23 Tryz.underlying23 Tryz.underlying34 (by kernel_rfl) (show Tryz.prog.bytesOf 34 = 8 by kernel_rfl) (by kernel_rfl) ⟨rfl, by kernel_rfl⟩ ⟨rfl, by kernel_rfl⟩ ⟨rfl, by kernel_rfl⟩ ⟨rfl, by kernel_rfl⟩ (hval 0 26 v0 rfl rfl) h0 hsz (j := 0) (by rw [Tryz.params5]; rfl) rfl
  obtain ⟨n, rfl, qn⟩ := open_i64 Tryz.underlying3 (by kernel_rfl) (hval 1 3 v1 rfl rfl) h1
  clear hA0 hval0
  refine (Mu.mtapes_all xops xao xno xl0 xl1 xl2 xl3 xl4 xa0 xa1 xa2 xa3 xa4 xn0 xn1 xn2 xn3 xn4 n W hG rxo (by omega) rx0 rx1 (by omega) (by omega) rx2 (by omega) rx3 (by omega) rx4 (by omega)).mono fun e W' ⟨v, he, hv, hx⟩ => ?_
  subst he hv
  exact ⟨_, rfl, law_end laidOut (by kernel_rfl) (by kernel_rfl) (by kernel_rfl) Tryz.underlying4 rfl hW' rfl rfl rfl hx.below⟩
theorem over : Rows.microTapesRow.holds Tryz.pinned (OpenSpec.ofChange Rows.microTapesSpec) :=
  OpenClaim.holds_of_wide 5 Tryz.f5 rfl rfl rfl rfl rfl rfl rfl ⟨rfl, rfl, rfl, rfl, rfl⟩ rfl rfl rfl rfl rfl (by kernel_rfl) Tryz.func5 (by kernel_rfl)
    (of_decide_eq_true (by kernel_rfl)) (by unfold Func.isWrapper; first | (rw [if_pos (by decide +kernel)]; kernel_rfl) | (rw [if_neg (by decide +kernel)]; exact ⟨rfl, rfl⟩))
    (fun os started H enc _ => lifted os started H enc)
theorem proved : Rows.MicroTapesCardSaid :=
  Claim7.holds_tied_plain_at .later [] [.handle] true (true, "834e33f16fe42b55414d0914c50fe26ab128b2d41f3edc6a23cb09ad2dbf0193") true over (fun _ h => by cases h) (by kernel_rfl) (fun _ h => by cases h) microTapes_row_tie rfl ⟨rfl, rfl⟩ (by kernel_rfl) rfl
    (fun f fn hf hfn => by
      obtain rfl : f = 5 := Option.some.inj ((show Tryz.prog.funcNamed "twain/twainlaw11.MicroTapes" = some 5 by kernel_rfl).symm.trans hf) |>.symm
      obtain rfl : fn = Tryz.f5 := (Option.some.inj (Tryz.func5.symm.trans hfn)).symm
      exact ⟨by kernel_rfl, fun j t ht => by
        rw [Tryz.params5] at ht
        have hm : t ∈ [26, 3] := by simpa using Array.mem_of_getElem? ht
        have hall : ([26, 3].all fun u => !Tryz.prog.wantsStandIn u) = true := by kernel_rfl
        exact (show Tryz.prog.wantsStandIn t = false by simpa using List.all_eq_true.1 hall t hm)⟩)
    (by kernel_rfl)
end Go.Proofs.YtohngnahcgbfmaaGreatDoor.microTapesDone
