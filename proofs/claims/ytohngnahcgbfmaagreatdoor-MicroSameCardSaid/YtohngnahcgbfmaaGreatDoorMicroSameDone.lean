/-
  'twainlaw11.MicroSame' returns true and leaves its arguments as they were, for every program, inputs, tapes and dealers: what is told doesn't hang on tapes and deals.
  Conditions: errors.errorType starts as the program lays it (the card ties it to the program).
-/
import Derived.Test.YtohngnahcgbfmaaGreatDoorWs2
import Derived.Test.YtohngnahcgbfmaaGreatDoorWs8
import Derived.Test.YtohngnahcgbfmaaGreatDoorRows
import Derived.Test.YtohngnahcgbfmaaGreatDoorTie
import Derived.Test.YtohngnahcgbfmaaGreatDoorCards
import Derived.ChangeSame
import Derived.ChangeVars
import Derived.JoinedOf
import Derived.RowKit
import Derived.RowKitTokens
import Derived.LaidLaws
import Derived.LaidHandle
import Derived.Stop.Joined
import Derived.SevenTiedAt
namespace Go.Proofs.YtohngnahcgbfmaaGreatDoor.microSameDone
open Go Go.ChangeShapes Go.WideShapes Go.ChangeAt Go.RowKit Go.Proofs.YtohngnahcgbfmaaGreatDoor.Vc
set_option linter.unusedVariables false
theorem own : ownKnob Tryz.prog.godebug = none := by kernel_rfl
theorem laidOut : laidOutB Tryz.prog = true := by kernel_rfl
theorem et : Tryz.prog.globalNamed "errors.errorType" = some 0 := by kernel_rfl
theorem rt : (Tryz.prog.cutTypes.find? (·.1 == "internal/reflectlite.rtype")).map (·.2) = some 193 := by kernel_rfl
theorem oneRow : ((List.range 272).filter fun t => Tryz.prog.rowNamed t [101, 114, 114, 111, 114]) = [31] := by kernel_rfl
theorem size : Tryz.prog.types.size = 272 := by kernel_rfl
theorem gl_of_laid {W : World} (h : laidMetH Tryz.prog [("errors.errorType", Rows.laid_errors_errorType)] W) : Gl W := by
  have h' : laidMet Tryz.prog [] W ∧ handlesMet Tryz.prog [("errors.errorType", Rows.laid_errors_errorType)] W := h
  obtain ⟨name, u, ty, e1, e2, e3, e4, e5⟩ := h'.2 _ (List.mem_singleton.2 rfl)
  have en : name = [101, 114, 114, 111, 114] := (Option.some.inj e1).symm
  subst en
  obtain rfl := Option.some.inj (rt.symm.trans e2)
  have hm : ty ∈ (List.range 272).filter fun t => Tryz.prog.rowNamed t [101, 114, 114, 111, 114] := List.mem_filter.2 ⟨List.mem_range.2 (by rw [← size]; exact e3), e4⟩
  rw [oneRow] at hm
  obtain rfl := List.mem_singleton.1 hm
  exact cell_some (by simpa using World.var?_cell et e5 0)
noncomputable def laidWorld (os : Os) : World :=
  let w0 := World.holding Tryz.prog os ⟨#[], #[], []⟩
  { w0 with heap := w0.heap.modify 0 fun
      | .cells _ t frozen => .cells #[.iface 193 (.agg #[typeHandle Tryz.prog 31])] t frozen
      | o => o }
theorem laidWorld_met (os : Os) (args : Array Value) : laidMetH Tryz.prog [("errors.errorType", Rows.laid_errors_errorType)] ((laidWorld os).forCall (fun _ _ => 0) ⟨#[], args, []⟩).memory :=
  laidMetH_of_parts (laidMet_nil _ _) (by kernel_rfl)
set_option maxRecDepth 100000 in
theorem lifted (os : Os) (started : os.Started) (H : Type) (enc : TypeId × Value → H) :
    ReturnsInHanded {} Tryz.checked os 3 .any (fun w args => (Rows.microSameSpec.pre enc Tryz.prog Tryz.f3 [] false w args ∧ laidMetH Tryz.prog [("errors.errorType", Rows.laid_errors_errorType)] w) ∧ sizedMet enc Tryz.prog Tryz.f3 (OpenSpec.ofChange Rows.microSameSpec) false w args) (Rows.microSameSpec.post enc Tryz.prog Tryz.f3 false true false false) := by
  refine returnsInHanded_of_change_and (C := Tryz.checked) (X := fun w _ => laidMetH Tryz.prog [("errors.errorType", Rows.laid_errors_errorType)] w) (fun _ _ _ hh h => h.of_heap hh) own started (by kernel_rfl) Tryz.func3
    (ChangeSpec.witness_at (enc := enc) (C := Tryz.checked) (os := os) (X := fun w _ => laidMetH Tryz.prog [("errors.errorType", Rows.laid_errors_errorType)] w) false (laidWorld os) #[.agg #[.slice none 0 0, .slice none 0 0, .slice none 0 0, .slice none 0 0, .slice none 0 0, .slice none 0 0], .agg #[.slice none 0 0, .slice none 0 0], .slice none 0 0] 8 rfl (by kernel_rfl) (by kernel_rfl) (by kernel_rfl) (by kernel_rfl) (by kernel_rfl) (laidWorld_met os _)) ?_
  intro W base args ds gs before hval0 hW _ hsz hL _
  have hG := gl_of_laid hL
  have hval : ∀ (j : Nat) t v, Tryz.f3.params[j]? = some t → args[j]? = some v → Value.okWide Tryz.prog W .any base t v := hval0
  have hW' := hW
  obtain ⟨p, q, hA0, hV, rfl, hfz, hnd⟩ := hW
  have hA : DataW.TrodAll enc Tryz.prog W 0 (fun _ => true) true Tryz.f3.params.toList args.toList ds p := hA0
  rw [Tryz.params3] at hA hval
  obtain ⟨v0, vs0, d0, ds0, p0, q0, hargs, rfl, rfl, h0, r0⟩ := trodAll_cons hA
  obtain ⟨v1, vs1, d1, ds1, p1, q1, rfl, rfl, rfl, h1, r1⟩ := trodAll_cons r0
  obtain ⟨v2, vs2, d2, ds2, p2, q2, rfl, rfl, rfl, h2, r2⟩ := trodAll_cons r1
  obtain ⟨rfl, rfl, rfl⟩ := trodAll_nil r2
  obtain rfl : args = #[v0, v1, v2] := by cases args; simp_all
  obtain ⟨rfl, rfl⟩ := trodVars_none hV
  obtain ⟨xao, xops, xno, xa0, xl0, xn0, xa1, xl1, xn1, xa2, xl2, xn2, xa3, xl3, xn3, xa4, xl4, xn4, rfl, rxo, rx0, rx1, rx2, rx3, rx4, kxo, kx0, kx1, kx2, kx3, kx4⟩ := open_run Tryz.underlying26 Tryz.underlying22 (opd_mo Tryz.underlying36 (by kernel_rfl) Tryz.underlying33 Tryz.underlying3 Tryz.underlying3 Tryz.underlying3 Tryz.underlying34 Tryz.underlying3 ⟨rfl, by kernel_rfl⟩ ⟨rfl, by kernel_rfl⟩ ⟨rfl, by kernel_rfl⟩ ⟨rfl, by kernel_rfl⟩ ⟨rfl, by kernel_rfl⟩ ⟨rfl, by kernel_rfl⟩) (show Tryz.prog.bytesOf 36 = 48 by kernel_rfl) Tryz.underlying24 Tryz.underlying24 (by kernel_rfl) Tryz.underlying23 Tryz.underlying23 Tryz.underlying34 (by kernel_rfl) (show Tryz.prog.bytesOf 34 = 8 by kernel_rfl) (by kernel_rfl) ⟨rfl, by kernel_rfl⟩ ⟨rfl, by kernel_rfl⟩ ⟨rfl, by kernel_rfl⟩ ⟨rfl, by kernel_rfl⟩ (hval 0 26 v0 rfl rfl) h0 hsz (j := 0) (by rw [Tryz.params3]; rfl) rfl
  obtain ⟨ya0, yl0, yn0, ya1, yl1, yn1, rfl, ry0, ry1, ky0, ky1⟩ := open_two Tryz.underlying24 (by kernel_rfl) (by kernel_rfl) Tryz.underlying23 Tryz.underlying34 (by kernel_rfl) (show Tryz.prog.bytesOf 34 = 8 by kernel_rfl) (hval 1 24 v1 rfl rfl) h1 hsz (j := 1) (by rw [Tryz.params3]; rfl) rfl
  obtain ⟨ae, e, ce, rfl, re, qe, ke, de⟩ := open_sl Tryz.underlying23 (opens64 Tryz.underlying34 (by kernel_rfl)) rfl (fun _ => rfl) (hval 2 23 v2 rfl rfl) h2
  have ne := open_sized hsz Tryz.underlying23 (j := 2) (by rw [Tryz.params3]; rfl) rfl (show Tryz.prog.bytesOf 34 = 8 by kernel_rfl) de
  clear hA0 hval0
  refine (Mt.msame_all xops xao xno xl0 xl1 xl2 xl3 xl4 yl0 yl1 e xa0 xa1 xa2 xa3 xa4 ya0 ya1 ae xn0 xn1 xn2 xn3 xn4 yn0 yn1 ce W hG rxo (by omega) rx0 rx1 (by omega) (by omega) rx2 (by omega) rx3 (by omega) rx4 (by omega) ry0 (by omega) ry1 (by omega) re (by omega)).mono fun e W' ⟨v, he, hv, hx⟩ => ?_
  subst he hv
  exact ⟨_, rfl, law_end laidOut (by kernel_rfl) (by kernel_rfl) (by kernel_rfl) Tryz.underlying4 rfl hW' rfl rfl rfl hx.below⟩
theorem over : Rows.microSameRow.holds Tryz.pinned (OpenSpec.ofChange Rows.microSameSpec) :=
  OpenClaim.holds_of_wide 3 Tryz.f3 rfl rfl rfl rfl rfl rfl rfl ⟨rfl, rfl, rfl, rfl, rfl⟩ rfl rfl rfl rfl rfl (by kernel_rfl) Tryz.func3 (by kernel_rfl)
    (of_decide_eq_true (by kernel_rfl)) (by unfold Func.isWrapper; first | (rw [if_pos (by decide +kernel)]; kernel_rfl) | (rw [if_neg (by decide +kernel)]; exact ⟨rfl, rfl⟩))
    (fun os started H enc _ => lifted os started H enc)
theorem proved : Rows.MicroSameCardSaid :=
  Claim7.holds_tied_plain_at .later [] [.handle] true (true, "834e33f16fe42b55414d0914c50fe26ab128b2d41f3edc6a23cb09ad2dbf0193") true over (fun _ h => by cases h) (by kernel_rfl) (fun _ h => by cases h) microSame_row_tie rfl ⟨rfl, rfl⟩ (by kernel_rfl) rfl
    (fun f fn hf hfn => by
      obtain rfl : f = 3 := Option.some.inj ((show Tryz.prog.funcNamed "twain/twainlaw11.MicroSame" = some 3 by kernel_rfl).symm.trans hf) |>.symm
      obtain rfl : fn = Tryz.f3 := (Option.some.inj (Tryz.func3.symm.trans hfn)).symm
      exact ⟨by kernel_rfl, fun j t ht => by
        rw [Tryz.params3] at ht
        have hm : t ∈ [26, 24, 23] := by simpa using Array.mem_of_getElem? ht
        have hall : ([26, 24, 23].all fun u => !Tryz.prog.wantsStandIn u) = true := by kernel_rfl
        exact (show Tryz.prog.wantsStandIn t = false by simpa using List.all_eq_true.1 hall t hm)⟩)
    (by kernel_rfl)
end Go.Proofs.YtohngnahcgbfmaaGreatDoor.microSameDone
