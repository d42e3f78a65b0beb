/-
  'twainlaw03.AesWords' returns true and leaves its arguments as they were, for every input.
  Conditions: none.
-/
import Derived.Test.YtcnkllkieelahaaAesRefLaw
import Derived.Test.YtcnkllkieelahaaVcOpen
import Derived.Test.YtcnkllkieelahaaRows
namespace Go.Proofs.Ytcnkllkieelahaa.aesWordsDone
open Go Go.ChangeShapes Go.WideShapes Go.ChangeAt Go.RowKit Go.Proofs.Ytcnkllkieelahaa.Vc
set_option linter.unusedVariables false
theorem own : ownKnob Try.prog.godebug = none := by kernel_rfl
theorem laidOut : laidOutB Try.prog = true := by kernel_rfl
set_option maxRecDepth 100000 in
theorem lifted (os : Os) (started : os.Started) (H : Type) (enc : TypeId × Value → H) :
    ReturnsInHanded {} Try.checked os 5 .any (Rows.aesWordsSpec.pre6 enc Try.prog Try.f5 Rows.aesWordsRow.domain false) (Rows.aesWordsSpec.post enc Try.prog Try.f5 false true false false) := by
  refine returnsInHanded_of_change (C := Try.checked) own started (by kernel_rfl) Try.func5
    (ChangeSpec.witness6 (enc := enc) (C := Try.checked) false ⟨#[], #[.agg (List.replicate 16 (.int .u8 0)).toArray, .int .u64 0], []⟩ 8 (by kernel_rfl) (by kernel_rfl) (by kernel_rfl) (by kernel_rfl)) ?_
  intro W base args ds gs before hval0 hW hcnd _
  have hval : ∀ (j : Nat) t v, Try.f5.params[j]? = some t → args[j]? = some v → Value.okWide Try.prog W .any base t v := hval0
  have hW' := hW
  obtain ⟨p, q, hA0, hV, rfl, hfz, hnd⟩ := hW
  have hA : DataW.TrodAll enc Try.prog W 0 (fun _ => true) true Try.f5.params.toList args.toList ds p := hA0
  rw [Try.params5] at hA hval
  obtain ⟨v0, vs0, d0, ds0, p0, q0, hargs, rfl, rfl, h0, r0⟩ := trodAll_cons hA
  obtain ⟨v1, vs1, d1, ds1, p1, q1, rfl, rfl, rfl, h1, r1⟩ := trodAll_cons r0
  obtain ⟨rfl, rfl, rfl⟩ := trodAll_nil r1
  obtain rfl : args = #[v0, v1] := by cases args; simp_all
  obtain ⟨rfl, rfl⟩ := trodVars_none hV
  obtain ⟨k, rfl, nk, qk⟩ := open_arr Try.underlying22 (opens8 Try.underlying5 (by kernel_rfl)) (by kernel_rfl) (hval 0 22 v0 rfl rfl) h0
  obtain ⟨x, rfl⟩ := open_u64 Try.underlying34 (by kernel_rfl) (hval 1 34 v1 rfl rfl) h1
  clear hA0 hval0
  refine (Aes.words_ok k nk x W).mono fun e W' ⟨v, he, hv, hx⟩ => ?_
  subst he hv
  exact ⟨_, rfl, law_end laidOut (by kernel_rfl) (by kernel_rfl) (by kernel_rfl) Try.underlying4 rfl hW' rfl rfl rfl hx.below⟩
theorem over : Rows.aesWordsRow.holds Try.pinned (OpenSpec.ofChange Rows.aesWordsSpec) :=
  OpenClaim.holds_of_wide 5 Try.f5 rfl rfl rfl rfl rfl rfl rfl ⟨rfl, rfl, rfl, rfl, rfl⟩ rfl rfl rfl rfl rfl (by kernel_rfl) Try.func5 (by kernel_rfl)
    (of_decide_eq_true (by kernel_rfl)) (by unfold Func.isWrapper; first | (rw [if_pos (by decide +kernel)]; kernel_rfl) | (rw [if_neg (by decide +kernel)]; exact ⟨rfl, rfl⟩))
    (fun os started H enc _ => lifted os started H enc)
theorem proved : Rows.AesWordsSaid := over
end Go.Proofs.Ytcnkllkieelahaa.aesWordsDone
