/-
  'twainlaw03.AesHashes' returns true and leaves its arguments as they were, for every input.
  Conditions: none.
-/
import Derived.Test.YtcnkllkieelahaaAesRefLaw
import Derived.Test.YtcnkllkieelahaaVcOpen
import Derived.Test.YtcnkllkieelahaaRows
namespace Go.Proofs.Ytcnkllkieelahaa.aesHashesDone
open Go Go.ChangeShapes Go.WideShapes Go.ChangeAt Go.RowKit Go.Proofs.Ytcnkllkieelahaa.Vc
set_option linter.unusedVariables false
theorem own : ownKnob Try.prog.godebug = none := by kernel_rfl
theorem laidOut : laidOutB Try.prog = true := by kernel_rfl
set_option maxRecDepth 100000 in
theorem lifted (os : Os) (started : os.Started) (H : Type) (enc : TypeId × Value → H) :
    ReturnsInHanded {} Try.checked os 6 .any (Rows.aesHashesSpec.pre6 enc Try.prog Try.f6 Rows.aesHashesRow.domain false) (Rows.aesHashesSpec.post enc Try.prog Try.f6 false true false false) := by
  refine returnsInHanded_of_change (C := Try.checked) own started (by kernel_rfl) Try.func6
    (ChangeSpec.witness6 (enc := enc) (C := Try.checked) false ⟨#[], #[.agg (List.replicate 16 (.int .u8 0)).toArray, .agg (List.replicate 2 (.int .u64 0)).toArray, .int .u64 0], []⟩ 8 (by kernel_rfl) (by kernel_rfl) (by kernel_rfl) (by kernel_rfl)) ?_
  intro W base args ds gs before hval0 hW hcnd _
  have hval : ∀ (j : Nat) t v, Try.f6.params[j]? = some t → args[j]? = some v → Value.okWide Try.prog W .any base t v := hval0
  have hW' := hW
  obtain ⟨p, q, hA0, hV, rfl, hfz, hnd⟩ := hW
  have hA : DataW.TrodAll enc Try.prog W 0 (fun _ => true) true Try.f6.params.toList args.toList ds p := hA0
  rw [Try.params6] at hA hval
  obtain ⟨v0, vs0, d0, ds0, p0, q0, hargs, rfl, rfl, h0, r0⟩ := trodAll_cons hA
  obtain ⟨v1, vs1, d1, ds1, p1, q1, rfl, rfl, rfl, h1, r1⟩ := trodAll_cons r0
  obtain ⟨v2, vs2, d2, ds2, p2, q2, rfl, rfl, rfl, h2, r2⟩ := trodAll_cons r1
  obtain ⟨rfl, rfl, rfl⟩ := trodAll_nil r2
  obtain rfl : args = #[v0, v1, v2] := by cases args; simp_all
  obtain ⟨rfl, rfl⟩ := trodVars_none hV
  obtain ⟨k, rfl, nk, qk⟩ := open_arr Try.underlying22 (opens8 Try.underlying5 (by kernel_rfl)) (by kernel_rfl) (hval 0 22 v0 rfl rfl) h0
  obtain ⟨l, rfl, nl, ql⟩ := open_arr Try.underlying39 (opens64 Try.underlying34 (by kernel_rfl)) (by kernel_rfl) (hval 1 39 v1 rfl rfl) h1
  obtain ⟨tw, rfl⟩ := open_u64 Try.underlying34 (by kernel_rfl) (hval 2 34 v2 rfl rfl) h2
  obtain ⟨l0, l1, rfl⟩ := two_ex nl
  clear hA0 hval0
  refine (Aes.hashes_ok k nk l0 l1 tw W).mono fun e W' ⟨v, he, hv, hx⟩ => ?_
  subst he hv
  exact ⟨_, rfl, law_end laidOut (by kernel_rfl) (by kernel_rfl) (by kernel_rfl) Try.underlying4 rfl hW' rfl rfl rfl hx.below⟩
theorem over : Rows.aesHashesRow.holds Try.pinned (OpenSpec.ofChange Rows.aesHashesSpec) :=
  OpenClaim.holds_of_wide 6 Try.f6 rfl rfl rfl rfl rfl rfl rfl ⟨rfl, rfl, rfl, rfl, rfl⟩ rfl rfl rfl rfl rfl (by kernel_rfl) Try.func6 (by kernel_rfl)
    (of_decide_eq_true (by kernel_rfl)) (by unfold Func.isWrapper; first | (rw [if_pos (by decide +kernel)]; kernel_rfl) | (rw [if_neg (by decide +kernel)]; exact ⟨rfl, rfl⟩))
    (fun os started H enc _ => lifted os started H enc)
theorem proved : Rows.AesHashesSaid := over
end Go.Proofs.Ytcnkllkieelahaa.aesHashesDone
