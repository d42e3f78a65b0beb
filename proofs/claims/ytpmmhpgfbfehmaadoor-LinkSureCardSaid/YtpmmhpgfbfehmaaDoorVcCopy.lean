/- The calculus' copy into a slice of one's own. -/
import Derived.Test.YtpmmhpgfbfehmaaDoorVcMake
import Derived.Laws.CopyRow
import Derived.Laws.IdiomCopy
namespace Go.Proofs.YtpmmhpgfbfehmaaDoor.Vc
open Go

/-- what a row is behind a copy -/
def cpl {α : Type} (l l2 : List α) : List α := l2.take l.length ++ l.drop l2.length
theorem cpl_len {α : Type} (l l2 : List α) : (cpl l l2).length = l.length := by
  simp only [cpl, List.length_append, List.length_take, List.length_drop]; omega
section
variable {α : Type} {E : Enc α} {P : Program} {n : Nat} {ops : Array Oper} {Q : Exit → Act → World → Prop} {ρ : Env} {w w₀ : World} {d : Option Nat} {t S S' T : TypeId} {pos : String} {after : Array Edge} {x y : Operand}
  {M : Nat → Prop} {L : List (Option Nat × Obj)} {rest : List Oper} {k : Nat} {key : Option Nat} {l l2 : List α} {c c2 m m2 : Nat} {sp : List Value} {a2 : Option Addr}
theorem cel_take1 (h : E.s = 1) (l : List α) (i : Nat) : cel E (l.take i) = (cel E l).take i := by
  have e : cel E l = cel E (l.take i) ++ cel E (l.drop i) := by rw [← cel_append, List.take_append_drop]
  by_cases hi : i ≤ l.length
  · have hl : (cel E (l.take i)).length = i := by rw [cel_length, List.length_take, h]; omega
    rw [e]
    calc cel E (l.take i) = (cel E (l.take i) ++ cel E (l.drop i)).take (cel E (l.take i)).length := by rw [List.take_left]
      _ = _ := by rw [hl]
  · rw [List.take_of_length_le (by omega), List.take_of_length_le (by rw [cel_length, h]; omega)]
theorem cel_drop1 (h : E.s = 1) (l : List α) (i : Nat) : cel E (l.drop i) = (cel E l).drop i := by
  have e : cel E l = cel E (l.take i) ++ cel E (l.drop i) := by rw [← cel_append, List.take_append_drop]
  by_cases hi : i ≤ l.length
  · have hl : (cel E (l.take i)).length = i := by rw [cel_length, List.length_take, h]; omega
    rw [e]
    calc cel E (l.drop i) = (cel E (l.take i) ++ cel E (l.drop i)).drop (cel E (l.take i)).length := by rw [List.drop_left]
      _ = _ := by rw [hl]
  · rw [List.drop_of_length_le (by omega), List.drop_of_length_le (by rw [cel_length, h]; omega)]; rfl
theorem sli1 (hT : sli P S = some (T, 1)) : P.underlying S = some (.slice T) ∧ (P.info? T).map (·.size) = some 1 := by
  unfold sli at hT
  split at hT
  · rename_i e hu
    simp only [Option.map_eq_some_iff, Prod.mk.injEq] at hT
    obtain ⟨z', h1, rfl, rfl⟩ := hT
    exact ⟨hu, h1⟩
  · cases hT
theorem r_copy (hE : E.s = 1) (hT : sli P S = some (T, 1)) (hS : Sl E key l c sp) (hk : ∀ g, key = some g → w.heap[g]? = some (sob E T l sp)) (hR : Rd E w a2 l2)
    (hx : ev n ρ x = .slice (ownA key) m c) (hm : m = l.length) (hy : ev n ρ y = .slice a2 m2 c2) (hm2 : m2 = l2.length) {gd : Option (Nat × Bool)} :
    ∃ w', Runs P n ρ ⟨d, .call ⟨.builtin .copy, #[x, y], #[S, S']⟩, t, pos, after, gd⟩ w (i64 ((min l2.length l.length : Nat))) w' ∧ Sl E key (cpl l l2) c sp ∧ Chg (fun i => key = some i) w w' ∧ ∀ g, key = some g → w'.heap[g]? = some (sob E T (cpl l l2) sp) := by
  subst hm hm2
  obtain ⟨hu, hs⟩ := sli1 hT
  by_cases h0 : Nat.min l2.length l.length = 0
  · have e : cpl l l2 = l := by
      simp only [cpl]
      rcases Nat.eq_zero_or_pos l2.length with h | h
      · rw [List.length_eq_zero_iff.1 h]; simp
      · have h' : l.length = 0 := by simp only [Nat.min_def] at h0; split at h0 <;> omega
        rw [List.length_eq_zero_iff.1 h']; simp
    refine ⟨w, ?_, by rw [e]; exact hS, Chg.refl _ _, fun g hg => by rw [e]; exact hk g hg⟩
    have := run_copy_none (P := P) w S S' t T (ownA key) a2 l.length c l2.length c2 hu hs h0
    have e2 : i64 ((min l2.length l.length : Nat) : Int) = goInt 0 := by rw [show min l2.length l.length = 0 from h0]; rfl
    rw [e2]
    simp [Runs, execOp, resolve, hx, hy, invoke, builtin, this]
  · have hl1 : 0 < l.length := (Nat.eq_zero_or_pos l.length).elim (fun h => absurd (by rw [h]; exact Nat.min_zero _) h0) id
    have hl2 : 0 < l2.length := (Nat.eq_zero_or_pos l2.length).elim (fun h => absurd (by rw [h]; exact Nat.zero_min _) h0) id
    obtain ⟨g, rfl⟩ := hS.some hl1
    obtain ⟨ad, rfl⟩ := hR.some hl2
    have hg := hk g rfl
    have hcl : (cel E (l2.take l.length)).length = Nat.min l2.length l.length := by rw [cel_length, List.length_take, hE, Nat.mul_one, Nat.min_comm]
    have hone : ∀ v ∈ cel E (l2.take l.length), v.oneCell' = true := by
      intro v hv
      obtain ⟨a, _, ha⟩ := List.mem_flatMap.1 hv
      exact E.one a v ha
    have hrun := run_copy_row (P := P) w S S' t T g 0 l.length c ad l2.length c2 (cel E l ++ sp).toArray T (cel E (l2.take l.length)) hu hs hg hcl
      ((hR.take l.length).cells rfl) (by rw [hcl]; simp [cel_length, hE]; exact Nat.le_trans (Nat.min_le_right _ _) (Nat.le_add_right _ _)) hone
    have hrow : (cel E l ++ sp).take 0 ++ cel E (l2.take l.length) ++ (cel E l ++ sp).drop (0 + (cel E (l2.take l.length)).length) = cel E (cpl l l2) ++ sp := by
      rw [hcl, List.take_zero, List.nil_append, Nat.zero_add, cpl, cel_append, cel_drop1 hE, List.append_assoc]
      congr 1
      have hlc : (cel E l).length = l.length := by rw [cel_length, hE, Nat.mul_one]
      rw [List.drop_append_of_le_length (by rw [hlc]; exact Nat.min_le_right _ _)]
      congr 1
      by_cases h : l2.length ≤ l.length
      · rw [show Nat.min l2.length l.length = l2.length from Nat.min_eq_left h]
      · rw [show Nat.min l2.length l.length = l.length from Nat.min_eq_right (by omega), List.drop_of_length_le (by omega), List.drop_of_length_le (by omega)]
    rw [show (cel E l ++ sp).toArray.toList = cel E l ++ sp from rfl, hrow] at hrun
    refine ⟨w.setRow g (cel E (cpl l l2) ++ sp).toArray, ?_, ⟨by rw [cpl_len]; exact hS.len, hS.max, fun h => by cases h⟩, ?_, ?_⟩
    · have e2 : i64 ((min l2.length l.length : Nat) : Int) = goInt (cel E (l2.take l.length)).length := by rw [hcl]; rfl
      rw [e2]
      simp only [ownA, Option.map_some] at hx
      simp only [Runs, execOp, resolve, hx, hy, invoke, builtin, Sem.run_bind, Sem.run_pure, Result.andThen_ok, List.map_toArray, List.map_cons, List.map_nil, hrun]
    · refine ⟨fun i o hn hi => ?_, by simp, rfl, rfl, rfl⟩
      rw [setRow_other _ _ _ _ (fun e => hn (by rw [e]))]; exact hi
    · intro g' hg'
      cases hg'
      rw [setRow_heap _ _ _ _ _ _ hg]
      rfl
theorem q_copy (H : Hp M w₀ w L) (hL : L[k]? = some (key, sob E T l sp)) (hS : Sl E key l c sp) (hE : E.s = 1) (hT : sli P S = some (T, 1)) (hR : Rd E w a2 l2)
    (hx : ev n ρ x = .slice (ownA key) m c) (hm : m = l.length) (hy : ev n ρ y = .slice a2 m2 c2) (hm2 : m2 = l2.length)
    (h : ∀ w', Sl E key (cpl l l2) c sp → Hp M w₀ w' (L.set k (key, sob E T (cpl l l2) sp)) → W P n ops Q rest (updo ρ d (i64 ((min l2.length l.length : Nat)))) w') :
    W P n ops Q (⟨d, .call ⟨.builtin .copy, #[x, y], #[S, S']⟩, t, pos, after, none⟩ :: rest) ρ w := by
  obtain ⟨w', h1, h2, h3, h4⟩ := r_copy (d := d) (t := t) (pos := pos) (after := after) (gd := none) (S' := S') hE hT hS (fun g hg => H.has _ (List.mem_of_getElem? hL) g hg) hR hx hm hy hm2
  exact sq h1 (h w' h2 (H.turn hL h3 fun b hb => ⟨.inl hb, h4 b hb⟩))
end
end Go.Proofs.YtpmmhpgfbfehmaaDoor.Vc
