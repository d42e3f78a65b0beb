/- What two ends tell each other where every frame comes; and where none does. -/
import Derived.Test.YtpmmhpgfbfehmaaDoorLinkEnd
namespace Go.Proofs.YtpmmhpgfbfehmaaDoor.Lk
open Go Go.Proofs.YtpmmhpgfbfehmaaDoor.Vc
set_option linter.unusedVariables false

def heard (s : St) (l : List (List (BitVec 8))) : St := l.foldl (fun s f => (hearS s f).1) s
theorem heard_take {s : St} {l : List (List (BitVec 8))} {q : Nat} (h : q < l.length) : heard s (l.take (q + 1)) = (hearS (heard s (l.take q)) (l.getD q [])).1 := by
  rw [List.take_succ_eq_append_getElem h]
  simp only [heard, List.foldl_append, List.foldl_cons, List.foldl_nil]
  simp [h]
/-- what a frame can do to the counts -/
theorem hear_bound (s : St) (f : List (BitVec 8)) : (hearS s f).1.owed.length ≤ s.owed.length + 1 ∧ (hearS s f).1.came.length ≤ s.came.length + 1 ∧ (hearS s f).1.since ≤ s.since ∧ (hearS s f).1.sends ≤ s.sends := by
  unfold hearS
  split
  · simp
  · split
    · simp
    · split
      · simp
      · split <;> simp
theorem heard_bound : ∀ (l : List (List (BitVec 8))) (s : St), (heard s l).owed.length ≤ s.owed.length + l.length ∧ (heard s l).came.length ≤ s.came.length + l.length ∧ (heard s l).since ≤ s.since ∧ (heard s l).sends ≤ s.sends
  | [], s => by simp [heard]
  | f :: l, s => by
    have h1 := hear_bound s f
    have h2 := heard_bound l (hearS s f).1
    have e : heard s (f :: l) = heard (hearS s f).1 l := rfl
    rw [e]; simp only [List.length_cons]; omega
theorem step_bound (s : St) : (stepS s).1.owed = [] ∧ (stepS s).1.came = s.came ∧ (stepS s).2.length ≤ s.owed.length + 1 := by
  unfold stepS
  split
  · simp [acks]
  · split <;> simp [acks]
theorem frames_small {s : St} (h : ∀ p ∈ s.queue, p.length ≤ 1048576) : ∀ f ∈ (stepS s).2, f.length ≤ 1048585 := by
  have ha : ∀ f ∈ acks s.owed, f.length ≤ 1048585 := fun f hf => by
    obtain ⟨n, _, rfl⟩ := List.mem_map.1 hf
    rw [seal_len]; simp
  unfold stepS
  split
  · exact ha
  · rename_i hn
    split
    · exact ha
    · intro f hf
      rcases List.mem_append.1 hf with hf | hf
      · exact ha f hf
      · rw [List.mem_singleton.1 hf, seal_len]
        have hq : 0 < s.queue.length := by
          rcases Nat.eq_zero_or_pos s.queue.length with h0 | h0
          · exact absurd (.inr (.inl h0)) hn
          · exact h0
        have hg : s.queue.getD 0 [] ∈ s.queue := by simp [hq]
        have := h _ hg; omega

section
variable (pays : List (List (BitVec 8)))
def endA (r : Nat) : St := ⟨pays.drop (min r pays.length), BitVec.ofNat 32 (min r pays.length), 0, r - min r pays.length, 0#32, [], [], false⟩
def endB (r : Nat) : St := ⟨[], 0#32, 0, r, BitVec.ofNat 32 (min r pays.length), pays.take (min r pays.length), [], false⟩
variable {pays}
theorem stepA_hit {r : Nat} (h : r < pays.length) : stepS (endA pays r) = ({ endA pays r with owed := [], since := 0, sends := 1 }, [sealF 0#8 (BitVec.ofNat 32 r) (pays.getD r [])]) := by
  have hm : min r pays.length = r := by omega
  have hn : ¬ ((endA pays r).dead = true ∨ (endA pays r).queue.length = 0 ∨ (0 < (endA pays r).sends ∧ (endA pays r).since + 1 < 4)) := by
    rintro (h1 | h1 | ⟨h1, _⟩)
    · cases h1
    · simp only [endA, hm, List.length_drop] at h1; omega
    · exact absurd h1 (Nat.lt_irrefl 0)
  unfold stepS
  rw [if_neg hn, if_neg (show ¬ (endA pays r).sends = 8 from fun h => by cases h)]
  have hg : (endA pays r).queue.getD 0 [] = pays.getD r [] := by simp [endA, hm]
  rw [hg]
  simp only [endA, hm, acks, List.map_nil, List.nil_append, Nat.zero_add]
theorem stepA_miss {r : Nat} (h : pays.length ≤ r) : stepS (endA pays r) = (endA pays (r + 1), []) := by
  have hm : min r pays.length = pays.length := by omega
  have hm2 : min (r + 1) pays.length = pays.length := by omega
  unfold stepS
  rw [if_pos (.inr (.inl (by simp only [endA, hm, List.length_drop]; omega)))]
  simp only [endA, hm, hm2, acks, List.map_nil, Prod.mk.injEq, and_true, St.mk.injEq, true_and]
  omega
theorem ofNat_succ32 (r : Nat) : BitVec.ofNat 32 r + 1#32 = BitVec.ofNat 32 (r + 1) := by
  apply BitVec.eq_of_toNat_eq; simp
theorem hearB_hit {r : Nat} (h : r < pays.length) : hearS (endB pays r) (sealF 0#8 (BitVec.ofNat 32 r) (pays.getD r [])) = ({ endB pays r with came := pays.take (r + 1), want := BitVec.ofNat 32 (r + 1), owed := [BitVec.ofNat 32 r] }, true) := by
  have hm : min r pays.length = r := by omega
  unfold hearS
  rw [opn_seal _ _ _ (by decide) (fun h => absurd h (by decide))]
  simp only
  rw [if_pos ⟨trivial, by simp only [endB, hm]⟩]
  simp only [endB, hm, ofNat_succ32, List.nil_append]
  have : pays.take r ++ [pays.getD r []] = pays.take (r + 1) := by rw [List.take_succ_eq_append_getElem h]; simp [h]
  rw [this]
theorem stepB_hit {r : Nat} (h : r < pays.length) : stepS { endB pays r with came := pays.take (r + 1), want := BitVec.ofNat 32 (r + 1), owed := [BitVec.ofNat 32 r] } = (endB pays (r + 1), [sealF 1#8 (BitVec.ofNat 32 r) []]) := by
  have hm2 : min (r + 1) pays.length = r + 1 := by omega
  unfold stepS
  rw [if_pos (.inr (.inl rfl))]
  simp only [endB, hm2, acks, List.map_cons, List.map_nil]
theorem stepB_miss {r : Nat} (h : pays.length ≤ r) : stepS (endB pays r) = (endB pays (r + 1), []) := by
  have hm : min r pays.length = pays.length := by omega
  have hm2 : min (r + 1) pays.length = pays.length := by omega
  unfold stepS
  rw [if_pos (.inr (.inl rfl))]
  simp only [endB, hm, hm2, acks, List.map_nil]
theorem hearA_hit {r : Nat} (h : r < pays.length) : hearS { endA pays r with owed := [], since := 0, sends := 1 } (sealF 1#8 (BitVec.ofNat 32 r) []) = (endA pays (r + 1), true) := by
  have hm : min r pays.length = r := by omega
  have hm2 : min (r + 1) pays.length = r + 1 := by omega
  unfold hearS
  rw [opn_seal _ _ _ (by decide) (fun _ => rfl)]
  simp only
  rw [if_neg (fun h => absurd h.1 (by decide)), if_neg (fun h => absurd h.1 (by decide)), if_pos ⟨trivial, by simp only [endA, hm], Nat.zero_lt_one, by simp only [endA, hm, List.length_drop]; omega⟩]
  simp only [endA, hm, hm2, ofNat_succ32, List.drop_drop, Prod.mk.injEq, St.mk.injEq, true_and, and_true]
  omega
/-- one round of both -/
theorem round_a (r : Nat) : heard (stepS (endA pays r)).1 (stepS (heard (endB pays r) (stepS (endA pays r)).2)).2 = endA pays (r + 1) := by
  by_cases h : r < pays.length
  · rw [stepA_hit h]
    show heard _ (stepS (hearS (endB pays r) _).1).2 = _
    rw [hearB_hit h, stepB_hit h]
    show (hearS _ _).1 = _
    rw [hearA_hit h]
  · rw [stepA_miss (by omega)]
    show heard _ (stepS (endB pays r)).2 = _
    rw [stepB_miss (by omega)]; rfl
theorem round_b (r : Nat) : (stepS (heard (endB pays r) (stepS (endA pays r)).2)).1 = endB pays (r + 1) := by
  by_cases h : r < pays.length
  · rw [stepA_hit h]
    show (stepS (hearS (endB pays r) _).1).1 = _
    rw [hearB_hit h, stepB_hit h]
  · rw [stepA_miss (by omega)]
    show (stepS (endB pays r)).1 = _
    rw [stepB_miss (by omega)]
theorem lenA (r : Nat) : (stepS (endA pays r)).2.length ≤ 1 := (step_bound (endA pays r)).2.2
theorem bndB {r : Nat} (hr : r ≤ 100) (hp : pays.length ≤ 20) (q : Nat) : (heard (endB pays r) ((stepS (endA pays r)).2.take q)).owed.length ≤ 1000000 ∧ (heard (endB pays r) ((stepS (endA pays r)).2.take q)).came.length ≤ 1000000 ∧
    (heard (endB pays r) ((stepS (endA pays r)).2.take q)).since < 1000000000 ∧ (heard (endB pays r) ((stepS (endA pays r)).2.take q)).sends ≤ 8 := by
  have h1 := heard_bound ((stepS (endA pays r)).2.take q) (endB pays r)
  have h2 := lenA (pays := pays) r
  have h3 : ((stepS (endA pays r)).2.take q).length ≤ 1 := by rw [List.length_take]; omega
  have h4 : (endB pays r).came.length ≤ 20 := by simp only [endB, List.length_take]; omega
  have h5 : (endB pays r).owed.length = 0 := rfl
  have h6 : (endB pays r).since = r := rfl
  have h7 : (endB pays r).sends = 0 := rfl
  omega
theorem bndA {r : Nat} (hp : pays.length ≤ 20) (l : List (List (BitVec 8))) (hl : l.length ≤ 100) (q : Nat) : (heard (stepS (endA pays r)).1 (l.take q)).owed.length ≤ 1000000 ∧ (heard (stepS (endA pays r)).1 (l.take q)).came.length ≤ 1000000 := by
  have h1 := heard_bound (l.take q) (stepS (endA pays r)).1
  obtain ⟨h2, h3, _⟩ := step_bound (endA pays r)
  have h4 : (l.take q).length ≤ 100 := by rw [List.length_take]; omega
  rw [h2, h3] at h1
  have h5 : (endA pays r).came.length = 0 := rfl
  simp only [List.length_nil] at h1
  omega
theorem len2 {r : Nat} (hr : r ≤ 100) (hp : pays.length ≤ 20) : (stepS (heard (endB pays r) (stepS (endA pays r)).2)).2.length ≤ 100 := by
  have h1 := (step_bound (heard (endB pays r) (stepS (endA pays r)).2)).2.2
  have h2 := (heard_bound (stepS (endA pays r)).2 (endB pays r)).1
  have h3 := lenA (pays := pays) r
  have h5 : (endB pays r).owed.length = 0 := rfl
  omega
theorem endA_bnd {r : Nat} (hr : r ≤ 100) : (endA pays r).since < 1000000000 ∧ (endA pays r).owed.length ≤ 1000000 ∧ (endA pays r).sends ≤ 8 := by
  refine ⟨?_, Nat.zero_le _, Nat.zero_le _⟩
  simp only [endA]; omega
theorem endB_came {r : Nat} (h : pays.length ≤ r) : endB pays r = { endB pays r with came := pays.drop 0 } := by
  have hm : min r pays.length = pays.length := by omega
  simp [endB, hm]
theorem endA_done {r : Nat} (h : pays.length ≤ r) : (endA pays r).queue = [] := by
  have hm : min r pays.length = pays.length := by omega
  simp [endA, hm]
end

theorem endA_zero {pays : List (List (BitVec 8))} : endA pays 0 = { st0 with queue := pays } := by simp [endA, st0]
theorem endB_zero {pays : List (List (BitVec 8))} : endB pays 0 = st0 := by simp [endB, st0]
/-! ### no frame comes -/
def itS (s : St) : Nat → St
  | 0 => s
  | q + 1 => (stepS (itS s q)).1
def cntS (s : St) : Nat → Nat
  | 0 => 0
  | q + 1 => cntS s q + (stepS (itS s q)).2.length
structure Al (s : St) (q : Nat) : Prop where
  queue : (itS s q).queue.length = 1
  owed : (itS s q).owed = []
  dead : (itS s q).dead = false
  cnt : q = 0 ∨ (itS s q).sends = (q - 1) / 4 + 1 ∧ (itS s q).since = (q - 1) % 4 ∧ cntS s q = (q - 1) / 4 + 1
theorem alone {s : St} (hq : s.queue.length = 1) (ho : s.owed = []) (hd : s.dead = false) (hs : s.sends = 0) : ∀ q, q ≤ 32 → Al s q
  | 0, _ => ⟨hq, ho, hd, .inl rfl⟩
  | q + 1, h => by
    have ih := alone hq ho hd hs q (by omega)
    have e : itS s (q + 1) = (stepS (itS s q)).1 := rfl
    have c : cntS s (q + 1) = cntS s q + (stepS (itS s q)).2.length := rfl
    have h0 : ¬ ((itS s q).dead = true) := by rw [ih.dead]; exact Bool.false_ne_true
    have h1 : ¬ ((itS s q).queue.length = 0) := by rw [ih.queue]; exact Nat.one_ne_zero
    by_cases hw : 0 < (itS s q).sends ∧ (itS s q).since + 1 < 4
    · have hst : stepS (itS s q) = ({ itS s q with owed := [], since := (itS s q).since + 1 }, acks (itS s q).owed) := if_pos (.inr (.inr hw))
      rw [ih.owed] at hst
      rcases ih.cnt with h2 | ⟨h2, h3, h4⟩
      · subst h2; have h7 : (itS s 0).sends = 0 := hs
        exact absurd hw.1 (by rw [h7]; exact Nat.lt_irrefl 0)
      · have hqp : 0 < q := by
          rcases Nat.eq_zero_or_pos q with rfl | h9
          · have h7 : (itS s 0).sends = 0 := hs
            rw [h7] at h2; cases h2
          · exact h9
        refine ⟨by rw [e, hst]; exact ih.queue, by rw [e, hst], by rw [e, hst]; exact ih.dead, .inr ⟨?_, ?_, ?_⟩⟩
        · have h5 : (itS s (q + 1)).sends = (itS s q).sends := by rw [e, hst]
          rw [h5, h2]; have := hw.2; rw [h3] at this; omega
        · have h5 : (itS s (q + 1)).since = (itS s q).since + 1 := by rw [e, hst]
          rw [h5, h3]; have := hw.2; rw [h3] at this; omega
        · have hc : cntS s (q + 1) = cntS s q := by rw [c, hst]; rfl
          rw [hc, h4]; have := hw.2; rw [h3] at this; omega
    · have hn : ¬ ((itS s q).dead = true ∨ (itS s q).queue.length = 0 ∨ (0 < (itS s q).sends ∧ (itS s q).since + 1 < 4)) := fun h => h.elim h0 fun h => h.elim h1 hw
      have h8 : ¬ (itS s q).sends = 8 := by
        rcases ih.cnt with h2 | ⟨h2, h3, h4⟩
        · subst h2; have h7 : (itS s 0).sends = 0 := hs
          rw [h7]; decide
        · omega
      have hst : stepS (itS s q) = ({ itS s q with owed := [], since := 0, sends := (itS s q).sends + 1 }, acks (itS s q).owed ++ [sealF 0#8 (itS s q).number ((itS s q).queue.getD 0 [])]) := (if_neg hn).trans (if_neg h8)
      rw [ih.owed] at hst
      have hc : cntS s (q + 1) = cntS s q + 1 := by rw [c, hst]; rfl
      refine ⟨by rw [e, hst]; exact ih.queue, by rw [e, hst], by rw [e, hst]; exact ih.dead, .inr ?_⟩
      have h5 : (itS s (q + 1)).sends = (itS s q).sends + 1 := by rw [e, hst]
      have h6 : (itS s (q + 1)).since = 0 := by rw [e, hst]
      rcases ih.cnt with h2 | ⟨h2, h3, h4⟩
      · subst h2
        have h7 : (itS s 0).sends = 0 := hs
        have h8 : cntS s 0 = 0 := rfl
        rw [h5, h6, hc, h7, h8]; decide
      · have hqp : 0 < q := by
          rcases Nat.eq_zero_or_pos q with rfl | h9
          · have h7 : (itS s 0).sends = 0 := hs
            rw [h7] at h2; cases h2
          · exact h9
        rw [h5, h6, hc, h2, h4]; omega
theorem alone_bnd {s : St} (hq : s.queue.length = 1) (ho : s.owed = []) (hd : s.dead = false) (hs : s.sends = 0) (hi : s.since < 1000) {q : Nat} (h : q ≤ 32) : (itS s q).since < 1000000000 ∧ (itS s q).owed.length ≤ 1000000 ∧ (itS s q).sends ≤ 8 ∧ cntS s q ≤ 8 ∧ (stepS (itS s q)).2.length ≤ 1 := by
  have a := alone hq ho hd hs q h
  have h1 := (step_bound (itS s q)).2.2
  rw [a.owed] at h1 ⊢
  rcases a.cnt with h2 | ⟨h2, h3, h4⟩
  · subst h2
    have e1 : (itS s 0).since = s.since := rfl
    have e2 : (itS s 0).sends = 0 := hs
    have e3 : cntS s 0 = 0 := rfl
    simp only [List.length_nil] at h1 ⊢; omega
  · simp only [List.length_nil] at h1 ⊢; omega
/-- the step at which it gives up -/
theorem alone_die {s : St} (hq : s.queue.length = 1) (ho : s.owed = []) (hd : s.dead = false) (hs : s.sends = 0) : 0 < (itS s 32).queue.length ∧ (itS s 32).sends = 8 ∧ ¬ (itS s 32).since + 1 < 4 ∧ (itS s 32).dead = false ∧ cntS s 32 = 8 ∧ acks (itS s 32).owed = [] := by
  have a := alone hq ho hd hs 32 (Nat.le_refl _)
  rcases a.cnt with h2 | ⟨h2, h3, h4⟩
  · cases h2
  · rw [a.queue, a.dead, a.owed]
    exact ⟨by decide, h2, by omega, rfl, h4, rfl⟩
theorem alone_last {s : St} (hq : s.queue.length = 1) (ho : s.owed = []) (hd : s.dead = false) (hs : s.sends = 0) :
    stepS (itS s 32) = ({ itS s 32 with owed := [], since := (itS s 32).since + 1, dead := true }, acks (itS s 32).owed) := by
  obtain ⟨h1, h2, h3, h4, _, _⟩ := alone_die hq ho hd hs
  have hn : ¬ ((itS s 32).dead = true ∨ (itS s 32).queue.length = 0 ∨ (0 < (itS s 32).sends ∧ (itS s 32).since + 1 < 4)) := by
    rintro (h | h | h)
    · rw [h4] at h; cases h
    · omega
    · exact h3 h.2
  exact (if_neg hn).trans (if_pos h2)
theorem itS_33 {s : St} (hq : s.queue.length = 1) (ho : s.owed = []) (hd : s.dead = false) (hs : s.sends = 0) : itS s 33 = { itS s 32 with owed := [], since := (itS s 32).since + 1, dead := true } := by
  show (stepS (itS s 32)).1 = _
  rw [alone_last hq ho hd hs]
theorem acks_32 {s : St} (hq : s.queue.length = 1) (ho : s.owed = []) (hd : s.dead = false) (hs : s.sends = 0) : (acks (itS s 32).owed).length = (stepS (itS s 32)).2.length := by
  rw [alone_last hq ho hd hs]
theorem cnt_33 (s : St) : cntS s 33 = cntS s 32 + (stepS (itS s 32)).2.length := rfl
theorem alone_33 {s : St} (hq : s.queue.length = 1) (ho : s.owed = []) (hd : s.dead = false) (hs : s.sends = 0) (hi : s.since < 1000) :
    cntS s 33 = 8 ∧ (itS s 33).dead = true ∧ (itS s 33).owed = [] ∧ (itS s 33).since < 1000000000 ∧ (itS s 33).sends ≤ 8 ∧ (stepS (itS s 33)).2 = [] := by
  have h0 := alone_last hq ho hd hs
  obtain ⟨h1, h2, h3, h4, h5, h6⟩ := alone_die hq ho hd hs
  have hb := alone_bnd hq ho hd hs hi (Nat.le_refl 32)
  have e : itS s 33 = { itS s 32 with owed := [], since := (itS s 32).since + 1, dead := true } := by show (stepS (itS s 32)).1 = _; rw [h0]
  refine ⟨?_, by rw [e], by rw [e], ?_, ?_, ?_⟩
  · show cntS s 32 + (stepS (itS s 32)).2.length = 8
    rw [h0, h5, h6]; rfl
  · rw [e]; show (itS s 32).since + 1 < _
    have a := (alone hq ho hd hs 32 (Nat.le_refl _)).cnt
    rcases a with a | ⟨_, a, _⟩
    · cases a
    · rw [a]; decide
  · rw [e]; show (itS s 32).sends ≤ 8; omega
  · unfold stepS
    rw [if_pos (.inl (by rw [e]))]
    show acks (itS s 33).owed = []
    rw [e]; rfl
theorem en0_okF (T : TypeId) (F : List (Option Nat × Obj)) : en0.ok T F := (en0_ok T).mono fun _ h => by cases h
theorem take_snoc {l : List (List (BitVec 8))} {q : Nat} (h : q < l.length) : l.take q ++ [l.getD q []] = l.take (q + 1) := by
  rw [List.take_succ_eq_append_getElem h]; simp [h]
theorem drop_get {l : List (List (BitVec 8))} {q : Nat} (h : q < l.length) : (l.drop q)[0]? = some (l.getD q []) := by
  simp [h]
end Go.Proofs.YtpmmhpgfbfehmaaDoor.Lk
