/- What two ends tell each other whatever the net does to frames: what comes is a beginning of what was sent. -/
import Derived.Test.YtpmmhpgfbfehmaaDoorLinkEnds
import Derived.Test.YtpmmhpgfbfehmaaDoorVcJoin
import Derived.Test.YtpmmhpgfbfehmaaDoorVcOpenQ
namespace Go.Proofs.YtpmmhpgfbfehmaaDoor.Lk
open Go Go.Proofs.YtpmmhpgfbfehmaaDoor.Vc
set_option linter.unusedVariables false

/-- what may lie on a way: what an end that has sent so much has said, or what is no frame -/
def FrOk (snt : List (List (BitVec 8))) (f : List (BitVec 8)) : Prop :=
  9 ≤ f.length ∧ f.length ≤ 1048585 ∧ (opn f = none ∨ (∃ i, i < snt.length ∧ f = sealF 0#8 (BitVec.ofNat 32 i) (snt.getD i [])) ∨ ∃ n, f = sealF 1#8 n [])
/-- one end: what lies on the way to it, what it has sent, what was taken from it, what the other one has sent -/
structure Half (z : Nat) (s : St) (way snt cm oth : List (List (BitVec 8))) : Prop where
  snd : ∃ d, snt = d ++ s.queue ∧ s.number = BitVec.ofNat 32 d.length
  rcv : ∃ n, n ≤ oth.length ∧ cm ++ s.came = oth.take n ∧ s.want = BitVec.ofNat 32 n
  fr : ∀ f ∈ way, FrOk oth f
  sl : snt.length ≤ z
  ol : oth.length ≤ z
  wl : way.length ≤ 1000 * z
  owl : s.owed.length ≤ z
  sinl : s.since ≤ z
  senl : s.sends ≤ 8
section
variable {z : Nat} {s : St} {way snt cm oth : List (List (BitVec 8))}
theorem Half.mono (h : Half z s way snt cm oth) {z' : Nat} (hz : z ≤ z') : Half z' s way snt cm oth :=
  ⟨h.snd, h.rcv, h.fr, Nat.le_trans h.sl hz, Nat.le_trans h.ol hz, Nat.le_trans h.wl (Nat.mul_le_mul_left _ hz), Nat.le_trans h.owl hz, Nat.le_trans h.sinl hz, h.senl⟩
theorem Half.zero : Half 0 st0 [] [] [] [] :=
  ⟨⟨[], rfl, rfl⟩, ⟨0, Nat.le_refl _, rfl, rfl⟩, fun _ h => (by cases h), Nat.le_refl _, Nat.le_refl _, Nat.le_refl _, Nat.le_refl _, Nat.le_refl _, Nat.zero_le _⟩
theorem FrOk.snoc {f p : List (BitVec 8)} (h : FrOk oth f) : FrOk (oth ++ [p]) f := by
  obtain ⟨h1, h2, h3 | ⟨i, hi, h3⟩ | h3⟩ := h
  · exact ⟨h1, h2, .inl h3⟩
  · refine ⟨h1, h2, .inr (.inl ⟨i, by rw [List.length_append]; omega, ?_⟩)⟩
    rw [h3]; simp [List.getD, List.getElem?_append_left hi]
  · exact ⟨h1, h2, .inr (.inr h3)⟩
theorem Half.send (h : Half z s way snt cm oth) (p : List (BitVec 8)) : Half (z + 1) (sendS s p) way (snt ++ [p]) cm oth := by
  obtain ⟨d, h1, h2⟩ := h.snd
  have hm := h.mono (Nat.le_succ z)
  exact ⟨⟨d, by rw [h1, List.append_assoc]; rfl, h2⟩, h.rcv, h.fr, by rw [List.length_append]; exact Nat.succ_le_succ h.sl, hm.ol, hm.wl, hm.owl, hm.sinl, h.senl⟩
theorem Half.other (h : Half z s way snt cm oth) (p : List (BitVec 8)) : Half (z + 1) s way snt cm (oth ++ [p]) := by
  obtain ⟨n, h1, h2, h3⟩ := h.rcv
  have hm := h.mono (Nat.le_succ z)
  exact ⟨h.snd, ⟨n, by rw [List.length_append]; omega, by rw [h2, List.take_append_of_le_length h1], h3⟩, fun f hf => (h.fr f hf).snoc, hm.sl, by rw [List.length_append]; exact Nat.succ_le_succ h.ol, hm.wl, hm.owl, hm.sinl, h.senl⟩
theorem getD_mem' {l : List (List (BitVec 8))} {j : Nat} (h : j < l.length) : l.getD j [] ∈ l := by simp [h]
theorem Half.copy (h : Half z s way snt cm oth) {j : Nat} (hj : j < way.length) : Half (z + 1) s (way ++ [way.getD j []]) snt cm oth := by
  have hm := h.mono (Nat.le_succ z)
  refine ⟨h.snd, h.rcv, fun f hf => ?_, hm.sl, hm.ol, by rw [List.length_append, List.length_singleton]; have := h.wl; omega, hm.owl, hm.sinl, h.senl⟩
  rcases List.mem_append.1 hf with h1 | h1
  · exact h.fr f h1
  · rw [List.mem_singleton.1 h1]; exact h.fr _ (getD_mem' hj)
theorem Half.set (h : Half z s way snt cm oth) {j : Nat} (hj : j < way.length) {f : List (BitVec 8)} (hl : f.length = (way.getD j []).length) (hn : opn f = none) : Half (z + 1) s (way.set j f) snt cm oth := by
  have hm := h.mono (Nat.le_succ z)
  refine ⟨h.snd, h.rcv, fun g hg => ?_, hm.sl, hm.ol, by rw [List.length_set]; exact hm.wl, hm.owl, hm.sinl, h.senl⟩
  rcases List.mem_or_eq_of_mem_set hg with h1 | rfl
  · exact h.fr g h1
  · have := h.fr _ (getD_mem' hj)
    exact ⟨by rw [hl]; exact this.1, by rw [hl]; exact this.2.1, .inl hn⟩
theorem Half.erase (h : Half z s way snt cm oth) (j : Nat) : Half z s (way.eraseIdx j) snt cm oth :=
  ⟨h.snd, h.rcv, fun f hf => h.fr f (List.mem_of_mem_eraseIdx hf), h.sl, h.ol, Nat.le_trans (by rw [List.length_eraseIdx]; split <;> omega) h.wl, h.owl, h.sinl, h.senl⟩
theorem ofNat_inj32 {i n : Nat} (hi : i ≤ 100000) (hn : n ≤ 100000) (h : BitVec.ofNat 32 i = BitVec.ofNat 32 n) : i = n := by
  have := congrArg BitVec.toNat h
  rw [BitVec.toNat_ofNat, BitVec.toNat_ofNat, Nat.mod_eq_of_lt (by omega), Nat.mod_eq_of_lt (by omega)] at this
  exact this
theorem Half.hear (h : Half z s way snt cm oth) (hz : z ≤ 100000) {f : List (BitVec 8)} (hf : FrOk oth f) : Half (z + 1) (hearS s f).1 way snt cm oth := by
  have hm := h.mono (Nat.le_succ z)
  obtain ⟨_, _, hf⟩ := hf
  rcases hf with hn | ⟨i, hi, rfl⟩ | ⟨n, rfl⟩
  · have e : hearS s f = (s, false) := by unfold hearS; rw [hn]
    rw [e]; exact hm
  · obtain ⟨n, hn, hc, hw⟩ := h.rcv
    have ho := h.ol
    unfold hearS
    rw [opn_seal _ _ _ (by decide) (fun h => absurd h (by decide))]
    dsimp only
    split
    · rename_i h1
      obtain rfl : i = n := ofNat_inj32 (by omega) (by omega) (h1.2.trans hw)
      refine ⟨h.snd, ⟨i + 1, hi, ?_, ?_⟩, h.fr, hm.sl, hm.ol, hm.wl, ?_, hm.sinl, h.senl⟩
      · show cm ++ (s.came ++ [oth.getD i []]) = _
        rw [← List.append_assoc, hc, take_snoc hi]
      · show s.want + 1#32 = _
        rw [hw, ofNat_succ32]
      · show (s.owed ++ [_]).length ≤ _
        rw [List.length_append]; exact Nat.succ_le_succ h.owl
    · split
      · refine ⟨h.snd, h.rcv, h.fr, hm.sl, hm.ol, hm.wl, ?_, hm.sinl, h.senl⟩
        show (s.owed ++ [_]).length ≤ _
        rw [List.length_append]; exact Nat.succ_le_succ h.owl
      · rw [if_neg (fun h => absurd h.1 (by decide))]
        exact hm
  · unfold hearS
    rw [opn_seal _ _ _ (by decide) (fun _ => rfl)]
    dsimp only
    rw [if_neg (fun h => absurd h.1 (by decide)), if_neg (fun h => absurd h.1 (by decide))]
    split
    · rename_i h1
      obtain ⟨d, h2, h3⟩ := h.snd
      obtain ⟨x, r, hq⟩ : ∃ x r, s.queue = x :: r := by
        cases hq : s.queue with
        | nil => rw [hq] at h1; exact absurd h1.2.2.2 (by decide)
        | cons x r => exact ⟨x, r, rfl⟩
      refine ⟨⟨d ++ [x], ?_, ?_⟩, h.rcv, h.fr, hm.sl, hm.ol, hm.wl, hm.owl, Nat.zero_le _, Nat.zero_le _⟩
      · show snt = d ++ [x] ++ s.queue.drop 1
        rw [h2, hq]; simp
      · show s.number + 1#32 = _
        rw [h3, ofNat_succ32, List.length_append]; rfl
    · exact hm
theorem Half.step (h : Half z s way snt cm oth) : Half (z + 1) (stepS s).1 way snt cm oth := by
  have hm := h.mono (Nat.le_succ z)
  unfold stepS
  split
  · exact ⟨h.snd, h.rcv, h.fr, hm.sl, hm.ol, hm.wl, Nat.zero_le _, Nat.succ_le_succ h.sinl, h.senl⟩
  · split
    · exact ⟨h.snd, h.rcv, h.fr, hm.sl, hm.ol, hm.wl, Nat.zero_le _, Nat.succ_le_succ h.sinl, h.senl⟩
    · rename_i h8
      exact ⟨h.snd, h.rcv, h.fr, hm.sl, hm.ol, hm.wl, Nat.zero_le _, Nat.zero_le _, by show s.sends + 1 ≤ 8; have := h.senl; omega⟩
theorem Half.said (h : Half z s way snt cm oth) (hq : ∀ p ∈ s.queue, p.length ≤ 1048576) : ∀ f ∈ (stepS s).2, FrOk snt f := by
  intro f hf
  have hs := frames_small hq f hf
  have ha : ∀ f ∈ acks s.owed, 9 ≤ f.length ∧ ∃ n, f = sealF 1#8 n [] := fun f hf => by
    obtain ⟨n, _, rfl⟩ := List.mem_map.1 hf
    exact ⟨by rw [seal_len]; omega, n, rfl⟩
  unfold stepS at hf
  split at hf
  · obtain ⟨h1, h2⟩ := ha f hf
    exact ⟨h1, hs, .inr (.inr h2)⟩
  · rename_i hn
    split at hf
    · obtain ⟨h1, h2⟩ := ha f hf
      exact ⟨h1, hs, .inr (.inr h2)⟩
    · rcases List.mem_append.1 hf with hf | hf
      · obtain ⟨h1, h2⟩ := ha f hf
        exact ⟨h1, hs, .inr (.inr h2)⟩
      · have hf := List.mem_singleton.1 hf
        obtain ⟨d, h2, h3⟩ := h.snd
        obtain ⟨x, r, hq⟩ : ∃ x r, s.queue = x :: r := by
          cases hq : s.queue with
          | nil => exact absurd (.inr (.inl (by rw [hq]; rfl))) hn
          | cons x r => exact ⟨x, r, rfl⟩
        refine ⟨by rw [hf, seal_len]; omega, hs, .inr (.inl ⟨d.length, by rw [h2, hq]; simp, ?_⟩)⟩
        rw [hf, h3, h2, hq]; simp
theorem Half.way' (h : Half z s way snt cm oth) {l : List (List (BitVec 8))} (hl : l.length ≤ 1000) (hf : ∀ f ∈ l, FrOk oth f) : Half (z + 1) s (way ++ l) snt cm oth := by
  have hm := h.mono (Nat.le_succ z)
  refine ⟨h.snd, h.rcv, fun f h1 => ?_, hm.sl, hm.ol, by rw [List.length_append]; have := h.wl; omega, hm.owl, hm.sinl, h.senl⟩
  rcases List.mem_append.1 h1 with h1 | h1
  · exact h.fr f h1
  · exact hf f h1
theorem Half.stepLen (h : Half z s way snt cm oth) : (stepS s).2.length ≤ z + 1 := Nat.le_trans (step_bound s).2.2 (Nat.succ_le_succ h.owl)
/-- a payload in hand -/
def hand (b : Bool) (p : List (BitVec 8)) (s : St) : St := { s with came := (if b then [p] else []) ++ s.came }
theorem hand_take (s : St) : hand (decide (0 < s.came.length)) (s.came.getD 0 []) { s with came := s.came.drop 1 } = s := by
  obtain ⟨q, n, a, b, w, c, o, d⟩ := s
  cases c with
  | nil => simp [hand]
  | cons x r => simp [hand]
theorem Half.moved {p : List (BitVec 8)} (h : Half z (hand true p s) way snt cm oth) : Half z s way snt (cm ++ [p]) oth := by
  obtain ⟨n, h1, h2, h3⟩ := h.rcv
  exact ⟨h.snd, ⟨n, h1, by rw [← h2, List.append_assoc]; rfl, h3⟩, h.fr, h.sl, h.ol, h.wl, h.owl, h.sinl, h.senl⟩
theorem Half.none {p : List (BitVec 8)} (h : Half z (hand false p s) way snt cm oth) : Half z s way snt cm oth := h
theorem Half.cl (h : Half z s way snt cm oth) : cm.length + s.came.length ≤ z := by
  obtain ⟨n, h1, h2, _⟩ := h.rcv
  have := congrArg List.length h2
  rw [List.length_append, List.length_take] at this
  have := h.ol; omega
theorem Half.fits (h : Half z s way snt cm oth) (hc : s.came = []) : cm.length ≤ oth.length ∧ ∀ j, j < cm.length → cm.getD j [] = oth.getD j [] := by
  obtain ⟨n, h1, h2, _⟩ := h.rcv
  rw [hc, List.append_nil] at h2
  have hl : cm.length = n := by rw [h2, List.length_take]; omega
  refine ⟨by omega, fun j hj => ?_⟩
  rw [h2]; simp [show j < n by omega]
end
/-- a row of texts of one's own -/
structure Tx where
  key : Option Nat
  c : Nat
  sp : List Value
  l : List (List (BitVec 8))
def tx0 : Tx := ⟨none, 0, [], []⟩
/-- both ends, the three pairs of rows -/
structure Sv (z : Nat) (u v : En) (wa wb sa sb ca cb : Tx) : Prop where
  ha : Half z (abs u) wa.l sa.l ca.l sb.l
  hb : Half z (abs v) wb.l sb.l cb.l sa.l
  t0 : Sl ET wa.key wa.l wa.c wa.sp
  t1 : Sl ET wb.key wb.l wb.c wb.sp
  t2 : Sl ET sa.key sa.l sa.c sa.sp
  t3 : Sl ET sb.key sb.l sb.c sb.sp
  t4 : Sl ET ca.key ca.l ca.c ca.sp
  t5 : Sl ET cb.key cb.l cb.c cb.sp
theorem sv0_ok : Sv 0 en0 en0 tx0 tx0 tx0 tx0 tx0 tx0 := ⟨Half.zero, Half.zero, Sl.none, Sl.none, Sl.none, Sl.none, Sl.none, Sl.none⟩
theorem came_nil {s : St} (h : s.came = []) : { s with came := s.came.drop 1 } = s := by
  obtain ⟨q, n, a, b, w, c, o, d⟩ := s
  obtain rfl : c = [] := h
  rfl
theorem came_gone {s : St} (h : ¬ 0 < s.came.length) : ({ s with came := s.came.drop 1 } : St).came = [] := by
  show s.came.drop 1 = []
  rw [List.eq_nil_of_length_eq_zero (by omega : s.came.length = 0)]; rfl
theorem hand_lt (p : List (BitVec 8)) (s : St) : s.came.length < (hand true p s).came.length := by
  show _ < ([p] ++ s.came).length
  rw [List.length_append, List.length_singleton]; omega
def fr0 : Fr := ⟨none, [], 0, []⟩
theorem fr0_ok : fr0.ok := Sl.none
end Go.Proofs.YtpmmhpgfbfehmaaDoor.Lk
