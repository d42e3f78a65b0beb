/- What the claim has need of: CircMean, CircMk, CircMl, CircMz, AesRefSpec, AesPlain, AesRefTab, AesRefPlain, VcOpen, GarbMade, VcOpenS. -/
import Derived.Test.YteofdmdpaejgaaaDoorGx1
import Derived.ProofKit
import Derived.OpenShut
import Derived.ShutString
import Derived.ChangeOld
import Derived.Deep.Slices
import Derived.SizedLaws
namespace Go.Proofs.YteofdmdpaejgaaaDoor.Circ
open Go Go.Proofs.YteofdmdpaejgaaaDoor.Vc
def wok (n : Nat) (gs : List Gt) (w : Int) : Prop := 0 ≤ w ∧ w < ((n + gs.length : Nat) : Int)
def Fine (n : Nat) (gs : List Gt) : Prop := ∀ i, i < gs.length → gokP (gs.getD i g0) ((n + i : Nat) : Int)
/-- the bit of a wire -/
def Vb (inp : List Bool) (gs : List Gt) (w : Int) : Bool := (wS gs inp gs.length).getD w.toNat false
theorem wS_app (gs h : List Gt) (inp : List Bool) (i : Nat) (hi : i ≤ gs.length) : wS (gs ++ h) inp i = wS gs inp i := by
  induction i with
  | zero => rfl
  | succ i ih =>
    rw [wS, wS, ih (by omega)]
    have : (gs ++ h).getD i g0 = gs.getD i g0 := by
      rw [List.getD_eq_getElem?_getD, List.getD_eq_getElem?_getD, List.getElem?_append_left (by omega)]
    rw [this]
theorem wS_snoc (gs : List Gt) (g : Gt) (inp : List Bool) : wS (gs ++ [g]) inp (gs ++ [g]).length = wS gs inp gs.length ++ [gval g (wS gs inp gs.length)] := by
  rw [List.length_append]
  show wS (gs ++ [g]) inp (gs.length + 1) = _
  rw [wS, wS_app _ _ _ _ (Nat.le_refl _)]
  have : (gs ++ [g]).getD gs.length g0 = g := by
    rw [List.getD_eq_getElem?_getD, List.getElem?_append_right (Nat.le_refl _), Nat.sub_self]; rfl
  rw [this]
section
variable {n : Nat} {inp : List Bool} {gs gs' gs2 : List Gt} {g : Gt} {w a b c s : Int}
theorem Vb_lo (hi : inp.length = n) (h : wok n gs w) : Vb inp (gs ++ [g]) w = Vb inp gs w := by
  unfold Vb
  rw [wS_snoc, List.getD_eq_getElem?_getD, List.getD_eq_getElem?_getD, List.getElem?_append_left]
  rw [wS_len]; have := h.1; have := h.2; omega
theorem Vb_new (hi : inp.length = n) : Vb inp (gs ++ [g]) (wrW n gs) = gval g (wS gs inp gs.length) := by
  unfold Vb wrW
  rw [wS_snoc, List.getD_eq_getElem?_getD, List.getElem?_append_right (by rw [wS_len]; omega), wS_len, show ((n + gs.length : Nat) : Int).toNat - (inp.length + gs.length) = 0 by omega]
  rfl
theorem getD_lo {α : Type} (l m : List α) (j : Nat) (z : α) (hj : j < l.length) : (l ++ m).getD j z = l.getD j z := by
  rw [List.getD_eq_getElem?_getD, List.getD_eq_getElem?_getD, List.getElem?_append_left hj]
theorem getD_hi {α : Type} (l : List α) (x z : α) (j : Nat) (hj : j = l.length) : (l ++ [x]).getD j z = x := by
  subst hj; rw [List.getD_eq_getElem?_getD, List.getElem?_append_right (Nat.le_refl _), Nat.sub_self]; rfl
theorem ands_app (h : List Gt) (i : Nat) (hi : i ≤ gs.length) : andsS (gs ++ h) i = andsS gs i := by
  induction i with
  | zero => rfl
  | succ i ih => rw [andsS, andsS, ih (by omega), getD_lo _ _ _ _ (by omega)]
/-- what becomes of a circuit that grows -/
structure Gr (n : Nat) (inp : List Bool) (gs gs' : List Gt) (k : Nat) : Prop where
  fine : Fine n gs'
  wok : ∀ w, wok n gs w → wok n gs' w
  val : ∀ w, Circ.wok n gs w → Vb inp gs' w = Vb inp gs w
  ands : andsS gs' gs'.length ≤ andsS gs gs.length + k
theorem Gr.refl (h : Fine n gs) : Gr n inp gs gs 0 := ⟨h, fun _ h => h, fun _ _ => rfl, Nat.le_refl _⟩
theorem Gr.trans {k l : Nat} (h : Gr n inp gs gs' k) (h2 : Gr n inp gs' gs2 l) : Gr n inp gs gs2 (k + l) :=
  ⟨h2.fine, fun w hw => h2.wok w (h.wok w hw), fun w hw => (h2.val w (h.wok w hw)).trans (h.val w hw), by have := h.ands; have := h2.ands; omega⟩
theorem Gr.le {k l : Nat} (h : Gr n inp gs gs' k) (hk : k ≤ l) : Gr n inp gs gs' l := ⟨h.fine, h.wok, h.val, Nat.le_trans h.ands (by omega)⟩
theorem Gr.gate (hi : inp.length = n) (h : Fine n gs) (hg : gokP g ((n + gs.length : Nat) : Int)) : Gr n inp gs (gs ++ [g]) (if g.k = 2 then 1 else 0) := by
  refine ⟨fun i hl => ?_, fun w hw => ⟨hw.1, ?_⟩, fun w hw => Vb_lo hi hw, ?_⟩
  · rw [List.length_append] at hl
    have hl : i < gs.length + 1 := hl
    by_cases e : i < gs.length
    · rw [getD_lo _ _ _ _ e]; exact h i e
    · obtain rfl : i = gs.length := by omega
      rw [getD_hi _ _ _ _ rfl]; exact hg
  · have := hw.2
    rw [List.length_append]; show w < ((n + (gs.length + 1) : Nat) : Int); omega
  · rw [List.length_append]
    show andsS (gs ++ [g]) (gs.length + 1) ≤ _
    rw [andsS, ands_app _ _ (Nat.le_refl _), getD_hi _ _ _ _ rfl]
    split <;> omega
theorem new_ok : wok n (gs ++ [g]) (wrW n gs) := by
  unfold wok wrW
  rw [List.length_append]
  show _ ∧ _ < ((n + (gs.length + 1) : Nat) : Int)
  omega
theorem gok1 (ha : wok n gs a) (hb : wok n gs b) : gokP ⟨1, a, b⟩ ((n + gs.length : Nat) : Int) := ⟨ha.1, ha.2, .inl ⟨.inl rfl, hb.1, hb.2⟩⟩
theorem gok2 (ha : wok n gs a) (hb : wok n gs b) : gokP ⟨2, a, b⟩ ((n + gs.length : Nat) : Int) := ⟨ha.1, ha.2, .inl ⟨.inr rfl, hb.1, hb.2⟩⟩
theorem gok3 (ha : wok n gs a) : gokP ⟨3, a, 0⟩ ((n + gs.length : Nat) : Int) := ⟨ha.1, ha.2, .inr ⟨rfl, rfl⟩⟩
theorem gate1 (hi : inp.length = n) (h : Fine n gs) (ha : wok n gs a) (hb : wok n gs b) : Gr n inp gs (gs ++ [⟨1, a, b⟩]) 0 ∧ Vb inp (gs ++ [⟨1, a, b⟩]) (wrW n gs) = (Vb inp gs a != Vb inp gs b) :=
  ⟨Gr.gate hi h (gok1 ha hb), by rw [Vb_new hi]; rfl⟩
theorem gate2 (hi : inp.length = n) (h : Fine n gs) (ha : wok n gs a) (hb : wok n gs b) : Gr n inp gs (gs ++ [⟨2, a, b⟩]) 1 ∧ Vb inp (gs ++ [⟨2, a, b⟩]) (wrW n gs) = (Vb inp gs a && Vb inp gs b) :=
  ⟨Gr.gate hi h (gok2 ha hb), by rw [Vb_new hi]; rfl⟩
theorem gate3 (hi : inp.length = n) (h : Fine n gs) (ha : wok n gs a) : Gr n inp gs (gs ++ [⟨3, a, 0⟩]) 0 ∧ Vb inp (gs ++ [⟨3, a, 0⟩]) (wrW n gs) = !Vb inp gs a :=
  ⟨Gr.gate hi h (gok3 ha), by rw [Vb_new hi]; rfl⟩
theorem most (x y z : Bool) : (z != ((x != z) && (y != z))) = Bool.atLeastTwo x y z := by cases x <;> cases y <;> cases z <;> rfl
theorem ca_ok (hi : inp.length = n) (h : Fine n gs) (ha : wok n gs a) (hb : wok n gs b) (hc : wok n gs c) :
    Gr n inp gs (caG n gs a b c) 1 ∧ wok n (caG n gs a b c) (caW n gs) ∧ Vb inp (caG n gs a b c) (caW n gs) = Bool.atLeastTwo (Vb inp gs a) (Vb inp gs b) (Vb inp gs c) := by
  obtain ⟨g1, v1⟩ := gate1 hi h ha hc
  obtain ⟨g2, v2⟩ := gate1 hi g1.fine (g1.wok _ hb) (g1.wok _ hc)
  obtain ⟨g3, v3⟩ := gate2 hi g2.fine (g2.wok _ new_ok) new_ok
  obtain ⟨g4, v4⟩ := gate1 hi g3.fine (g3.wok _ (g2.wok _ (g1.wok _ hc))) new_ok
  have hw : caW n gs = wrW n (gs ++ [⟨1, a, c⟩] ++ [⟨1, b, c⟩] ++ [⟨2, wrW n gs, wrW n (gs ++ [⟨1, a, c⟩])⟩]) := by
    unfold caW wrW; simp only [List.length_append, List.length_cons, List.length_nil]
  have e : caG n gs a b c = gs ++ [⟨1, a, c⟩] ++ [⟨1, b, c⟩] ++ [⟨2, wrW n gs, wrW n (gs ++ [⟨1, a, c⟩])⟩] ++ [⟨1, c, wrW n (gs ++ [⟨1, a, c⟩] ++ [⟨1, b, c⟩])⟩] := rfl
  rw [e, hw]
  refine ⟨((g1.trans g2).trans g3).trans g4, new_ok, ?_⟩
  rw [v4, v3, g3.val _ (g2.wok _ (g1.wok _ hc)), g2.val _ (g1.wok _ hc), g1.val _ hc, v2, g2.val _ new_ok, v1, g1.val _ hb, g1.val _ hc, most]
/-- a row's wires hold a word's first i bits -/
def Rw (n : Nat) (inp : List Bool) (gs : List Gt) (r : List Int) (X : BitVec 64) (i : Nat) : Prop := ∀ j, j < i → wok n gs (r.getD j 0) ∧ Vb inp gs (r.getD j 0) = X.getLsbD j
variable {A B X : BitVec 64} {ra rb r : List Int} {i k : Nat}
theorem Rw.gr (h : Rw n inp gs r X i) (g : Gr n inp gs gs' k) : Rw n inp gs' r X i := fun j hj => ⟨g.wok _ (h j hj).1, (g.val _ (h j hj).1).trans (h j hj).2⟩
theorem Rw.snoc (h : Rw n inp gs r X i) (hl : r.length = i) (hw : wok n gs w) (hv : Vb inp gs w = X.getLsbD i) : Rw n inp gs (r ++ [w]) X (i + 1) := fun j hj => by
  by_cases e : j < i
  · rw [getD_lo _ _ _ _ (by omega)]; exact h j e
  · obtain rfl : j = i := by omega
    rw [getD_hi _ _ _ _ hl.symm]; exact ⟨hw, hv⟩
theorem Rw.nil : Rw n inp gs r X 0 := fun _ h => absurd h (Nat.not_lt_zero _)
theorem xo_ok (hi : inp.length = n) (h : Fine n gs) (ha : Rw n inp gs ra A 64) (hb : Rw n inp gs rb B 64) (i : Nat) (hi64 : i ≤ 64) :
    Gr n inp gs (xoS n gs ra rb i).1 0 ∧ Rw n inp (xoS n gs ra rb i).1 (xoS n gs ra rb i).2 (A ^^^ B) i := by
  induction i with
  | zero => exact ⟨Gr.refl h, Rw.nil⟩
  | succ i ih =>
    obtain ⟨g, hr⟩ := ih (by omega)
    have a1 := ha.gr g i (by omega); have b1 := hb.gr g i (by omega)
    obtain ⟨g1, v1⟩ := gate1 hi g.fine a1.1 b1.1
    rw [xoS]
    refine ⟨g.trans g1, (hr.gr g1).snoc (xoS_len _ _ _ _ _).2 new_ok ?_⟩
    rw [v1, a1.2, b1.2, BitVec.getLsbD_xor]
theorem adP_ok (hi : inp.length = n) (h : Fine n gs) (ha : wok n gs a) (hb : wok n gs b) (hc : wok n gs c) :
    Gr n inp gs (adP n gs a b c) 0 ∧ wok n (adP n gs a b c) (wrW n (gs ++ [⟨1, a, b⟩])) ∧ Vb inp (adP n gs a b c) (wrW n (gs ++ [⟨1, a, b⟩])) = (Vb inp gs a ^^ (Vb inp gs b ^^ Vb inp gs c)) := by
  obtain ⟨g1, v1⟩ := gate1 hi h ha hb
  obtain ⟨g2, v2⟩ := gate1 hi g1.fine new_ok (g1.wok _ hc)
  refine ⟨g1.trans g2, new_ok, ?_⟩
  unfold adP
  rw [v2, v1, g1.val _ hc]
  cases Vb inp gs a <;> cases Vb inp gs b <;> cases Vb inp gs c <;> rfl
theorem ad_ok (hi : inp.length = n) (h : Fine n gs) (ha : Rw n inp gs ra A 64) (hb : Rw n inp gs rb B 64) (i : Nat) (hi64 : i ≤ 63) :
    Gr n inp gs (adS n gs ra rb i).1 (i + 1) ∧ Rw n inp (adS n gs ra rb i).1 (adS n gs ra rb i).2.1 (A + B) (i + 1) ∧
    (i < 63 → wok n (adS n gs ra rb i).1 (adS n gs ra rb i).2.2 ∧ Vb inp (adS n gs ra rb i).1 (adS n gs ra rb i).2.2 = BitVec.carry (i + 1) A B false) := by
  induction i with
  | zero =>
    have a1 := ha 0 (by omega); have b1 := hb 0 (by omega)
    obtain ⟨g1, v1⟩ := gate1 hi h a1.1 b1.1
    obtain ⟨g2, v2⟩ := gate2 hi g1.fine (g1.wok _ a1.1) (g1.wok _ b1.1)
    rw [adS]
    refine ⟨g1.trans g2, ?_, fun _ => ⟨new_ok, ?_⟩⟩
    · refine Rw.snoc (r := []) Rw.nil rfl (g2.wok _ new_ok) ?_
      rw [g2.val _ new_ok, v1, a1.2, b1.2, BitVec.getLsbD_add (by omega)]
      simp [BitVec.carry_zero]
    · show Vb inp _ _ = _
      rw [v2, g1.val _ a1.1, g1.val _ b1.1, a1.2, b1.2, BitVec.carry_succ, BitVec.carry_zero]
      cases A.getLsbD 0 <;> cases B.getLsbD 0 <;> rfl
  | succ i ih =>
    obtain ⟨g, hr, hc⟩ := ih (by omega)
    obtain ⟨hc1, hc2⟩ := hc (by omega)
    have a1 := ha.gr g (i + 1) (by omega); have b1 := hb.gr g (i + 1) (by omega)
    obtain ⟨g1, w1, v1⟩ := adP_ok hi g.fine a1.1 b1.1 hc1
    have hl := (adS_len n gs ra rb i).2
    have hv : Vb inp (adP n (adS n gs ra rb i).1 (ra.getD (i + 1) 0) (rb.getD (i + 1) 0) (adS n gs ra rb i).2.2) (wrW n ((adS n gs ra rb i).1 ++ [⟨1, ra.getD (i + 1) 0, rb.getD (i + 1) 0⟩])) = (A + B).getLsbD (i + 1) := by
      rw [v1, a1.2, b1.2, hc2, BitVec.getLsbD_add (by omega)]
    rw [adS]
    split
    · obtain ⟨g2, w2, v2⟩ := ca_ok hi g1.fine (g1.wok _ a1.1) (g1.wok _ b1.1) (g1.wok _ hc1)
      refine ⟨((g.trans g1).trans g2).le (by omega), ?_, fun _ => ⟨w2, ?_⟩⟩
      · exact (((hr.gr g1).gr g2).snoc hl (g2.wok _ w1) (by rw [g2.val _ w1]; exact hv))
      · show Vb inp (caG _ _ _ _ _) _ = _
        rw [v2, g1.val _ a1.1, g1.val _ b1.1, g1.val _ hc1, a1.2, b1.2, hc2, BitVec.carry_succ (i + 1)]
    · refine ⟨(g.trans g1).le (by omega), (hr.gr g1).snoc hl w1 hv, fun h => by omega⟩
/-! ### less -/
def lsS (x y : BitVec 64) : Bool := decide (x + 9223372036854775808#64 < y + 9223372036854775808#64)
theorem top_bit (x : BitVec 64) (j : Nat) (hj : j < 64) : (x + 9223372036854775808#64).getLsbD j = (x.getLsbD j ^^ decide (j = 63)) := by
  rw [BitVec.getLsbD_add hj, show (9223372036854775808#64 : BitVec 64) = 1#64 <<< 63 by decide, one_shl _ _ (by omega)]
  have : BitVec.carry j x (1#64 <<< 63) false = false := by
    unfold BitVec.carry
    have h1 : (1#64 <<< 63 : BitVec 64).toNat = 2 ^ 63 := by decide
    have h2 : 2 ^ 63 % 2 ^ j = 0 := Nat.mod_eq_zero_of_dvd (Nat.pow_dvd_pow 2 (by omega))
    have h3 : x.toNat % 2 ^ j < 2 ^ j := Nat.mod_lt _ (Nat.two_pow_pos j)
    rw [h1, h2]
    simp; omega
  rw [this]; simp
theorem less_carry (x y : BitVec 64) : BitVec.carry 64 (~~~(x + 9223372036854775808#64)) (y + 9223372036854775808#64) false = lsS x y := by
  unfold BitVec.carry lsS
  rw [BitVec.toNat_not]
  have h1 := (x + 9223372036854775808#64).isLt
  have h2 := (y + 9223372036854775808#64).isLt
  rw [decide_eq_decide, BitVec.lt_def]
  simp only [Bool.toNat_false]
  rw [Nat.mod_eq_of_lt h2, Nat.mod_eq_of_lt (by omega)]
  omega
theorem le_ok (hi : inp.length = n) (h : Fine n gs) (ha : Rw n inp gs ra A 64) (hb : Rw n inp gs rb B 64) (i : Nat) (hi64 : i ≤ 62) :
    Gr n inp gs (leS n gs ra rb i).1 (i + 1) ∧ wok n (leS n gs ra rb i).1 (leS n gs ra rb i).2 ∧
    Vb inp (leS n gs ra rb i).1 (leS n gs ra rb i).2 = BitVec.carry (i + 1) (~~~(A + 9223372036854775808#64)) (B + 9223372036854775808#64) false := by
  have hA : ∀ j, j < 63 → (~~~(A + 9223372036854775808#64)).getLsbD j = !A.getLsbD j := fun j hj => by
    rw [BitVec.getLsbD_not, top_bit _ _ (by omega)]
    simp [show j < 64 by omega, show j ≠ 63 by omega]
  have hB : ∀ j, j < 63 → (B + 9223372036854775808#64).getLsbD j = B.getLsbD j := fun j hj => by
    rw [top_bit _ _ (by omega)]
    simp [show j ≠ 63 by omega]
  induction i with
  | zero =>
    have a1 := ha 0 (by omega); have b1 := hb 0 (by omega)
    obtain ⟨g1, v1⟩ := gate3 hi h a1.1
    obtain ⟨g2, v2⟩ := gate2 hi g1.fine new_ok (g1.wok _ b1.1)
    rw [leS]
    refine ⟨g1.trans g2, new_ok, ?_⟩
    show Vb inp _ _ = _
    rw [v2, v1, g1.val _ b1.1, a1.2, b1.2, BitVec.carry_succ, BitVec.carry_zero, hA 0 (by omega), hB 0 (by omega)]
    cases A.getLsbD 0 <;> cases B.getLsbD 0 <;> rfl
  | succ i ih =>
    obtain ⟨g, hc1, hc2⟩ := ih (by omega)
    have a1 := ha.gr g (i + 1) (by omega); have b1 := hb.gr g (i + 1) (by omega)
    obtain ⟨g1, v1⟩ := gate3 hi g.fine a1.1
    obtain ⟨g2, w2, v2⟩ := ca_ok hi g1.fine new_ok (g1.wok _ b1.1) (g1.wok _ hc1)
    rw [leS]
    refine ⟨((g.trans g1).trans g2).le (by omega), w2, ?_⟩
    show Vb inp (caG _ _ _ _ _) _ = _
    rw [v2, v1, g1.val _ b1.1, g1.val _ hc1, a1.2, b1.2, hc2, BitVec.carry_succ (i + 1), hA _ (by omega), hB _ (by omega)]
theorem leG_ok (hi : inp.length = n) (h : Fine n gs) (ha : Rw n inp gs ra A 64) (hb : Rw n inp gs rb B 64) :
    Gr n inp gs (leG n gs ra rb).1 64 ∧ wok n (leG n gs ra rb).1 (leG n gs ra rb).2 ∧ Vb inp (leG n gs ra rb).1 (leG n gs ra rb).2 = lsS A B := by
  obtain ⟨g, hc1, hc2⟩ := le_ok hi h ha hb 62 (by omega)
  have a1 := ha.gr g 63 (by omega); have b1 := hb.gr g 63 (by omega)
  obtain ⟨g1, v1⟩ := gate3 hi g.fine b1.1
  obtain ⟨g2, w2, v2⟩ := ca_ok hi g1.fine (g1.wok _ a1.1) new_ok (g1.wok _ hc1)
  rw [leG]
  refine ⟨((g.trans g1).trans g2).le (by omega), w2, ?_⟩
  show Vb inp (caG _ _ _ _ _) _ = _
  rw [v2, v1, g1.val _ a1.1, g1.val _ hc1, a1.2, b1.2, hc2, ← less_carry, BitVec.carry_succ 63, BitVec.getLsbD_not, top_bit _ _ (by omega), top_bit _ _ (by omega)]
  simp
theorem pi_ok (hi : inp.length = n) (h : Fine n gs) (hs : wok n gs s) (ha : Rw n inp gs ra A 64) (hb : Rw n inp gs rb B 64) (i : Nat) (hi64 : i ≤ 64) :
    Gr n inp gs (piS n gs s ra rb i).1 i ∧ Rw n inp (piS n gs s ra rb i).1 (piS n gs s ra rb i).2 (if Vb inp gs s = true then A else B) i := by
  induction i with
  | zero => exact ⟨Gr.refl h, Rw.nil⟩
  | succ i ih =>
    obtain ⟨g, hr⟩ := ih (by omega)
    have a1 := ha.gr g i (by omega); have b1 := hb.gr g i (by omega); have s1 := g.wok _ hs
    obtain ⟨g1, v1⟩ := gate1 hi g.fine a1.1 b1.1
    obtain ⟨g2, v2⟩ := gate2 hi g1.fine (g1.wok _ s1) new_ok
    obtain ⟨g3, v3⟩ := gate1 hi g2.fine (g2.wok _ (g1.wok _ b1.1)) new_ok
    rw [piS]
    refine ⟨(((g.trans g1).trans g2).trans g3).le (by omega), ((((hr.gr g1).gr g2).gr g3)).snoc (piS_len _ _ _ _ _ _).2 new_ok ?_⟩
    show Vb inp _ _ = _
    unfold piP
    rw [v3, v2, v1, g2.val _ (g1.wok _ b1.1), g1.val _ b1.1, g1.val _ s1, g.val _ hs, a1.2, b1.2]
    cases Vb inp gs s <;> cases h1 : A.getLsbD i <;> cases h2 : B.getLsbD i <;> simp [h1, h2]
theorem re_ok (hi : inp.length = n) (h : Fine n gs) (hs : wok n gs s) (ha : Rw n inp gs ra A 64) (i : Nat) (hi64 : i ≤ 64) :
    Gr n inp gs (reS n gs s ra i).1 i ∧ Rw n inp (reS n gs s ra i).1 (reS n gs s ra i).2 (if Vb inp gs s = true then A else 0#64) i := by
  induction i with
  | zero => exact ⟨Gr.refl h, Rw.nil⟩
  | succ i ih =>
    obtain ⟨g, hr⟩ := ih (by omega)
    have a1 := ha.gr g i (by omega); have s1 := g.wok _ hs
    obtain ⟨g1, v1⟩ := gate2 hi g.fine s1 a1.1
    rw [reS]
    refine ⟨(g.trans g1).le (by omega), (hr.gr g1).snoc (reS_len _ _ _ _ _).2 new_ok ?_⟩
    rw [v1, g.val _ hs, a1.2]
    cases Vb inp gs s <;> simp
/-! ### the inputs -/
theorem wS_inp (gs : List Gt) (inp : List Bool) (i j : Nat) (hj : j < inp.length) : (wS gs inp i).getD j false = inp.getD j false := by
  induction i with
  | zero => rfl
  | succ i ih => rw [wS, getD_lo _ _ _ _ (by rw [wS_len]; omega)]; exact ih
theorem inW_at (p i j : Nat) (hj : j < i) : (inW p i).getD j 0 = ((p + j : Nat) : Int) := by
  induction i with
  | zero => omega
  | succ i ih =>
    rw [inW]
    by_cases e : j < i
    · rw [getD_lo _ _ _ _ (by rw [inW_len]; exact e)]; exact ih e
    · obtain rfl : j = i := by omega
      rw [getD_hi _ _ _ _ (inW_len _ _).symm]
theorem in_ok (hi : inp.length = n) {p : Nat} (hp : p + 64 ≤ n) (hx : ∀ j, j < 64 → inp.getD (p + j) false = X.getLsbD j) : Rw n inp gs (inW p 64) X 64 := fun j hj => by
  rw [inW_at _ _ _ hj]
  refine ⟨⟨by omega, by omega⟩, ?_⟩
  unfold Vb
  rw [Int.toNat_natCast, wS_inp _ _ _ _ (by omega)]; exact hx j hj
/-- what two shares say -/
def whS (x : Bool) (a b : BitVec 64) : BitVec 64 := if x = true then a ^^^ b else a + b
theorem op_ok (hi : inp.length = n) (h : Fine n gs) {p q : Nat} (hp : p + 64 ≤ n) (hq : q + 64 ≤ n) (hA : ∀ j, j < 64 → inp.getD (p + j) false = A.getLsbD j) (hB : ∀ j, j < 64 → inp.getD (q + j) false = B.getLsbD j) (x : Bool) :
    Gr n inp gs (opS n gs p q x).1 64 ∧ Rw n inp (opS n gs p q x).1 (opS n gs p q x).2 (whS x A B) 64 := by
  unfold opS whS
  split
  · obtain ⟨g, hr⟩ := xo_ok hi h (in_ok (X := A) (gs := gs) hi hp hA) (in_ok (X := B) (gs := gs) hi hq hB) 64 (by omega)
    exact ⟨g.le (by omega), hr⟩
  · obtain ⟨g, hr, _⟩ := ad_ok hi h (in_ok (X := A) (gs := gs) hi hp hA) (in_ok (X := B) (gs := gs) hi hq hB) 63 (by omega)
    exact ⟨g, hr⟩
theorem ze_ok (hi : inp.length = n) (hn : 0 < n) (h : Fine n gs) : Gr n inp gs (ze gs) 0 ∧ wok n (ze gs) (wrW n gs) ∧ Vb inp (ze gs) (wrW n gs) = false := by
  have h0 : wok n gs 0 := ⟨by omega, by omega⟩
  obtain ⟨g, v⟩ := gate1 hi h h0 h0
  exact ⟨g, new_ok, by unfold ze; rw [v]; simp⟩
/-- what is known of a circuit that answers -/
structure Answers (n : Nat) (inp : List Bool) (m : List Gt × List Int) (X : BitVec 64) : Prop where
  is : IsC (n : Nat) m.1 m.2
  outs : m.2.length = 64
  ands : andsS m.1 m.1.length ≤ 300
  says : wordS (evalS m.1 m.2 inp) 64 = X
theorem oS_get (w : List Bool) (os : List Int) (i j : Nat) (hj : j < i) : (oS w os i).getD j false = w.getD (os.getD j 0).toNat false := by
  induction i with
  | zero => omega
  | succ i ih =>
    rw [oS]
    by_cases e : j < i
    · rw [getD_lo _ _ _ _ (by rw [oS_len]; exact e)]; exact ih e
    · obtain rfl : j = i := by omega
      rw [getD_hi _ _ _ _ (oS_len _ _ _).symm]
theorem Answers.of {m : List Gt × List Int} (hn : n ≤ 4096) (g : Gr n inp [] m.1 k) (hk : k ≤ 300) (hl : m.1.length ≤ 4096) (ho : m.2.length = 64) (hr : Rw n inp m.1 m.2 X 64) : Answers n inp m X := by
  refine ⟨⟨by omega, by omega, hl, by omega, fun i h => ?_, fun i h => ?_⟩, ho, ?_, ?_⟩
  · have := g.fine i h
    rwa [show ((n + i : Nat) : Int) = (n : Int) + (i : Nat) by omega] at this
  · have h2 := (hr i (by omega)).1
    exact ⟨h2.1, by have := h2.2; omega⟩
  · have := g.ands
    have e : andsS ([] : List Gt) ([] : List Gt).length = 0 := rfl
    omega
  · apply BitVec.eq_of_getLsbD_eq
    intro p hp
    rw [wordS_bit _ _ _ (Nat.le_refl _), evalS, oS_get _ _ _ _ (by omega)]
    have := (hr p hp).2
    unfold Vb at this
    rw [this]; simp [hp]
/-- what a garbled operation makes of its operands -/
def saysS (kd : Nat) (x y : BitVec 64) : BitVec 64 :=
  if kd = 1 then (if lsS x 0#64 = true then 0#64 else x) else if kd = 2 then (if lsS x y = true then 1#64 else 0#64) else (if lsS x y = true then y else x)
theorem fine0 : Fine n [] := fun _ h => absurd h (Nat.not_lt_zero _)
theorem ls_zero (x : BitVec 64) : lsS x 0#64 = x.getLsbD 63 := by
  have h := top_bit x 63 (by omega)
  have e : x.getLsbD 63 = !(x + 9223372036854775808#64).getLsbD 63 := by rw [h]; simp
  rw [e]
  unfold lsS
  rw [BitVec.zero_add]
  generalize x + 9223372036854775808#64 = y
  have hy : y.getLsbD 63 = decide (2 ^ 63 ≤ y.toNat) := by
    have h2 : y.getLsbD 63 = y.msb := by rw [BitVec.msb_eq_getLsbD_last]
    rw [h2, BitVec.msb_eq_decide]
  have h2 : y < 9223372036854775808#64 ↔ ¬ 2 ^ 63 ≤ y.toNat := by
    rw [BitVec.lt_def]
    have : (9223372036854775808#64 : BitVec 64).toNat = 2 ^ 63 := by decide
    rw [this]; omega
  rw [hy, decide_eq_decide.2 h2, decide_not]
theorem mk1_eq (x : Bool) : mk1 x = ((reS 128 (ze (opS 128 [] 0 64 x).1 ++ [⟨3, (opS 128 [] 0 64 x).2.getD 63 0, 0⟩]) (wrW 128 (ze (opS 128 [] 0 64 x).1)) (opS 128 [] 0 64 x).2 63).1, (reS 128 (ze (opS 128 [] 0 64 x).1 ++ [⟨3, (opS 128 [] 0 64 x).2.getD 63 0, 0⟩]) (wrW 128 (ze (opS 128 [] 0 64 x).1)) (opS 128 [] 0 64 x).2 63).2 ++ [wrW 128 (opS 128 [] 0 64 x).1]) := rfl
theorem mk1_ok (hi : inp.length = 128) (hA : ∀ j, j < 64 → inp.getD (0 + j) false = A.getLsbD j) (hB : ∀ j, j < 64 → inp.getD (64 + j) false = B.getLsbD j) (x : Bool) : Answers 128 inp (mk1 x) (saysS 1 (whS x A B) 0#64) := by
  obtain ⟨g, hr⟩ := op_ok (n := 128) hi fine0 (p := 0) (q := 64) (by omega) (by omega) hA hB x
  obtain ⟨g0, w0, v0⟩ := ze_ok hi (by omega) g.fine
  have hr0 := hr.gr g0
  obtain ⟨g1, v1⟩ := gate3 hi g0.fine (hr0 63 (by omega)).1
  obtain ⟨g2, hr2⟩ := re_ok hi g1.fine new_ok (hr0.gr g1) 63 (by omega)
  have w3 := g2.wok _ (g1.wok _ w0)
  have v3 := (g2.val _ (g1.wok _ w0)).trans ((g1.val _ w0).trans v0)
  have l1 := opS_len 128 [] 0 64 x
  have l2 := reS_len 128 (ze (opS 128 [] 0 64 x).1 ++ [⟨3, (opS 128 [] 0 64 x).2.getD 63 0, 0⟩]) (wrW 128 (ze (opS 128 [] 0 64 x).1)) (opS 128 [] 0 64 x).2 63
  have l3 : (ze (opS 128 [] 0 64 x).1).length = (opS 128 [] 0 64 x).1.length + 1 := by simp [ze]
  have e0 : ([] : List Gt).length = 0 := rfl
  rw [mk1_eq]
  refine Answers.of (k := 64 + 0 + 0 + 63) (by omega) (((g.trans g0).trans g1).trans g2) (by omega) ?_ ?_ ?_
  · dsimp only
    rw [l2.1, List.length_append, l3]; simp only [List.length_cons, List.length_nil]; omega
  · dsimp only
    rw [List.length_append, l2.2]; rfl
  · have hs : (if Vb inp (ze (opS 128 [] 0 64 x).1 ++ [⟨3, (opS 128 [] 0 64 x).2.getD 63 0, 0⟩]) (wrW 128 (ze (opS 128 [] 0 64 x).1)) = true then whS x A B else 0#64) = saysS 1 (whS x A B) 0#64 := by
      rw [v1, (hr0 63 (by omega)).2, saysS, if_pos rfl, ls_zero]
      cases (whS x A B).getLsbD 63 <;> rfl
    rw [hs] at hr2
    refine hr2.snoc l2.2 w3 ?_
    rw [v3, saysS, if_pos rfl, ls_zero]
    cases h : (whS x A B).getLsbD 63
    · rw [if_neg (by simp), h]
    · rw [if_pos rfl]; simp
variable {A2 B2 : BitVec 64}
theorem le2_ok (hi : inp.length = 256) (hA : ∀ j, j < 64 → inp.getD (0 + j) false = A.getLsbD j) (hB : ∀ j, j < 64 → inp.getD (64 + j) false = B.getLsbD j) (hA2 : ∀ j, j < 64 → inp.getD (128 + j) false = A2.getLsbD j) (hB2 : ∀ j, j < 64 → inp.getD (192 + j) false = B2.getLsbD j) (x y : Bool) :
    Gr 256 inp [] (le2 x y).1 192 ∧ (le2 x y).1.length ≤ 1200 ∧ wok 256 (le2 x y).1 (le2 x y).2 ∧ Vb inp (le2 x y).1 (le2 x y).2 = lsS (whS x A B) (whS y A2 B2) ∧ wok 256 (le2 x y).1 (wrW 256 (op2 x y).1) ∧ Vb inp (le2 x y).1 (wrW 256 (op2 x y).1) = false ∧
    Rw 256 inp (le2 x y).1 (opS 256 [] 0 64 x).2 (whS x A B) 64 ∧ Rw 256 inp (le2 x y).1 (op2 x y).2 (whS y A2 B2) 64 := by
  obtain ⟨g, hr⟩ := op_ok (n := 256) hi fine0 (p := 0) (q := 64) (by omega) (by omega) hA hB x
  obtain ⟨g', hr'⟩ := op_ok (n := 256) hi g.fine (p := 128) (q := 192) (by omega) (by omega) hA2 hB2 y
  obtain ⟨g0, w0, v0⟩ := ze_ok hi (by omega) g'.fine
  have r1 := (hr.gr g').gr g0
  have r2 := hr'.gr g0
  obtain ⟨g1, w1, v1⟩ := leG_ok hi g0.fine r1 r2
  have l1 := opS_len 256 [] 0 64 x
  have l2 := opS_len 256 (opS 256 [] 0 64 x).1 128 192 y
  have l3 : (ze (op2 x y).1).length = (op2 x y).1.length + 1 := by simp [ze]
  have e0 : ([] : List Gt).length = 0 := rfl
  have e1 : op2 x y = opS 256 (opS 256 [] 0 64 x).1 128 192 y := rfl
  refine ⟨((g.trans g').trans g0).trans g1, ?_, w1, v1, g1.wok _ w0, (g1.val _ w0).trans v0, r1.gr g1, r2.gr g1⟩
  show (leG _ _ _ _).1.length ≤ _
  rw [leG_len, l3, e1]; omega
theorem mk2_ok (hi : inp.length = 256) (hA : ∀ j, j < 64 → inp.getD (0 + j) false = A.getLsbD j) (hB : ∀ j, j < 64 → inp.getD (64 + j) false = B.getLsbD j) (hA2 : ∀ j, j < 64 → inp.getD (128 + j) false = A2.getLsbD j) (hB2 : ∀ j, j < 64 → inp.getD (192 + j) false = B2.getLsbD j) (x y : Bool) :
    Answers 256 inp (mk2 x y) (saysS 2 (whS x A B) (whS y A2 B2)) := by
  obtain ⟨g, hl, w1, v1, w0, v0, _, _⟩ := le2_ok hi hA hB hA2 hB2 x y
  refine Answers.of (by omega) g (by omega) (Nat.le_trans hl (by omega)) (by simp [mk2]) fun j hj => ?_
  rw [saysS, if_neg (by omega), if_pos rfl, ← v1]
  cases j with
  | zero =>
    refine ⟨w1, ?_⟩
    show Vb inp (le2 x y).1 (le2 x y).2 = _
    cases Vb inp (le2 x y).1 (le2 x y).2 <;> rfl
  | succ j =>
    have e : (mk2 x y).2.getD (j + 1) 0 = wrW 256 (op2 x y).1 := by
      show (List.replicate 63 _).getD j 0 = _
      rw [List.getD_eq_getElem?_getD, List.getElem?_replicate, if_pos (by omega)]; rfl
    rw [e]
    refine ⟨w0, ?_⟩
    show Vb inp (le2 x y).1 _ = _
    rw [v0]
    cases Vb inp (le2 x y).1 (le2 x y).2 <;> simp [BitVec.getLsbD_one]
theorem mk3_ok (hi : inp.length = 256) (hA : ∀ j, j < 64 → inp.getD (0 + j) false = A.getLsbD j) (hB : ∀ j, j < 64 → inp.getD (64 + j) false = B.getLsbD j) (hA2 : ∀ j, j < 64 → inp.getD (128 + j) false = A2.getLsbD j) (hB2 : ∀ j, j < 64 → inp.getD (192 + j) false = B2.getLsbD j) (x y : Bool) :
    Answers 256 inp (mk3 x y) (saysS 3 (whS x A B) (whS y A2 B2)) := by
  obtain ⟨g, hl, w1, v1, _, _, r1, r2⟩ := le2_ok hi hA hB hA2 hB2 x y
  obtain ⟨g2, hr⟩ := pi_ok hi g.fine w1 r2 r1 64 (by omega)
  have l := piS_len 256 (le2 x y).1 (le2 x y).2 (op2 x y).2 (opS 256 [] 0 64 x).2 64
  refine Answers.of (k := 192 + 64) (by omega) (g.trans g2) (by omega) ?_ l.2 ?_
  · show (piS _ _ _ _ _ _).1.length ≤ _
    rw [l.1]; omega
  · rw [v1] at hr
    rw [saysS, if_neg (by omega), if_neg (by omega)]
    exact hr
end
end Go.Proofs.YteofdmdpaejgaaaDoor.Circ
namespace Go.Proofs.YteofdmdpaejgaaaDoor.Circ
open Go Go.Proofs.YteofdmdpaejgaaaDoor.Vc
def fbS (f : BitVec 64) (i : Nat) : Bool := decide ((f >>> i) &&& 1#64 = 1#64)
def opsS (n : Nat) (f : BitVec 64) : Nat → List Gt × List Int
  | 0 => ([], [])
  | i + 1 => ((opS n (opsS n f i).1 (64 * (2 * i)) (64 * (2 * i + 1)) (fbS f i)).1, (opsS n f i).2 ++ (opS n (opsS n f i).1 (64 * (2 * i)) (64 * (2 * i + 1)) (fbS f i)).2)
theorem opsS_one (n : Nat) (f : BitVec 64) : opsS n f 1 = opS n [] 0 64 (fbS f 0) := rfl
theorem opsS_two (n : Nat) (f : BitVec 64) : opsS n f 2 = ((opS n (opS n [] 0 64 (fbS f 0)).1 128 192 (fbS f 1)).1, (opS n [] 0 64 (fbS f 0)).2 ++ (opS n (opS n [] 0 64 (fbS f 0)).1 128 192 (fbS f 1)).2) := rfl
theorem opsS_len (n : Nat) (f : BitVec 64) (i : Nat) : (opsS n f i).1.length ≤ 380 * i ∧ (opsS n f i).2.length = 64 * i := by
  induction i with
  | zero => exact ⟨Nat.le_refl _, rfl⟩
  | succ i ih =>
    have h := opS_len n (opsS n f i).1 (64 * (2 * i)) (64 * (2 * i + 1)) (fbS f i)
    rw [opsS]
    simp only [List.length_append]
    omega
theorem opS_t {n : Nat} {gs : List Gt} {a b i : Nat} {f : BitVec 64} (h : (f >>> i) &&& 1#64 = 1#64) : opS n gs a b (fbS f i) = xoS n gs (inW a 64) (inW b 64) 64 := by
  unfold opS fbS; rw [if_pos (decide_eq_true h)]
theorem opS_f {n : Nat} {gs : List Gt} {a b i : Nat} {f : BitVec 64} (h : ¬ (f >>> i) &&& 1#64 = 1#64) : opS n gs a b (fbS f i) = ((adS n gs (inW a 64) (inW b 64) 63).1, (adS n gs (inW a 64) (inW b 64) 63).2.1) := by
  unfold opS fbS; rw [if_neg (by rw [decide_eq_false h]; exact Bool.false_ne_true)]
/-- two rows of 64, filled from the front -/
def padX (l : List Int) : List Int := l ++ List.replicate (128 - l.length) 0
theorem padX_nil : List.replicate 128 0 = padX [] := rfl
theorem padX_len {l : List Int} (h : l.length ≤ 128) : (padX l).length = 128 := by simp [padX]; omega
theorem padX_full {l : List Int} (h : l.length = 128) : padX l = l := by simp [padX, h]
theorem padX_at {l : List Int} {j : Nat} (h : j < l.length) : (padX l).getD j 0 = l.getD j 0 := getD_lo _ _ _ _ h
theorem padX_put {l r : List Int} {o : Nat} (ho : o = l.length) (hl : l.length + 64 ≤ 128) (hr : r.length = 64) : putR (cel EI (padX l)).toArray o (Value.agg (cel EI r).toArray).cells.toList = (cel EI (padX (l ++ r))).toArray := by
  subst ho
  have e1 : padX l = l ++ List.replicate 64 0 ++ List.replicate (64 - l.length) 0 := by
    rw [padX, List.append_assoc, List.replicate_append_replicate, show 64 + (64 - l.length) = 128 - l.length by omega]
  have e2 : padX (l ++ r) = l ++ r ++ List.replicate (64 - l.length) 0 := by
    rw [padX, List.length_append, hr, show 128 - (l.length + 64) = 64 - l.length by omega]
  have h := putR_append (cel EI l) (cel EI (List.replicate 64 0)) (cel EI r) (cel EI (List.replicate (64 - l.length) 0)) (by rw [cel_length, cel_length, List.length_replicate, hr])
  have h3 : (cel EI l).length = l.length := by rw [cel_length]; exact Nat.mul_one _
  rw [h3, ← cel_append, ← cel_append, ← cel_append, ← cel_append] at h
  rw [e1, e2]
  simpa [Value.cells] using h
theorem first_of {a b : List Int} (h : a.length = 64) : ((a ++ b).drop 0).take 64 = a := by rw [List.drop_zero, List.take_left' h]
theorem second_of {a b : List Int} (h : a.length = 64) (hb : b.length = 64) : ((a ++ b).drop 64).take 64 = b := by rw [List.drop_left' h, ← hb, List.take_length]
theorem padW_rep {z : Int} {i : Nat} (hi : i < 64) : (padW (List.replicate i z)).set i z = padW (List.replicate (i + 1) z) := by
  rw [padW_set z (by simp) hi, List.replicate_succ']
theorem rep_set {z w : Int} : (List.replicate 64 z).set 0 w = w :: List.replicate 63 z := rfl
theorem padW_last {l : List Int} {z : Int} (h : l.length = 63) : (padW l).set 63 z = l ++ [z] := by
  rw [padW_set z h (by omega), padW_full (by rw [List.length_append, h]; rfl)]
theorem mk2_eq {x y : Bool} {o1 o2 : List Gt × List Int} (h1 : o1 = opS 256 [] 0 64 x) (h2 : o2 = opS 256 o1.1 128 192 y) : mk2 x y = ((leG 256 (ze o2.1) o1.2 o2.2).1, (leG 256 (ze o2.1) o1.2 o2.2).2 :: List.replicate 63 (wrW 256 o2.1)) := by subst h1; subst h2; rfl
theorem mk3_eq {x y : Bool} {o1 o2 : List Gt × List Int} (h1 : o1 = opS 256 [] 0 64 x) (h2 : o2 = opS 256 o1.1 128 192 y) : mk3 x y = piS 256 (leG 256 (ze o2.1) o1.2 o2.2).1 (leG 256 (ze o2.1) o1.2 o2.2).2 o2.2 o1.2 64 := by subst h1; subst h2; rfl
end Go.Proofs.YteofdmdpaejgaaaDoor.Circ
namespace Go.Proofs.YteofdmdpaejgaaaDoor.Circ
open Go Go.Proofs.YteofdmdpaejgaaaDoor.Vc
theorem rem_and1 (x : BitVec 64) : x % 2#64 = x &&& 1#64 := by
  apply BitVec.eq_of_toNat_eq; rw [BitVec.toNat_umod, BitVec.toNat_and]; exact (Nat.and_one_is_mod _).symm
theorem fb_rem (f : BitVec 64) (i : Nat) : decide ((f >>> i) % 2#64 = 1#64) = fbS f i := by rw [rem_and1]; rfl
theorem wh_t {f : BitVec 64} {i : Nat} {a b : BitVec 64} (h : (f >>> i) % 2#64 = 1#64) : a ^^^ b = whS (fbS f i) a b := by
  unfold whS; rw [if_pos (by rw [← fb_rem]; exact decide_eq_true h)]
theorem wh_f {f : BitVec 64} {i : Nat} {a b : BitVec 64} (h : ¬ (f >>> i) % 2#64 = 1#64) : a + b = whS (fbS f i) a b := by
  unfold whS; rw [if_neg (by rw [← fb_rem, decide_eq_false h]; exact Bool.false_ne_true)]
theorem ls_one (b : Bool) : decide ((if b = true then 1#64 else 0#64) = 1#64) = b := by cases b <;> rfl
theorem says1_t {x : BitVec 64} (h : lsS x 0#64 = true) {y : BitVec 64} : 0#64 = saysS 1 x y := by unfold saysS; rw [if_pos rfl, if_pos h]
theorem says1_f {x : BitVec 64} (h : lsS x 0#64 = false) {y : BitVec 64} : x = saysS 1 x y := by unfold saysS; rw [if_pos rfl, if_neg (by rw [h]; decide)]
theorem says2 {x y : BitVec 64} : (if lsS x y = true then 1#64 else 0#64) = saysS 2 x y := by simp [saysS]
theorem says3_t {k : Nat} (h1 : k ≠ 1) (h2 : k ≠ 2) {x y : BitVec 64} (h : lsS x y = true) : y = saysS k x y := by unfold saysS; rw [if_neg h1, if_neg h2, if_pos h]
theorem says3_f {k : Nat} (h1 : k ≠ 1) (h2 : k ≠ 2) {x y : BitVec 64} (h : lsS x y = false) : x = saysS k x y := by unfold saysS; rw [if_neg h1, if_neg h2, if_neg (by rw [h]; decide)]
end Go.Proofs.YteofdmdpaejgaaaDoor.Circ
namespace Go.Proofs.YteofdmdpaejgaaaDoor.Circ
open Go Go.Proofs.YteofdmdpaejgaaaDoor.Vc
/-- the bits of words, one word behind the other -/
def inpS (sh : List (BitVec 64)) : Nat → List Bool
  | 0 => []
  | i + 1 => inpS sh i ++ bitsS (sh.getD i 0#64) 64
theorem inpS_len (sh : List (BitVec 64)) (i : Nat) : (inpS sh i).length = 64 * i := by
  induction i with
  | zero => rfl
  | succ i ih => rw [inpS, List.length_append, ih, bitsS_len]; omega
theorem inpS_at (sh : List (BitVec 64)) (k i j : Nat) (hi : i < k) (hj : j < 64) : (inpS sh k).getD (64 * i + j) false = (sh.getD i 0#64).getLsbD j := by
  induction k with
  | zero => omega
  | succ k ih =>
    rw [inpS]
    by_cases e : i < k
    · rw [getD_lo _ _ _ _ (by rw [inpS_len]; omega)]; exact ih e
    · obtain rfl : i = k := by omega
      rw [List.getD_eq_getElem?_getD, List.getElem?_append_right (by rw [inpS_len]; omega), inpS_len, Nat.add_sub_cancel_left, ← List.getD_eq_getElem?_getD, bitsS_at _ _ _ hj, bit_one]
theorem ans1 (sh : List (BitVec 64)) (f : BitVec 64) : Answers 128 (inpS sh (2 * 1)) (mk1 (fbS f 0)) (saysS 1 (whS (fbS f 0) (sh.getD 0 0#64) (sh.getD 1 0#64)) (whS (fbS f 1) (sh.getD 2 0#64) (sh.getD 3 0#64))) := by
  have h := mk1_ok (inp := inpS sh (2 * 1)) (inpS_len sh 2) (fun j hj => inpS_at sh 2 0 j (by omega) hj) (fun j hj => inpS_at sh 2 1 j (by omega) hj) (fbS f 0)
  simpa [saysS] using h
theorem ans2 (sh : List (BitVec 64)) (f : BitVec 64) : Answers 256 (inpS sh (2 * 2)) (mk2 (fbS f 0) (fbS f 1)) (saysS 2 (whS (fbS f 0) (sh.getD 0 0#64) (sh.getD 1 0#64)) (whS (fbS f 1) (sh.getD 2 0#64) (sh.getD 3 0#64))) :=
  mk2_ok (inp := inpS sh (2 * 2)) (inpS_len sh 4) (fun j hj => inpS_at sh 4 0 j (by omega) hj) (fun j hj => inpS_at sh 4 1 j (by omega) hj) (fun j hj => inpS_at sh 4 2 j (by omega) hj) (fun j hj => inpS_at sh 4 3 j (by omega) hj) (fbS f 0) (fbS f 1)
theorem ans3 (sh : List (BitVec 64)) (f : BitVec 64) : Answers 256 (inpS sh (2 * 2)) (mk3 (fbS f 0) (fbS f 1)) (saysS 3 (whS (fbS f 0) (sh.getD 0 0#64) (sh.getD 1 0#64)) (whS (fbS f 1) (sh.getD 2 0#64) (sh.getD 3 0#64))) :=
  mk3_ok (inp := inpS sh (2 * 2)) (inpS_len sh 4) (fun j hj => inpS_at sh 4 0 j (by omega) hj) (fun j hj => inpS_at sh 4 1 j (by omega) hj) (fun j hj => inpS_at sh 4 2 j (by omega) hj) (fun j hj => inpS_at sh 4 3 j (by omega) hj) (fbS f 0) (fbS f 1)
end Go.Proofs.YteofdmdpaejgaaaDoor.Circ
namespace Go.Proofs.YteofdmdpaejgaaaDoor.AesSpec
def addR (a b : List By) : Nat → List By
  | 0 => List.replicate 16 0#8
  | i + 1 => (addR a b i).set i (a.getD i 0#8 ^^^ b.getD i 0#8)
def mixRv (t : List By) (c r : Nat) : By := ((gm (t.getD (4 * c + r) 0#8) 2#8 ^^^ gm (t.getD (4 * c + (r + 1) % 4) 0#8) 3#8) ^^^ t.getD (4 * c + (r + 2) % 4) 0#8) ^^^ t.getD (4 * c + (r + 3) % 4) 0#8
def mixRI (t o : List By) (c : Nat) : Nat → List By
  | 0 => o
  | r + 1 => (mixRI t o c r).set (4 * c + r) (mixRv t c r)
def mixRS (t : List By) : Nat → List By
  | 0 => List.replicate 16 0#8
  | c + 1 => mixRI t (mixRS t c) c 4
def eightS (x : BitVec 64) : Nat → List By × BitVec 64
  | 0 => ([], x)
  | i + 1 => ((eightS x i).1 ++ [((eightS x i).2 % 256#64).setWidth 8], (eightS x i).2 / 256#64)
def wholeS (b : List By) : Nat → BitVec 64
  | 0 => 0#64
  | k + 1 => wholeS b k * 256#64 + (b.getD (7 - k) 0#8).setWidth 64
def shRI (bx b o : List By) (c : Nat) : Nat → List By
  | 0 => o
  | r + 1 => (shRI bx b o c r).set (4 * c + r) (bx.getD (b.getD (4 * ((c + r) % 4) + r) 0#8).toNat 0#8)
def shRS (bx b : List By) : Nat → List By
  | 0 => List.replicate 16 0#8
  | c + 1 => shRI bx b (shRS bx b c) c 4
def rndR (bx b : List By) (k : Nat) : List By := if k < 10 then mixRS (shRS bx b 4) 4 else shRS bx b 4
def encR (ks bx b : List By) : Nat → List By
  | 0 => addR b ((ks.drop 0).take 16) 16
  | k + 1 => addR (rndR bx (encR ks bx b k) (k + 1)) ((ks.drop (16 * (k + 1))).take 16) 16
def wordR (ks bx : List By) (x : BitVec 64) : BitVec 64 :=
  if x % 2#64 = 0#64 then wholeS (((encR ks bx ((eightS (x / 2#64) 8).1 ++ [0#8, 0#8, 0#8, 0#8, 0#8, 0#8, 0#8, 0#8]) 10).drop 0).take 8) 8
  else wholeS (((encR ks bx ((eightS (x / 2#64) 8).1 ++ [0#8, 0#8, 0#8, 0#8, 0#8, 0#8, 0#8, 0#8]) 10).drop 8).take 8) 8
end Go.Proofs.YteofdmdpaejgaaaDoor.AesSpec
namespace Go.Proofs.YteofdmdpaejgaaaDoor.AesSpec
theorem getD_set_ne {l : List By} {i j : Nat} {v d : By} (h : i ≠ j) : (l.set i v).getD j d = l.getD j d := by
  rw [List.getD_eq_getElem?_getD, List.getElem?_set_ne h, List.getD_eq_getElem?_getD]
/-! ### the mixing, four times, is nothing -/
theorem xt_add : ∀ a b : By, xt (a ^^^ b) = xt a ^^^ xt b := by decide +kernel
def colS (c : By × By × By × By) : By × By × By × By :=
  (c.1 ^^^ ((((c.1 ^^^ c.2.1) ^^^ c.2.2.1) ^^^ c.2.2.2) ^^^ xt (c.1 ^^^ c.2.1)), c.2.1 ^^^ ((((c.1 ^^^ c.2.1) ^^^ c.2.2.1) ^^^ c.2.2.2) ^^^ xt (c.2.1 ^^^ c.2.2.1)), c.2.2.1 ^^^ ((((c.1 ^^^ c.2.1) ^^^ c.2.2.1) ^^^ c.2.2.2) ^^^ xt (c.2.2.1 ^^^ c.2.2.2)), c.2.2.2 ^^^ ((((c.1 ^^^ c.2.1) ^^^ c.2.2.1) ^^^ c.2.2.2) ^^^ xt (c.2.2.2 ^^^ c.1)))
end Go.Proofs.YteofdmdpaejgaaaDoor.AesSpec
namespace Go.Proofs.YteofdmdpaejgaaaDoor.AesSpec
theorem gm_two : ∀ p : By, gm p 2#8 = xt p := by decide +kernel
theorem gm_three : ∀ p : By, gm p 3#8 = xt p ^^^ p := by decide +kernel
end Go.Proofs.YteofdmdpaejgaaaDoor.AesSpec
namespace Go.Proofs.YteofdmdpaejgaaaDoor.AesSpec
theorem col (a b c d : By) : a ^^^ ((((a ^^^ b) ^^^ c) ^^^ d) ^^^ xt (a ^^^ b)) = ((gm a 2#8 ^^^ gm b 3#8) ^^^ c) ^^^ d := by
  rw [gm_two, gm_three, xt_add]
  have : ∀ (a b c d x y : By), a ^^^ ((((a ^^^ b) ^^^ c) ^^^ d) ^^^ (x ^^^ y)) = ((x ^^^ (y ^^^ b)) ^^^ c) ^^^ d := fun a b c d x y => by
    have e : a ^^^ ((((a ^^^ b) ^^^ c) ^^^ d) ^^^ (x ^^^ y)) = (a ^^^ a) ^^^ (((x ^^^ (y ^^^ b)) ^^^ c) ^^^ d) := by ac_rfl
    rw [e, BitVec.xor_self, BitVec.zero_xor]
  exact this ..
end Go.Proofs.YteofdmdpaejgaaaDoor.AesSpec
namespace Go.Proofs.YteofdmdpaejgaaaDoor.Vc
open Go Go.ChangeShapes Go.WideShapes Go.ChangeAt Go.RowKit
/-- What reads at a type is of one encoding, and its value is of one kind. -/
def Opens {α : Type} (P : Program) (e : TypeId) (E : Enc α) (Q : α → Prop) : Prop :=
  P.cellsOf e = E.s ∧ ∀ (H : Type) (enc : TypeId × Value → H) (w : World) (base : Nat) (spare : Nat → Bool) (held : Bool) (fuel : Nat) (cs : List Value) (x : DataW H × List MemPlace),
    DataW.trod enc P w base spare held fuel e cs = some x → ∃ a, cs = E.f a ∧ Q a
/-- bounds of an integer of 64 bits -/
def Fit64 (n : Int) : Prop := -9223372036854775808 ≤ n ∧ n ≤ 9223372036854775807
section
variable {P : Program} {e t : TypeId}
theorem opens8 (h : P.underlying e = some (.int .u8)) (hc : P.cellsOf e = 1) : Opens P e E8 fun _ => True := by
  refine ⟨hc, fun H enc w base spare held fuel cs x hx => ?_⟩
  obtain ⟨n, rfl, _, hw⟩ := DataW.trod_int h hx
  have := bounds_u8 hw
  refine ⟨BitVec.ofInt 8 n, ?_, trivial⟩
  show _ = [u8 _]
  rw [u8, BitVec.toNat_ofInt]; congr 2; omega
theorem opens64 (h : P.underlying e = some (.int .u64)) (hc : P.cellsOf e = 1) : Opens P e E64 fun _ => True := by
  refine ⟨hc, fun H enc w base spare held fuel cs x hx => ?_⟩
  obtain ⟨n, rfl, _, hw⟩ := DataW.trod_int h hx
  have := bounds_u64 hw
  refine ⟨BitVec.ofInt 64 n, ?_, trivial⟩
  show _ = [u64 _]
  rw [u64, BitVec.toNat_ofInt]; congr 2; omega
theorem opensI (h : P.underlying e = some (.int .i64)) (hc : P.cellsOf e = 1) : Opens P e EI Fit64 := by
  refine ⟨hc, fun H enc w base spare held fuel cs x hx => ?_⟩
  obtain ⟨n, rfl, _, hw⟩ := DataW.trod_int h hx
  exact ⟨n, rfl, bounds_i64 hw⟩
theorem cel_chunks {α : Type} {E : Enc α} {Q : α → Prop} : ∀ (n : Nat) (cs : List Value), cs.length = n * E.s → (∀ i, i < n → ∃ a, (cs.drop (i * E.s)).take E.s = E.f a ∧ Q a) →
    ∃ l, cs = cel E l ∧ l.length = n ∧ ∀ a ∈ l, Q a
  | 0, cs, h, _ => ⟨[], by simpa using h, rfl, by simp⟩
  | n + 1, cs, h, hh => by
    obtain ⟨a, ha, qa⟩ := hh 0 (by omega)
    obtain ⟨l, h1, h2, h3⟩ := cel_chunks (E := E) (Q := Q) n (cs.drop E.s) (by rw [List.length_drop, h, Nat.add_mul]; omega) fun i hi => by
      obtain ⟨b, hb, qb⟩ := hh (i + 1) (by omega)
      exact ⟨b, by rw [List.drop_drop, ← hb]; congr 2; rw [Nat.add_mul]; omega, qb⟩
    refine ⟨a :: l, ?_, by simp [h2], ?_⟩
    · rw [cel_cons, ← h1, ← ha]; simp
    · intro x hx
      rcases List.mem_cons.1 hx with rfl | hx
      · exact qa
      · exact h3 x hx
/-- the cells of an array -/
theorem opens_cells {α : Type} {E : Enc α} {Q : α → Prop} {H : Type} {enc : TypeId × Value → H} {w : World} {base : Nat} {spare : Nat → Bool} {held : Bool} {fuel : Nat} {cs : List Value} {x : DataW H × List MemPlace} {n : Nat}
    (ht : P.underlying t = some (.array n e)) (hE : Opens P e E Q) (hz : P.cellsOf t = n * P.cellsOf e) (h : DataW.trod enc P w base spare held fuel t cs = some x) :
    ∃ l, cs = cel E l ∧ l.length = n ∧ ∀ a ∈ l, Q a := by
  obtain ⟨xs, m, _, _, hl, hx, hi⟩ := DataW.trod_array ht h
  refine cel_chunks n cs (by rw [hl, hz, hE.1]) fun i hi' => ?_
  have := hi i hi'
  rw [List.getElem?_eq_getElem (by omega), hE.1] at this
  exact hE.2 _ _ _ _ _ _ _ _ _ this
/-- an argument that is an array -/
theorem open_arr {α : Type} {E : Enc α} {Q : α → Prop} {H : Type} {enc : TypeId × Value → H} {w : World} {base : Nat} {spare : Nat → Bool} {held : Bool} {r : Reach} {b0 n : Nat} {v : Value} {d : DataW H} {ps : List MemPlace}
    (ht : P.underlying t = some (.array n e)) (hE : Opens P e E Q) (hz : P.cellsOf t = n * P.cellsOf e) (hv : Value.okWide P w r b0 t v) (h : DataW.Trod enc P w base spare held t v d ps) :
    ∃ l, v = .agg (cel E l).toArray ∧ l.length = n ∧ ∀ a ∈ l, Q a := by
  unfold Value.okWide at hv
  rw [ht] at hv
  obtain ⟨cs, rfl, _, _⟩ := hv
  obtain ⟨fuel, hf⟩ := h
  obtain ⟨l, h1, h2, h3⟩ := opens_cells ht hE hz hf
  exact ⟨l, by rw [← h1]; rfl, h2, h3⟩
/-- an argument of one cell -/
theorem open_one {α : Type} {E : Enc α} {Q : α → Prop} {H : Type} {enc : TypeId × Value → H} {w : World} {base : Nat} {spare : Nat → Bool} {held : Bool} {v : Value} {d : DataW H} {ps : List MemPlace}
    (hE : Opens P e E Q) (hv : v.cells.toList = [v]) (hf : ∀ a, E.f a = [E.val a]) (h : DataW.Trod enc P w base spare held e v d ps) : ∃ a, v = E.val a ∧ Q a := by
  obtain ⟨fuel, h⟩ := h
  rw [hv] at h
  obtain ⟨a, h1, h2⟩ := hE.2 _ _ _ _ _ _ _ _ _ h
  rw [hf] at h1
  exact ⟨a, (List.cons.inj h1).1, h2⟩
section
variable {H : Type} {enc : TypeId × Value → H} {w : World} {base : Nat} {spare : Nat → Bool} {held : Bool} {r : Reach} {b0 : Nat} {v : Value} {d : DataW H} {ps : List MemPlace}
theorem open_i64 (h : P.underlying e = some (.int .i64)) (hc : P.cellsOf e = 1) (hv : Value.okWide P w r b0 e v) (hd : DataW.Trod enc P w base spare held e v d ps) : ∃ a : Int, v = i64 a ∧ Fit64 a := by
  obtain ⟨n, rfl⟩ := okWide_int h hv
  exact open_one (opensI h hc) rfl (fun _ => rfl) hd
/-- arguments read as they did -/
theorem trodAll_below {W W' : World} (hl : laidOutB P = true) (hb : Below W.heap.size W W') : ∀ (ts : List TypeId) (vs : List Value) (ds : List (DataW H)) (ps : List MemPlace),
    (∀ t ∈ ts, P.readableRec t = true ∧ t < P.types.size) → DataW.TrodAll enc P W 0 (fun _ => true) true ts vs ds ps → DataW.TrodAll enc P W' 0 (fun b => decide (b < W.heap.size)) true ts vs ds ps
  | [], vs, ds, ps, _, h => by cases vs <;> cases ds <;> simp_all [DataW.TrodAll]
  | t :: ts, vs, ds, ps, hr, h => by
    obtain ⟨v, vs', d, ds', p, q, rfl, rfl, rfl, h1, h2⟩ := trodAll_cons h
    have lt : ∀ x ∈ p, x.block < W.heap.size := by obtain ⟨m, hm⟩ := h1; exact DataW.trod_lt m _ _ _ hm
    exact trodAll_cons_mk (Below.trod hl (hr t (by simp)).1 (hr t (by simp)).2 h1 hb lt) (trodAll_below hl hb ts vs' ds' q (fun x hx => hr x (by simp [hx])) h2)
/-- the end of a law that returned true and wrote to no block that was there -/
theorem law_end {fn : Func} {s : ChangeSpec} {W W' : World} {args : Array Value} {ds gs : List (DataW H)} {before : List MemPlace} {tb : TypeId}
    (hl : laidOutB P = true) (hr0 : (fn.params.toList.all fun t => P.readableRec t && decide (t < P.types.size)) = true) (hres : fn.resultTypes.toList = [tb]) (hsz : fn.resultTypes.size = 1) (htb : P.underlying tb = some .bool) (hv : s.vars = [])
    (hW : DataW.Whole enc P fn.params.toList s.vars false W args.toList ds gs before) (h1 : (s.fn H (ds ++ gs)).results = [.lit (.bool true)]) (h2 : (s.fn H (ds ++ gs)).args = ds) (h3 : (s.fn H (ds ++ gs)).vars = [])
    (hb : Below W.heap.size W W') : s.post enc P fn false true false false W args (.bool true) W' := by
  have hr : ∀ t ∈ fn.params.toList, P.readableRec t = true ∧ t < P.types.size := fun t ht => by
    have := List.all_eq_true.1 hr0 t ht
    simpa using this
  have hW' := hW
  obtain ⟨p, q, hA, hV, rfl, hfz, hnd⟩ := hW
  refine ⟨ds, gs, _, [], p, [], hW', ?_, ?_, ?_, hb.frame _, fun h => by cases h⟩
  · rw [hres, hsz, h1]
    exact trodAll_mk1 (shut_bool htb _)
  · rw [h2]
    exact trodAll_below hl hb _ _ _ _ hr hA
  · rw [h3, hv]; rfl
end
end
end Go.Proofs.YteofdmdpaejgaaaDoor.Vc
namespace Go.Proofs.YteofdmdpaejgaaaDoor.Gb
open Go Go.Proofs.YteofdmdpaejgaaaDoor.Vc Go.Proofs.YteofdmdpaejgaaaDoor.Circ
/-- the labels of a tape, behind the first one -/
def zT (f : Nat → BitVec 64) : Nat → List Lb
  | 0 => []
  | i + 1 => zT f i ++ [(f (2 + 2 * i), f (2 + 2 * i + 1))]
theorem zT_len (f : Nat → BitVec 64) (i : Nat) : (zT f i).length = i := by
  induction i with
  | zero => rfl
  | succ i ih => simp [zT, ih]
theorem zT_at (f : Nat → BitVec 64) (i j : Nat) (hj : j < i) : (zT f i).getD j lb0 = (f (2 + 2 * j), f (2 + 2 * j + 1)) := by
  induction i with
  | zero => omega
  | succ i ih =>
    rw [zT]
    by_cases e : j = i
    · subst e; exact getD_app_hi _ _ _ _ (zT_len _ _).symm
    · rw [getD_app_lo _ _ _ _ (by rw [zT_len]; omega)]; exact ih (by omega)
theorem inpS_bit (sh : List (BitVec 64)) (k i : Nat) (hi : i < 64 * k) : (inpS sh k).getD i false = decide (((sh.getD (i / 64) 0#64) >>> (i % 64)) % 2#64 = 1#64) := by
  have h := inpS_at sh k (i / 64) (i % 64) (by omega) (by omega)
  rw [show 64 * (i / 64) + i % 64 = i by omega] at h
  rw [h, ← bit_one, rem_and1]
theorem small3 (x : BitVec 64) : ∃ p : Nat, (x % 3#64).toInt + 1 = (p : Nat) ∧ 1 ≤ p ∧ p ≤ 3 := by
  have h : (x % 3#64).toNat < 3 := by rw [BitVec.toNat_umod]; exact Nat.mod_lt _ (by decide)
  exact ⟨(x % 3#64).toNat + 1, by rw [BitVec.toInt_eq_toNat_of_lt (by omega)]; omega, by omega, by omega⟩
theorem col_word (l : List Lb) (h : l.length = 64) (p : Nat) (hp : p < 64) : (colS l (min l.length 64)).getLsbD p = (l.getD p lb0).1.getLsbD 0 := by
  obtain ⟨h1, _⟩ := colS_word l _ rfl (min l.length 64) (Nat.min_le_left _ _)
  rw [h1, h, Nat.min_self, wordS_bit _ _ _ (Nat.le_refl _), List.getD_eq_getElem?_getD, List.getElem?_map, List.getD_eq_getElem?_getD, List.getElem?_eq_getElem (by omega)]
  simp [hp]
theorem made_col {h : Lb → BitVec 64 → Lb} {δ : Lb} {first : BitVec 64} {gs : List Gt} {zs ls ot el : List Lb} {bits : List Bool} {os : List Int} (hd : col δ = true) (hz : ls.length = zs.length) (hb : bits.length = zs.length) (hg : IsC (zs.length : Nat) gs os) (ho : os.length = 64)
    (hl : ∀ j, j < zs.length → ls.getD j lb0 = lx (zs.getD j lb0) (lw (bits.getD j false) δ)) (hot : ot = oL (gS h δ first gs zs gs.length).1 os os.length) (hel : el = oL (eS h first gs (gS h δ first gs zs gs.length).2 ls gs.length).1 os os.length) :
    colS ot (min ot.length 64) ^^^ colS el (min el.length 64) = wordS (evalS gs os bits) 64 := by
  have l1 : ot.length = 64 := by rw [hot, oL_len, ho]
  have l2 : el.length = 64 := by rw [hel, oL_len, ho]
  apply BitVec.eq_of_getLsbD_eq
  intro p hp
  rw [BitVec.getLsbD_xor, col_word _ l1 _ hp, col_word _ l2 _ hp, wordS_bit _ _ _ (Nat.le_refl _)]
  have e := outs_right (h := h) (first := first) hd hz hb hg hl p (by omega)
  rw [← hot, ← hel] at e
  rw [e, lx_b1, lw_b1, ← col_bit δ, hd]
  simp [hp]
end Go.Proofs.YteofdmdpaejgaaaDoor.Gb
namespace Go.Proofs.YteofdmdpaejgaaaDoor.Vc
open Go Go.ChangeShapes Go.WideShapes Go.ChangeAt Go.RowKit Go.Deep
theorem cell_some {w : World} {b off : Nat} {v : Value} (h : w.cell? ⟨b, off, none⟩ = some v) : ∃ cs T fr, w.heap[b]? = some (.cells cs T fr) ∧ cs[off]? = some v := by
  unfold World.cell? at h
  split at h
  · rename_i cs T fr hc
    exact ⟨cs, T, fr, hc, h⟩
  · cases h
section
variable {P : Program} {t e : TypeId} {α : Type} {E : Enc α} {Q : α → Prop} {H : Type} {enc : TypeId × Value → H} {w : World} {base : Nat} {held : Bool} {r : Reach} {b0 : Nat} {v : Value} {d : DataW H} {ps : List MemPlace}
end
end Go.Proofs.YteofdmdpaejgaaaDoor.Vc
