/- The calculus' law for a region whose order is open, where what touches memory goes in a row of its own and all else only looks: 'es' are the places of the row; of a place that only looks the value is told, at whatever stage of the row it may come. -/
import Derived.Test.YteofdmdpaejgaaaDoorVcDrawI
namespace Go.Proofs.YteofdmdpaejgaaaDoor.Vc
open Go

/-- a part of a tuple -/
def proj : Value → Nat → Value
  | .tuple vs, i => vs.getD i undef
  | _, _ => undef
def chainB (mask : List Nat) (m : Nat) (es : List Nat) : Bool :=
  (es.all fun e => decide (e < m)) && (List.range es.length).all fun p' => (List.range p').all fun p => anc mask (es.getD p' 0) (es.getD p 0)
/-- The walk in the order of the text. -/
def WalkC (P : Program) (n : Nat) (ops : Array Oper) (es : List Nat) (Φ : Nat → List Value → World → Prop) (mask : List Nat) (Fin : (Env → Env) → Prop) : Nat → Nat → List Oper → (Env → Env) → Prop
  | _, 0, _, ρ => Fin ρ
  | i, k + 1, o :: l, ρ =>
    (∃ q, es[q]? = some i ∧ (∀ r w, Φ q ((es.take q).map r) w → Gives P n ops (ρ r) o w fun u w' => Φ (q + 1) ((es.take q).map r ++ [u]) w') ∧
      WalkC P n ops es Φ mask Fin (i + 1) k l fun r => updo (ρ r) o.dst (r i)) ∨
    (es.contains i = false ∧ ∃ v : Env → Value, (∀ r r' : Env, (∀ e ∈ es, anc mask i e = true → r e = r' e) → v r = v r') ∧
      (∀ q r w, (∀ p e, es[p]? = some e → anc mask i e = true → p < q) → (∀ p e, es[p]? = some e → anc mask e i = true → q ≤ p) → q ≤ es.length → Φ q ((es.take q).map r) w → Gives P n ops (ρ r) o w fun u w' => u = v r ∧ w' = w) ∧
      WalkC P n ops es Φ mask Fin (i + 1) k l fun r => updo (ρ r) o.dst (v r))
  | _, _ + 1, [], _ => False

section
variable {P : Program} {n : Nat} {ops : Array Oper} {Q : Exit → Act → World → Prop} {mask : List Nat} {ρ : Env} {m : Nat} {es : List Nat} {Φ : Nat → List Value → World → Prop}
def valC (es : List Nat) (e : Nat → Env → Value) (r : Env) (j : Nat) : Value := if es.contains j then r j else e j r
theorem lexC_eq (e₁ e₂ : Nat → Env → Value) (r : Env) : ∀ k : Nat, (∀ j, j < k → e₁ j = e₂ j) → lexFr ops ρ (valC es e₁ r) k = lexFr ops ρ (valC es e₂ r) k
  | 0, _ => rfl
  | k + 1, h => by
    simp only [lexFr]
    rw [lexC_eq e₁ e₂ r k fun j hj => h j (by omega)]
    simp only [valC, h k (by omega)]
/-- what is shown of one operation -/
def ObC (P : Program) (n : Nat) (ops : Array Oper) (es : List Nat) (Φ : Nat → List Value → World → Prop) (mask : List Nat) (ρ : Env) (e : Nat → Env → Value) (j : Nat) (o : Oper) : Prop :=
  (∃ q, es[q]? = some j ∧ ∀ r w, Φ q ((es.take q).map r) w → Gives P n ops (lexFr ops ρ (valC es e r) j) o w fun u w' => Φ (q + 1) ((es.take q).map r ++ [u]) w') ∨
  (es.contains j = false ∧ (∀ r r' : Env, (∀ x ∈ es, anc mask j x = true → r x = r' x) → e j r = e j r') ∧
    ∀ q r w, (∀ p x, es[p]? = some x → anc mask j x = true → p < q) → (∀ p x, es[p]? = some x → anc mask x j = true → q ≤ p) → q ≤ es.length → Φ q ((es.take q).map r) w → Gives P n ops (lexFr ops ρ (valC es e r) j) o w fun u w' => u = e j r ∧ w' = w)
theorem WalkC.out {Fin : (Env → Env) → Prop} : ∀ (k : Nat) (l : List Oper) (i : Nat) (ρ' : Env → Env) (e : Nat → Env → Value), (∀ j : Nat, l[j]? = ops[i + j]?) → (∀ r, ρ' r = lexFr ops ρ (valC es e r) i) → WalkC P n ops es Φ mask Fin i k l ρ' →
    ∃ e' : Nat → Env → Value, (∀ j, j < i → e' j = e j) ∧ (∀ (j : Nat) (o : Oper), i ≤ j → j < i + k → ops[j]? = some o → ObC P n ops es Φ mask ρ e' j o) ∧ Fin fun r => lexFr ops ρ (valC es e' r) (i + k)
  | 0, l, i, ρ', e, hl, hρ, h => by
    refine ⟨e, fun _ _ => rfl, fun j o h1 h2 => by omega, ?_⟩
    have : (fun r => lexFr ops ρ (valC es e r) (i + 0)) = ρ' := by funext r; rw [hρ r]; rfl
    rw [this]
    cases l <;> exact h
  | k + 1, [], i, ρ', e, hl, hρ, h => h.elim
  | k + 1, o :: l, i, ρ', e, hl, hρ, h => by
    have hoi : ops[i]? = some o := by simpa using (hl 0).symm
    have hl' : ∀ j : Nat, l[j]? = ops[i + 1 + j]? := fun j => by have := hl (j + 1); simpa [Nat.add_assoc, Nat.add_comm 1 j] using this
    rcases h with ⟨q, hq, h1, h2⟩ | ⟨hne, v, hv, h1, h2⟩
    · have hc : es.contains i = true := by simpa using List.mem_of_getElem? hq
      obtain ⟨e', h3, h4, h5⟩ := WalkC.out k l (i + 1) (fun r => updo (ρ' r) o.dst (r i)) e hl' (fun r => by
        simp only [lexFr, hoi, Option.bind_some]
        rw [hρ r]
        have : valC es e r i = r i := by unfold valC; rw [if_pos hc]
        rw [this]) h2
      refine ⟨e', fun j hj => h3 j (by omega), ?_, by simpa [Nat.add_assoc, Nat.add_comm 1] using h5⟩
      intro j o' hj1 hj2 hoj
      rcases Nat.eq_or_lt_of_le hj1 with rfl | hlt
      · rw [hoi] at hoj; cases hoj
        refine .inl ⟨q, hq, fun r w hF => ?_⟩
        have := h1 r w hF
        rwa [hρ r, lexC_eq e e' r i fun j hj => (h3 j (by omega)).symm] at this
      · exact h4 j o' (by omega) (by omega) hoj
    · let e₁ : Nat → Env → Value := fun j => if j = i then v else e j
      have hbe : ∀ j, j < i → e₁ j = e j := fun j hj => if_neg (by omega)
      have hi : e₁ i = v := if_pos rfl
      obtain ⟨e', h3, h4, h5⟩ := WalkC.out k l (i + 1) (fun r => updo (ρ' r) o.dst (v r)) e₁ hl' (fun r => by
        simp only [lexFr, hoi, Option.bind_some]
        rw [hρ r, lexC_eq e₁ e r i hbe]
        have : valC es e₁ r i = v r := by unfold valC; rw [if_neg (by rw [hne]; decide), hi]
        rw [this]) h2
      refine ⟨e', fun j hj => (h3 j (by omega)).trans (hbe j hj), ?_, by simpa [Nat.add_assoc, Nat.add_comm 1] using h5⟩
      intro j o' hj1 hj2 hoj
      rcases Nat.eq_or_lt_of_le hj1 with rfl | hlt
      · rw [hoi] at hoj; cases hoj
        have hei : e' i = v := (h3 i (by omega)).trans hi
        refine .inr ⟨hne, fun r r' hr => by rw [hei]; exact hv r r' hr, fun q r w a1 a2 a3 hF => ?_⟩
        have := h1 q r w a1 a2 a3 hF
        rw [hρ r, lexC_eq e e' r i fun j hj => ((h3 j (by omega)).trans (hbe j hj)).symm] at this
        rwa [hei]
      · exact h4 j o' (by omega) (by omega) hoj

theorem WalkC.eff {Fin : (Env → Env) → Prop} {i k : Nat} {o : Oper} {l : List Oper} {ρ : Env → Env} (q : Nat) (hq : es[q]? = some i) (h1 : ∀ r w, Φ q ((es.take q).map r) w → Gives P n ops (ρ r) o w fun u w' => Φ (q + 1) ((es.take q).map r ++ [u]) w')
    (h2 : WalkC P n ops es Φ mask Fin (i + 1) k l fun r => updo (ρ r) o.dst (r i)) : WalkC P n ops es Φ mask Fin i (k + 1) (o :: l) ρ := .inl ⟨q, hq, h1, h2⟩
theorem WalkC.look {Fin : (Env → Env) → Prop} {i k : Nat} {o : Oper} {l : List Oper} {ρ : Env → Env} (hne : es.contains i = false) (v : Env → Value) (hv : ∀ r r' : Env, (∀ e ∈ es, anc mask i e = true → r e = r' e) → v r = v r')
    (h1 : ∀ q r w, (∀ p e, es[p]? = some e → anc mask i e = true → p < q) → (∀ p e, es[p]? = some e → anc mask e i = true → q ≤ p) → q ≤ es.length → Φ q ((es.take q).map r) w → Gives P n ops (ρ r) o w fun u w' => u = v r ∧ w' = w)
    (h2 : WalkC P n ops es Φ mask Fin (i + 1) k l fun r => updo (ρ r) o.dst (v r)) : WalkC P n ops es Φ mask Fin i (k + 1) (o :: l) ρ := .inr ⟨hne, v, hv, h1, h2⟩
theorem WalkC.nil {Fin : (Env → Env) → Prop} {i : Nat} {l : List Oper} {ρ : Env → Env} (h : Fin ρ) : WalkC P n ops es Φ mask Fin i 0 l ρ := by cases l <;> exact h
/-- what holds at whatever stage -/
structure InvC (m : Nat) (es : List Nat) (Φ : Nat → List Value → World → Prop) (mask : List Nat) (e : Nat → Env → Value) (L : Nat → Bool) (r : Env) (w : World) : Prop where
  closed : ∀ j k, j < m → k < m → L j = true → anc mask j k = true → L k = true
  vals : ∀ j, j < m → es.contains j = false → L j = true → r j = e j r
  stage : ∃ q, q ≤ es.length ∧ (∀ p x, es[p]? = some x → (L x = true ↔ p < q)) ∧ Φ q ((es.take q).map r) w

/-- THE LAW. -/
theorem drawC {id m : Nat} {l : List Oper} {w : World} (mask : List Nat) (es : List Nat) (Φ : Nat → List Value → World → Prop) (hmix : P.follows .mixedOrders = true) (hB : drawB l.toArray mask m = true) (hch : chainB mask m es = true)
    (h0 : Φ 0 [] { w with drawn := w.drawn + 1 })
    (h : WalkC P n l.toArray es Φ mask (fun ρ' => ∀ r w', Φ es.length (es.map r) w' → W P n l.toArray Q (l.drop m) (ρ' r) w') 0 m l fun _ => ρ) :
    (Code.region id l.toArray true).wp P Q (St n ρ) w := by
  have D := DrawOk.of hB
  obtain ⟨e, _, hob, hfin⟩ := WalkC.out (ops := l.toArray) (ρ := ρ) m l 0 (fun _ => ρ) (fun _ _ => undef) (fun j => by simp) (fun r => rfl) h
  simp only [Nat.zero_add] at hob hfin
  -- the row
  simp only [chainB, Bool.and_eq_true] at hch
  have hlm : ∀ (p x : Nat), es[p]? = some x → x < m := fun p x hp => by
    have := List.all_eq_true.1 hch.1 x (List.mem_of_getElem? hp); simpa using this
  have hsz : ∀ (p x : Nat), es[p]? = some x → x < l.toArray.size := fun p x hp => Nat.lt_of_lt_of_le (hlm p x hp) D.hm
  have hanc : ∀ (p p' x x' : Nat), p < p' → es[p]? = some x → es[p']? = some x' → anc mask x' x = true := fun p p' x x' hpp hp hp' => by
    have h1 := List.all_eq_true.1 (List.all_eq_true.1 hch.2 p' (List.mem_range.2 (List.getElem?_eq_some_iff.1 hp').1)) p (List.mem_range.2 hpp)
    simpa [List.getD_eq_getElem?_getD, hp, hp'] using h1
  have hdis : ∀ (p p' x : Nat), es[p]? = some x → es[p']? = some x → p = p' := fun p p' x hp hp' => by
    rcases Nat.lt_trichotomy p p' with h | h | h
    · have := (D.up x x (hsz p x hp) (hsz p x hp) (hanc p p' x x h hp hp')).1; omega
    · exact h
    · have := (D.up x x (hsz p x hp) (hsz p x hp) (hanc p' p x x h hp' hp)).1; omega
  refine wp_region_any hmix ?_
  have hrep : ∀ j, (Array.replicate l.toArray.size false).getD j false = false := fun j => by
    simp only [Array.getD_eq_getD_getElem?, Array.getElem?_replicate]
    split <;> rfl
  have hOb : ∀ (j : Nat) (o : Oper), j < m → l.toArray[j]? = some o → ObI P n l.toArray (InvC m es Φ mask e) mask ρ j o := by
    intro j o hj ho L r w hL hA hI
    have hoj : j < l.toArray.size := (Array.getElem?_eq_some_iff.1 ho).1
    have hsel := Region.noSelect_spec D.nosel
    have hcong : ∀ {S}, Gives P n l.toArray (lexFr l.toArray ρ (valC es e r) j) o w S → Gives P n l.toArray (lexFr l.toArray ρ r j) o w S := by
      intro S hg
      refine hg.congr (fun cs b => hsel j _ cs b ho) fun t ht => ?_
      rw [lexFr_eq D ρ _ t j (by omega), lexFr_eq D ρ _ t j (by omega)]
      split
      · rename_i j' hj'
        by_cases hlt : j' < j
        · rw [if_pos hlt, if_pos hlt]
          rcases D.reads j _ hj ho t ht j' hj' with rfl | ⟨_, h2⟩ | ⟨h1, _⟩
          · omega
          · by_cases hc : es.contains j' = true
            · simp only [valC, hc, if_true]
            · have hc' : es.contains j' = false := by simpa using hc
              rw [hI.vals j' (by omega) hc' (hA j' hlt h2)]
              simp only [valC, hc', Bool.false_eq_true, if_false]
          · omega
        · rw [if_neg hlt, if_neg hlt]
      · rfl
    obtain ⟨q, hq, hst, hΦ⟩ := hI.stage
    rcases hob j o (Nat.zero_le _) hj ho with ⟨q0, hq0, h1⟩ | ⟨hne, hv, h1⟩
    · -- one of the row
      have hqq : q = q0 := by
        have h2 : ¬ q0 < q := fun h => by rw [(hst q0 j hq0).2 h] at hL; cases hL
        rcases Nat.eq_or_lt_of_le (Nat.le_of_not_lt h2) with h | h
        · exact h
        · have hlt : q < es.length := by have := (List.getElem?_eq_some_iff.1 hq0).1; omega
          have h3 := List.getElem?_eq_getElem hlt
          have ha := hanc q q0 _ j h h3 hq0
          have h4 := hA _ ((D.up j _ hoj (hsz q _ h3) ha).1) ha
          have := (hst q _ h3).1 h4
          omega
      subst hqq
      refine (hcong (h1 r w hΦ)).mono fun u w' hF => ?_
      have hcj : es.contains j = true := by simpa using List.mem_of_getElem? hq0
      refine ⟨?_, ?_, q + 1, by have := (List.getElem?_eq_some_iff.1 hq0).1; omega, ?_, ?_⟩
      · intro j1 k h1 h2 h3 ha
        simp only [Bool.or_eq_true, beq_iff_eq] at h3 ⊢
        rcases h3 with rfl | h3
        · exact .inr (hA k (D.up j1 k hoj (by have := D.hm; omega) ha).1 ha)
        · exact .inr (hI.closed j1 k h1 h2 h3 ha)
      · intro j1 h2 hc h3
        have hne : j1 ≠ j := fun e => by rw [e, hcj] at hc; cases hc
        simp only [Bool.or_eq_true, beq_iff_eq, hne, false_or] at h3
        simp only [hne, if_false]
        rw [hI.vals j1 h2 hc h3]
        rcases hob j1 _ (Nat.zero_le _) h2 (Array.getElem?_eq_getElem (by have := D.hm; omega)) with ⟨q1, hq1, _⟩ | ⟨_, hv1, _⟩
        · have : es.contains j1 = true := by simpa using List.mem_of_getElem? hq1
          rw [this] at hc; cases hc
        · refine hv1 _ _ fun x hx ha => ?_
          have hxj : x ≠ j := fun ex => by
            subst ex
            have := hI.closed j1 x h2 hj h3 ha
            rw [hL] at this; cases this
          simp [hxj]
      · intro p x hp
        by_cases hxj : x = j
        · subst hxj
          have := hdis p q x hp hq0
          subst this
          simp
        · simp only [Bool.or_eq_true, beq_iff_eq, hxj, false_or]
          rw [hst p x hp]
          constructor
          · intro h; omega
          · intro h
            rcases Nat.eq_or_lt_of_le (Nat.le_of_lt_succ h) with h' | h'
            · subst h'; rw [hq0] at hp; cases hp; exact (hxj rfl).elim
            · exact h'
      · have htk : es.take (q + 1) = es.take q ++ [j] := by
          obtain ⟨hlt, hje⟩ := List.getElem?_eq_some_iff.1 hq0
          rw [List.take_succ_eq_append_getElem hlt, hje]
        have hmap : (es.take q).map (fun k => if k = j then u else r k) = (es.take q).map r := by
          refine List.map_congr_left fun x hx => ?_
          obtain ⟨p, hp⟩ := List.getElem?_of_mem hx
          have hpq : p < q := by
            have := (List.getElem?_eq_some_iff.1 hp).1
            rw [List.length_take] at this; omega
          rw [List.getElem?_take, if_pos hpq] at hp
          have hxj : x ≠ j := fun ex => by
            subst ex
            have := hdis p q x hp hq0; omega
          simp [hxj]
        rw [htk, List.map_append, hmap]
        simpa using hF
    · -- one that only looks
      have hg := h1 q r w (fun p x hp ha => (hst p x hp).1 (hA x (D.up j x hoj (hsz p x hp) ha).1 ha))
        (fun p x hp ha => Nat.le_of_not_lt fun h => by
          have h3 := hI.closed x j (hlm p x hp) hj ((hst p x hp).2 h) ha
          rw [hL] at h3; cases h3) hq hΦ
      refine (hcong hg).mono fun u w' ⟨hu, hw⟩ => ?_
      subst hu hw
      have hxj : ∀ x ∈ es, x ≠ j := fun x hx ex => by
        subst ex
        have : es.contains x = true := by simpa using hx
        rw [this] at hne; cases hne
      refine ⟨?_, ?_, q, hq, ?_, ?_⟩
      · intro j1 k h1 h2 h3 ha
        simp only [Bool.or_eq_true, beq_iff_eq] at h3 ⊢
        rcases h3 with rfl | h3
        · exact .inr (hA k (D.up j1 k hoj (by have := D.hm; omega) ha).1 ha)
        · exact .inr (hI.closed j1 k h1 h2 h3 ha)
      · intro j1 h2 hc h3
        have hagree : ∀ x ∈ es, r x = (fun k => if k = j then e j r else r k) x := fun x hx => by simp [hxj x hx]
        rcases hob j1 _ (Nat.zero_le _) h2 (Array.getElem?_eq_getElem (by have := D.hm; omega)) with ⟨q1, hq1, _⟩ | ⟨_, hv1, _⟩
        · have : es.contains j1 = true := by simpa using List.mem_of_getElem? hq1
          rw [this] at hc; cases hc
        · rw [← hv1 r _ fun x hx _ => hagree x hx]
          by_cases h4 : j1 = j
          · subst h4; simp
          · simp only [Bool.or_eq_true, beq_iff_eq, h4, false_or] at h3
            simp only [h4, if_false]
            exact hI.vals j1 h2 hc h3
      · intro p x hp
        simp only [Bool.or_eq_true, beq_iff_eq, hxj x (List.mem_of_getElem? hp), false_or]
        exact hst p x hp
      · have hmap : (es.take q).map (fun k => if k = j then e j r else r k) = (es.take q).map r := by
          refine List.map_congr_left fun x hx => ?_
          simp [hxj x (List.mem_of_mem_take hx)]
        rw [hmap]; exact hΦ
  have hFin : ∀ L r w', (∀ j, j < m → L j = true) → InvC m es Φ mask e L r w' → wpList P l.toArray Q (l.toArray.toList.drop m) (St n (lexFr l.toArray ρ r m)) w' := by
    intro L r w' hL hI
    obtain ⟨q, hq, hst, hΦ⟩ := hI.stage
    have hqe : q = es.length := by
      rcases Nat.eq_or_lt_of_le hq with h | h
      · exact h
      · have h3 := List.getElem?_eq_getElem h
        have := (hst q _ h3).1 (hL _ (hlm q _ h3)); omega
    subst hqe
    rw [List.take_length] at hΦ
    have hf : St n (lexFr l.toArray ρ r m) = St n (lexFr l.toArray ρ (valC es e r) m) := St_eq fun t _ => by
      rw [lexFr_eq D ρ _ t m (Nat.le_refl _), lexFr_eq D ρ _ t m (Nat.le_refl _)]
      split
      · rename_i j hj
        have hjm := (writer_some hj).1
        rw [if_pos hjm, if_pos hjm]
        by_cases hc : es.contains j = true
        · simp only [valC, hc, if_true]
        · have hc' : es.contains j = false := by simpa using hc
          rw [hI.vals j hjm hc' (hL j hjm)]
          simp only [valC, hc', Bool.false_eq_true, if_false]
      · rfl
    rw [hf]
    exact (hfin r w' hΦ).out
  have h := any_famI (Q := Q) (ρ := ρ) D (InvC m es Φ mask e) hOb hFin
    l.toArray.size (Array.replicate l.toArray.size false) { w with drawn := w.drawn + 1 } (fun _ => undef) (by simp) (by simp) (fun j hj => by rw [hrep] at hj; cases hj) (fun j _ => hrep j)
    (by
      rw [show (fun j => (Array.replicate l.toArray.size false).getD j false) = fun _ => false from funext hrep]
      exact ⟨fun _ _ _ _ h => (by cases h), fun _ _ _ h => (by cases h), 0, Nat.zero_le _, fun p x _ => (by simp), (by simpa using h0)⟩)
  have hf : St n (listFr l.toArray m ρ (fun _ => undef) (Array.replicate l.toArray.size false)) = St n ρ := St_eq fun t _ => by
    unfold listFr
    split
    · rw [hrep]; simp
    · rfl
  rw [hf] at h
  exact h
end
end Go.Proofs.YteofdmdpaejgaaaDoor.Vc
