/- (calls that only make new memory are looks) The calculus' law for a region whose order is open, where what touches memory ('es') is told of by what has been done of it; all else only looks. -/
import Derived.Test.YteofdmdpaejgaaaDoorVcPoset
namespace Go.Proofs.YteofdmdpaejgaaaDoor.Vc
open Go

/-- The walk in the order of the text. -/
def WalkE (P : Program) (n : Nat) (ops : Array Oper) (es : List Nat) (Φ : List Bool → List Value → World → Prop) (mask : List Nat) (Fin : (Env → Env) → Prop) : Nat → Nat → List Oper → (Env → Env) → Prop
  | _, 0, _, ρ => Fin ρ
  | i, k + 1, o :: l, ρ =>
    (∃ p, es[p]? = some i ∧ (∀ (L : Nat → Bool) (r : Env) (w0 w : World), L i = false → (∀ e ∈ es, anc mask i e = true → L e = true) → (∀ e ∈ es, anc mask e i = true → L e = false) → Φ (es.map L) (es.map r) w0 → Ext w0 w →
        Gives P n ops (ρ r) o w fun u w' => Φ ((es.map L).set p true) ((es.map r).set p u) w') ∧
      WalkE P n ops es Φ mask Fin (i + 1) k l fun r => updo (ρ r) o.dst (r i)) ∨
    (es.contains i = false ∧ ∃ v : Env → Value, (∀ r r' : Env, (∀ e ∈ es, anc mask i e = true → r e = r' e) → v r = v r') ∧
      (∀ (L : Nat → Bool) (r : Env) (w0 w : World), (∀ e ∈ es, anc mask i e = true → L e = true) → (∀ e ∈ es, anc mask e i = true → L e = false) → Φ (es.map L) (es.map r) w0 → Ext w0 w → Gives P n ops (ρ r) o w fun u w' => u = v r ∧ Ext w w') ∧
      WalkE P n ops es Φ mask Fin (i + 1) k l fun r => updo (ρ r) o.dst (v r))
  | _, _ + 1, [], _ => False

section
variable {P : Program} {n : Nat} {ops : Array Oper} {Q : Exit → Act → World → Prop} {mask : List Nat} {ρ : Env} {m : Nat} {es : List Nat} {Φ : List Bool → List Value → World → Prop}
/-- what is shown of one operation -/
def ObE (P : Program) (n : Nat) (ops : Array Oper) (es : List Nat) (Φ : List Bool → List Value → World → Prop) (mask : List Nat) (ρ : Env) (e : Nat → Env → Value) (j : Nat) (o : Oper) : Prop :=
  (∃ p, es[p]? = some j ∧ ∀ (L : Nat → Bool) (r : Env) (w0 w : World), L j = false → (∀ x ∈ es, anc mask j x = true → L x = true) → (∀ x ∈ es, anc mask x j = true → L x = false) → Φ (es.map L) (es.map r) w0 → Ext w0 w →
    Gives P n ops (lexFr ops ρ (valC es e r) j) o w fun u w' => Φ ((es.map L).set p true) ((es.map r).set p u) w') ∨
  (es.contains j = false ∧ (∀ r r' : Env, (∀ x ∈ es, anc mask j x = true → r x = r' x) → e j r = e j r') ∧
    ∀ (L : Nat → Bool) (r : Env) (w0 w : World), (∀ x ∈ es, anc mask j x = true → L x = true) → (∀ x ∈ es, anc mask x j = true → L x = false) → Φ (es.map L) (es.map r) w0 → Ext w0 w → Gives P n ops (lexFr ops ρ (valC es e r) j) o w fun u w' => u = e j r ∧ Ext w w')
theorem WalkE.out {Fin : (Env → Env) → Prop} : ∀ (k : Nat) (l : List Oper) (i : Nat) (ρ' : Env → Env) (e : Nat → Env → Value), (∀ j : Nat, l[j]? = ops[i + j]?) → (∀ r, ρ' r = lexFr ops ρ (valC es e r) i) → WalkE P n ops es Φ mask Fin i k l ρ' →
    ∃ e' : Nat → Env → Value, (∀ j, j < i → e' j = e j) ∧ (∀ (j : Nat) (o : Oper), i ≤ j → j < i + k → ops[j]? = some o → ObE P n ops es Φ mask ρ e' j o) ∧ Fin fun r => lexFr ops ρ (valC es e' r) (i + k)
  | 0, l, i, ρ', e, hl, hρ, h => by
    refine ⟨e, fun _ _ => rfl, fun j o h1 h2 => by omega, ?_⟩
    have : (fun r => lexFr ops ρ (valC es e r) (i + 0)) = ρ' := by funext r; rw [hρ r]; rfl
    rw [this]
    cases l <;> exact h
  | k + 1, [], i, ρ', e, hl, hρ, h => h.elim
  | k + 1, o :: l, i, ρ', e, hl, hρ, h => by
    have hoi : ops[i]? = some o := by simpa using (hl 0).symm
    have hl' : ∀ j : Nat, l[j]? = ops[i + 1 + j]? := fun j => by have := hl (j + 1); simpa [Nat.add_assoc, Nat.add_comm 1 j] using this
    rcases h with ⟨p, hp, h1, h2⟩ | ⟨hne, v, hv, h1, h2⟩
    · have hc : es.contains i = true := by simpa using List.mem_of_getElem? hp
      obtain ⟨e', h3, h4, h5⟩ := WalkE.out k l (i + 1) (fun r => updo (ρ' r) o.dst (r i)) e hl' (fun r => by
        simp only [lexFr, hoi, Option.bind_some]
        rw [hρ r]
        have : valC es e r i = r i := by unfold valC; rw [if_pos hc]
        rw [this]) h2
      refine ⟨e', fun j hj => h3 j (by omega), ?_, by simpa [Nat.add_assoc, Nat.add_comm 1] using h5⟩
      intro j o' hj1 hj2 hoj
      rcases Nat.eq_or_lt_of_le hj1 with rfl | hlt
      · rw [hoi] at hoj; cases hoj
        refine .inl ⟨p, hp, fun L r w0 w a1 a2 a3 hF hE0 => ?_⟩
        have := h1 L r w0 w a1 a2 a3 hF hE0
        rwa [hρ r, lexC_eq e e' r i fun j hj => (h3 j (by omega)).symm] at this
      · exact h4 j o' (by omega) (by omega) hoj
    · let e₁ : Nat → Env → Value := fun j => if j = i then v else e j
      have hbe : ∀ j, j < i → e₁ j = e j := fun j hj => if_neg (by omega)
      have hi : e₁ i = v := if_pos rfl
      obtain ⟨e', h3, h4, h5⟩ := WalkE.out k l (i + 1) (fun r => updo (ρ' r) o.dst (v r)) e₁ hl' (fun r => by
        simp only [lexFr, hoi, Option.bind_some]
        rw [hρ r, lexC_eq e₁ e r i hbe]
        have : valC es e₁ r i = v r := by unfold valC; rw [if_neg (by rw [hne]; decide), hi]
        rw [this]) h2
      refine ⟨e', fun j hj => (h3 j (by omega)).trans (hbe j hj), ?_, by simpa [Nat.add_assoc, Nat.add_comm 1] using h5⟩
      intro j o' hj1 hj2 hoj
      rcases Nat.eq_or_lt_of_le hj1 with rfl | hlt
      · rw [hoi] at hoj; cases hoj
        have hei : e' i = v := (h3 i (by omega)).trans hi
        refine .inr ⟨hne, fun r r' hr => by rw [hei]; exact hv r r' hr, fun L r w0 w a1 a2 hF hE0 => ?_⟩
        have := h1 L r w0 w a1 a2 hF hE0
        rw [hρ r, lexC_eq e e' r i fun j hj => ((h3 j (by omega)).trans (hbe j hj)).symm] at this
        rwa [hei]
      · exact h4 j o' (by omega) (by omega) hoj

theorem WalkE.eff {Fin : (Env → Env) → Prop} {i k : Nat} {o : Oper} {l : List Oper} {ρ : Env → Env} (p : Nat) (hp : es[p]? = some i) (h1 : ∀ (L : Nat → Bool) (r : Env) (w0 w : World), L i = false → (∀ e ∈ es, anc mask i e = true → L e = true) → (∀ e ∈ es, anc mask e i = true → L e = false) → Φ (es.map L) (es.map r) w0 → Ext w0 w →
        Gives P n ops (ρ r) o w fun u w' => Φ ((es.map L).set p true) ((es.map r).set p u) w')
    (h2 : WalkE P n ops es Φ mask Fin (i + 1) k l fun r => updo (ρ r) o.dst (r i)) : WalkE P n ops es Φ mask Fin i (k + 1) (o :: l) ρ := .inl ⟨p, hp, h1, h2⟩
theorem WalkE.call {Fin : (Env → Env) → Prop} {i k : Nat} {o : Oper} {l : List Oper} {ρ : Env → Env} (hne : es.contains i = false) (v : Env → Value) (hv : ∀ r r' : Env, (∀ e ∈ es, anc mask i e = true → r e = r' e) → v r = v r')
    (h1 : ∀ (L : Nat → Bool) (r : Env) (w0 w : World), (∀ e ∈ es, anc mask i e = true → L e = true) → (∀ e ∈ es, anc mask e i = true → L e = false) → Φ (es.map L) (es.map r) w0 → Ext w0 w → Gives P n ops (ρ r) o w fun u w' => u = v r ∧ Ext w w')
    (h2 : WalkE P n ops es Φ mask Fin (i + 1) k l fun r => updo (ρ r) o.dst (v r)) : WalkE P n ops es Φ mask Fin i (k + 1) (o :: l) ρ := .inr ⟨hne, v, hv, h1, h2⟩
theorem WalkE.look {Fin : (Env → Env) → Prop} {i k : Nat} {o : Oper} {l : List Oper} {ρ : Env → Env} (hne : es.contains i = false) (v : Env → Value) (hv : ∀ r r' : Env, (∀ e ∈ es, anc mask i e = true → r e = r' e) → v r = v r')
    (h1 : ∀ (L : Nat → Bool) (r : Env) (w0 w : World), (∀ e ∈ es, anc mask i e = true → L e = true) → (∀ e ∈ es, anc mask e i = true → L e = false) → Φ (es.map L) (es.map r) w0 → Ext w0 w → Gives P n ops (ρ r) o w fun u w' => u = v r ∧ w' = w)
    (h2 : WalkE P n ops es Φ mask Fin (i + 1) k l fun r => updo (ρ r) o.dst (v r)) : WalkE P n ops es Φ mask Fin i (k + 1) (o :: l) ρ :=
  WalkE.call hne v hv (fun L r w0 w a1 a2 hF hE => (h1 L r w0 w a1 a2 hF hE).mono fun u w' ⟨e1, e2⟩ => ⟨e1, by rw [e2]; exact Chg.refl _ _⟩) h2
theorem WalkE.nil {Fin : (Env → Env) → Prop} {i : Nat} {l : List Oper} {ρ : Env → Env} (h : Fin ρ) : WalkE P n ops es Φ mask Fin i 0 l ρ := by cases l <;> exact h
/-- what holds at whatever stage -/
structure InvE (m : Nat) (es : List Nat) (Φ : List Bool → List Value → World → Prop) (mask : List Nat) (e : Nat → Env → Value) (L : Nat → Bool) (r : Env) (w : World) : Prop where
  closed : ∀ j k, j < m → k < m → L j = true → anc mask j k = true → L k = true
  vals : ∀ j, j < m → es.contains j = false → L j = true → r j = e j r
  stage : ∃ w0, Φ (es.map L) (es.map r) w0 ∧ Ext w0 w
/-- THE LAW. -/
theorem drawE {id m : Nat} {l : List Oper} {w : World} (mask : List Nat) (es : List Nat) (Φ : List Bool → List Value → World → Prop) (hmix : P.follows .mixedOrders = true) (hB : drawB l.toArray mask m = true) (hch : posB m es = true)
    (h0 : Φ (es.map fun _ => false) (es.map fun _ => undef) { w with drawn := w.drawn + 1 })
    (h : WalkE P n l.toArray es Φ mask (fun ρ' => ∀ r w0 w', Φ (es.map fun _ => true) (es.map r) w0 → Ext w0 w' → W P n l.toArray Q (l.drop m) (ρ' r) w') 0 m l fun _ => ρ) :
    (Code.region id l.toArray true).wp P Q (St n ρ) w := by
  have D := DrawOk.of hB
  obtain ⟨e, _, hob, hfin⟩ := WalkE.out (ops := l.toArray) (ρ := ρ) m l 0 (fun _ => ρ) (fun _ _ => undef) (fun j => by simp) (fun r => rfl) h
  simp only [Nat.zero_add] at hob hfin
  simp only [posB, Bool.and_eq_true] at hch
  have hlm : ∀ (p x : Nat), es[p]? = some x → x < m := fun p x hp => by
    have := List.all_eq_true.1 hch.1 x (List.mem_of_getElem? hp); simpa using this
  have hsz : ∀ (p x : Nat), es[p]? = some x → x < l.toArray.size := fun p x hp => Nat.lt_of_lt_of_le (hlm p x hp) D.hm
  have hdis : ∀ (p p' x : Nat), es[p]? = some x → es[p']? = some x → p = p' := fun p p' x hp hp' => by
    have key : ∀ (q q' : Nat), q < q' → es[q]? = some x → es[q']? = some x → False := fun q q' hlt hq hq' => by
      have h1 := List.all_eq_true.1 (List.all_eq_true.1 hch.2 q' (List.mem_range.2 (List.getElem?_eq_some_iff.1 hq').1)) q (List.mem_range.2 hlt)
      simp [List.getD_eq_getElem?_getD, hq, hq'] at h1
    rcases Nat.lt_trichotomy p p' with h | h | h
    · exact (key p p' h hp hp').elim
    · exact h
    · exact (key p' p h hp' hp).elim
  have hmem : ∀ x ∈ es, x < m ∧ x < l.toArray.size := fun x hx => by
    obtain ⟨p, hp⟩ := List.getElem?_of_mem hx
    exact ⟨hlm p x hp, hsz p x hp⟩
  refine wp_region_any hmix ?_
  have hrep : ∀ j, (Array.replicate l.toArray.size false).getD j false = false := fun j => by
    simp only [Array.getD_eq_getD_getElem?, Array.getElem?_replicate]
    split <;> rfl
  have hOb : ∀ (j : Nat) (o : Oper), j < m → l.toArray[j]? = some o → ObI P n l.toArray (InvE m es Φ mask e) mask ρ j o := by
    intro j o hj ho L r w hL hA hI
    have hoj : j < l.toArray.size := (Array.getElem?_eq_some_iff.1 ho).1
    have hsel := Region.noSelect_spec D.nosel
    have hcong : ∀ {S}, Gives P n l.toArray (lexFr l.toArray ρ (valC es e r) j) o w S → Gives P n l.toArray (lexFr l.toArray ρ r j) o w S := by
      intro S hg
      refine hg.congr (fun cs b => hsel j _ cs b ho) fun t ht => ?_
      rw [lexFr_eq D ρ _ t j (by omega), lexFr_eq D ρ _ t j (by omega)]
      split
      · rename_i j' hj'
        by_cases hlt : j' < j
        · rw [if_pos hlt, if_pos hlt]
          rcases D.reads j _ hj ho t ht j' hj' with rfl | ⟨_, h2⟩ | ⟨h1, _⟩
          · omega
          · by_cases hc : es.contains j' = true
            · simp only [valC, hc, if_true]
            · have hc' : es.contains j' = false := by simpa using hc
              rw [hI.vals j' (by omega) hc' (hA j' hlt h2)]
              simp only [valC, hc', Bool.false_eq_true, if_false]
          · omega
        · rw [if_neg hlt, if_neg hlt]
      · rfl
    have hup : ∀ x ∈ es, anc mask j x = true → L x = true := fun x hx ha => hA x (D.up j x hoj (hmem x hx).2 ha).1 ha
    have hdn : ∀ x ∈ es, anc mask x j = true → L x = false := fun x hx ha => by
      cases h : L x with
      | false => rfl
      | true => have := hI.closed x j (hmem x hx).1 hj h ha; rw [hL] at this; cases this
    rcases hob j o (Nat.zero_le _) hj ho with ⟨p, hp, h1⟩ | ⟨hne, hv, h1⟩
    · -- one that touches memory
      obtain ⟨w0, hF0, hE0⟩ := hI.stage
      refine (hcong (h1 L r w0 w hL hup hdn hF0 hE0)).mono fun u w' hF => ?_
      have hcj : es.contains j = true := by simpa using List.mem_of_getElem? hp
      refine ⟨?_, ?_, ?_⟩
      · intro j1 k h1 h2 h3 ha
        simp only [Bool.or_eq_true, beq_iff_eq] at h3 ⊢
        rcases h3 with rfl | h3
        · exact .inr (hA k (D.up j1 k hoj (by have := D.hm; omega) ha).1 ha)
        · exact .inr (hI.closed j1 k h1 h2 h3 ha)
      · intro j1 h2 hc h3
        have hne : j1 ≠ j := fun e => by rw [e, hcj] at hc; cases hc
        simp only [Bool.or_eq_true, beq_iff_eq, hne, false_or] at h3
        simp only [hne, if_false]
        rw [hI.vals j1 h2 hc h3]
        rcases hob j1 _ (Nat.zero_le _) h2 (Array.getElem?_eq_getElem (by have := D.hm; omega)) with ⟨q1, hq1, _⟩ | ⟨_, hv1, _⟩
        · have : es.contains j1 = true := by simpa using List.mem_of_getElem? hq1
          rw [this] at hc; cases hc
        · refine hv1 _ _ fun x hx ha => ?_
          have hxj : x ≠ j := fun ex => by
            subst ex
            have := hI.closed j1 x h2 hj h3 ha
            rw [hL] at this; cases this
          simp [hxj]
      · have e1 : (es.map fun k => k == j || L k) = (es.map L).set p true := by
          rw [← map_set L true hp fun q hq => hdis q p j hq hp]
          refine List.map_congr_left fun k _ => ?_
          by_cases hk : k = j <;> simp [hk]
        rw [e1, map_set r u hp fun q hq => hdis q p j hq hp]
        exact ⟨w', hF, Chg.refl _ _⟩
    · -- one that only looks
      obtain ⟨w0, hF0, hE0⟩ := hI.stage
      refine (hcong (h1 L r w0 w hup hdn hF0 hE0)).mono fun u w' ⟨hu, hw⟩ => ?_
      subst hu
      have hxj : ∀ x ∈ es, x ≠ j := fun x hx ex => by
        subst ex
        have : es.contains x = true := by simpa using hx
        rw [this] at hne; cases hne
      refine ⟨?_, ?_, ?_⟩
      · intro j1 k h1 h2 h3 ha
        simp only [Bool.or_eq_true, beq_iff_eq] at h3 ⊢
        rcases h3 with rfl | h3
        · exact .inr (hA k (D.up j1 k hoj (by have := D.hm; omega) ha).1 ha)
        · exact .inr (hI.closed j1 k h1 h2 h3 ha)
      · intro j1 h2 hc h3
        have hagree : ∀ x ∈ es, r x = (fun k => if k = j then e j r else r k) x := fun x hx => by simp [hxj x hx]
        rcases hob j1 _ (Nat.zero_le _) h2 (Array.getElem?_eq_getElem (by have := D.hm; omega)) with ⟨q1, hq1, _⟩ | ⟨_, hv1, _⟩
        · have : es.contains j1 = true := by simpa using List.mem_of_getElem? hq1
          rw [this] at hc; cases hc
        · rw [← hv1 r _ fun x hx _ => hagree x hx]
          by_cases h4 : j1 = j
          · subst h4; simp
          · simp only [Bool.or_eq_true, beq_iff_eq, h4, false_or] at h3
            simp only [h4, if_false]
            exact hI.vals j1 h2 hc h3
      · have e1 : (es.map fun k => k == j || L k) = es.map L := List.map_congr_left fun x hx => by simp [hxj x hx]
        have e2 : (es.map fun k => if k = j then e j r else r k) = es.map r := List.map_congr_left fun x hx => by simp [hxj x hx]
        rw [e1, e2]; exact ⟨w0, hF0, hE0.trans hw⟩
  have hFin : ∀ L r w', (∀ j, j < m → L j = true) → InvE m es Φ mask e L r w' → wpList P l.toArray Q (l.toArray.toList.drop m) (St n (lexFr l.toArray ρ r m)) w' := by
    intro L r w' hL hI
    obtain ⟨w0, hΦ, hE0⟩ := hI.stage
    rw [show es.map L = es.map fun _ => true from List.map_congr_left fun x hx => hL x (hmem x hx).1] at hΦ
    have hf : St n (lexFr l.toArray ρ r m) = St n (lexFr l.toArray ρ (valC es e r) m) := St_eq fun t _ => by
      rw [lexFr_eq D ρ _ t m (Nat.le_refl _), lexFr_eq D ρ _ t m (Nat.le_refl _)]
      split
      · rename_i j hj
        have hjm := (writer_some hj).1
        rw [if_pos hjm, if_pos hjm]
        by_cases hc : es.contains j = true
        · simp only [valC, hc, if_true]
        · have hc' : es.contains j = false := by simpa using hc
          rw [hI.vals j hjm hc' (hL j hjm)]
          simp only [valC, hc', Bool.false_eq_true, if_false]
      · rfl
    rw [hf]
    exact (hfin r w0 w' hΦ hE0).out
  have h := any_famI (Q := Q) (ρ := ρ) D (InvE m es Φ mask e) hOb hFin
    l.toArray.size (Array.replicate l.toArray.size false) { w with drawn := w.drawn + 1 } (fun _ => undef) (by simp) (by simp) (fun j hj => by rw [hrep] at hj; cases hj) (fun j _ => hrep j)
    (by
      rw [show (fun j => (Array.replicate l.toArray.size false).getD j false) = fun _ => false from funext hrep]
      exact ⟨fun _ _ _ _ h => (by cases h), fun _ _ _ h => (by cases h), ⟨_, h0, Chg.refl _ _⟩⟩)
  have hf : St n (listFr l.toArray m ρ (fun _ => undef) (Array.replicate l.toArray.size false)) = St n ρ := St_eq fun t _ => by
    unfold listFr
    split
    · rw [hrep]; simp
    · rfl
  rw [hf] at h
  exact h
end
end Go.Proofs.YteofdmdpaejgaaaDoor.Vc
