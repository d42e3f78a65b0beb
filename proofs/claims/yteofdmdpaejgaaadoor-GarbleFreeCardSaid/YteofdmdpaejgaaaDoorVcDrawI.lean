/- The calculus' law for a region whose order is open, with an invariant of one's own: where two operations that no order binds must be told apart (two new blocks), or one writes into what another has made. -/
import Derived.Test.YteofdmdpaejgaaaDoorVcDraw
namespace Go.Proofs.YteofdmdpaejgaaaDoor.Vc
open Go

section
variable {P : Program} {n : Nat} {ops : Array Oper} {Q : Exit → Act → World → Prop} {mask : List Nat} {ρ : Env} {m : Nat}
def ObI (P : Program) (n : Nat) (ops : Array Oper) (I : (Nat → Bool) → Env → World → Prop) (mask : List Nat) (ρ : Env) (j : Nat) (o : Oper) : Prop :=
  ∀ L r w, L j = false → (∀ k, k < j → anc mask j k = true → L k = true) → I L r w → Gives P n ops (lexFr ops ρ r j) o w fun u w' => I (fun k => k == j || L k) (fun k => if k = j then u else r k) w'
/-- The walk in the order of the text. -/
def WalkI (P : Program) (n : Nat) (ops : Array Oper) (I : (Nat → Bool) → Env → World → Prop) (mask : List Nat) (Fin : (Env → Env) → Prop) : Nat → Nat → List Oper → (Env → Env) → Prop
  | _, 0, _, ρ => Fin ρ
  | i, k + 1, o :: l, ρ => (∀ L r w, L i = false → (∀ k, k < i → anc mask i k = true → L k = true) → I L r w → Gives P n ops (ρ r) o w fun u w' => I (fun k => k == i || L k) (fun k => if k = i then u else r k) w') ∧
      WalkI P n ops I mask Fin (i + 1) k l fun r => updo (ρ r) o.dst (r i)
  | _, _ + 1, [], _ => False
theorem WalkI.out {I : (Nat → Bool) → Env → World → Prop} {Fin : (Env → Env) → Prop} : ∀ (k : Nat) (l : List Oper) (i : Nat) (ρ' : Env → Env), (∀ j : Nat, l[j]? = ops[i + j]?) → (∀ r, ρ' r = lexFr ops ρ r i) → WalkI P n ops I mask Fin i k l ρ' →
    (∀ (j : Nat) (o : Oper), i ≤ j → j < i + k → ops[j]? = some o → ObI P n ops I mask ρ j o) ∧ Fin fun r => lexFr ops ρ r (i + k)
  | 0, l, i, ρ', hl, hρ, h => by
    refine ⟨fun j o h1 h2 => by omega, ?_⟩
    have : (fun r => lexFr ops ρ r (i + 0)) = ρ' := by funext r; rw [hρ r]; rfl
    rw [this]
    cases l <;> exact h
  | k + 1, [], i, ρ', hl, hρ, h => h.elim
  | k + 1, o :: l, i, ρ', hl, hρ, h => by
    have hoi : ops[i]? = some o := by simpa using (hl 0).symm
    have hl' : ∀ j : Nat, l[j]? = ops[i + 1 + j]? := fun j => by have := hl (j + 1); simpa [Nat.add_assoc, Nat.add_comm 1 j] using this
    obtain ⟨h1, h2⟩ := h
    obtain ⟨h3, h4⟩ := WalkI.out k l (i + 1) (fun r => updo (ρ' r) o.dst (r i)) hl' (fun r => by
      simp only [lexFr, hoi, Option.bind_some]
      rw [hρ r]) h2
    refine ⟨fun j o' hj1 hj2 hoj => ?_, by simpa [Nat.add_assoc, Nat.add_comm 1] using h4⟩
    rcases Nat.eq_or_lt_of_le hj1 with rfl | hlt
    · rw [hoi] at hoj; cases hoj
      intro L r w hL hA hI
      have := h1 L r w hL hA hI
      rwa [hρ r] at this
    · exact h3 j o' (by omega) (by omega) hoj

theorem any_famI (D : DrawOk ops mask m) (I : (Nat → Bool) → Env → World → Prop)
    (hob : ∀ (j : Nat) (o : Oper), j < m → ops[j]? = some o → ObI P n ops I mask ρ j o)
    (hfin : ∀ L r w', (∀ j, j < m → L j = true) → I L r w' → wpList P ops Q (ops.toList.drop m) (St n (lexFr ops ρ r m)) w') :
    ∀ (fuel : Nat) (listed : Array Bool) (w : World) (r : Env), listed.size = ops.size → listed.toList.count false = fuel → ClosedL ops mask listed →
      (∀ j, m ≤ j → listed.getD j false = false) → I (fun j => listed.getD j false) r w →
      wpAny P .any ops Q fuel listed (St n (listFr ops m ρ r listed)) w := by
  have hsel := Region.noSelect_spec D.nosel
  intro fuel
  induction fuel with
  | zero =>
    intro listed w r hs hcnt hcl hm hI
    -- all are listed: then there is nothing behind the first ones
    have hall : ∀ j, j < ops.size → listed.getD j false = true := by
      intro j hj
      cases hx : listed.getD j false with
      | true => rfl
      | false =>
        have : false ∈ listed.toList := by
          have hj' : j < listed.size := by omega
          have : listed[j] = false := by simpa [hj'] using hx
          rw [← this]; simp
        have := List.count_pos_iff.2 this
        omega
    have hmn : m = ops.size := by
      have h1 := D.hm
      rcases Nat.eq_or_lt_of_le h1 with h | h
      · exact h
      · have := hall m h; rw [hm m (Nat.le_refl _)] at this; cases this
    have hfr : St n (listFr ops m ρ r listed) = St n (lexFr ops ρ r m) := St_eq fun t _ => by
      rw [lexFr_eq D ρ _ t m (Nat.le_refl _)]
      unfold listFr
      split
      · rename_i j hj
        have := (writer_some hj).1
        rw [if_pos (hall j (by omega)), if_pos this]
      · rfl
    rw [hfr]
    have h := hfin _ r w (fun j hj => hall j (by omega)) hI
    have : ops.toList.drop m = [] := by rw [List.drop_eq_nil_iff]; simp; omega
    rw [this] at h
    refine ⟨?_, h⟩
    cases hr : Region.ready .any ops listed with
    | nil => rfl
    | cons i _ =>
      have hi : i ∈ Region.ready .any ops listed := by rw [hr]; simp
      obtain ⟨h1, h2, _⟩ := ready_anc D hcl hi
      rw [getD_eq (by omega), hall i h1] at h2; cases h2
  | succ fuel ih =>
    intro listed w r hs hcnt hcl hm hI
    by_cases hpre : ∀ j, j < m → listed.getD j false = true
    · -- all the first ones are there: the rest, in the order of the text
      have hfr : St n (listFr ops m ρ r listed) = St n (lexFr ops ρ r m) := St_eq fun t _ => by
        rw [lexFr_eq D ρ _ t m (Nat.le_refl _)]
        unfold listFr
        split
        · rename_i j hj
          have := (writer_some hj).1
          rw [if_pos (hpre j this), if_pos this]
        · rfl
      rw [hfr]
      have h := hfin _ r w hpre hI
      have hlen : (ops.toList.drop m).length = fuel + 1 := by
        have hl : listed.toList = List.replicate m true ++ List.replicate (ops.size - m) false := by
          have hm' := D.hm
          apply List.ext_getElem?
          intro j
          rcases Nat.lt_or_ge j m with h1 | h1
          · rw [List.getElem?_append_left (by simpa using h1)]
            have := hpre j h1
            have hj' : j < listed.size := by omega
            simp [hj', h1] at this ⊢; exact this
          · rw [List.getElem?_append_right (by simpa using h1)]
            rcases Nat.lt_or_ge j ops.size with h2 | h2
            · have := hm j h1
              have hj' : j < listed.size := by omega
              have h3 : j - m < ops.size - m := by omega
              simp [hj', h3] at this ⊢; exact this
            · rw [List.getElem?_eq_none (by simp; omega), List.getElem?_eq_none (by simp; omega)]
        rw [hl] at hcnt
        simp [List.count_append, List.count_replicate] at hcnt
        simp; omega
      rw [← hlen]
      exact any_tail D _ m listed _ w (Nat.le_refl _) (fun j => by simp) hs hcl (fun j hj => ⟨fun hx => Nat.lt_of_not_le fun h1 => (by rw [hm j h1] at hx; cases hx), hpre j⟩) h
    · -- one of the first ones comes next
      have only : ∀ i, i ∈ Region.ready .any ops listed → i < m := by
        intro i hi
        obtain ⟨h1, _, h3⟩ := ready_anc D hcl hi
        rcases Nat.lt_or_ge i m with h | h
        · exact h
        · exact absurd (fun j hj => h3 j (by have := D.hm; omega) (D.tail i j h h1 (by omega))) hpre
      have some' : ∃ i, i ∈ Region.ready .any ops listed := by
        have hex : ∃ j, j < m ∧ listed.getD j false = false := by
          rcases Classical.em (∃ j, j < m ∧ listed.getD j false = false) with h | h
          · exact h
          · exact absurd (fun j hj => by
              cases hx : listed.getD j false with
              | true => rfl
              | false => exact absurd ⟨j, hj, hx⟩ h) hpre
        -- the least one
        have least : ∀ j, j < m → listed.getD j false = false → ∃ i, i < m ∧ listed.getD i false = false ∧ ∀ k, k < i → listed.getD k false = true := by
          intro j
          induction j using Nat.strongRecOn with
          | _ j ihj =>
            intro h1 h2
            rcases Classical.em (∃ k, k < j ∧ listed.getD k false = false) with ⟨k, hk, hk'⟩ | h
            · exact ihj k hk (by omega) hk'
            · exact ⟨j, h1, h2, fun k hk => by
                cases hx : listed.getD k false with
                | true => rfl
                | false => exact absurd ⟨k, hk, hx⟩ h⟩
        obtain ⟨j, h1, h2⟩ := hex
        obtain ⟨i, h3, h4, h5⟩ := least j h1 h2
        have hi : i < ops.size := by have := D.hm; omega
        refine ⟨i, mem_ready.2 ⟨by rw [getD_eq (by omega)]; exact h4, ops[i], Array.getElem?_eq_getElem hi, fun e he hb => h5 e.on (D.edges i _ (Array.getElem?_eq_getElem hi) e he hb)⟩⟩
      refine ⟨fun h0 => (by obtain ⟨i, hi⟩ := some'; rw [h0] at hi; cases hi), fun i hi => ?_⟩
      have him := only i hi
      obtain ⟨hin, hun, hanc⟩ := ready_anc D hcl hi
      have hun' : listed.getD i false = false := by rw [← getD_eq (by omega)]; exact hun
      have hoi : ops[i]? = some ops[i] := Array.getElem?_eq_getElem hin
      have hil : i < listed.size := by omega
      have hg := hob i _ him hoi _ r w hun' (fun k hk ha => hanc k (by omega) ha) hI
      have hg' : Gives P n ops (listFr ops m ρ r listed) ops[i] w fun u w' => I (fun k => k == i || listed.getD k false) (fun k => if k = i then u else r k) w' := by
        refine hg.congr (fun cs b => hsel i _ cs b hoi) fun t ht => ?_
        rw [lexFr_eq D ρ _ t i (by omega)]
        unfold listFr
        split
        · rename_i j hj
          rcases D.reads i _ him hoi t ht j hj with rfl | ⟨h1, h2⟩ | ⟨h1, h2⟩
          · rw [if_neg (by omega), if_neg (by rw [hun']; simp)]
          · rw [if_pos h1, if_pos (hanc j (by omega) h2)]
          · rw [if_neg (by omega)]
            rw [if_neg]
            intro hx
            have := hcl j hx i hin h2
            rw [hun'] at this; cases this
        · rfl
      refine hg'.wpOp hoi fun u w' h1 => ?_
      -- the values behind this operation
      let r' : Env := fun j => if j = i then u else r j
      have hr' : ∀ j, j ≠ i → r' j = r j := fun j hj => if_neg hj
      have hri : r' i = u := if_pos rfl
      have hframe : St n (updo (listFr ops m ρ r listed) (ops[i]).dst u) = St n (listFr ops m ρ r' (listed.setIfInBounds i true)) := by
        refine St_eq fun t _ => ?_
        have hbind : (ops[i]?).bind (·.dst) = (ops[i]).dst := by rw [hoi]; rfl
        cases hd : (ops[i]).dst with
        | none =>
          simp only [updo]
          unfold listFr
          split
          · rename_i j hj
            have hne : j ≠ i := fun e => by have := (writer_some hj).2; rw [e, hbind, hd] at this; cases this
            rw [getD_set_ne false (Ne.symm hne), hr' j hne]
          · rfl
        | some dd =>
          simp only [updo]
          by_cases ht : t = dd
          · subst ht
            rw [upd_same]
            unfold listFr
            rw [writer_of D him (by rw [hbind, hd])]
            simp only [getD_set_self hil, if_true, hri]
          · rw [upd_ne _ _ ht]
            unfold listFr
            split
            · rename_i j hj
              have hne : j ≠ i := fun e => by have := (writer_some hj).2; rw [e, hbind, hd] at this; exact ht (Option.some.inj this).symm
              rw [getD_set_ne false (Ne.symm hne), hr' j hne]
            · rfl
      rw [hframe]
      refine ih _ w' r' (by simpa using hs) ?_ (closed_set D hcl hi) ?_ ?_
      · rw [Array.toList_setIfInBounds]
        have := count_set listed.toList i (by
          have : listed[i] = false := by simpa [hil] using hun'
          simp [hil, this])
        omega
      · intro j hj
        rw [getD_set_ne false (by omega)]; exact hm j hj
      · have e : (fun j => (listed.setIfInBounds i true).getD j false) = fun k => k == i || listed.getD k false := by
          funext k
          by_cases hk : k = i
          · subst hk; rw [getD_set_self hil]; simp
          · rw [getD_set_ne false (fun e => hk e.symm)]; simp [hk]
        rw [e]; exact h1

/-- THE LAW with an invariant of one's own, over what has been carried out, the values and the world. -/
theorem drawI {id m : Nat} {l : List Oper} {w : World} (mask : List Nat) (I : (Nat → Bool) → Env → World → Prop) (hmix : P.follows .mixedOrders = true) (hB : drawB l.toArray mask m = true)
    (h0 : I (fun _ => false) (fun _ => undef) { w with drawn := w.drawn + 1 })
    (h : WalkI P n l.toArray I mask (fun ρ' => ∀ L r w', (∀ j, j < m → L j = true) → I L r w' → W P n l.toArray Q (l.drop m) (ρ' r) w') 0 m l fun _ => ρ) :
    (Code.region id l.toArray true).wp P Q (St n ρ) w := by
  have D := DrawOk.of hB
  obtain ⟨h2, h4⟩ := WalkI.out (ops := l.toArray) (ρ := ρ) m l 0 (fun _ => ρ) (fun j => by simp) (fun r => rfl) h
  simp only [Nat.zero_add] at h2 h4
  refine wp_region_any hmix ?_
  have hrep : ∀ j, (Array.replicate l.toArray.size false).getD j false = false := fun j => by
    simp only [Array.getD_eq_getD_getElem?, Array.getElem?_replicate]
    split <;> rfl
  have h := any_famI (Q := Q) (ρ := ρ) D I (fun j o hj ho => h2 j o (Nat.zero_le _) hj ho) (fun L r w' hL hI => (h4 L r w' hL hI).out)
    l.toArray.size (Array.replicate l.toArray.size false) { w with drawn := w.drawn + 1 } (fun _ => undef) (by simp) (by simp) (fun j hj => by rw [hrep] at hj; cases hj) (fun j _ => hrep j) (by rw [show (fun j => (Array.replicate l.toArray.size false).getD j false) = fun _ => false from funext hrep]; exact h0)
  have hf : St n (listFr l.toArray m ρ (fun _ => undef) (Array.replicate l.toArray.size false)) = St n ρ := St_eq fun t _ => by
    unfold listFr
    split
    · rw [hrep]; simp
    · rfl
  rw [hf] at h
  exact h
end
end Go.Proofs.YteofdmdpaejgaaaDoor.Vc
