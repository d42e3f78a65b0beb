/- The calculus' rows of one cell of an element. -/
import Derived.Test.YteofdmdpaejgaaaDoorVcStruct
namespace Go.Proofs.YteofdmdpaejgaaaDoor.Vc
open Go
section
variable {α : Type} {E : Enc α} {P : Program} {n : Nat} {ops : Array Oper} {Q : Exit → Act → World → Prop} {rest : List Oper} {ρ : Env} {w w₀ u : World} {d : Option Nat} {t S T : TypeId} {pos : String} {after : Array Edge} {x y : Operand} {M : Nat → Prop} {L : List (Option Nat × Obj)} {k c : Nat} {l : List α} {g : Option (Nat × Bool)}
/-- the address of an item of an element that is an array -/
theorem r_indexAS {ad : Option Addr} {k k' m z j : Nat} {kk : IntKind} {i : Int} (ha : arr P T = some (m, z)) (hR : Rd E w ad l) (hl : 0 < l.length) (hx : ev n ρ x = .pointer (adr ad k)) (hy : ev n ρ y = .int kk i) (hi : i = (j : Int)) (hj : j < m) (hk : k + j * z = k') :
    Runs P n ρ ⟨d, .indexAddr T x y, t, pos, after, g⟩ w (.pointer (adr ad k')) w := by
  subst hk
  rcases hR with h | ⟨b, off, cs, X, fr, rfl, _, _⟩
  · rw [h] at hl; simp at hl
  · refine (r_indexA (b := b) (off := off + k) ha (by rw [hx]; simp [adr, Addr.add_lit]) hy hi hj rfl).as ?_
    simp [adr, Addr.add_lit, Nat.add_assoc]
theorem cel_setP (l : List α) (j o : Nat) (a b : α) (v : Value) (h : l[j]? = some a) (ho : o < E.s) (hb : E.f b = (E.f a).set o v) (post : List Value) :
    putR (cel E l ++ post).toArray (j * E.s + o) [v] = (cel E (l.set j b) ++ post).toArray := by
  have hj : j < l.length := (List.getElem?_eq_some_iff.1 h).1
  have e1 : l = l.take j ++ a :: l.drop (j + 1) := by
    have := (List.getElem?_eq_some_iff.1 h).2
    rw [← this, List.getElem_cons_drop, List.take_append_drop]
  have e2 : l.set j b = l.take j ++ b :: l.drop (j + 1) := by
    rw [List.set_eq_take_append_cons_drop, if_pos hj]
  have ho' : o < (E.f a).length := by rw [E.len]; exact ho
  have e4 : E.f a = (E.f a).take o ++ [(E.f a)[o]] ++ (E.f a).drop (o + 1) := by
    rw [List.append_assoc, List.singleton_append, List.getElem_cons_drop, List.take_append_drop]
  have e5 : E.f b = (E.f a).take o ++ [v] ++ (E.f a).drop (o + 1) := by
    rw [hb, List.set_eq_take_append_cons_drop, if_pos ho', List.append_assoc, List.singleton_append]
  have c1 : cel E l = cel E (l.take j) ++ (E.f a ++ cel E (l.drop (j + 1))) := by
    conv => lhs; rw [e1]
    rw [cel_append, cel_cons]
  have c2 : cel E (l.set j b) = cel E (l.take j) ++ (E.f b ++ cel E (l.drop (j + 1))) := by
    rw [e2, cel_append, cel_cons]
  have hl : j * E.s + o = (cel E (l.take j) ++ (E.f a).take o).length := by
    rw [List.length_append, cel_length, List.length_take, List.length_take, Nat.min_eq_left (by omega), Nat.min_eq_left (by omega)]
  rw [hl, c1, c2, e5]
  have e3 : cel E (l.take j) ++ (E.f a ++ cel E (l.drop (j + 1))) ++ post = (cel E (l.take j) ++ (E.f a).take o) ++ [(E.f a)[o]] ++ ((E.f a).drop (o + 1) ++ (cel E (l.drop (j + 1)) ++ post)) := by
    conv => lhs; rw [e4]
    simp only [List.append_assoc]
  rw [e3, putR_append _ [(E.f a)[o]] [v] _ rfl]
  simp only [List.append_assoc]
/-- a store into one cell of an element of a slice of one's own -/
theorem d_storeP {key : Option Nat} {sp : List Value} {j q o : Nat} {a b : α} {v : Value} (H : Hp M w₀ w L) (hk : L[k]? = some (key, sob E T l sp)) (hS : Sl E key l c sp) (hx : ev n ρ x = .pointer (adr (ownA key) q)) (hq : q = j * E.s + o) (hy : ev n ρ y = v) (h2 : siz P S = some 1) (hv : v.cells = #[v]) (ho1 : v.oneCell' = true) (ho : o < E.s) (hb : E.f b = (E.f a).set o v) (hj : l[j]? = some a)
    (h : ∀ w', Sl E key (l.set j b) c sp → Hp M w₀ w' (L.set k (key, sob E T (l.set j b) sp)) → W P n ops Q rest ρ w') :
    W P n ops Q (⟨none, .store S x y, t, pos, after, none⟩ :: rest) ρ w := by
  subst hq
  have hl := (List.getElem?_eq_some_iff.1 hj).1
  obtain ⟨g, rfl⟩ := hS.some (by omega)
  refine d_store (k := k) (b := g) (off := j * E.s + o) (v := v) (cs' := (cel E (l.set j b) ++ sp).toArray) H hk (by rw [hx]; simp [adr, ownA, Addr.add_lit]) hy h2 (by rw [hv]; rfl) (by rw [hv]; intro u hu; simp at hu; subst hu; exact ho1) ?_ ?_ ?_
  · rw [List.size_toArray, List.length_append, cel_length]
    have := Nat.mul_le_mul_right E.s (show j + 1 ≤ l.length by omega)
    rw [Nat.add_mul, Nat.one_mul] at this; omega
  · rw [hv]; exact cel_setP l j o a b v hj ho hb sp
  · intro w' H' _
    exact h w' ⟨by simpa using hS.len, hS.max, fun h => by cases h⟩ H'
end
end Go.Proofs.YteofdmdpaejgaaaDoor.Vc
