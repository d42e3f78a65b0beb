/- The calculus: rows of slices, and the rows that these lead to; an element that is taken out of a row. -/
import Derived.Test.YteofdmdpaejgaaaDoorVcTwo
import Derived.Test.YteofdmdpaejgaaaDoorVcStr
import Derived.Lib.SliceRun
namespace Go.Proofs.YteofdmdpaejgaaaDoor.Vc
open Go

/-- what a slice's value says -/
structure SlV where
  a : Option Addr
  n : Nat
  c : Nat
def ES : Enc SlV := ⟨fun s => .slice s.a s.n s.c, 1, by decide, fun _ => rfl, fun a u h => by simp [Value.cells] at h; subst h; rfl⟩
theorem fitsS {P : Program} {T : TypeId} (h1 : siz P T = some 1) (h2 : isOne P T = true) : Fits P T ES := ⟨h1, .inl ⟨h2, fun _ => rfl⟩⟩
def sv0 : SlV := ⟨none, 0, 0⟩
/-- a row of bytes of one's own -/
structure Fr where
  key : Option Nat
  bs : List (BitVec 8)
  c : Nat
  sp : List Value
def Fr.sv (f : Fr) : SlV := ⟨ownA f.key, f.bs.length, f.c⟩
def Fr.row (T : TypeId) (f : Fr) : Option Nat × Obj := (f.key, sob E8 T f.bs f.sp)
def Fr.ok (f : Fr) : Prop := Sl E8 f.key f.bs f.c f.sp
def frs (T : TypeId) (l : List Fr) : List (Option Nat × Obj) := l.map (Fr.row T)
def svs (l : List Fr) : List SlV := l.map Fr.sv
def bss (l : List Fr) : List (List (BitVec 8)) := l.map Fr.bs
/-- a row of such rows -/
structure Wy where
  key : Option Nat
  c : Nat
  sp : List Value
  fs : List Fr
structure Wy.ok (x : Wy) : Prop where
  sl : Sl ES x.key (svs x.fs) x.c x.sp
  each : ∀ f ∈ x.fs, f.ok
@[simp] theorem svs_len (l : List Fr) : (svs l).length = l.length := List.length_map ..
@[simp] theorem bss_len (l : List Fr) : (bss l).length = l.length := List.length_map ..
theorem svs_snoc (l : List Fr) (f : Fr) : svs (l ++ [f]) = svs l ++ [f.sv] := List.map_append ..
theorem bss_snoc (l : List Fr) (f : Fr) : bss (l ++ [f]) = bss l ++ [f.bs] := List.map_append ..
theorem svs_get {l : List Fr} {i : Nat} {f : Fr} (h : l[i]? = some f) : (svs l).getD i sv0 = f.sv := by
  simp [svs, h]
theorem bss_get {l : List Fr} {i : Nat} {f : Fr} (h : l[i]? = some f) : (bss l).getD i [] = f.bs := by
  simp [bss, h]

section
variable {M : Nat → Prop} {w₀ w w' : World} {L L' : List (Option Nat × Obj)} {T : TypeId}
theorem apart_pairwise : (∀ (i j : Nat) (p q : Option Nat × Obj) b, L[i]? = some p → L[j]? = some q → p.1 = some b → q.1 = some b → i = j) ↔
    L.Pairwise fun p q => ∀ b, p.1 = some b → q.1 = some b → False := by
  rw [List.pairwise_iff_getElem]
  constructor
  · intro h i j hi hj hlt b hp hq
    have := h i j _ _ b (List.getElem?_eq_getElem hi) (List.getElem?_eq_getElem hj) hp hq
    omega
  · intro h i j p q b hi hj hp hq
    obtain ⟨li, rfl⟩ := List.getElem?_eq_some_iff.1 hi
    obtain ⟨lj, rfl⟩ := List.getElem?_eq_some_iff.1 hj
    rcases Nat.lt_trichotomy i j with h1 | h1 | h1
    · exact (h i j li lj h1 b hp hq).elim
    · exact h1
    · exact (h j i lj li h1 b hq hp).elim
/-- the order in which they are told of is of no weight -/
theorem Hp.perm (H : Hp M w₀ w L) (h : L.Perm L') : Hp M w₀ w L' :=
  ⟨H.chg, fun p hp => H.own p (h.mem_iff.2 hp), apart_pairwise.2 ((h.pairwise_iff fun k b hp hq => k b hq hp).1 (apart_pairwise.1 H.apart)), fun p hp => H.has p (h.mem_iff.2 hp)⟩
/-- one of them comes to the front -/
theorem perm_pull {α : Type} : ∀ (L : List α) (k : Nat) (p : α), L[k]? = some p → L.Perm (p :: L.eraseIdx k)
  | [], k, p, h => by simp at h
  | q :: L, 0, p, h => by simp at h; subst h; exact List.Perm.refl _
  | q :: L, k + 1, p, h => (List.Perm.cons q (perm_pull L k p (by simpa using h))).trans (List.Perm.swap _ _ _)
theorem Hp.pull (H : Hp M w₀ w L) {k : Nat} {p : Option Nat × Obj} (hk : L[k]? = some p) : Hp M w₀ w (p :: L.eraseIdx k) := H.perm (perm_pull L k p hk)
/-- the first one goes further back -/
theorem Hp.sink {p : Option Nat × Obj} {A B : List (Option Nat × Obj)} (H : Hp M w₀ w (p :: (A ++ B))) : Hp M w₀ w (A ++ p :: B) := H.perm (List.perm_middle.symm)
theorem Hp.rise {p : Option Nat × Obj} {A B : List (Option Nat × Obj)} (H : Hp M w₀ w (A ++ p :: B)) : Hp M w₀ w (p :: (A ++ B)) := H.perm List.perm_middle
/-- some of them are forgotten -/
theorem Hp.sub (H : Hp M w₀ w L) (h : L'.Sublist L) : Hp M w₀ w L' :=
  ⟨H.chg, fun p hp => H.own p (h.subset hp), apart_pairwise.2 ((apart_pairwise.1 H.apart).sublist h), fun p hp => H.has p (h.subset hp)⟩
/-- one of a family: what its address leads to -/
theorem Hp.rdF (H : Hp M w₀ w L) {f : Fr} (hf : f.ok) (hm : f.row T ∈ L) : Rd E8 w (ownA f.key) f.bs := Rd.mine hf fun g hg => H.has _ hm g hg
theorem frs_mem {F : List Fr} {i : Nat} {f : Fr} (h : F[i]? = some f) : f.row T ∈ frs T F := List.mem_map_of_mem (List.mem_of_getElem? h)
theorem frs_snoc (F : List Fr) (f : Fr) (R : List (Option Nat × Obj)) : frs T F ++ f.row T :: R = frs T (F ++ [f]) ++ R := by simp [frs]
theorem frs_split {F : List Fr} {i : Nat} {f : Fr} (h : F[i]? = some f) (R : List (Option Nat × Obj)) : frs T F ++ R = frs T (F.take i) ++ f.row T :: (frs T (F.drop (i + 1)) ++ R) := by
  obtain ⟨hi, rfl⟩ := List.getElem?_eq_some_iff.1 h
  have e : F = F.take i ++ F[i] :: F.drop (i + 1) := by rw [← List.drop_eq_getElem_cons hi, List.take_append_drop]
  calc frs T F ++ R = frs T (F.take i ++ F[i] :: F.drop (i + 1)) ++ R := by rw [← e]
    _ = _ := by simp only [frs, List.map_append, List.map_cons, List.append_assoc, List.cons_append]
theorem frs_join (A B : List Fr) (R : List (Option Nat × Obj)) : frs T A ++ (frs T B ++ R) = frs T (A ++ B) ++ R := by simp [frs]
theorem eraseIdx_eq {α : Type} (l : List α) (i : Nat) : l.eraseIdx i = l.take i ++ l.drop (i + 1) := List.eraseIdx_eq_take_drop_succ l i
end

/-! ### families -/
section
variable {M : Nat → Prop} {w₀ w : World} {T : TypeId} {F : List Fr} {f f' : Fr} {i : Nat} {p1 p2 p3 : Option Nat × Obj} {X : List (Option Nat × Obj)}
theorem frs_perm {A B : List Fr} (h : A.Perm B) : (frs T A).Perm (frs T B) := h.map _
theorem Hp.intoFs (H : Hp M w₀ w (f.row T :: p1 :: p2 :: p3 :: (frs T F ++ X))) : Hp M w₀ w (p1 :: p2 :: p3 :: (frs T (F ++ [f]) ++ X)) := by
  have h : Hp M w₀ w ((p1 :: p2 :: p3 :: frs T F) ++ f.row T :: X) := Hp.sink H
  rw [← frs_snoc]; exact h
theorem Hp.outFs (H : Hp M w₀ w (p1 :: p2 :: p3 :: (frs T F ++ X))) (h : F[i]? = some f) : Hp M w₀ w (f.row T :: p1 :: p2 :: p3 :: (frs T (F.eraseIdx i) ++ X)) := by
  refine H.perm ?_
  have h1 : (frs T F).Perm (f.row T :: frs T (F.eraseIdx i)) := frs_perm (perm_pull F i f h)
  have h2 : (frs T F ++ X).Perm (f.row T :: (frs T (F.eraseIdx i) ++ X)) := h1.append_right X
  exact (((h2.cons p3).cons p2).cons p1).trans ((List.perm_middle (l₁ := [p1, p2, p3]) (l₂ := frs T (F.eraseIdx i) ++ X)).trans (List.Perm.refl _))
theorem Hp.backFs (H : Hp M w₀ w (f'.row T :: p1 :: p2 :: p3 :: (frs T (F.eraseIdx i) ++ X))) (hi : i < F.length) : Hp M w₀ w (p1 :: p2 :: p3 :: (frs T (F.set i f') ++ X)) := by
  refine H.perm ?_
  have h0 : (F.set i f').Perm (f' :: F.eraseIdx i) := by
    have := perm_pull (F.set i f') i f' (by simp [hi])
    rwa [List.eraseIdx_set_eq] at this
  have h1 : (frs T (F.set i f') ++ X).Perm (f'.row T :: (frs T (F.eraseIdx i) ++ X)) := (frs_perm h0).append_right X
  exact ((((h1.cons p3).cons p2).cons p1).trans (List.perm_middle (l₁ := [p1, p2, p3]) (l₂ := frs T (F.eraseIdx i) ++ X))).symm
theorem Hp.toR (E : List (Option Nat × Obj)) {G F X : List (Option Nat × Obj)} (H : Hp M w₀ w (E ++ (p1 :: p2 :: p3 :: (F ++ (G ++ X))))) : Hp M w₀ w (p1 :: p2 :: p3 :: (F ++ (G ++ (E ++ X)))) := by
  refine H.perm ?_
  have h : ∀ A : List (Option Nat × Obj), (E ++ (A ++ X)).Perm (A ++ (E ++ X)) := fun A => by
    rw [← List.append_assoc, ← List.append_assoc]; exact List.perm_append_comm.append_right X
  have := h (p1 :: p2 :: p3 :: (F ++ G))
  simpa [List.append_assoc] using this
theorem Hp.fromR (E : List (Option Nat × Obj)) {G F X : List (Option Nat × Obj)} (H : Hp M w₀ w (p1 :: p2 :: p3 :: (F ++ (G ++ (E ++ X))))) : Hp M w₀ w (E ++ (p1 :: p2 :: p3 :: (F ++ (G ++ X)))) := by
  refine H.perm ?_
  have h : ∀ A : List (Option Nat × Obj), (E ++ (A ++ X)).Perm (A ++ (E ++ X)) := fun A => by
    rw [← List.append_assoc, ← List.append_assoc]; exact List.perm_append_comm.append_right X
  have := (h (p1 :: p2 :: p3 :: (F ++ G))).symm
  simpa [List.append_assoc] using this
/-- the other way comes ahead -/
theorem Hp.swapWy {F G : List (Option Nat × Obj)} (H : Hp M w₀ w (p1 :: p2 :: p3 :: (F ++ (G ++ X)))) : Hp M w₀ w (p1 :: p3 :: p2 :: (G ++ (F ++ X))) := by
  refine H.perm (List.Perm.cons _ ((List.Perm.swap _ _ _).trans (List.Perm.cons _ (List.Perm.cons _ ?_))))
  rw [← List.append_assoc, ← List.append_assoc]; exact List.perm_append_comm.append_right X
theorem Hp.rdm {α : Type} {E : Enc α} {l : List α} {c : Nat} {sp : List Value} {key : Option Nat} {L : List (Option Nat × Obj)} (H : Hp M w₀ w L) (hS : Sl E key l c sp) (hm : (key, sob E T l sp) ∈ L) : Rd E w (ownA key) l := Rd.mine hS fun g hg => H.has _ hm g hg
def wy0 : Wy := ⟨none, 0, [], []⟩
theorem wy0_ok : wy0.ok := ⟨Sl.none, fun _ h => by cases h⟩
def wI (k : Bool) : Int := bif k then 1 else 0
theorem svs_erase (F : List Fr) (i : Nat) : svs (F.eraseIdx i) = (svs F).eraseIdx i := by simp [svs, List.eraseIdx_eq_take_drop_succ]
theorem bss_erase (F : List Fr) (i : Nat) : bss (F.eraseIdx i) = (bss F).eraseIdx i := by simp [bss, List.eraseIdx_eq_take_drop_succ]
theorem svs_set {F : List Fr} {i : Nat} {f f' : Fr} (h : F[i]? = some f) (hs : f'.sv = f.sv) : svs (F.set i f') = svs F := by
  obtain ⟨hi, rfl⟩ := List.getElem?_eq_some_iff.1 h
  simp only [svs, List.map_set, hs]
  rw [← List.getElem_map Fr.sv (h := by simpa using hi)]
  exact List.set_getElem_self (by simpa using hi)
theorem bss_set (F : List Fr) (i : Nat) (f : Fr) : bss (F.set i f) = (bss F).set i f.bs := by simp [bss, List.map_set]
theorem bss_at {F : List Fr} {i : Nat} {b : List (BitVec 8)} (h : (bss F)[i]? = some b) : ∃ f, F[i]? = some f ∧ f.bs = b := by
  simp only [bss, List.getElem?_map, Option.map_eq_some_iff] at h
  exact h
def Wy.val (x : Wy) : Value := .slice (ownA x.key) x.fs.length x.c
def Wy.row (TW : TypeId) (x : Wy) : Option Nat × Obj := (x.key, sob ES TW (svs x.fs) x.sp)
end
/-! ### strings -/
def ET : Enc (List (BitVec 8)) := ⟨fun l => .string (strB l), 1, by decide, fun _ => rfl, fun a u h => by simp [Value.cells] at h; subst h; rfl⟩
theorem fitsT {P : Program} {T : TypeId} (h1 : siz P T = some 1) (h2 : isOne P T = true) : Fits P T ET := ⟨h1, .inl ⟨h2, fun _ => rfl⟩⟩
theorem strB_nil : strB [] = ⟨#[]⟩ := rfl

/-! ### an element is taken out -/
section
variable {α : Type} {E : Enc α} {P : Program} {n : Nat} {ops : Array Oper} {Q : Exit → Act → World → Prop} {rest : List Oper} {ρ : Env} {w w₀ : World} {d : Option Nat} {t S T : TypeId} {pos : String} {after : Array Edge} {x y : Operand}
  {l l2 : List α} {m c c2 m2 by' k i : Nat} {key : Option Nat} {sp : List Value} {a2 : Option Addr} {z : Value} {M : Nat → Prop} {L : List (Option Nat × Obj)}
theorem ite_adr0 {c z : Nat} (a : Option Addr) : (if c = 0 then a else adr a (0 * z)) = a := by
  split
  · rfl
  · cases a <;> simp [adr, Addr.add]
theorem Sl.take (hS : Sl E key l c sp) (i : Nat) : Sl E key (l.take i) c (cel E (l.drop i) ++ sp) := by
  refine ⟨?_, hS.max, fun h => ⟨by rw [(hS.nil h).1]; simp, (hS.nil h).2⟩⟩
  rw [List.length_append, cel_length, ← hS.len, List.length_take, List.length_drop]
  by_cases h : i ≤ l.length
  · rw [Nat.min_eq_left h, ← Nat.add_assoc, ← Nat.add_mul]; congr 2; omega
  · rw [Nat.min_eq_right (by omega), Nat.sub_eq_zero_of_le (by omega)]; simp
theorem sob_take (l : List α) (i : Nat) : sob E T (l.take i) (cel E (l.drop i) ++ sp) = sob E T l sp := by
  simp only [sob]; rw [← List.append_assoc, ← cel_append, List.take_append_drop]
/-- what stands behind an element is moved over it: in place -/
theorem q_appOver (H : Hp M w₀ w L) (hL : L[k]? = some (key, sob E T l sp)) (hS : Sl E key l c sp) (hT : sli P S = some (T, E.s)) (hz : zer P T = some z) (hzs : z.cells.size = E.s) (hby : byt P T = some by') (hi : i < l.length)
    (hR : Rd E w a2 (l.drop (i + 1))) (hx : ev n ρ x = .slice (ownA key) m c) (hm : m = i) (hy : ev n ρ y = .slice a2 m2 c2) (hm2 : m2 = l.length - (i + 1)) (hb : (m + m2) * by' ≤ 140737488355328 ∧ m + m2 ≤ 140737488355328)
    (h : ∀ sp' w', Sl E key (l.eraseIdx i) c sp' → E.s ≤ sp'.length → Hp M w₀ w' (L.set k (key, sob E T (l.eraseIdx i) sp')) → W P n ops Q rest (updo ρ d (.slice (ownA key) (m + m2) c)) w') :
    W P n ops Q (⟨d, .call ⟨.builtin .append, #[x, y], #[S, S]⟩, t, pos, after, none⟩ :: rest) ρ w := by
  subst hm
  have hlc : l.length ≤ c := by
    have := hS.len
    exact Nat.le_of_mul_le_mul_right (Nat.le_trans (Nat.le_add_right _ sp.length) (Nat.le_of_eq this)) E.pos
  have hlt : (l.take m).length = m := by rw [List.length_take]; omega
  have hld : (l.drop (m + 1)).length = m2 := by rw [List.length_drop]; omega
  obtain ⟨key', c', sp', w', h1, h2, _, h4⟩ := r_append (d := d) (t := t) (pos := pos) (after := after) (g := none) hT hz hzs hby (hS.take m) (fun g hg => by rw [sob_take]; exact H.has _ (List.mem_of_getElem? hL) g hg) hR hx hlt.symm hy hld.symm hb
  rcases h4 with ⟨_, rfl, hC, hg⟩ | ⟨hgr, _⟩
  · obtain ⟨g, rfl⟩ := hS.some (by omega)
    obtain ⟨hg1, rfl⟩ := hg g rfl
    have he : l.take m ++ l.drop (m + 1) = l.eraseIdx m := (List.eraseIdx_eq_take_drop_succ l m).symm
    have hcc : c' = c ∨ c' ≠ c := by omega
    rw [he] at h2 hg1
    have hlen : (l.eraseIdx m).length = l.length - 1 := List.length_eraseIdx_of_lt hi
    have hlen2 := h2.len
    have hS2 : Sl E (some g) (l.eraseIdx m) c ((cel E (l.drop m) ++ sp).drop ((l.drop (m + 1)).length * E.s)) := by
      refine ⟨?_, hS.max, fun h => by cases h⟩
      have hl := hS.len
      rw [hlen, List.length_drop, List.length_append, cel_length, List.length_drop, hld, hm2]
      have h5 : l.length - m = (l.length - (m + 1)) + 1 := by omega
      rw [h5, Nat.add_mul, Nat.one_mul]
      have h6 : l.length * E.s = (l.length - 1) * E.s + E.s := by
        conv => lhs; rw [show l.length = l.length - 1 + 1 by omega, Nat.add_mul, Nat.one_mul]
      omega
    have hc : c' = c := Nat.eq_of_mul_eq_mul_right E.pos (by rw [← h2.len, ← hS2.len])
    subst hc
    refine sq h1 (h _ w' h2 ?_ ?_)
    · have h3 := h2.len
      have : (l.length - 1 + 1) * E.s ≤ c' * E.s := Nat.mul_le_mul_right _ (by omega)
      rw [Nat.add_mul, Nat.one_mul] at this
      rw [hlen] at h3; omega
    · exact H.turn hL hC fun b hb => ⟨.inl hb, by cases hb; exact hg1⟩
  · rw [hlt, hld] at hgr; omega
/-- the place that is free behind it is cleared -/
theorem q_clear1 (H : Hp M w₀ w L) (hL : L[k]? = some (key, sob E T l sp)) (hS : Sl E key l c sp) (hE : E.s = 1) (hsp : 1 ≤ sp.length) (hT : sli P S = some (T, E.s)) (hz : zer P T = some z) (hzc : z.cells = #[z]) (h1 : z.oneCell' = true)
    (hx : ev n ρ x = .slice (adr (ownA key) m) 1 c2) (hm : m = l.length) (hkn : key ≠ none)
    (h : ∀ sp' w', Sl E key l c sp' → Hp M w₀ w' (L.set k (key, sob E T l sp')) → W P n ops Q rest (updo ρ d (.tuple #[])) w') :
    W P n ops Q (⟨d, .call ⟨.builtin .clear, #[x], #[S]⟩, t, pos, after, none⟩ :: rest) ρ w := by
  subst hm
  obtain ⟨g, rfl⟩ : ∃ g, key = some g := by cases key with | none => exact (hkn rfl).elim | some g => exact ⟨g, rfl⟩
  have hu : P.underlying S = some (.slice T) := by
    unfold sli at hT
    split at hT
    · rename_i e hu
      simp only [Option.map_eq_some_iff, Prod.mk.injEq] at hT
      obtain ⟨z', _, rfl, _⟩ := hT
      exact hu
    · cases hT
  have hg := H.has _ (List.mem_of_getElem? hL) g rfl
  simp only [sob] at hg
  have hsz : (cel E l ++ sp).toArray.size = l.length + sp.length := by rw [List.size_toArray, List.length_append, cel_length, hE, Nat.mul_one]
  have hcell : w.cell? ⟨g, l.length + 0, none⟩ = some ((cel E l ++ sp).toArray[l.length]'(by rw [hsz]; omega)) := by
    rw [cell_eq hg, Nat.add_zero, Array.getElem?_eq_getElem (by rw [hsz]; omega)]
  have hrun := Go.Lib.run_clear_slice (P := P) w S T t z hu (fun w => run_zer hz) hzc h1 g l.length 1 c2 (by omega)
    (fun j hj => by obtain rfl : j = 0 := by omega
                    rw [hcell]; rfl) (fun j hj => frozen_eq hg)
  obtain ⟨s0, sp1, rfl⟩ : ∃ s0 sp1, sp = s0 :: sp1 := by
    cases sp with
    | nil => simp at hsp
    | cons a b => exact ⟨a, b, rfl⟩
  have hW : w.setCells g l.length (List.replicate 1 z) = setBlk w g (sob E T l (z :: sp1)) := by
    have h2 : w.setCells g l.length (List.replicate 1 z) = w.setCell ⟨g, l.length, none⟩ z := rfl
    rw [h2, setCell_eq hg]
    have hl : (cel E l).length = l.length := by rw [cel_length, hE, Nat.mul_one]
    simp only [sob]
    congr 2
    have := putR_append (cel E l) [s0] [z] sp1 rfl
    simp only [putR, hl, List.append_assoc, List.singleton_append] at this
    exact this
  refine sq (v := .tuple #[]) (w' := setBlk w g (sob E T l (z :: sp1))) ?_ (h (z :: sp1) _ ⟨by simpa using hS.len, hS.max, fun h => by cases h⟩ (H.set hL (Chg.setBlk w g _) (setBlk_new hg)))
  rw [← hW]
  have hx' : ev n ρ x = .slice (some ⟨g, l.length, none⟩) 1 c2 := by rw [hx]; simp [adr, ownA, Addr.add_lit]
  simp [Runs, execOp, resolve, hx', invoke, builtin, hrun]
/-- 's[l:h:m]' -/
theorem r_slice3 {e : TypeId} {z m c l h q : Nat} {lo hi mx : Operand} {a : Option Addr} {kl kh km : IntKind} {i j u : Int} {gd : Option (Nat × Bool)} (hT : sli P S = some (e, z)) (hx : ev n ρ x = .slice a m c)
    (hl : ev n ρ lo = .int kl i) (hh : ev n ρ hi = .int kh j) (hq : ev n ρ mx = .int km u) (ei : i = (l : Int)) (ej : j = (h : Int)) (eq : u = (q : Int)) (h1 : l ≤ h) (h2 : h ≤ q) (h3 : q ≤ c) :
    Runs P n ρ ⟨d, .slice S x (some lo) (some hi) (some mx), t, pos, after, gd⟩ w (.slice (if q = l then a else adr a (l * z)) (h - l) (q - l)) w := by
  subst ei ej eq
  unfold sli at hT
  split at hT
  · rename_i e' hu
    simp only [Option.map_eq_some_iff, Prod.mk.injEq] at hT
    obtain ⟨z', hz, rfl, rfl⟩ := hT
    have c0 : (0 : Int) ≤ (q : Int) ∧ (q : Int) ≤ (c : Int) := by omega
    have c1 : (0 : Int) ≤ (h : Int) ∧ (h : Int) ≤ (q : Int) := by omega
    have c2 : (0 : Int) ≤ (l : Int) ∧ (l : Int) ≤ (h : Int) := by omega
    have b1 : (Instr.sliceBounds true m c (some (.int kl l)) (some (.int kh h)) (some (.int km q))).run P w = .ok (l, h, q) w := by
      simp [Instr.sliceBounds, Instr.sliceBound, asIntOf, c0, c1, c2, h1, h2]
    simp only [Runs, execOp, hx, hl, hh, hq, Option.map_some, Instr.sliceAt, Instr.slice, Sem.run_bind, run_underlying hu, Result.andThen_ok, Sem.run_pure, b1, run_siz hz, adr]
  · cases hT
end
end Go.Proofs.YteofdmdpaejgaaaDoor.Vc
