/- The calculus' appends: onto a slice of one's own. -/
import Derived.Test.YteofdmdpaejgaaaDoorVcSli
namespace Go.Proofs.YteofdmdpaejgaaaDoor.Vc
open Go

section
variable {α : Type} {E : Enc α} {P : Program} {w : World} {S T : TypeId} {key : Option Nat} {l l2 : List α} {c c2 : Nat} {sp : List Value} {a2 : Option Addr} {ty : TypeId}
theorem sob_room (l l2 : List α) (sp : List Value) : ((cel E l ++ sp).take (l.length * E.s) ++ cel E l2 ++ (cel E l ++ sp).drop (l.length * E.s + (cel E l2).length)) = cel E (l ++ l2) ++ sp.drop (l2.length * E.s) := by
  rw [← cel_length (E := E) l, List.take_left, ← cel_length (E := E) l2, ← List.drop_drop, List.drop_left, cel_append]

/-- What an append does: it writes into the spare room, or it makes a new row. -/
theorem run_app {i : TypeInfo} {z : Value} (ht : P.underlying S = some (.slice T)) (hi : P.info? T = some i) (hz : i.zero = some z) (hs : i.size = E.s) (hzs : z.cells.size = E.s)
    (hS : Sl E key l c sp) (hk : ∀ g, key = some g → w.heap[g]? = some (sob E T l sp)) (hR : Rd E w a2 l2) (hb : (l.length + l2.length) * i.bytes ≤ 140737488355328) (hm : l.length + l2.length ≤ maxLen) :
    ∃ key' c' sp' w', (Builtin.append_ #[S, S] ty #[.slice (ownA key) l.length c, .slice a2 l2.length c2]).run P w = .ok (.slice (ownA key') (l.length + l2.length) c') w' ∧ Sl E key' (l ++ l2) c' sp' ∧
      (l2 ≠ [] → key' ≠ none) ∧
      ((l.length + l2.length ≤ c ∧ key' = key ∧ Chg (fun i => key = some i) w w' ∧ ∀ g, key = some g → w'.heap[g]? = some (sob E T (l ++ l2) (sp.drop (l2.length * E.s))) ∧ sp' = sp.drop (l2.length * E.s)) ∨
       (c < l.length + l2.length ∧ ∃ g, key' = some g ∧ w.heap.size ≤ g ∧ Ext w w' ∧ w'.heap[g]? = some (sob E T (l ++ l2) sp'))) := by
  have hpos := E.pos
  have hn := hS.len
  have hlc : l.length ≤ c := Nat.le_of_mul_le_mul_right (Nat.le_trans (Nat.le_add_right _ sp.length) (Nat.le_of_eq hn)) hpos
  by_cases h0 : l2 = []
  · subst h0
    refine ⟨key, c, sp, w, ?_, by simpa using hS, fun h => (h rfl).elim, .inl ⟨by simpa using hlc, rfl, Chg.refl _ _, fun g hg => ⟨by simpa using hk g hg, by simp⟩⟩⟩
    cases a2 with
    | none =>
      cases key with
      | none =>
        obtain ⟨rfl, rfl⟩ := hS.nil rfl
        simp [Builtin.append_, run_underlying ht, sizeOf, typeInfo, hi, Builtin.lenOf, Builtin.firstCells, ownA]
      | some g => simp [Builtin.append_, run_underlying ht, sizeOf, typeInfo, hi, Builtin.lenOf, Builtin.firstCells, hlc, storeCells, ownA]
    | some x =>
      cases key with
      | none =>
        obtain ⟨rfl, rfl⟩ := hS.nil rfl
        have hf := run_firstCells_some (P := P) w i.size 0 x 0 c2 [] (by simp) (by simp)
        simp [Builtin.append_, run_underlying ht, sizeOf, typeInfo, hi, Builtin.lenOf, hf, ownA]
      | some g =>
        have hf := run_firstCells_some (P := P) w i.size 0 x 0 c2 [] (by simp) (by simp)
        simp [Builtin.append_, run_underlying ht, sizeOf, typeInfo, hi, Builtin.lenOf, hlc, hf, storeCells, ownA]
  have hl2 : 0 < l2.length := by cases l2 with | nil => exact (h0 rfl).elim | cons => simp
  obtain ⟨x, rfl⟩ := hR.some hl2
  have hnews := hR.cells rfl
  have hln : (cel E l2).length = l2.length * i.size := by rw [cel_length, hs]
  have hlo : (cel E l).length = l.length * i.size := by rw [cel_length, hs]
  by_cases hr : l.length + l2.length ≤ c
  · cases key with
    | none => have := (hS.nil rfl).2; omega
    | some g =>
      have hg := hk g rfl
      have hfit : l.length * i.size + (cel E l2).length ≤ (cel E l ++ sp).toArray.size := by
        rw [List.size_toArray, List.length_append, cel_length, cel_length, hs, hn, ← Nat.add_mul]; exact Nat.mul_le_mul_right _ hr
      have hrun := run_append_room (P := P) w S ty T i ht hi g l.length c _ hg x l2.length c2 (cel E l2) hln hnews (fun u hu => by
        simp only [cel, List.mem_flatMap] at hu; obtain ⟨b, _, hb⟩ := hu; exact E.one b u hb) hr hfit
      refine ⟨some g, c, sp.drop (l2.length * E.s), _, hrun, ⟨?_, hS.max, fun h => by cases h⟩, (fun _ h => by cases h), .inl ⟨hr, rfl, ⟨?_, by simp, rfl, rfl, rfl⟩, fun g' e => ?_⟩⟩
      · rw [List.length_append, List.length_drop, Nat.add_mul]
        have := Nat.mul_le_mul_right E.s hr
        rw [Nat.add_mul] at this; omega
      · intro k o hn' ho
        rw [setRow_other w g k _ (fun e => hn' (by rw [e])), ho]
      · cases e
        refine ⟨?_, rfl⟩
        rw [setRow_heap w g _ _ T _ hg]
        simp only [sob, hs]
        rw [sob_room]
  · have hr' : c < l.length + l2.length := by omega
    have hge := grownCap_ge w (l.length + l2.length) c T
    have hcm := grownCap_le_maxLen w (l.length + l2.length) c T hm
    have hsm : l.length + l2.length ≤ 9223372036854775807 := by simp only [maxLen] at hm; omega
    have hzl : ∀ k, (Builtin.zeroCells z.cells k).toList.length = k * E.s := fun k => by rw [Array.length_toList, size_zeroCells, hzs]
    cases key with
    | none =>
      obtain ⟨rfl, rfl⟩ := hS.nil rfl
      simp only [List.length_nil, Nat.zero_add] at *
      have hrun := run_append_nil (P := P) w S ty T i z ht hi hz x l2.length c2 (cel E l2) hln hnews hl2 (by omega) (by omega)
      refine ⟨some w.heap.size, _, (Builtin.zeroCells z.cells (grownCap w l2.length 0 T - l2.length)).toList, _, hrun, ⟨?_, hcm, fun h => by cases h⟩, (fun _ h => by cases h), .inr ⟨hr', _, rfl, Nat.le_refl _, (Ext.drew w).trans (Ext.alloc _ _), ?_⟩⟩
      · rw [List.nil_append, hzl, ← Nat.add_mul]; congr 1; omega
      · refine (alloc_new _ _).trans ?_
        simp [sob]
    | some g =>
      have hrun := run_append_grow (P := P) w S ty T i z ht hi hz ⟨g, 0, none⟩ l.length c (cel E l) hlo (Rd.cells (Rd.mine hS hk) rfl) x l2.length c2 (cel E l2) hln hnews hr' (by omega) (growslice_fits hr' hb)
      refine ⟨some w.heap.size, _, (Builtin.zeroCells z.cells (grownCap w (l.length + l2.length) c T - (l.length + l2.length))).toList, _, hrun, ⟨?_, hcm, fun h => by cases h⟩, (fun _ h => by cases h), .inr ⟨hr', _, rfl, Nat.le_refl _, (Ext.drew w).trans (Ext.alloc _ _), ?_⟩⟩
      · rw [List.length_append, hzl, ← Nat.add_mul]; congr 1; omega
      · refine (alloc_new _ _).trans ?_
        simp [sob, cel_append]
end
end Go.Proofs.YteofdmdpaejgaaaDoor.Vc
