/- The calculus: bytes made of a string. -/
import Derived.Test.YteofdmdpaejgaaaDoorVcNet
import Derived.Laws.IdiomStrings
namespace Go.Proofs.YteofdmdpaejgaaaDoor.Vc
open Go

/-- a row of bytes that was made of a string: it bears a mark behind its cells -/
def sobF (T : TypeId) (l : List (BitVec 8)) (sp : List Value) : Obj := .cells (cel E8 l ++ sp).toArray T (l.length + sp.length, l.length + sp.length + 1)
theorem strB_size (l : List (BitVec 8)) : (strB l).size = l.length := by
  show (strB l).data.size = l.length
  rw [← Array.length_toList]
  simp only [strB, strOfNums_data]
  simp
theorem cel8_map (l : List (BitVec 8)) : cel E8 l = l.map u8 := by
  induction l with
  | nil => rfl
  | cons a l ih => rw [cel_cons, ih]; rfl
theorem bytesRow_eq (l : List (BitVec 8)) (c : Nat) : bytesRow (strB l) c = (cel E8 l ++ List.replicate (c - l.length) (Value.int .u8 0)).toArray := by
  have h1 : (strB l).data.toList = l.map fun b => UInt8.ofNat b.toNat := by
    simp only [strB, strOfNums_data, List.map_map]
    refine List.map_congr_left fun a _ => ?_
    simp [Function.comp]
  apply Array.ext'
  simp only [bytesRow, strB_size, Array.toList_append, Array.toList_map, h1, Array.toList_replicate, List.map_map, cel8_map]
  congr 1
  refine List.map_congr_left fun b _ => ?_
  simp only [Function.comp, u8]
  have := b.isLt
  rw [show (UInt8.ofNat b.toNat).toNat = b.toNat by simp]
section
variable {P : Program} {n : Nat} {ops : Array Oper} {Q : Exit → Act → World → Prop} {rest : List Oper} {ρ : Env} {w w₀ : World} {d : Option Nat} {t S T D e : TypeId} {pos : String} {after : Array Edge} {x y : Operand}
  {l : List (BitVec 8)} {sp : List Value} {k q j g : Nat} {b : BitVec 8} {M : Nat → Prop} {L : List (Option Nat × Obj)}
theorem q_toBytes (H : Hp M w₀ w L) (hs : P.underlying S = some .string) (hd : P.underlying D = some (.slice e)) (he : P.underlying e = some (.int .u8)) (hx : ev n ρ x = .string (strB l))
    (h : ∀ g c sp w', Hp M w₀ w' ((some g, sobF e l sp) :: L) → Ext w w' → W P n ops Q rest (updo ρ d (.slice (ownA (some g)) l.length c)) w') :
    W P n ops Q (⟨d, .convert S D x, t, pos, after, none⟩ :: rest) ρ w := by
  have hrun := run_bytes_of_string (P := P) w S D e (strB l) hs hd he
  rw [strB_size] at hrun
  have hob : Obj.cells (bytesRow (strB l) (grownCap w l.length 0 e)) e ((bytesRow (strB l) (grownCap w l.length 0 e)).size, (bytesRow (strB l) (grownCap w l.length 0 e)).size + 1) = sobF e l (List.replicate (grownCap w l.length 0 e - l.length) (.int .u8 0)) := by
    rw [bytesRow_eq, sobF]
    have : (cel E8 l).length = l.length := by rw [cel_length]; exact Nat.mul_one _
    simp [this]
  rw [hob] at hrun
  refine sq (v := .slice (some ⟨w.heap.size, 0, none⟩) l.length (grownCap w l.length 0 e)) ?_ (h w.heap.size (grownCap w l.length 0 e) (List.replicate (grownCap w l.length 0 e - l.length) (Value.int .u8 0)) _ (H.add1 ((Ext.drew w).trans (Ext.alloc _ _)) (Nat.le_refl _) (alloc_new _ _)) ((Ext.drew w).trans (Ext.alloc _ _)))
  simp only [Runs, execOp, hx, Sem.run_bind, hrun, Result.andThen_ok, Sem.run_pure]
  rfl
theorem r_lenStB {gd : Option (Nat × Bool)} (hT : P.underlying T = some .string) (hx : ev n ρ x = .string (strB l)) : Runs P n ρ ⟨d, .call ⟨.builtin .len, #[x], #[T]⟩, t, pos, after, gd⟩ w (i64 (l.length : Nat)) w := by
  have h := r_lenStr (d := d) (t := t) (pos := pos) (after := after) (g := gd) (w := w) hT hx
  rwa [strB_size] at h
theorem Hp.rdZ (H : Hp M w₀ w L) (hk : L[k]? = some (some g, sobF T l sp)) : Rd E8 w (ownA (some g)) l :=
  Rd.of (H.get hk) fun i u hu => by
    rw [Nat.zero_add, List.getElem?_toArray, List.getElem?_append_left (List.getElem?_eq_some_iff.1 hu).1]; exact hu
theorem d_storeF (H : Hp M w₀ w L) (hk : L[k]? = some (some g, sobF T l sp)) (hx : ev n ρ x = .pointer (adr (ownA (some g)) q)) (hq : q = j) (hy : ev n ρ y = u8 b) (h2 : siz P S = some 1) (hj : j < l.length)
    (h : ∀ w', Hp M w₀ w' (L.set k (some g, sobF T (l.set j b) sp)) → W P n ops Q rest ρ w') :
    W P n ops Q (⟨none, .store S x y, t, pos, after, none⟩ :: rest) ρ w := by
  subst hq
  have hg := H.get hk
  have hlen : (cel E8 l).length = l.length := by rw [cel_length]; exact Nat.mul_one _
  have hsz : q < (cel E8 l ++ sp).toArray.size := by rw [List.size_toArray, List.length_append, hlen]; omega
  have hcell : w.cell? ⟨g, q, none⟩ = some ((cel E8 l ++ sp).toArray[q]) := by
    rw [cell_eq hg, Array.getElem?_eq_getElem hsz]
  have hfz : w.frozen? ⟨g, q, none⟩ = false := by
    have h1 : w.heap[g]? = some (.cells (cel E8 l ++ sp).toArray T (l.length + sp.length, l.length + sp.length + 1)) := hg
    simp [World.frozen?, h1]
    omega
  have hrun : (storeVar S ⟨g, q, none⟩ (u8 b)).run P w = .ok () (setBlk w g (sobF T (l.set q b) sp)) := by
    have hst : (storeCells ⟨g, q, none⟩ [u8 b] 0).run P w = .ok () (w.setCell ⟨g, q, none⟩ (u8 b)) := by
      simp only [storeCells, Sem.run_bind, Addr.add_lit, Nat.add_zero]
      rw [run_store P w _ (u8 b) .plain rfl, hcell, hfz]
      simp
    simp only [storeVar, Sem.run_bind, run_siz h2, Result.andThen_ok]
    rw [show (u8 b).cells.size = 1 from rfl, show (u8 b).cells.toList = [u8 b] from rfl]
    simp only [ne_eq, not_true_eq_false, if_false, hst]
    rw [setCell_eq hg]
    have hset : (cel E8 l ++ sp).toArray.setIfInBounds q (u8 b) = (cel E8 (l.set q b) ++ sp).toArray := by
      have := cel_set (E := E8) l q l[q] b (List.getElem?_eq_getElem hj) [] sp
      simpa [Enc.f, E8, Value.cells, u8, putR] using this
    rw [hset, sobF, List.length_set]
  refine sd (w' := setBlk w g (sobF T (l.set q b) sp)) ?_ (h _ (H.set hk (Chg.setBlk _ _ _) (setBlk_new hg)))
  have hx' : ev n ρ x = .pointer (some ⟨g, q, none⟩) := by rw [hx]; simp [adr, ownA, Addr.add_lit]
  simp [Does, execOp, hx', hy, Instr.storeAt, Instr.sureAddr, hrun]
end
end Go.Proofs.YteofdmdpaejgaaaDoor.Vc
