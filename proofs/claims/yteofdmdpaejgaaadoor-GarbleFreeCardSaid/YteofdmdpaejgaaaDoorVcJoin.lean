/- Code behind which several roads meet is walked once; bytes of a text, with their room. -/
import Derived.Test.YteofdmdpaejgaaaDoorVcBytes
import Derived.Test.YteofdmdpaejgaaaDoorVcErr
import Derived.Laws.AppendOwn
namespace Go.Proofs.YteofdmdpaejgaaaDoor.Vc
open Go

theorem seqJoin {σ : Type} (slots : σ → List (Nat × Value)) (J : σ → World → Prop) {P : Program} {n : Nat} {ρ : Env} {w : World} {Q : Exit → Act → World → Prop} {x y : Code}
    (hy : ∀ s ρ w, J s w → y.wp P Q (St n (setAll ρ (slots s))) w)
    (hx : (∀ s ρ w, Keeps ρ (slots s) → J s w → y.wp P Q (St n ρ) w) → x.wp P (Exit.then (y.wp P Q) Q) (St n ρ) w) : (Code.seq x y).wp P Q (St n ρ) w :=
  seqAny (hx fun s ρ w hk hJ => by
    have h := hy s ρ w hJ
    rwa [setAll_keeps hk] at h)
/-- some rows, in another order; what lies behind stays -/
theorem Hp.pick {M : Nat → Prop} {w₀ w : World} {L : List (Option Nat × Obj)} (H : Hp M w₀ w L) (m : Nat) (idx : List Nat) (hn : idx.Nodup) (hm : ∀ i ∈ idx, i < m) : Hp M w₀ w (idx.filterMap (fun i => L[i]?) ++ L.drop m) := by
  have hin : ∀ p ∈ idx.filterMap (fun i => L[i]?) ++ L.drop m, p ∈ L := fun p hp => by
    rcases List.mem_append.1 hp with h | h
    · obtain ⟨i, _, hi⟩ := List.mem_filterMap.1 h
      exact List.mem_of_getElem? hi
    · exact List.mem_of_mem_drop h
  refine ⟨H.chg, fun p hp => H.own p (hin p hp), apart_pairwise.2 (List.pairwise_append.2 ⟨?_, ?_, ?_⟩), fun p hp => H.has p (hin p hp)⟩
  · refine List.pairwise_filterMap.2 (List.Pairwise.imp (fun {a a'} hne p hp q hq b hb hc => ?_) hn)
    exact hne (H.apart a a' p q b hp hq hb hc)
  · exact (apart_pairwise.1 H.apart).sublist (List.drop_sublist m L)
  · intro p hp q hq b hb hc
    obtain ⟨i, hi, hpi⟩ := List.mem_filterMap.1 hp
    obtain ⟨j, hj⟩ := List.mem_iff_getElem?.1 hq
    rw [List.getElem?_drop] at hj
    have h1 := H.apart i (m + j) p q b hpi hj hb hc
    have h2 := hm i hi
    omega
/-! ### a piece of code in a theorem of its own -/
def bodyOf (f : Func) : Code := f.body.getD .skip
def nx : Code → Code
  | .seq _ y => y
  | c => c
def hd : Code → Code
  | .seq x _ => x
  | c => c
def inn : Code → Code
  | .block _ c => c
  | .loop c => c
  | c => c
theorem keepHere {P : Program} {n : Nat} {ρ : Env} {w : World} {Q : Exit → Act → World → Prop} {c : Code} {slots : List (Nat × Value)} (hk : Keeps ρ slots) (h : c.wp P Q (St n (setAll ρ slots)) w) : c.wp P Q (St n ρ) w := by
  rwa [setAll_keeps hk] at h
theorem outHere {P : Program} {n : Nat} {w : World} {Q : Exit → Act → World → Prop} {e : Exit} {c : Code} {a : Act} {σ : Type} (slots : σ → List (Nat × Value)) (J : σ → World → Prop)
    (h1 : ∀ s ρ w, J s w → Q e (St n (setAll ρ (slots s))) w) (h2 : (∀ s ρ w, Keeps ρ (slots s) → J s w → Q e (St n ρ) w) → c.wp P Q a w) : c.wp P Q a w :=
  h2 fun s ρ w hk hJ => by
    have h := h1 s ρ w hJ
    rwa [setAll_keeps hk] at h
section
variable {P : Program} {n : Nat} {ρ : Env} {w w₀ : World} {Q : Exit → Act → World → Prop} {ops : Array Oper} {Q' : Act → World → Prop} {M : Nat → Prop} {L : List (Option Nat × Obj)} {S D e T T' : TypeId} {d : Option Nat} {x y : Operand} {t : TypeId} {pos : String} {after : Array Edge} {rest : List Oper} {l : List (BitVec 8)} {g : Option (Nat × Bool)}
theorem q_toBytesC (H : Hp M w₀ w L) (hs : P.underlying S = some .string) (hd : P.underlying D = some (.slice e)) (he : P.underlying e = some (.int .u8)) (hx : ev n ρ x = .string (strB l))
    (h : ∀ g c sp w', l.length ≤ c → Hp M w₀ w' ((some g, sobF e l sp) :: L) → Ext w w' → W P n ops Q rest (updo ρ d (.slice (ownA (some g)) l.length c)) w') :
    W P n ops Q (⟨d, .convert S D x, t, pos, after, none⟩ :: rest) ρ w := by
  have hrun := run_bytes_of_string (P := P) w S D e (strB l) hs hd he
  rw [strB_size] at hrun
  have hob : Obj.cells (bytesRow (strB l) (grownCap w l.length 0 e)) e ((bytesRow (strB l) (grownCap w l.length 0 e)).size, (bytesRow (strB l) (grownCap w l.length 0 e)).size + 1) = sobF e l (List.replicate (grownCap w l.length 0 e - l.length) (.int .u8 0)) := by
    rw [bytesRow_eq, sobF]
    have : (cel E8 l).length = l.length := by rw [cel_length]; exact Nat.mul_one _
    simp [this]
  rw [hob] at hrun
  refine sq (v := .slice (some ⟨w.heap.size, 0, none⟩) l.length (grownCap w l.length 0 e)) ?_ (h w.heap.size (grownCap w l.length 0 e) (List.replicate (grownCap w l.length 0 e - l.length) (Value.int .u8 0)) _ (grownCap_ge _ _ _ _) (H.add1 ((Ext.drew w).trans (Ext.alloc _ _)) (Nat.le_refl _) (alloc_new _ _)) ((Ext.drew w).trans (Ext.alloc _ _)))
  simp only [Runs, execOp, hx, Sem.run_bind, hrun, Result.andThen_ok, Sem.run_pure]
  rfl
/-- an error that is there or not -/
theorem r_eqlIf {c xv : Value} {S : TypeId} {b : Bool} (hT : isI P T = true) (hx : ev n ρ x = (if b = true then Value.nilIface else .iface S xv)) (hy : ev n ρ (.const c) = .nilIface) : Runs P n ρ ⟨d, .binOp .eql T x (.const c) T', t, pos, after, g⟩ w (.bool b) w := by
  cases b
  · exact r_eqlIN hT hx hy
  · exact r_eqlNN hT hx hy
/-- a remainder, as a number -/
theorem modBig (x y : BitVec 64) (m : Nat) (h0 : 0 < m) (h1 : m ≤ 1099511627776) (hy : y = BitVec.ofInt 64 (m : Int)) : ∃ r : Nat, (x % y).toInt = (r : Int) ∧ r < m := by
  have hm : y.toNat = m := by rw [hy, BitVec.toNat_ofInt]; omega
  have h : (x % y).toNat < m := by rw [BitVec.toNat_umod, hm]; exact Nat.mod_lt _ h0
  refine ⟨(x % y).toNat, ?_, h⟩
  rw [BitVec.toInt_eq_toNat_of_lt]; omega
theorem ofInt_neBig (m : Nat) (h0 : 0 < m) (h1 : m ≤ 1099511627776) : BitVec.ofInt 64 (m : Int) ≠ 0#64 := fun h => by
  have := congrArg BitVec.toNat h
  rw [BitVec.toNat_ofInt] at this
  simp at this; omega
end
end Go.Proofs.YteofdmdpaejgaaaDoor.Vc
