/- The calculus' strings of bytes. -/
import Derived.Test.YteofdmdpaejgaaaDoorVcSli
import Derived.Test.YteofdmdpaejgaaaDoorVcMore
import Derived.Laws.BytesArg
namespace Go.Proofs.YteofdmdpaejgaaaDoor.Vc
open Go

/-- the string of a row of bytes -/
def strB (l : List (BitVec 8)) : ByteArray := strOfNums (l.map fun b => (b.toNat : Int))

theorem strB_inj {l l' : List (BitVec 8)} (h : strB l = strB l') : l = l' := by
  have h1 : (strB l).data.toList = (strB l').data.toList := by rw [h]
  simp only [strB, strOfNums_data, List.map_map] at h1
  refine (List.map_inj_right fun a b e => ?_).1 h1
  simp only [Function.comp, Int.toNat_natCast] at e
  have e2 := congrArg UInt8.toNat e
  simp only [UInt8.toNat_ofNat'] at e2
  have := a.isLt; have := b.isLt
  exact BitVec.eq_of_toNat_eq (by omega)
section
variable {P : Program} {n : Nat} {ρ : Env} {w : World} {d : Option Nat} {t e S D T T' : TypeId} {pos : String} {after : Array Edge} {g : Option (Nat × Bool)} {x y : Operand} {a : Option Addr}
theorem r_toStr {l : List (BitVec 8)} {m c : Nat} (hT : P.underlying S = some (.slice e)) (he : P.underlying e = some (.int .u8)) (hd : P.underlying D = some .string) (hR : Rd E8 w a l) (hx : ev n ρ x = .slice a m c) (hm : m = l.length) :
    Runs P n ρ ⟨d, .convert S D x, t, pos, after, g⟩ w (.string (strB l)) w := by
  subst hm
  have h : (convert S D (.slice a l.length c)).run P w = .ok (.string (strB l)) w := by
    cases a with
    | none =>
      have hl : l = [] := by
        rcases hR with h | ⟨b, off, cs, X, fr, h1, _⟩
        · exact h
        · cases h1
      subst hl
      exact run_convert_bytes_nil w S e hT he _ _ D hd
    | some y =>
      rw [run_convert_bytes_string w S D e _ _ _ hT he hd]
      have hl : (loadCells y l.length).run P w = .ok ((l.map fun b => (b.toNat : Int)).map (Value.int .u8)).toArray w := by
        have h1 := run_loadCells_list (P := P) w y (cel E8 l) (fun j v hj => hR.cells rfl j v hj)
        have e1 : cel E8 l = (l.map fun b => (b.toNat : Int)).map (Value.int .u8) := by
          rw [List.map_map]; clear h1 hR hx
          induction l with
          | nil => rfl
          | cons b l ih => rw [List.map_cons, ← ih]; rfl
        rw [e1] at h1
        simpa using h1
      rw [run_bytesToString w y _ _ _ hl, foldl_push_bytes]
      simp [strB, strOfNums, ByteArray.empty, ByteArray.emptyWithCapacity]
      rfl
  simp only [Runs, execOp, hx, Sem.run_bind, h, Result.andThen_ok, Sem.run_pure]
theorem guard_str (op : BinOp) (T : TypeId) (x y : Operand) (s s' : ByteArray) (w : World) : (eqGuard op T x y (.string s) (.string s')).run P w = .ok () w := by
  simp [eqGuard]
theorem r_eqlStr {s s' : ByteArray} (hx : ev n ρ x = .string s) (hy : ev n ρ y = .string s') : Runs P n ρ ⟨d, .binOp .eql T x y T', t, pos, after, g⟩ w (.bool (s.toList == s'.toList)) w := by
  have h : (binOp .eql T (.string s) (.string s')).run P w = .ok (.bool (s.toList == s'.toList)) w := by
    simp [binOp, Op.stringOp]
  simp [Runs, execOp, hx, hy, guard_str, h]
theorem r_neqStr {s s' : ByteArray} (hx : ev n ρ x = .string s) (hy : ev n ρ y = .string s') : Runs P n ρ ⟨d, .binOp .neq T x y T', t, pos, after, g⟩ w (.bool (!(s.toList == s'.toList))) w := by
  have h : (binOp .neq T (.string s) (.string s')).run P w = .ok (.bool (!(s.toList == s'.toList))) w := by
    simp [binOp, Op.stringOp]
  simp [Runs, execOp, hx, hy, guard_str, h]
/-- the whole of an array that lies in a block -/
theorem r_sliceA0 {m z b off : Nat} (ha : arr P T = some (m, z)) (hx : ev n ρ x = .pointer (some ⟨b, off, none⟩)) (h0 : 0 < m) :
    Runs P n ρ ⟨d, .slice T x none none none, t, pos, after, g⟩ w (.slice (some ⟨b, off, none⟩) m m) w := by
  unfold arr at ha
  split at ha
  · rename_i m' e hu
    simp only [Option.map_eq_some_iff, Prod.mk.injEq] at ha
    obtain ⟨z', hz, rfl, rfl⟩ := ha
    have b1 : (Instr.sliceBounds false m' m' none none none).run P w = .ok (0, m', m') w := by
      simp [Instr.sliceBounds]
    simp only [Runs, execOp, hx, Option.map_none, Instr.sliceAt, Sem.run_bind, run_underlying hu, Result.andThen_ok, Instr.sureAddr, Sem.run_pure, b1, run_siz hz, Addr.add_lit]
    rw [if_neg (by omega)]; simp
  · cases ha
end
end Go.Proofs.YteofdmdpaejgaaaDoor.Vc
