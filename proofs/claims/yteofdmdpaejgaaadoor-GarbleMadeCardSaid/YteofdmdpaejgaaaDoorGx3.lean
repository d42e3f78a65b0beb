/- What the claim has need of: ErrD, Fault, Aes. -/
import Derived.Test.YteofdmdpaejgaaaDoorGx2
import Derived.Test.YteofdmdpaejgaaaDoorProg
namespace Go.Proofs.YteofdmdpaejgaaaDoor.Vc
open Go
abbrev LbT := BitVec 64 × BitVec 64
abbrev lO (a : LbT) : Obj := .cells (cel E64 [a.1, a.2]).toArray 38 (0, 0)
abbrev lV (a : LbT) : Value := .agg (cel E64 [a.1, a.2]).toArray
abbrev pT (b : Nat) : Value := .pointer (some ⟨b, 0, none⟩)
theorem bLe {n m : Nat} (h : Nat.ble n m = true) : n ≤ m := Nat.le_of_ble_eq_true h
theorem bTF (b : Bool) : b = true ∨ b = false := Bool.eq_false_or_eq_true b
theorem mp2 {L : Nat → Bool} {i j : Nat} {a b : Bool} (h : L i = a) (h2 : L j = b) : List.map L [i, j] = [a, b] := by rw [← h, ← h2]; rfl
theorem mp3 {L : Nat → Bool} {i j k : Nat} {a b c : Bool} (h : L i = a) (h2 : L j = b) (h3 : L k = c) : List.map L [i, j, k] = [a, b, c] := by rw [← h, ← h2, ← h3]; rfl
theorem mp4 {L : Nat → Bool} {i j k m : Nat} {a b c d : Bool} (h : L i = a) (h2 : L j = b) (h3 : L k = c) (h4 : L m = d) : List.map L [i, j, k, m] = [a, b, c, d] := by rw [← h, ← h2, ← h3, ← h4]; rfl
theorem sM {P : Program} {n : Nat} {ops : Array Oper} {Q : Exit → Act → World → Prop} {ρ : Env} {w : World} {d : Option Nat} {x : Operand} {t : TypeId} {pos : String} {after : Array Edge} {rest : List Oper} (v : Value) (hx : ev n ρ x = v) (h : W P n ops Q rest (updo ρ d v) w) : W P n ops Q (⟨d, .move x, t, pos, after, none⟩ :: rest) ρ w := sq (r_move hx) h
theorem sA {P : Program} {n : Nat} {ops : Array Oper} {Q : Exit → Act → World → Prop} {ρ : Env} {w : World} {d : Option Nat} {x : Operand} {t : TypeId} {pos : String} {after : Array Edge} {rest : List Oper} (v : Value) (hx : ev n ρ x = v) (h : W P n ops Q rest (updo ρ d v) w) : W P n ops Q (⟨d, .assign x, t, pos, after, none⟩ :: rest) ρ w := sq (r_assign hx) h
theorem sR {P : Program} {n : Nat} {Q : Exit → Act → World → Prop} {ρ : Env} {w : World} {id : Nat} {l : List Oper} {y : Code} (h : W P n l.toArray (Exit.then (y.wp P Q) Q) l ρ w) : (Code.seq (.region id l.toArray false) y).wp P Q (St n ρ) w := seqRegion h
end Go.Proofs.YteofdmdpaejgaaaDoor.Vc
namespace Go.Proofs.YteofdmdpaejgaaaDoor.Vc
open Go
/-- an error with the number e, in k places, whose blocks aren't below lo -/
def Er (lo : Nat) (w : World) (e : Int) : Nat → Value → Prop
 | 0, v => v = .iface 57 (i64 e)
 | k + 1, v => ∃ (b : Nat) (nm : ByteArray) (at' : Int) (v' : Value), v = .iface 183 (pT b) ∧ lo ≤ b ∧ w.heap[b]? = some (.cells #[.string nm, i64 at', i64 ((k + 1 : Nat) : Int), v'] 186 (0, 0)) ∧ Er lo w e k v'
theorem Er.chg {lo : Nat} {M : Nat → Prop} {w w' : World} {e : Int} (hC : Chg M w w') (hM : ∀ b, lo ≤ b → ¬ M b) : ∀ {k : Nat} {v : Value}, Er lo w e k v → Er lo w' e k v
 | 0, _, h => h
 | _ + 1, _, ⟨b, nm, at', v', h1, h2, h3, h4⟩ => ⟨b, nm, at', v', h1, h2, hC.blk _ _ (hM b h2) h3, Er.chg hC hM h4⟩
theorem Er.ext {lo : Nat} {w w' : World} {e : Int} {k : Nat} {v : Value} (h : Er lo w e k v) (hE : Ext w w') : Er lo w' e k v := Er.chg hE (fun _ _ x => x) h
theorem Er.mono {lo lo' : Nat} {w : World} {e : Int} (hl : lo' ≤ lo) : ∀ {k : Nat} {v : Value}, Er lo w e k v → Er lo' w e k v
 | 0, _, h => h
 | _ + 1, _, ⟨b, nm, at', v', h1, h2, h3, h4⟩ => ⟨b, nm, at', v', h1, Nat.le_trans hl h2, h3, Er.mono hl h4⟩
theorem Er.iface {lo : Nat} {w : World} {e : Int} : ∀ {k : Nat} {v : Value}, Er lo w e k v → ∃ T x, v = .iface T x
 | 0, _, h => ⟨_, _, h⟩
 | _ + 1, _, ⟨_, _, _, _, h1, _, _, _⟩ => ⟨_, _, h1⟩
/-- what the condition tells of errors.errorType's cell -/
def Gl (w : World) : Prop := ∃ (cs : Array Value) (T : TypeId) (fr : Nat × Nat), w.heap[0]? = some (.cells cs T fr) ∧ cs[0]? = some (.iface 221 (.agg #[typeHandle Tryd.prog 27]))
theorem Chg.gl {M : Nat → Prop} {w w' : World} (h : Chg M w w') (hM : ¬ M 0) (hG : Gl w) : Gl w' := by
 obtain ⟨cs, T, fr, h1, h2⟩ := hG
 exact ⟨cs, T, fr, h.blk _ _ hM h1, h2⟩
theorem Ext.gl {w w' : World} (h : Ext w w') (hG : Gl w) : Gl w' := Chg.gl h (fun x => x) hG
theorem Gl.lt {w : World} (hG : Gl w) : 0 < w.heap.size := by
 obtain ⟨cs, T, fr, h1, _⟩ := hG
 exact lt_of_some h1
end Go.Proofs.YteofdmdpaejgaaaDoor.Vc
namespace Go.Proofs.YteofdmdpaejgaaaDoor.Er
open Go Go.Proofs.YteofdmdpaejgaaaDoor.Vc
theorem agg196 : isAgg' Tryd.prog 196 = true := by kernel_rfl
theorem call103 : callable Tryd.prog 103 = true := by kernel_rfl
theorem call146 : callable Tryd.prog 146 = true := by kernel_rfl
theorem call71 : callable Tryd.prog 71 = true := by kernel_rfl
theorem call72 : callable Tryd.prog 72 = true := by kernel_rfl
theorem call99 : callable Tryd.prog 99 = true := by kernel_rfl
theorem cmpI57 : cmpI Tryd.prog 57 = true := by kernel_rfl
theorem fld186_3 : fld Tryd.prog 186 3 = some (3, 1, 27) := by kernel_rfl
theorem hs183_226 : hasI Tryd.prog 183 226 = true := by kernel_rfl
theorem isI20 : isI Tryd.prog 20 = true := by kernel_rfl
theorem isI27 : isI Tryd.prog 27 = true := by kernel_rfl
theorem lk183_223 : lacksI Tryd.prog 183 223 = true := by kernel_rfl
theorem lk57_223 : lacksI Tryd.prog 57 223 = true := by kernel_rfl
theorem lk57_226 : lacksI Tryd.prog 57 226 = true := by kernel_rfl
theorem lk57_228 : lacksI Tryd.prog 57 228 = true := by kernel_rfl
theorem lk57_233 : lacksI Tryd.prog 57 233 = true := by kernel_rfl
theorem one190 : isOne Tryd.prog 190 = true := by kernel_rfl
theorem one27 : isOne Tryd.prog 27 = true := by kernel_rfl
theorem pls186 : pls Tryd.prog 186 = some #[(0, 1), (1, 1), (2, 1), (3, 1)] := by kernel_rfl
theorem siz196 : siz Tryd.prog 196 = some 3 := by kernel_rfl
theorem und183 : Tryd.prog.underlying 183 = some (.pointer 186) := by kernel_rfl
theorem und184 : Tryd.prog.underlying 184 = some (.pointer 183) := by kernel_rfl
theorem und57 : Tryd.prog.underlying 57 = some (.int .i64) := by kernel_rfl
theorem zer183 : zer Tryd.prog 183 = some (.pointer none) := by kernel_rfl
theorem zer186 : zer Tryd.prog 186 = some (.agg #[.string ⟨#[]⟩, .int .i64 0, .int .i64 0, .nilIface]) := by kernel_rfl
theorem zer196 : zer Tryd.prog 196 = some (.agg #[.pointer none, .pointer none, .int .u64 0]) := by kernel_rfl
theorem x_typeOf57 (v : Value) (w : World) : Xc Tryd.prog 98 [.iface 57 v] w (fun r w' => r = .iface 221 (.agg #[.pointer (some ⟨1, 57, none⟩)]) ∧ w = w') :=
 Xc.of (e := Extern.ReflectliteType.typeOf) Tryd.func98 (by kernel_rfl) (by kernel_rfl) (by kernel_rfl) (by kernel_rfl) (by kernel_rfl) ⟨rfl, rfl⟩
theorem x_comparable  (w : World) : Xc Tryd.prog 152 [.agg #[.pointer (some ⟨1, 57, none⟩)]] w (fun r w' => r = .bool true ∧ w = w') :=
 Xc.of (e := (Extern.ReflectliteType.method fun t => do Extern.Rtype.noPackHeld "Comparable" t; pure (.bool (← typeInfo t).comparable))) Tryd.func152 (by kernel_rfl) (by kernel_rfl) (by kernel_rfl) (by kernel_rfl) (by kernel_rfl) ⟨rfl, rfl⟩
theorem x_assign57_183  (w : World) : Xc Tryd.prog 151 [.agg #[.pointer (some ⟨1, 57, none⟩)], .iface 221 (.agg #[.pointer (some ⟨1, 183, none⟩)])] w (fun r w' => r = .bool false ∧ w = w') :=
 Xc.of (e := (Extern.ReflectliteType.relation "AssignableTo" Extern.ReflectliteType.assignableTo)) Tryd.func151 (by kernel_rfl) (by kernel_rfl) (by kernel_rfl) (by kernel_rfl) (by kernel_rfl) ⟨rfl, rfl⟩
theorem x_valueOf184 (t : Addr) (w : World) : Xc Tryd.prog 100 [.iface 184 (.pointer (some t))] w (fun r w' => ∃ b, r = .agg #[.pointer (some ⟨1, 184, none⟩), pT b, .int .u64 150] ∧ w.heap.size ≤ b ∧ w'.heap[b]? = some (.cells #[.pointer (some t)] 184 (0, 0)) ∧ Ext w w') :=
 Xc.of (e := (fun args => Extern.ReflectliteValue.unpack (args.getD 0 (.tuple #[])))) (v := .agg #[.pointer (some ⟨1, 184, none⟩), .pointer (some ⟨w.heap.size, 0, none⟩), .int .u64 150]) (w' := w.alloc (.cells #[.pointer (some t)] 184)) Tryd.func100 (by kernel_rfl) (by kernel_rfl) (by kernel_rfl) (by kernel_rfl) (by kernel_rfl) ⟨w.heap.size, rfl, Nat.le_refl _, alloc_new _ _, Ext.alloc _ _⟩
theorem x_type184 (a : Addr) (w : World) : Xc Tryd.prog 101 [.agg #[.pointer (some ⟨1, 184, none⟩), .pointer (some a), .int .u64 150]] w (fun r w' => r = .iface 221 (.agg #[.pointer (some ⟨1, 184, none⟩)]) ∧ w = w') :=
 Xc.of (e := (Extern.ReflectliteValue.methodAny (Extern.ReflectliteValue.valueError "reflectlite.Value.Type" 0) (fun t _ _ _ => Extern.ReflectliteType.toType t))) Tryd.func101 (by kernel_rfl) (by kernel_rfl) (by kernel_rfl) (by kernel_rfl) (by kernel_rfl) ⟨rfl, rfl⟩
theorem x_kind184  (w : World) : Xc Tryd.prog 141 [.pointer (some ⟨1, 184, none⟩)] w (fun r w' => r = u8 22#8 ∧ w = w') :=
 Xc.of (e := (Extern.ReflectliteType.abiMethod fun t => do pure (.int .u8 (← Extern.Rtype.kind t)))) Tryd.func141 (by kernel_rfl) (by kernel_rfl) (by kernel_rfl) (by kernel_rfl) (by kernel_rfl) ⟨rfl, rfl⟩
theorem x_kind183  (w : World) : Xc Tryd.prog 141 [.pointer (some ⟨1, 183, none⟩)] w (fun r w' => r = u8 22#8 ∧ w = w') :=
 Xc.of (e := (Extern.ReflectliteType.abiMethod fun t => do pure (.int .u8 (← Extern.Rtype.kind t)))) Tryd.func141 (by kernel_rfl) (by kernel_rfl) (by kernel_rfl) (by kernel_rfl) (by kernel_rfl) ⟨rfl, rfl⟩
theorem rlm (z : Sem Value) (f : TypeId → Addr → Nat → Nat → Sem Value) (v : Value) : Extern.ReflectliteValue.method z f #[v] = (do match ← Extern.ReflectliteValue.parts v with | none => z | some (t, a, fl) => f t a fl (fl % 32)) := rfl
theorem parts184 (a : Addr) (w : World) : (Extern.ReflectliteValue.parts (.agg #[.pointer (some ⟨1, 184, none⟩), .pointer (some a), .int .u64 150])).run Tryd.prog w = .ok (some (184, a, 150)) w := by kernel_rfl
theorem x_isNil184 (a p : Addr) (w : World) (ha : w.cell? a = some (.pointer (some p))) : Xc Tryd.prog 102 [.agg #[.pointer (some ⟨1, 184, none⟩), .pointer (some a), .int .u64 150]] w (fun r w' => r = .bool false ∧ w = w') :=
 Xc.of (e := (Extern.ReflectliteValue.method (Extern.ReflectliteValue.valueError "reflectlite.Value.IsNil" 0) Extern.ReflectliteValue.isNil)) Tryd.func102 (by kernel_rfl) (by kernel_rfl) (by kernel_rfl) (by kernel_rfl) (by show (Extern.ReflectliteValue.method _ _ #[_]).run _ _ = _; rw [rlm]; simp only [Sem.run_bind, parts184, Result.andThen]; simp [Extern.ReflectliteValue.isNil, loadVar, isAgg, underlying, ha, Result.andThen]) ⟨rfl, rfl⟩
theorem x_elem184  (w : World) : Xc Tryd.prog 153 [.agg #[.pointer (some ⟨1, 184, none⟩)]] w (fun r w' => r = .iface 221 (.agg #[.pointer (some ⟨1, 183, none⟩)]) ∧ w = w') :=
 Xc.of (e := (Extern.ReflectliteType.method Extern.ReflectliteType.elem)) Tryd.func153 (by kernel_rfl) (by kernel_rfl) (by kernel_rfl) (by kernel_rfl) (by kernel_rfl) ⟨rfl, rfl⟩
theorem x_impl183  (w : World) : Xc Tryd.prog 154 [.agg #[.pointer (some ⟨1, 183, none⟩)], .iface 221 (.agg #[.pointer (some ⟨1, 27, none⟩)])] w (fun r w' => r = .bool true ∧ w = w') :=
 Xc.of (e := (Extern.ReflectliteType.relation "Implements" Extern.ReflectliteType.implements_)) Tryd.func154 (by kernel_rfl) (by kernel_rfl) (by kernel_rfl) (by kernel_rfl) (by kernel_rfl) ⟨rfl, rfl⟩
theorem m_Comparable (v : Value) : Mth Tryd.prog 221 "Comparable" (.agg #[v]) 152 (.agg #[v]) := fun w => by kernel_rfl
theorem m_AssignableTo (v : Value) : Mth Tryd.prog 221 "AssignableTo" (.agg #[v]) 151 (.agg #[v]) := fun w => by kernel_rfl
theorem m_Elem (v : Value) : Mth Tryd.prog 221 "Elem" (.agg #[v]) 153 (.agg #[v]) := fun w => by kernel_rfl
theorem m_Implements (v : Value) : Mth Tryd.prog 221 "Implements" (.agg #[v]) 154 (.agg #[v]) := fun w => by kernel_rfl
theorem m_Kind (v : Value) : Mth Tryd.prog 221 "Kind" (.agg #[v]) 141 v := fun w => by kernel_rfl
theorem m_Unwrap (v : Value) : Mth Tryd.prog 183 "Unwrap" v 146 v := fun w => by kernel_rfl
theorem handleErr : typeHandle Tryd.prog 27 = .pointer (some ⟨1, 27, none⟩) := by kernel_rfl
theorem unwrap_ok (b : Nat) (nm : ByteArray) (at1 d : Int) (v1 : Value) (w : World) (hb : w.heap[b]? = some (.cells #[.string nm, i64 at1, i64 d, v1] 186 (0, 0))) : Calls Tryd.prog 146 [pT b].toArray w (Ret fun v w' => v1 = v ∧ Ext w w') := by
 have H := Hp.start No w
 refine enter (n := 7) Tryd.func146 rfl rfl (bLe rfl) ?_
 refine sR ?_
 refine sA (.nilIface) rfl ?_
 refine wend ?_
 refine sR ?_
 refine sM (pT b) rfl ?_
 refine sq (r_nilCheck rfl) ?_
 refine sq (r_fieldAddr (off' := 3) fld186_3 (by decide) (b := b) (off := 0) rfl (by omega)) ?_
 refine sq (r_loadC (v := v1) one27 (H.keepE hb) (off := 3) rfl (by rfl)) ?_
 refine sA v1 rfl ?_
 refine wend ?_
 refine retAny ?_
 refine retG (rs := [.tmp 2]) (vs := [v1]) rfl ⟨⟨rfl, rfl⟩, trivial⟩ ?_
 exact ⟨_, rfl, rfl, H.chg⟩
theorem is0_ok (e e2 : Int) (k : Nat) (v : Value) (lo : Nat) (w : World) (hEr : Er lo w e k v) : Calls Tryd.prog 99 [v, .iface 57 (i64 e2), .bool true].toArray w (Ret fun r w' => r = .bool (decide (e = e2)) ∧ Ext w w') := by
 have H := Hp.start No w
 refine enter (n := 54) Tryd.func99 rfl rfl (bLe rfl) ?_
 refine sR ?_
 refine sA (.bool (false)) rfl ?_
 refine wend ?_
 refine blockAny ?_
 refine loopAny (σ := Value × Nat) (fun (v, k) => [(0, v), (1, .iface 57 (i64 e2)), (2, .bool (true))]) (fun (v, k) w' => Er lo w' e k v ∧ Hp No w w' []) (fun (v, k) => k) ((v, k)) ?_ ?_ ?_
 ·exact ⟨rfl, rfl, rfl, trivial⟩
 ·exact ⟨hEr, H⟩
 rintro ⟨v, k⟩ ρ w1 ⟨hEr, HL⟩
 rcases k with _ | k
 ·skip
  obtain rfl : v = .iface 57 (i64 e) := hEr
  refine blockAny ?_
  refine seqAny ?_
  refine sR ?_
  refine sM (.bool (true)) rfl ?_
  refine sM (.bool (true)) rfl ?_
  refine sqAny (v := .iface 57 (i64 e)) (w' := w1) (wantedSome (d' := 15) (b := true) rfl rfl rfl) (r_move (v := .iface 57 (i64 e)) rfl) ?_
  refine sqAny (v := .iface 57 (i64 e2)) (w' := w1) (wantedSome (d' := 15) (b := true) rfl rfl rfl) (r_move (v := .iface 57 (i64 e2)) rfl) ?_
  refine sqAny (v := .bool (decide (e = e2))) (w' := w1) (wantedSome (d' := 15) (b := true) rfl rfl rfl) (r_eqlIE isI27 cmpI57 (a := e) (b := e2) rfl rfl) ?_
  refine sq (r_pickT (u := .bool (decide (e = e2))) rfl rfl) ?_
  refine wend ?_
  refine condProp (e = e2) rfl (fun c19 => ?_) (fun c19 => ?_)
  ·skip
   refine sR ?_
   refine sA (.bool (true)) rfl ?_
   refine wend ?_
   refine retAny ?_
   refine thenRet ?_
   refine blockRet ?_
   refine thenRet ?_
   refine blockRet ?_
   refine retG (rs := [.tmp 6]) (vs := [.bool (true)]) rfl ⟨⟨rfl, rfl⟩, trivial⟩ ?_
   exact ⟨_, rfl, by first | (rw [decide_eq_true c19]; rfl) | (rw [decide_eq_false c19]; rfl), HL.chg⟩
  ·skip
   refine skipAny ?_
   refine thenNormal ?_
   refine seqAny ?_
   refine sR ?_
   refine sM (.iface 57 (i64 e)) rfl ?_
   refine sq (r_lacks lk57_223 rfl) ?_
   refine sM (.tuple #[.nilIface, .bool (false)]) rfl ?_
   refine sq (r_extract (vs := #[.nilIface, .bool (false)]) rfl rfl) ?_
   refine sq (r_extract (vs := #[.nilIface, .bool (false)]) rfl rfl) ?_
   refine sA (.nilIface) rfl ?_
   refine sA (.bool (false)) rfl ?_
   refine wend ?_
   refine sR ?_
   refine sM (.bool (false)) rfl ?_
   refine sM (.bool (false)) rfl ?_
   refine skAny (wantedSome (d' := 26) (b := false) rfl rfl rfl) ?_
   refine skAny (wantedSome (d' := 26) (b := false) rfl rfl rfl) ?_
   refine skAny (wantedSome (d' := 26) (b := false) rfl rfl rfl) ?_
   refine sq (r_pickF (v := .bool (false)) rfl rfl) ?_
   refine wend ?_
   refine condFalse rfl ?_
   refine skipAny ?_
   refine thenNormal ?_
   refine sR ?_
   refine sM (.iface 57 (i64 e)) rfl ?_
   refine wend ?_
   refine blockAny ?_
   refine sR ?_
   refine sq (r_lacks lk57_226 rfl) ?_
   refine sq (r_extract (vs := #[.nilIface, .bool (false)]) rfl rfl) ?_
   refine sq (r_extract (vs := #[.nilIface, .bool (false)]) rfl rfl) ?_
   refine wend ?_
   refine condFalse rfl ?_
   refine sR ?_
   refine sq (r_lacks lk57_228 rfl) ?_
   refine sq (r_extract (vs := #[.nilIface, .bool (false)]) rfl rfl) ?_
   refine sq (r_extract (vs := #[.nilIface, .bool (false)]) rfl rfl) ?_
   refine wend ?_
   refine condFalse rfl ?_
   refine sR ?_
   refine sA (.iface 57 (i64 e)) rfl ?_
   refine wend ?_
   refine sR ?_
   refine sA (.bool (false)) rfl ?_
   refine wend ?_
   refine retAny ?_
   refine blockRet ?_
   refine blockRet ?_
   refine thenRet ?_
   refine blockRet ?_
   refine retG (rs := [.tmp 6]) (vs := [.bool (false)]) rfl ⟨⟨rfl, rfl⟩, trivial⟩ ?_
   exact ⟨_, rfl, by first | (rw [decide_eq_true c19]; rfl) | (rw [decide_eq_false c19]; rfl), HL.chg⟩
 ·skip
  obtain ⟨b, nm, at1, v1, rfl, hlo, hb, hEr1⟩ := hEr
  refine blockAny ?_
  refine seqAny ?_
  refine sR ?_
  refine sM (.bool (true)) rfl ?_
  refine sM (.bool (true)) rfl ?_
  refine sqAny (v := .iface 183 (pT b)) (w' := w1) (wantedSome (d' := 15) (b := true) rfl rfl rfl) (r_move (v := .iface 183 (pT b)) rfl) ?_
  refine sqAny (v := .iface 57 (i64 e2)) (w' := w1) (wantedSome (d' := 15) (b := true) rfl rfl rfl) (r_move (v := .iface 57 (i64 e2)) rfl) ?_
  refine sqAny (v := .bool (false)) (w' := w1) (wantedSome (d' := 15) (b := true) rfl rfl rfl) (r_eqlII isI27 rfl rfl rfl) ?_
  refine sq (r_pickT (u := .bool (false)) rfl rfl) ?_
  refine wend ?_
  refine condFalse rfl ?_
  refine skipAny ?_
  refine thenNormal ?_
  refine seqAny ?_
  refine sR ?_
  refine sM (.iface 183 (pT b)) rfl ?_
  refine sq (r_lacks lk183_223 rfl) ?_
  refine sM (.tuple #[.nilIface, .bool (false)]) rfl ?_
  refine sq (r_extract (vs := #[.nilIface, .bool (false)]) rfl rfl) ?_
  refine sq (r_extract (vs := #[.nilIface, .bool (false)]) rfl rfl) ?_
  refine sA (.nilIface) rfl ?_
  refine sA (.bool (false)) rfl ?_
  refine wend ?_
  refine sR ?_
  refine sM (.bool (false)) rfl ?_
  refine sM (.bool (false)) rfl ?_
  refine skAny (wantedSome (d' := 26) (b := false) rfl rfl rfl) ?_
  refine skAny (wantedSome (d' := 26) (b := false) rfl rfl rfl) ?_
  refine skAny (wantedSome (d' := 26) (b := false) rfl rfl rfl) ?_
  refine sq (r_pickF (v := .bool (false)) rfl rfl) ?_
  refine wend ?_
  refine condFalse rfl ?_
  refine skipAny ?_
  refine thenNormal ?_
  refine sR ?_
  refine sM (.iface 183 (pT b)) rfl ?_
  refine wend ?_
  refine blockAny ?_
  refine sR ?_
  refine sq (r_has hs183_226 rfl) ?_
  refine sq (r_extract (vs := #[.iface 183 (pT b), .bool (true)]) rfl rfl) ?_
  refine sq (r_extract (vs := #[.iface 183 (pT b), .bool (true)]) rfl rfl) ?_
  refine wend ?_
  refine condTrue rfl ?_
  refine sR ?_
  refine sA (.iface 183 (pT b)) rfl ?_
  refine wend ?_
  refine sR ?_
  refine sM (.iface 183 (pT b)) rfl ?_
  refine caAny (wantedNone rfl _ _) (Enters.inv (vs := []) call146 rfl (m_Unwrap _) rfl) (unwrap_ok b nm at1 _ v1 w1 hb) ?_
  rintro _ w3 ⟨rfl, hE5⟩
  have H6 := HL.ext hE5
  refine sA v1 rfl ?_
  have hEr2 := hEr1.ext hE5
  obtain ⟨T1, x1, rfl⟩ := hEr2.iface
  refine wend ?_
  refine sR ?_
  refine sM (.iface T1 (x1)) rfl ?_
  refine sq (r_eqlIN isI27 rfl rfl) ?_
  refine wend ?_
  refine condFalse rfl ?_
  refine skipAny ?_
  refine blockNormal ?_
  refine blockNormal ?_
  refine thenNormal ?_
  exact ⟨(.iface T1 x1, k), _, rfl, ⟨rfl, rfl, rfl, trivial⟩, ⟨hEr2, H6⟩, Nat.lt_succ_self k⟩
theorem is1_ok (e e2 : Int) (k : Nat) (v : Value) (lo : Nat) (w : World) (hEr : Er lo w e k v) : Calls Tryd.prog 71 [v, .iface 57 (i64 e2)].toArray w (Ret fun r w' => r = .bool (decide (e = e2)) ∧ Ext w w') := by
 obtain ⟨T0, x0, rfl⟩ := hEr.iface
 have H := Hp.start No w
 refine enter (n := 22) Tryd.func71 rfl rfl (bLe rfl) ?_
 refine sR ?_
 refine sA (.bool (false)) rfl ?_
 refine wend ?_
 refine seqAny ?_
 refine sR ?_
 refine sM (.iface T0 (x0)) rfl ?_
 refine sq (r_eqlIN isI27 rfl rfl) ?_
 refine sM (.bool (false)) rfl ?_
 refine sqAny (v := .iface 57 (i64 e2)) (w' := w) (wantedSome (d' := 8) (b := false) rfl rfl rfl) (r_move (v := .iface 57 (i64 e2)) rfl) ?_
 refine sqAny (v := .bool (false)) (w' := w) (wantedSome (d' := 8) (b := false) rfl rfl rfl) (r_eqlIN isI27 rfl rfl) ?_
 refine sq (r_pickF (v := .bool (false)) rfl rfl) ?_
 refine wend ?_
 refine condFalse rfl ?_
 refine skipAny ?_
 refine thenNormal ?_
 refine sR ?_
 refine sM (.iface 57 (i64 e2)) rfl ?_
 refine sqR (wantedNone rfl _ _) (r_ext (vs := [.iface 57 (i64 e2)]) rfl (x_typeOf57 (i64 e2) w)) ?_
 rintro _ _ ⟨rfl, rfl⟩
 refine sqR (wantedNone rfl _ _) (r_invX (vs := []) rfl (m_Comparable _) rfl (x_comparable w)) ?_
 rintro _ _ ⟨rfl, rfl⟩
 refine sA (.bool (true)) rfl ?_
 refine wend ?_
 refine sR ?_
 refine sM (.iface T0 (x0)) rfl ?_
 refine sM (.iface 57 (i64 e2)) rfl ?_
 refine sM (.bool (true)) rfl ?_
 refine c_call (vs := [.iface T0 (x0), .iface 57 (i64 e2), .bool (true)]) call99 rfl (is0_ok e e2 k (.iface T0 x0) lo w (hEr.ext H.chg)) ?_
 rintro _ w5 ⟨rfl, hE6⟩
 have H7 := H.ext hE6
 refine sA (.bool (decide (e = e2))) rfl ?_
 refine wend ?_
 refine retAny ?_
 refine retG (rs := [.tmp 4]) (vs := [.bool (decide (e = e2))]) rfl ⟨⟨rfl, rfl⟩, trivial⟩ ?_
 exact ⟨_, rfl, rfl, H7.chg⟩
theorem is_ok (e e2 : Int) (k : Nat) (v : Value) (lo : Nat) (w : World) (hEr : Er lo w e k v) : Calls Tryd.prog 24 [v, i64 e2].toArray w (Ret fun r w' => r = .bool (decide (e = e2)) ∧ Ext w w') := by
 obtain ⟨T0, x0, rfl⟩ := hEr.iface
 have H := Hp.start No w
 refine enter (n := 13) Tryd.func24 rfl rfl (bLe rfl) ?_
 refine sR ?_
 refine sA (.bool (false)) rfl ?_
 refine wend ?_
 refine sR ?_
 refine sM (.iface T0 (x0)) rfl ?_
 refine sq (r_neqIN isI27 rfl rfl) ?_
 refine sM (.bool (true)) rfl ?_
 refine sqAny (v := .iface T0 (x0)) (w' := w) (wantedSome (d' := 7) (b := true) rfl rfl rfl) (r_move (v := .iface T0 (x0)) rfl) ?_
 refine sqAny (v := i64 (e2)) (w' := w) (wantedSome (d' := 7) (b := true) rfl rfl rfl) (r_move (v := i64 (e2)) rfl) ?_
 refine sqAny (v := .iface 57 (i64 (e2))) (w' := w) (wantedSome (d' := 7) (b := true) rfl rfl rfl) (r_mkI und57 (xv := i64 (e2)) rfl) ?_
 refine caAny (wantedSome (d' := 7) (b := true) rfl rfl rfl) (Enters.callL (vs := [.iface T0 (x0), .iface 57 (i64 (e2))]) call71 rfl) (is1_ok e e2 k (.iface T0 x0) lo w (hEr.ext H.chg)) ?_
 rintro _ w1 ⟨rfl, hE2⟩
 have H3 := H.ext hE2
 refine sq (r_pickT (u := .bool (decide (e = e2))) rfl rfl) ?_
 refine sA (.bool (decide (e = e2))) rfl ?_
 refine wend ?_
 refine retAny ?_
 refine retG (rs := [.tmp 4]) (vs := [.bool (decide (e = e2))]) rfl ⟨⟨rfl, rfl⟩, trivial⟩ ?_
 exact ⟨_, rfl, rfl, H3.chg⟩
theorem as0_ok (e : Int) (t b : Nat) (w : World) : Calls Tryd.prog 103 [.iface 57 (i64 e), .iface 184 (pT t), .agg #[.pointer (some ⟨1, 184, none⟩), pT b, .int .u64 150], .iface 221 (.agg #[.pointer (some ⟨1, 183, none⟩)])].toArray w (Ret fun v w' => v = .bool false ∧ Ext w w') := by
 have H := Hp.start No w
 refine enter (n := 62) Tryd.func103 rfl rfl (bLe rfl) ?_
 refine sR ?_
 refine q_box (v := .agg #[.pointer (some ⟨1, 184, none⟩), pT b, .int .u64 150]) (o := .cells #[.pointer (some ⟨1, 184, none⟩), pT b, .int .u64 150] 196 (0, 0)) H rfl (by rfl) ?_
 intro b1 w2 hb1 H3 hE4
 refine sA (.bool (false)) rfl ?_
 refine wend ?_
 refine blockAny ?_
 refine loopAny (σ := Unit) (fun _ => [(0, .iface 57 (i64 e)), (1, .iface 184 (pT t)), (3, .iface 221 (.agg #[.pointer (some ⟨1, 183, none⟩)])), (6, pT b1)]) (fun _ w' => True ∧ Hp No w w' [(some b1, .cells #[.pointer (some ⟨1, 184, none⟩), pT b, .int .u64 150] 196 (0, 0))]) (fun _ => 0) (()) ?_ ?_ ?_
 ·exact ⟨rfl, rfl, rfl, rfl, trivial⟩
 ·exact ⟨trivial, H3⟩
 rintro _ ρ w5 ⟨_, HL⟩
 refine blockAny ?_
 refine seqAny ?_
 refine sR ?_
 refine sM (.iface 57 (i64 e)) rfl ?_
 refine sqR (wantedNone rfl _ _) (r_ext (vs := [.iface 57 (i64 e)]) rfl (x_typeOf57 (i64 e) w5)) ?_
 rintro _ _ ⟨rfl, rfl⟩
 refine sM (.iface 221 (.agg #[.pointer (some ⟨1, 183, none⟩)])) rfl ?_
 refine sqR (wantedNone rfl _ _) (r_invX (vs := [.iface 221 (.agg #[.pointer (some ⟨1, 183, none⟩)])]) rfl (m_AssignableTo _) rfl (x_assign57_183 w5)) ?_
 rintro _ _ ⟨rfl, rfl⟩
 refine wend ?_
 refine condFalse rfl ?_
 refine skipAny ?_
 refine thenNormal ?_
 refine seqAny ?_
 refine sR ?_
 refine sM (.iface 57 (i64 e)) rfl ?_
 refine sq (r_lacks lk57_233 rfl) ?_
 refine sM (.tuple #[.nilIface, .bool (false)]) rfl ?_
 refine sq (r_extract (vs := #[.nilIface, .bool (false)]) rfl rfl) ?_
 refine sq (r_extract (vs := #[.nilIface, .bool (false)]) rfl rfl) ?_
 refine sA (.nilIface) rfl ?_
 refine sA (.bool (false)) rfl ?_
 refine wend ?_
 refine sR ?_
 refine sM (.bool (false)) rfl ?_
 refine sM (.bool (false)) rfl ?_
 refine skAny (wantedSome (d' := 31) (b := false) rfl rfl rfl) ?_
 refine skAny (wantedSome (d' := 31) (b := false) rfl rfl rfl) ?_
 refine skAny (wantedSome (d' := 31) (b := false) rfl rfl rfl) ?_
 refine sq (r_pickF (v := .bool (false)) rfl rfl) ?_
 refine wend ?_
 refine condFalse rfl ?_
 refine skipAny ?_
 refine thenNormal ?_
 refine sR ?_
 refine sM (.iface 57 (i64 e)) rfl ?_
 refine wend ?_
 refine blockAny ?_
 refine sR ?_
 refine sq (r_lacks lk57_226 rfl) ?_
 refine sq (r_extract (vs := #[.nilIface, .bool (false)]) rfl rfl) ?_
 refine sq (r_extract (vs := #[.nilIface, .bool (false)]) rfl rfl) ?_
 refine wend ?_
 refine condFalse rfl ?_
 refine sR ?_
 refine sq (r_lacks lk57_228 rfl) ?_
 refine sq (r_extract (vs := #[.nilIface, .bool (false)]) rfl rfl) ?_
 refine sq (r_extract (vs := #[.nilIface, .bool (false)]) rfl rfl) ?_
 refine wend ?_
 refine condFalse rfl ?_
 refine sR ?_
 refine sA (.iface 57 (i64 e)) rfl ?_
 refine wend ?_
 refine sR ?_
 refine sA (.bool (false)) rfl ?_
 refine wend ?_
 refine retAny ?_
 refine blockRet ?_
 refine blockRet ?_
 refine thenRet ?_
 refine blockRet ?_
 refine retG (rs := [.tmp 8]) (vs := [.bool (false)]) rfl ⟨⟨rfl, rfl⟩, trivial⟩ ?_
 exact ⟨_, rfl, rfl, HL.chg⟩
theorem as1_ok (e : Int) (t : Nat) (w : World) (hG : Gl w) : Calls Tryd.prog 72 [.iface 57 (i64 e), .iface 184 (pT t)].toArray w (Ret fun v w' => v = .bool false ∧ Ext w w') := by
 obtain ⟨gcs, gT, gfr, hg, hgv⟩ := hG
 rw [handleErr] at hgv
 have H := Hp.start No w
 refine enter (n := 42) Tryd.func72 rfl rfl (bLe rfl) ?_
 refine sR ?_
 refine sA (.bool (false)) rfl ?_
 refine wend ?_
 refine seqAny ?_
 refine sR ?_
 refine sM (.iface 57 (i64 e)) rfl ?_
 refine sq (r_eqlIN isI27 rfl rfl) ?_
 refine wend ?_
 refine condFalse rfl ?_
 refine skipAny ?_
 refine thenNormal ?_
 refine seqAny ?_
 refine sR ?_
 refine sM (.iface 184 (pT t)) rfl ?_
 refine sq (r_eqlIN isI20 rfl rfl) ?_
 refine wend ?_
 refine condFalse rfl ?_
 refine skipAny ?_
 refine thenNormal ?_
 refine sR ?_
 refine sM (.iface 184 (pT t)) rfl ?_
 refine sqR (wantedNone rfl _ _) (r_ext (vs := [.iface 184 (pT t)]) rfl (x_valueOf184 ⟨t, 0, none⟩ w)) ?_
 rintro _ w1 ⟨b3, rfl, hb4, ho5, hE6⟩
 have H7 := H.add1 hE6 hb4 ho5
 have H7' := H7.as (L' := [(some b3, .cells #[pT t] 184 (0, 0))]) rfl
 refine q_alloc (o := .cells #[.pointer none, .pointer none, u64 (0#64)] 196 (0, 0)) H7' zer196 (by kernel_rfl) ?_
 intro b8 w9 hb8 H10 hE11
 refine d_store (k := 0) (v := .agg #[.pointer (some ⟨1, 184, none⟩), pT b3, .int .u64 150]) (cs' := #[.pointer (some ⟨1, 184, none⟩), pT b3, .int .u64 150]) H10 rfl rfl rfl siz196 (by rfl) (by intro u hu; simp [Value.cells] at hu; first | (subst hu; rfl) | (rcases hu with rfl | rfl | rfl <;> rfl)) (by exact bLe rfl) (by rfl) ?_
 intro w12 H13 hC14
 have H13' := H13.as (L' := [(some b8, .cells #[.pointer (some ⟨1, 184, none⟩), pT b3, .int .u64 150] 196 (0, 0)), (some b3, .cells #[pT t] 184 (0, 0))]) rfl
 clear H13
 refine wend ?_
 refine sR ?_
 refine sq (r_loadA (cs' := #[.pointer (some ⟨1, 184, none⟩), pT b3, .int .u64 150]) agg196 siz196 (H13'.get (k := 0) rfl) (off := 0) rfl (by exact bLe rfl) (by rfl)) ?_
 refine sqR (wantedNone rfl _ _) (r_ext (vs := [.agg #[.pointer (some ⟨1, 184, none⟩), pT b3, .int .u64 150]]) rfl (x_type184 ⟨b3, 0, none⟩ w12)) ?_
 rintro _ _ ⟨rfl, rfl⟩
 refine sA (.iface 221 (.agg #[.pointer (some ⟨1, 184, none⟩)])) rfl ?_
 refine wend ?_
 refine seqAny ?_
 refine sR ?_
 refine sM (.iface 221 (.agg #[.pointer (some ⟨1, 184, none⟩)])) rfl ?_
 refine sqR (wantedNone rfl _ _) (r_invX (vs := []) rfl (m_Kind _) rfl (x_kind184 w12)) ?_
 rintro _ _ ⟨rfl, rfl⟩
 refine sq ((r_neq8 (a := 22#8) (b := 22#8) rfl rfl).as (v' := .bool (false)) (by rfl)) ?_
 refine sM (.bool (false)) rfl ?_
 refine sqAny (v := .agg #[.pointer (some ⟨1, 184, none⟩), pT b3, .int .u64 150]) (w' := w12) (wantedSome (d' := 20) (b := false) rfl rfl rfl) (r_loadA (cs' := #[.pointer (some ⟨1, 184, none⟩), pT b3, .int .u64 150]) agg196 siz196 (H13'.get (k := 0) rfl) (off := 0) rfl (by exact bLe rfl) (by rfl)) ?_
 refine sqR (wantedSome (d' := 20) (b := false) rfl rfl rfl) (r_ext (vs := [.agg #[.pointer (some ⟨1, 184, none⟩), pT b3, .int .u64 150]]) rfl (x_isNil184 ⟨b3, 0, none⟩ ⟨t, 0, none⟩ w12 (by rw [cell_eq (H13'.get (k := 1) rfl)]; rfl))) ?_
 rintro _ _ ⟨rfl, rfl⟩
 refine sq (r_pickF (v := .bool (false)) rfl rfl) ?_
 refine wend ?_
 refine condFalse rfl ?_
 refine skipAny ?_
 refine thenNormal ?_
 refine sR ?_
 refine sM (.iface 221 (.agg #[.pointer (some ⟨1, 184, none⟩)])) rfl ?_
 refine sqR (wantedNone rfl _ _) (r_invX (vs := []) rfl (m_Elem _) rfl (x_elem184 w12)) ?_
 rintro _ _ ⟨rfl, rfl⟩
 refine sA (.iface 221 (.agg #[.pointer (some ⟨1, 183, none⟩)])) rfl ?_
 refine wend ?_
 refine seqAny ?_
 refine sR ?_
 refine sM (.iface 221 (.agg #[.pointer (some ⟨1, 183, none⟩)])) rfl ?_
 refine sqR (wantedNone rfl _ _) (r_invX (vs := []) rfl (m_Kind _) rfl (x_kind183 w12)) ?_
 rintro _ _ ⟨rfl, rfl⟩
 refine sq ((r_neq8 (a := 22#8) (b := 20#8) rfl rfl).as (v' := .bool (true)) (by rfl)) ?_
 refine sM (.bool (true)) rfl ?_
 refine sqAny (v := .iface 221 (.agg #[.pointer (some ⟨1, 183, none⟩)])) (w' := w12) (wantedSome (d' := 30) (b := true) rfl rfl rfl) (r_move (v := .iface 221 (.agg #[.pointer (some ⟨1, 183, none⟩)])) rfl) ?_
 refine sqAny (v := .iface 221 (.agg #[.pointer (some ⟨1, 27, none⟩)])) (w' := w12) (wantedSome (d' := 30) (b := true) rfl rfl rfl) (r_loadC (v := .iface 221 (.agg #[.pointer (some ⟨1, 27, none⟩)])) one190 (H13'.keepE hg) (off := 0) rfl (hgv)) ?_
 refine sqR (wantedSome (d' := 30) (b := true) rfl rfl rfl) (r_invX (vs := [.iface 221 (.agg #[.pointer (some ⟨1, 27, none⟩)])]) rfl (m_Implements _) rfl (x_impl183 w12)) ?_
 rintro _ _ ⟨rfl, rfl⟩
 refine sqAny (v := .bool (false)) (w' := w12) (wantedSome (d' := 30) (b := true) rfl rfl rfl) (r_notT rfl) ?_
 refine sq (r_pickT (u := .bool (false)) rfl rfl) ?_
 refine wend ?_
 refine condFalse rfl ?_
 refine skipAny ?_
 refine thenNormal ?_
 refine sR ?_
 refine sM (.iface 57 (i64 e)) rfl ?_
 refine sM (.iface 184 (pT t)) rfl ?_
 refine sq (r_loadA (cs' := #[.pointer (some ⟨1, 184, none⟩), pT b3, .int .u64 150]) agg196 siz196 (H13'.get (k := 0) rfl) (off := 0) rfl (by exact bLe rfl) (by rfl)) ?_
 refine sM (.iface 221 (.agg #[.pointer (some ⟨1, 183, none⟩)])) rfl ?_
 refine c_call (vs := [.iface 57 (i64 e), .iface 184 (pT t), .agg #[.pointer (some ⟨1, 184, none⟩), pT b3, .int .u64 150], .iface 221 (.agg #[.pointer (some ⟨1, 183, none⟩)])]) call103 rfl (as0_ok e t b3 w12) ?_
 rintro _ w27 ⟨rfl, hE28⟩
 have H29 := H13'.ext hE28
 refine sA (.bool (false)) rfl ?_
 refine wend ?_
 refine retAny ?_
 refine retG (rs := [.tmp 4]) (vs := [.bool (false)]) rfl ⟨⟨rfl, rfl⟩, trivial⟩ ?_
 exact ⟨_, rfl, rfl, H29.chg⟩
theorem wrap0_ok (e at1 : Int) (nm : ByteArray) (w : World) (hG : Gl w) : Calls Tryd.prog 63 [.iface 57 (i64 e), .string (nm), i64 (at1)].toArray w (Ret fun v w' => Er w.heap.size w' e 1 v ∧ Ext w w') := by
 have H := Hp.start No w
 refine enter (n := 29) Tryd.func63 rfl rfl (bLe rfl) ?_
 refine sR ?_
 refine sA (.nilIface) rfl ?_
 refine wend ?_
 refine seqAny ?_
 refine sR ?_
 refine sM (.iface 57 (i64 e)) rfl ?_
 refine sq (r_eqlIN isI27 rfl rfl) ?_
 refine wend ?_
 refine condFalse rfl ?_
 refine skipAny ?_
 refine thenNormal ?_
 refine sR ?_
 refine sA (i64 ((1 : Int))) rfl ?_
 refine wend ?_
 refine sR ?_
 refine q_alloc (o := .cells #[.pointer none] 183 (0, 0)) H zer183 (by kernel_rfl) ?_
 intro b1 w2 hb1 H3 hE4
 refine wend ?_
 refine seqAny ?_
 refine sR ?_
 refine sM (.iface 57 (i64 e)) rfl ?_
 refine sq (r_mkIP und184 (xv := pT b1) rfl) ?_
 refine c_call (vs := [.iface 57 (i64 e), .iface 184 (pT b1)]) call72 rfl (as1_ok e b1 w2 (Chg.gl H3.chg (fun x => x) hG)) ?_
 rintro _ w5 ⟨rfl, hE6⟩
 have H7 := H3.ext hE6
 refine wend ?_
 refine condFalse rfl ?_
 refine skipAny ?_
 refine thenNormal ?_
 refine seqAny ?_
 refine sR ?_
 refine sM (i64 ((1 : Int))) rfl ?_
 refine sq (r_gtrI (a := (1 : Int)) (b := (64 : Int)) rfl rfl) ?_
 refine wend ?_
 refine condFalse rfl ?_
 refine skipAny ?_
 refine thenNormal ?_
 refine sR ?_
 refine sM (.string (nm)) rfl ?_
 refine sM (i64 (at1)) rfl ?_
 refine sM (i64 ((1 : Int))) rfl ?_
 refine sM (.iface 57 (i64 e)) rfl ?_
 refine sq (r_build (cs' := #[.string (nm), i64 (at1), i64 ((1 : Int)), .iface 57 (i64 e)]) (ps := [(0, .string (nm)), (1, i64 (at1)), (2, i64 ((1 : Int))), (3, .iface 57 (i64 e))]) zer186 pls186 rfl (by rfl)) ?_
 refine q_box (v := .agg #[.string (nm), i64 (at1), i64 ((1 : Int)), .iface 57 (i64 e)]) (o := .cells #[.string (nm), i64 (at1), i64 ((1 : Int)), .iface 57 (i64 e)] 186 (0, 0)) H7 rfl (by rfl) ?_
 intro b8 w9 hb8 H10 hE11
 refine sq (r_mkIP und183 (xv := pT b8) rfl) ?_
 refine sA (.iface 183 (pT b8)) rfl ?_
 refine wend ?_
 refine retAny ?_
 refine retG (rs := [.tmp 6]) (vs := [.iface 183 (pT b8)]) rfl ⟨⟨rfl, rfl⟩, trivial⟩ ?_
 exact ⟨_, rfl, ⟨b8, _, _, _, rfl, (H10.own _ (List.mem_of_getElem? (i := 0) rfl) _ rfl).resolve_left (fun h => h), H10.get (k := 0) rfl, rfl⟩, H10.chg⟩
end Go.Proofs.YteofdmdpaejgaaaDoor.Er
namespace Go.Proofs.YteofdmdpaejgaaaDoor.Aes
open Go Go.Proofs.YteofdmdpaejgaaaDoor.Vc Go.Proofs.YteofdmdpaejgaaaDoor.AesSpec
theorem agg124 : isAgg' Tryd.prog 124 = true := by kernel_rfl
theorem agg217 : isAgg' Tryd.prog 217 = true := by kernel_rfl
theorem agg38 : isAgg' Tryd.prog 38 = true := by kernel_rfl
theorem arr124 : arr Tryd.prog 124 = some (16, 1) := by kernel_rfl
theorem arr212 : arr Tryd.prog 212 = some (11, 16) := by kernel_rfl
theorem arr213 : arr Tryd.prog 213 = some (256, 1) := by kernel_rfl
theorem arr217 : arr Tryd.prog 217 = some (4, 1) := by kernel_rfl
theorem arr38 : arr Tryd.prog 38 = some (2, 1) := by kernel_rfl
theorem call106 : callable Tryd.prog 106 = true := by kernel_rfl
theorem call107 : callable Tryd.prog 107 = true := by kernel_rfl
theorem call108 : callable Tryd.prog 108 = true := by kernel_rfl
theorem call109 : callable Tryd.prog 109 = true := by kernel_rfl
theorem call115 : callable Tryd.prog 115 = true := by kernel_rfl
theorem call116 : callable Tryd.prog 116 = true := by kernel_rfl
theorem call120 : callable Tryd.prog 120 = true := by kernel_rfl
theorem call125 : callable Tryd.prog 125 = true := by kernel_rfl
theorem call86 : callable Tryd.prog 86 = true := by kernel_rfl
theorem call96 : callable Tryd.prog 96 = true := by kernel_rfl
theorem fits32 : Fits Tryd.prog 32 E64 := fits64 (by kernel_rfl) (by kernel_rfl)
theorem fits5 : Fits Tryd.prog 5 E8 := fits8 (by kernel_rfl) (by kernel_rfl)
theorem fld215_0 : fld Tryd.prog 215 0 = some (0, 176, 212) := by kernel_rfl
theorem fld215_1 : fld Tryd.prog 215 1 = some (176, 256, 213) := by kernel_rfl
theorem mixed : Tryd.prog.follows .mixedOrders = true := by kernel_rfl
theorem one32 : isOne Tryd.prog 32 = true := by kernel_rfl
theorem one5 : isOne Tryd.prog 5 = true := by kernel_rfl
theorem pls215 : pls Tryd.prog 215 = some #[(0, 176), (176, 256)] := by kernel_rfl
theorem siz124 : siz Tryd.prog 124 = some 16 := by kernel_rfl
theorem siz217 : siz Tryd.prog 217 = some 4 := by kernel_rfl
theorem siz32 : siz Tryd.prog 32 = some 1 := by kernel_rfl
theorem siz38 : siz Tryd.prog 38 = some 2 := by kernel_rfl
theorem siz5 : siz Tryd.prog 5 = some 1 := by kernel_rfl
theorem und124 : Tryd.prog.underlying 124 = some (.array 16 5) := by kernel_rfl
theorem und3 : Tryd.prog.underlying 3 = some (.int .i64) := by kernel_rfl
theorem und32 : Tryd.prog.underlying 32 = some (.int .u64) := by kernel_rfl
theorem und38 : Tryd.prog.underlying 38 = some (.array 2 32) := by kernel_rfl
theorem und45 : Tryd.prog.underlying 45 = some (.int .u64) := by kernel_rfl
theorem und5 : Tryd.prog.underlying 5 = some (.int .u8) := by kernel_rfl
theorem zer124 : zer Tryd.prog 124 = some (.agg (List.replicate 16 (.int .u8 0)).toArray) := by kernel_rfl
theorem zer215 : zer Tryd.prog 215 = some (.agg (List.replicate 432 (.int .u8 0)).toArray) := by kernel_rfl
theorem zer217 : zer Tryd.prog 217 = some (.agg (List.replicate 4 (.int .u8 0)).toArray) := by kernel_rfl
theorem zer38 : zer Tryd.prog 38 = some (.agg (List.replicate 2 (.int .u64 0)).toArray) := by kernel_rfl
theorem twice_ok (a : BitVec 8) (w : World) : Calls Tryd.prog 116 [u8 (a)].toArray w (Ret fun v w' => v = u8 (xt a) ∧ Ext w w') := by
 have H := Hp.start No w
 refine enter (n := 10) Tryd.func116 rfl rfl (bLe rfl) ?_
 refine sR ?_
 refine sA (u8 (0#8)) rfl ?_
 refine wend ?_
 refine seqAny ?_
 refine sR ?_
 refine sM (u8 (a)) rfl ?_
 refine sq (r_geq8 (a := a) (b := 128#8) rfl rfl) ?_
 refine wend ?_
 refine condProp ((128#8).toNat ≤ a.toNat) rfl (fun c => ?_) (fun c => ?_)
 ·skip
  refine sR ?_
  refine sM (u8 (a)) rfl ?_
  refine sq (r_shl8 (a := a) (c := 1) rfl rfl) ?_
  refine sq (r_xor8 (a := a <<< (1 : Nat)) (b := 27#8) rfl rfl) ?_
  refine sA (u8 ((a <<< (1 : Nat)) ^^^ (27#8))) rfl ?_
  refine wend ?_
  refine retAny ?_
  refine thenRet ?_
  refine retG (rs := [.tmp 2]) (vs := [u8 ((a <<< (1 : Nat)) ^^^ (27#8))]) rfl ⟨⟨rfl, rfl⟩, trivial⟩ ?_
  exact ⟨_, rfl, congrArg u8 (if_pos c).symm, H.chg⟩
 ·skip
  refine skipAny ?_
  refine thenNormal ?_
  refine sR ?_
  refine sM (u8 (a)) rfl ?_
  refine sq (r_shl8 (a := a) (c := 1) rfl rfl) ?_
  refine sA (u8 (a <<< (1 : Nat))) rfl ?_
  refine wend ?_
  refine retAny ?_
  refine retG (rs := [.tmp 2]) (vs := [u8 (a <<< (1 : Nat))]) rfl ⟨⟨rfl, rfl⟩, trivial⟩ ?_
  exact ⟨_, rfl, congrArg u8 (if_neg c).symm, H.chg⟩
theorem rot_ok (a : BitVec 8) (k : Nat) (hk : k < 8) (w : World) : Calls Tryd.prog 125 [u8 (a), i64 (k : Nat)].toArray w (Ret fun v w' => v = u8 (rot a k) ∧ Ext w w') := by
 have H := Hp.start No w
 refine enter (n := 17) Tryd.func125 rfl rfl (bLe rfl) ?_
 refine sR ?_
 refine sA (u8 (0#8)) rfl ?_
 refine wend ?_
 refine sR ?_
 refine sM (i64 (k : Nat)) rfl ?_
 refine sq (r_Ito64 und3 und45 (a := (k : Nat)) rfl) ?_
 refine sq (r_and64 (a := BitVec.ofInt 64 (k : Nat)) (b := 7#64) rfl rfl) ?_
 refine sA (u64 ((BitVec.ofInt 64 (k : Nat)) &&& (7#64))) rfl ?_
 refine wend ?_
 refine sR ?_
 refine sM (u8 (a)) rfl ?_
 refine sM (u64 ((BitVec.ofInt 64 (k : Nat)) &&& (7#64))) rfl ?_
 refine sq (r_shl8 (a := a) (c := ((BitVec.ofInt 64 (k : Nat)) &&& (7#64)).toNat) rfl rfl) ?_
 refine sM (u8 (a)) rfl ?_
 refine sM (u64 ((BitVec.ofInt 64 (k : Nat)) &&& (7#64))) rfl ?_
 refine sq (r_sub64 (a := 8#64) (b := (BitVec.ofInt 64 (k : Nat)) &&& (7#64)) rfl rfl) ?_
 refine sq (r_shr8 (a := a) (c := ((8#64) - ((BitVec.ofInt 64 (k : Nat)) &&& (7#64))).toNat) rfl rfl) ?_
 refine sq (r_or8 (a := a <<< (((BitVec.ofInt 64 (k : Nat)) &&& (7#64)).toNat : Nat)) (b := a >>> (((8#64) - ((BitVec.ofInt 64 (k : Nat)) &&& (7#64))).toNat : Nat)) rfl rfl) ?_
 refine sA (u8 ((a <<< (((BitVec.ofInt 64 (k : Nat)) &&& (7#64)).toNat : Nat)) ||| (a >>> (((8#64) - ((BitVec.ofInt 64 (k : Nat)) &&& (7#64))).toNat : Nat)))) rfl ?_
 refine wend ?_
 refine retAny ?_
 refine retG (rs := [.tmp 4]) (vs := [u8 ((a <<< (((BitVec.ofInt 64 (k : Nat)) &&& (7#64)).toNat : Nat)) ||| (a >>> (((8#64) - ((BitVec.ofInt 64 (k : Nat)) &&& (7#64))).toNat : Nat)))]) rfl ⟨⟨rfl, rfl⟩, trivial⟩ ?_
 exact ⟨_, rfl, congrArg u8 (by simp only [rot, (rot_eq k hk).1, (rot_eq k hk).2]), H.chg⟩
theorem fill_ok (b : Nat) (cl : List By) (hn : cl.length = 432) (w : World) (hb : w.heap[b]? = some (.cells (cel E8 cl).toArray 215 (0, 0))) : Calls Tryd.prog 115 [pT b].toArray w (Ret fun v w' => v = .tuple #[] ∧ Chg (· = b) w w' ∧ w'.heap[b]? = some (.cells (cel E8 (fillL cl)).toArray 215 (0, 0))) := by
 have H := Hp.start1 (M := (· = b)) rfl hb
 refine enter (n := 50) Tryd.func115 rfl rfl (bLe rfl) ?_
 refine sR ?_
 refine sA (u8 (1#8)) rfl ?_
 refine sA (u8 (1#8)) rfl ?_
 refine wend ?_
 refine seqAny ?_
 refine sR ?_
 refine sM (i64 ((0 : Int))) rfl ?_
 refine wend ?_
 refine blockAny ?_
 refine loopAny (σ := Nat) (fun k => [(0, pT b), (2, u8 ((fillS cl k).1)), (3, u8 ((fillS cl k).2.1)), (4, i64 (k : Nat))]) (fun k w' => k ≤ 255 ∧ Hp (· = b) w w' [(some b, .cells (cel E8 ((fillS cl k).2.2)).toArray 215 (0, 0))]) (fun k => 255 - k) (0) ?_ ?_ ?_
 ·exact ⟨rfl, rfl, rfl, rfl, trivial⟩
 ·exact ⟨by omega, H⟩
 rintro k ρ w1 ⟨hk, H2⟩
 have hl := fillS_len cl k
 rw [hn] at hl
 refine sR ?_
 refine sq (r_lssI (a := (k : Nat)) (b := (255 : Int)) rfl rfl) ?_
 refine wend ?_
 refine seqAny ?_
 refine condProp (((k : Nat) : Int) < (255 : Int)) rfl (fun hk5 => ?_) (fun hk5 => ?_)
 ·skip
  refine skipAny ?_
  refine thenNormal ?_
  refine seqAny ?_
  refine blockAny ?_
  refine sR ?_
  refine sM (u8 ((fillS cl k).1)) rfl ?_
  refine sM (u8 ((fillS cl k).1)) rfl ?_
  refine c_call (vs := [u8 ((fillS cl k).1)]) call116 rfl (twice_ok ((fillS cl k).1) w1) ?_
  rintro _ w3 ⟨rfl, hE4⟩
  have H5 := H2.ext hE4
  refine sq (r_xor8 (a := (fillS cl k).1) (b := xt ((fillS cl k).1)) rfl rfl) ?_
  refine sA (u8 (((fillS cl k).1) ^^^ (xt ((fillS cl k).1)))) rfl ?_
  refine wend ?_
  refine sR ?_
  refine sM (u8 ((fillS cl k).2.1)) rfl ?_
  refine sM (u8 ((fillS cl k).2.1)) rfl ?_
  refine sq (r_shl8 (a := (fillS cl k).2.1) (c := 1) rfl rfl) ?_
  refine sq (r_xor8 (a := (fillS cl k).2.1) (b := ((fillS cl k).2.1) <<< (1 : Nat)) rfl rfl) ?_
  refine sA (u8 (((fillS cl k).2.1) ^^^ (((fillS cl k).2.1) <<< (1 : Nat)))) rfl ?_
  refine wend ?_
  refine sR ?_
  refine sM (u8 (((fillS cl k).2.1) ^^^ (((fillS cl k).2.1) <<< (1 : Nat)))) rfl ?_
  refine sM (u8 (((fillS cl k).2.1) ^^^ (((fillS cl k).2.1) <<< (1 : Nat)))) rfl ?_
  refine sq (r_shl8 (a := ((fillS cl k).2.1) ^^^ (((fillS cl k).2.1) <<< (1 : Nat))) (c := 2) rfl rfl) ?_
  refine sq (r_xor8 (a := ((fillS cl k).2.1) ^^^ (((fillS cl k).2.1) <<< (1 : Nat))) (b := (((fillS cl k).2.1) ^^^ (((fillS cl k).2.1) <<< (1 : Nat))) <<< (2 : Nat)) rfl rfl) ?_
  refine sA (u8 ((((fillS cl k).2.1) ^^^ (((fillS cl k).2.1) <<< (1 : Nat))) ^^^ ((((fillS cl k).2.1) ^^^ (((fillS cl k).2.1) <<< (1 : Nat))) <<< (2 : Nat)))) rfl ?_
  refine wend ?_
  refine sR ?_
  refine sM (u8 ((((fillS cl k).2.1) ^^^ (((fillS cl k).2.1) <<< (1 : Nat))) ^^^ ((((fillS cl k).2.1) ^^^ (((fillS cl k).2.1) <<< (1 : Nat))) <<< (2 : Nat)))) rfl ?_
  refine sM (u8 ((((fillS cl k).2.1) ^^^ (((fillS cl k).2.1) <<< (1 : Nat))) ^^^ ((((fillS cl k).2.1) ^^^ (((fillS cl k).2.1) <<< (1 : Nat))) <<< (2 : Nat)))) rfl ?_
  refine sq (r_shl8 (a := (((fillS cl k).2.1) ^^^ (((fillS cl k).2.1) <<< (1 : Nat))) ^^^ ((((fillS cl k).2.1) ^^^ (((fillS cl k).2.1) <<< (1 : Nat))) <<< (2 : Nat))) (c := 4) rfl rfl) ?_
  refine sq (r_xor8 (a := (((fillS cl k).2.1) ^^^ (((fillS cl k).2.1) <<< (1 : Nat))) ^^^ ((((fillS cl k).2.1) ^^^ (((fillS cl k).2.1) <<< (1 : Nat))) <<< (2 : Nat))) (b := ((((fillS cl k).2.1) ^^^ (((fillS cl k).2.1) <<< (1 : Nat))) ^^^ ((((fillS cl k).2.1) ^^^ (((fillS cl k).2.1) <<< (1 : Nat))) <<< (2 : Nat))) <<< (4 : Nat)) rfl rfl) ?_
  refine sA (u8 (((((fillS cl k).2.1) ^^^ (((fillS cl k).2.1) <<< (1 : Nat))) ^^^ ((((fillS cl k).2.1) ^^^ (((fillS cl k).2.1) <<< (1 : Nat))) <<< (2 : Nat))) ^^^ (((((fillS cl k).2.1) ^^^ (((fillS cl k).2.1) <<< (1 : Nat))) ^^^ ((((fillS cl k).2.1) ^^^ (((fillS cl k).2.1) <<< (1 : Nat))) <<< (2 : Nat))) <<< (4 : Nat)))) rfl ?_
  refine wend ?_
  refine seqAny ?_
  refine sR ?_
  refine sM (u8 (((((fillS cl k).2.1) ^^^ (((fillS cl k).2.1) <<< (1 : Nat))) ^^^ ((((fillS cl k).2.1) ^^^ (((fillS cl k).2.1) <<< (1 : Nat))) <<< (2 : Nat))) ^^^ (((((fillS cl k).2.1) ^^^ (((fillS cl k).2.1) <<< (1 : Nat))) ^^^ ((((fillS cl k).2.1) ^^^ (((fillS cl k).2.1) <<< (1 : Nat))) <<< (2 : Nat))) <<< (4 : Nat)))) rfl ?_
  refine sq (r_geq8 (a := ((((fillS cl k).2.1) ^^^ (((fillS cl k).2.1) <<< (1 : Nat))) ^^^ ((((fillS cl k).2.1) ^^^ (((fillS cl k).2.1) <<< (1 : Nat))) <<< (2 : Nat))) ^^^ (((((fillS cl k).2.1) ^^^ (((fillS cl k).2.1) <<< (1 : Nat))) ^^^ ((((fillS cl k).2.1) ^^^ (((fillS cl k).2.1) <<< (1 : Nat))) <<< (2 : Nat))) <<< (4 : Nat))) (b := 128#8) rfl rfl) ?_
  refine wend ?_
  refine condProp ((128#8).toNat ≤ (((((fillS cl k).2.1) ^^^ (((fillS cl k).2.1) <<< (1 : Nat))) ^^^ ((((fillS cl k).2.1) ^^^ (((fillS cl k).2.1) <<< (1 : Nat))) <<< (2 : Nat))) ^^^ (((((fillS cl k).2.1) ^^^ (((fillS cl k).2.1) <<< (1 : Nat))) ^^^ ((((fillS cl k).2.1) ^^^ (((fillS cl k).2.1) <<< (1 : Nat))) <<< (2 : Nat))) <<< (4 : Nat))).toNat) rfl (fun c23 => ?_) (fun c23 => ?_)
  ·skip
   refine oneRegion ?_
   refine sM (u8 (((((fillS cl k).2.1) ^^^ (((fillS cl k).2.1) <<< (1 : Nat))) ^^^ ((((fillS cl k).2.1) ^^^ (((fillS cl k).2.1) <<< (1 : Nat))) <<< (2 : Nat))) ^^^ (((((fillS cl k).2.1) ^^^ (((fillS cl k).2.1) <<< (1 : Nat))) ^^^ ((((fillS cl k).2.1) ^^^ (((fillS cl k).2.1) <<< (1 : Nat))) <<< (2 : Nat))) <<< (4 : Nat)))) rfl ?_
   refine sq (r_xor8 (a := ((((fillS cl k).2.1) ^^^ (((fillS cl k).2.1) <<< (1 : Nat))) ^^^ ((((fillS cl k).2.1) ^^^ (((fillS cl k).2.1) <<< (1 : Nat))) <<< (2 : Nat))) ^^^ (((((fillS cl k).2.1) ^^^ (((fillS cl k).2.1) <<< (1 : Nat))) ^^^ ((((fillS cl k).2.1) ^^^ (((fillS cl k).2.1) <<< (1 : Nat))) <<< (2 : Nat))) <<< (4 : Nat))) (b := 9#8) rfl rfl) ?_
   refine sA (u8 ((((((fillS cl k).2.1) ^^^ (((fillS cl k).2.1) <<< (1 : Nat))) ^^^ ((((fillS cl k).2.1) ^^^ (((fillS cl k).2.1) <<< (1 : Nat))) <<< (2 : Nat))) ^^^ (((((fillS cl k).2.1) ^^^ (((fillS cl k).2.1) <<< (1 : Nat))) ^^^ ((((fillS cl k).2.1) ^^^ (((fillS cl k).2.1) <<< (1 : Nat))) <<< (2 : Nat))) <<< (4 : Nat))) ^^^ (9#8))) rfl ?_
   refine wnil ?_
   refine thenNormal ?_
   refine drawAny (K := [none, none, none, none, none, none, none, none, none, none, none, none, none, none, none, none, none, none, none]) [0, 0, 0, 0, 8, 28, 0, 88, 252, 0, 728, 2044, 0, 5848, 16380, 32764, 1, 65537, 262143, 524287] (fun w' => Ext w3 w') (fun w' w'' => Ext w' w'') mixed (by kernel_rfl) (Ext.drew _) (fun _ _ h h' => h.trans h') ?_ ?_
   ·exact relNone (by decide)
   refine ⟨pT b, fun _ uw6 hC7 _ => Gives.run rfl (r_move (v := pT b) rfl) ⟨rfl, Chg.refl _ _⟩, ?_⟩
   refine ⟨u8 (((fillS cl k).1) ^^^ (xt ((fillS cl k).1))), fun _ uw8 hC9 _ => Gives.run rfl (r_move (v := u8 (((fillS cl k).1) ^^^ (xt ((fillS cl k).1)))) rfl) ⟨rfl, Chg.refl _ _⟩, ?_⟩
   refine ⟨u8 ((((((fillS cl k).2.1) ^^^ (((fillS cl k).2.1) <<< (1 : Nat))) ^^^ ((((fillS cl k).2.1) ^^^ (((fillS cl k).2.1) <<< (1 : Nat))) <<< (2 : Nat))) ^^^ (((((fillS cl k).2.1) ^^^ (((fillS cl k).2.1) <<< (1 : Nat))) ^^^ ((((fillS cl k).2.1) ^^^ (((fillS cl k).2.1) <<< (1 : Nat))) <<< (2 : Nat))) <<< (4 : Nat))) ^^^ (9#8)), fun _ uw10 hC11 _ => Gives.run rfl (r_move (v := u8 ((((((fillS cl k).2.1) ^^^ (((fillS cl k).2.1) <<< (1 : Nat))) ^^^ ((((fillS cl k).2.1) ^^^ (((fillS cl k).2.1) <<< (1 : Nat))) <<< (2 : Nat))) ^^^ (((((fillS cl k).2.1) ^^^ (((fillS cl k).2.1) <<< (1 : Nat))) ^^^ ((((fillS cl k).2.1) ^^^ (((fillS cl k).2.1) <<< (1 : Nat))) <<< (2 : Nat))) <<< (4 : Nat))) ^^^ (9#8))) rfl) ⟨rfl, Chg.refl _ _⟩, ?_⟩
   refine ⟨u8 ((((((fillS cl k).2.1) ^^^ (((fillS cl k).2.1) <<< (1 : Nat))) ^^^ ((((fillS cl k).2.1) ^^^ (((fillS cl k).2.1) <<< (1 : Nat))) <<< (2 : Nat))) ^^^ (((((fillS cl k).2.1) ^^^ (((fillS cl k).2.1) <<< (1 : Nat))) ^^^ ((((fillS cl k).2.1) ^^^ (((fillS cl k).2.1) <<< (1 : Nat))) <<< (2 : Nat))) <<< (4 : Nat))) ^^^ (9#8)), fun _ uw12 hC13 _ => Gives.run rfl (r_move (v := u8 ((((((fillS cl k).2.1) ^^^ (((fillS cl k).2.1) <<< (1 : Nat))) ^^^ ((((fillS cl k).2.1) ^^^ (((fillS cl k).2.1) <<< (1 : Nat))) <<< (2 : Nat))) ^^^ (((((fillS cl k).2.1) ^^^ (((fillS cl k).2.1) <<< (1 : Nat))) ^^^ ((((fillS cl k).2.1) ^^^ (((fillS cl k).2.1) <<< (1 : Nat))) <<< (2 : Nat))) <<< (4 : Nat))) ^^^ (9#8))) rfl) ⟨rfl, Chg.refl _ _⟩, ?_⟩
   refine ⟨u8 (rot ((((((fillS cl k).2.1) ^^^ (((fillS cl k).2.1) <<< (1 : Nat))) ^^^ ((((fillS cl k).2.1) ^^^ (((fillS cl k).2.1) <<< (1 : Nat))) <<< (2 : Nat))) ^^^ (((((fillS cl k).2.1) ^^^ (((fillS cl k).2.1) <<< (1 : Nat))) ^^^ ((((fillS cl k).2.1) ^^^ (((fillS cl k).2.1) <<< (1 : Nat))) <<< (2 : Nat))) <<< (4 : Nat))) ^^^ (9#8)) 1), fun _ uw14 hC15 _ => Gives.call rfl (Enters.callL (vs := [u8 ((((((fillS cl k).2.1) ^^^ (((fillS cl k).2.1) <<< (1 : Nat))) ^^^ ((((fillS cl k).2.1) ^^^ (((fillS cl k).2.1) <<< (1 : Nat))) <<< (2 : Nat))) ^^^ (((((fillS cl k).2.1) ^^^ (((fillS cl k).2.1) <<< (1 : Nat))) ^^^ ((((fillS cl k).2.1) ^^^ (((fillS cl k).2.1) <<< (1 : Nat))) <<< (2 : Nat))) <<< (4 : Nat))) ^^^ (9#8)), i64 ((1 : Int))]) call125 rfl) (rot_ok ((((((fillS cl k).2.1) ^^^ (((fillS cl k).2.1) <<< (1 : Nat))) ^^^ ((((fillS cl k).2.1) ^^^ (((fillS cl k).2.1) <<< (1 : Nat))) <<< (2 : Nat))) ^^^ (((((fillS cl k).2.1) ^^^ (((fillS cl k).2.1) <<< (1 : Nat))) ^^^ ((((fillS cl k).2.1) ^^^ (((fillS cl k).2.1) <<< (1 : Nat))) <<< (2 : Nat))) <<< (4 : Nat))) ^^^ (9#8)) 1 (by decide) uw14), ?_⟩
   refine ⟨u8 (((((((fillS cl k).2.1) ^^^ (((fillS cl k).2.1) <<< (1 : Nat))) ^^^ ((((fillS cl k).2.1) ^^^ (((fillS cl k).2.1) <<< (1 : Nat))) <<< (2 : Nat))) ^^^ (((((fillS cl k).2.1) ^^^ (((fillS cl k).2.1) <<< (1 : Nat))) ^^^ ((((fillS cl k).2.1) ^^^ (((fillS cl k).2.1) <<< (1 : Nat))) <<< (2 : Nat))) <<< (4 : Nat))) ^^^ (9#8)) ^^^ (rot ((((((fillS cl k).2.1) ^^^ (((fillS cl k).2.1) <<< (1 : Nat))) ^^^ ((((fillS cl k).2.1) ^^^ (((fillS cl k).2.1) <<< (1 : Nat))) <<< (2 : Nat))) ^^^ (((((fillS cl k).2.1) ^^^ (((fillS cl k).2.1) <<< (1 : Nat))) ^^^ ((((fillS cl k).2.1) ^^^ (((fillS cl k).2.1) <<< (1 : Nat))) <<< (2 : Nat))) <<< (4 : Nat))) ^^^ (9#8)) 1)), fun _ uw16 hC17 _ => Gives.run rfl (r_xor8 (a := (((((fillS cl k).2.1) ^^^ (((fillS cl k).2.1) <<< (1 : Nat))) ^^^ ((((fillS cl k).2.1) ^^^ (((fillS cl k).2.1) <<< (1 : Nat))) <<< (2 : Nat))) ^^^ (((((fillS cl k).2.1) ^^^ (((fillS cl k).2.1) <<< (1 : Nat))) ^^^ ((((fillS cl k).2.1) ^^^ (((fillS cl k).2.1) <<< (1 : Nat))) <<< (2 : Nat))) <<< (4 : Nat))) ^^^ (9#8)) (b := rot ((((((fillS cl k).2.1) ^^^ (((fillS cl k).2.1) <<< (1 : Nat))) ^^^ ((((fillS cl k).2.1) ^^^ (((fillS cl k).2.1) <<< (1 : Nat))) <<< (2 : Nat))) ^^^ (((((fillS cl k).2.1) ^^^ (((fillS cl k).2.1) <<< (1 : Nat))) ^^^ ((((fillS cl k).2.1) ^^^ (((fillS cl k).2.1) <<< (1 : Nat))) <<< (2 : Nat))) <<< (4 : Nat))) ^^^ (9#8)) 1) rfl rfl) ⟨rfl, Chg.refl _ _⟩, ?_⟩
   refine ⟨u8 ((((((fillS cl k).2.1) ^^^ (((fillS cl k).2.1) <<< (1 : Nat))) ^^^ ((((fillS cl k).2.1) ^^^ (((fillS cl k).2.1) <<< (1 : Nat))) <<< (2 : Nat))) ^^^ (((((fillS cl k).2.1) ^^^ (((fillS cl k).2.1) <<< (1 : Nat))) ^^^ ((((fillS cl k).2.1) ^^^ (((fillS cl k).2.1) <<< (1 : Nat))) <<< (2 : Nat))) <<< (4 : Nat))) ^^^ (9#8)), fun _ uw18 hC19 _ => Gives.run rfl (r_move (v := u8 ((((((fillS cl k).2.1) ^^^ (((fillS cl k).2.1) <<< (1 : Nat))) ^^^ ((((fillS cl k).2.1) ^^^ (((fillS cl k).2.1) <<< (1 : Nat))) <<< (2 : Nat))) ^^^ (((((fillS cl k).2.1) ^^^ (((fillS cl k).2.1) <<< (1 : Nat))) ^^^ ((((fillS cl k).2.1) ^^^ (((fillS cl k).2.1) <<< (1 : Nat))) <<< (2 : Nat))) <<< (4 : Nat))) ^^^ (9#8))) rfl) ⟨rfl, Chg.refl _ _⟩, ?_⟩
   refine ⟨u8 (rot ((((((fillS cl k).2.1) ^^^ (((fillS cl k).2.1) <<< (1 : Nat))) ^^^ ((((fillS cl k).2.1) ^^^ (((fillS cl k).2.1) <<< (1 : Nat))) <<< (2 : Nat))) ^^^ (((((fillS cl k).2.1) ^^^ (((fillS cl k).2.1) <<< (1 : Nat))) ^^^ ((((fillS cl k).2.1) ^^^ (((fillS cl k).2.1) <<< (1 : Nat))) <<< (2 : Nat))) <<< (4 : Nat))) ^^^ (9#8)) 2), fun _ uw20 hC21 _ => Gives.call rfl (Enters.callL (vs := [u8 ((((((fillS cl k).2.1) ^^^ (((fillS cl k).2.1) <<< (1 : Nat))) ^^^ ((((fillS cl k).2.1) ^^^ (((fillS cl k).2.1) <<< (1 : Nat))) <<< (2 : Nat))) ^^^ (((((fillS cl k).2.1) ^^^ (((fillS cl k).2.1) <<< (1 : Nat))) ^^^ ((((fillS cl k).2.1) ^^^ (((fillS cl k).2.1) <<< (1 : Nat))) <<< (2 : Nat))) <<< (4 : Nat))) ^^^ (9#8)), i64 ((2 : Int))]) call125 rfl) (rot_ok ((((((fillS cl k).2.1) ^^^ (((fillS cl k).2.1) <<< (1 : Nat))) ^^^ ((((fillS cl k).2.1) ^^^ (((fillS cl k).2.1) <<< (1 : Nat))) <<< (2 : Nat))) ^^^ (((((fillS cl k).2.1) ^^^ (((fillS cl k).2.1) <<< (1 : Nat))) ^^^ ((((fillS cl k).2.1) ^^^ (((fillS cl k).2.1) <<< (1 : Nat))) <<< (2 : Nat))) <<< (4 : Nat))) ^^^ (9#8)) 2 (by decide) uw20), ?_⟩
   refine ⟨u8 ((((((((fillS cl k).2.1) ^^^ (((fillS cl k).2.1) <<< (1 : Nat))) ^^^ ((((fillS cl k).2.1) ^^^ (((fillS cl k).2.1) <<< (1 : Nat))) <<< (2 : Nat))) ^^^ (((((fillS cl k).2.1) ^^^ (((fillS cl k).2.1) <<< (1 : Nat))) ^^^ ((((fillS cl k).2.1) ^^^ (((fillS cl k).2.1) <<< (1 : Nat))) <<< (2 : Nat))) <<< (4 : Nat))) ^^^ (9#8)) ^^^ (rot ((((((fillS cl k).2.1) ^^^ (((fillS cl k).2.1) <<< (1 : Nat))) ^^^ ((((fillS cl k).2.1) ^^^ (((fillS cl k).2.1) <<< (1 : Nat))) <<< (2 : Nat))) ^^^ (((((fillS cl k).2.1) ^^^ (((fillS cl k).2.1) <<< (1 : Nat))) ^^^ ((((fillS cl k).2.1) ^^^ (((fillS cl k).2.1) <<< (1 : Nat))) <<< (2 : Nat))) <<< (4 : Nat))) ^^^ (9#8)) 1)) ^^^ (rot ((((((fillS cl k).2.1) ^^^ (((fillS cl k).2.1) <<< (1 : Nat))) ^^^ ((((fillS cl k).2.1) ^^^ (((fillS cl k).2.1) <<< (1 : Nat))) <<< (2 : Nat))) ^^^ (((((fillS cl k).2.1) ^^^ (((fillS cl k).2.1) <<< (1 : Nat))) ^^^ ((((fillS cl k).2.1) ^^^ (((fillS cl k).2.1) <<< (1 : Nat))) <<< (2 : Nat))) <<< (4 : Nat))) ^^^ (9#8)) 2)), fun _ uw22 hC23 _ => Gives.run rfl (r_xor8 (a := ((((((fillS cl k).2.1) ^^^ (((fillS cl k).2.1) <<< (1 : Nat))) ^^^ ((((fillS cl k).2.1) ^^^ (((fillS cl k).2.1) <<< (1 : Nat))) <<< (2 : Nat))) ^^^ (((((fillS cl k).2.1) ^^^ (((fillS cl k).2.1) <<< (1 : Nat))) ^^^ ((((fillS cl k).2.1) ^^^ (((fillS cl k).2.1) <<< (1 : Nat))) <<< (2 : Nat))) <<< (4 : Nat))) ^^^ (9#8)) ^^^ (rot ((((((fillS cl k).2.1) ^^^ (((fillS cl k).2.1) <<< (1 : Nat))) ^^^ ((((fillS cl k).2.1) ^^^ (((fillS cl k).2.1) <<< (1 : Nat))) <<< (2 : Nat))) ^^^ (((((fillS cl k).2.1) ^^^ (((fillS cl k).2.1) <<< (1 : Nat))) ^^^ ((((fillS cl k).2.1) ^^^ (((fillS cl k).2.1) <<< (1 : Nat))) <<< (2 : Nat))) <<< (4 : Nat))) ^^^ (9#8)) 1)) (b := rot ((((((fillS cl k).2.1) ^^^ (((fillS cl k).2.1) <<< (1 : Nat))) ^^^ ((((fillS cl k).2.1) ^^^ (((fillS cl k).2.1) <<< (1 : Nat))) <<< (2 : Nat))) ^^^ (((((fillS cl k).2.1) ^^^ (((fillS cl k).2.1) <<< (1 : Nat))) ^^^ ((((fillS cl k).2.1) ^^^ (((fillS cl k).2.1) <<< (1 : Nat))) <<< (2 : Nat))) <<< (4 : Nat))) ^^^ (9#8)) 2) rfl rfl) ⟨rfl, Chg.refl _ _⟩, ?_⟩
   refine ⟨u8 ((((((fillS cl k).2.1) ^^^ (((fillS cl k).2.1) <<< (1 : Nat))) ^^^ ((((fillS cl k).2.1) ^^^ (((fillS cl k).2.1) <<< (1 : Nat))) <<< (2 : Nat))) ^^^ (((((fillS cl k).2.1) ^^^ (((fillS cl k).2.1) <<< (1 : Nat))) ^^^ ((((fillS cl k).2.1) ^^^ (((fillS cl k).2.1) <<< (1 : Nat))) <<< (2 : Nat))) <<< (4 : Nat))) ^^^ (9#8)), fun _ uw24 hC25 _ => Gives.run rfl (r_move (v := u8 ((((((fillS cl k).2.1) ^^^ (((fillS cl k).2.1) <<< (1 : Nat))) ^^^ ((((fillS cl k).2.1) ^^^ (((fillS cl k).2.1) <<< (1 : Nat))) <<< (2 : Nat))) ^^^ (((((fillS cl k).2.1) ^^^ (((fillS cl k).2.1) <<< (1 : Nat))) ^^^ ((((fillS cl k).2.1) ^^^ (((fillS cl k).2.1) <<< (1 : Nat))) <<< (2 : Nat))) <<< (4 : Nat))) ^^^ (9#8))) rfl) ⟨rfl, Chg.refl _ _⟩, ?_⟩
   refine ⟨u8 (rot ((((((fillS cl k).2.1) ^^^ (((fillS cl k).2.1) <<< (1 : Nat))) ^^^ ((((fillS cl k).2.1) ^^^ (((fillS cl k).2.1) <<< (1 : Nat))) <<< (2 : Nat))) ^^^ (((((fillS cl k).2.1) ^^^ (((fillS cl k).2.1) <<< (1 : Nat))) ^^^ ((((fillS cl k).2.1) ^^^ (((fillS cl k).2.1) <<< (1 : Nat))) <<< (2 : Nat))) <<< (4 : Nat))) ^^^ (9#8)) 3), fun _ uw26 hC27 _ => Gives.call rfl (Enters.callL (vs := [u8 ((((((fillS cl k).2.1) ^^^ (((fillS cl k).2.1) <<< (1 : Nat))) ^^^ ((((fillS cl k).2.1) ^^^ (((fillS cl k).2.1) <<< (1 : Nat))) <<< (2 : Nat))) ^^^ (((((fillS cl k).2.1) ^^^ (((fillS cl k).2.1) <<< (1 : Nat))) ^^^ ((((fillS cl k).2.1) ^^^ (((fillS cl k).2.1) <<< (1 : Nat))) <<< (2 : Nat))) <<< (4 : Nat))) ^^^ (9#8)), i64 ((3 : Int))]) call125 rfl) (rot_ok ((((((fillS cl k).2.1) ^^^ (((fillS cl k).2.1) <<< (1 : Nat))) ^^^ ((((fillS cl k).2.1) ^^^ (((fillS cl k).2.1) <<< (1 : Nat))) <<< (2 : Nat))) ^^^ (((((fillS cl k).2.1) ^^^ (((fillS cl k).2.1) <<< (1 : Nat))) ^^^ ((((fillS cl k).2.1) ^^^ (((fillS cl k).2.1) <<< (1 : Nat))) <<< (2 : Nat))) <<< (4 : Nat))) ^^^ (9#8)) 3 (by decide) uw26), ?_⟩
   refine ⟨u8 (((((((((fillS cl k).2.1) ^^^ (((fillS cl k).2.1) <<< (1 : Nat))) ^^^ ((((fillS cl k).2.1) ^^^ (((fillS cl k).2.1) <<< (1 : Nat))) <<< (2 : Nat))) ^^^ (((((fillS cl k).2.1) ^^^ (((fillS cl k).2.1) <<< (1 : Nat))) ^^^ ((((fillS cl k).2.1) ^^^ (((fillS cl k).2.1) <<< (1 : Nat))) <<< (2 : Nat))) <<< (4 : Nat))) ^^^ (9#8)) ^^^ (rot ((((((fillS cl k).2.1) ^^^ (((fillS cl k).2.1) <<< (1 : Nat))) ^^^ ((((fillS cl k).2.1) ^^^ (((fillS cl k).2.1) <<< (1 : Nat))) <<< (2 : Nat))) ^^^ (((((fillS cl k).2.1) ^^^ (((fillS cl k).2.1) <<< (1 : Nat))) ^^^ ((((fillS cl k).2.1) ^^^ (((fillS cl k).2.1) <<< (1 : Nat))) <<< (2 : Nat))) <<< (4 : Nat))) ^^^ (9#8)) 1)) ^^^ (rot ((((((fillS cl k).2.1) ^^^ (((fillS cl k).2.1) <<< (1 : Nat))) ^^^ ((((fillS cl k).2.1) ^^^ (((fillS cl k).2.1) <<< (1 : Nat))) <<< (2 : Nat))) ^^^ (((((fillS cl k).2.1) ^^^ (((fillS cl k).2.1) <<< (1 : Nat))) ^^^ ((((fillS cl k).2.1) ^^^ (((fillS cl k).2.1) <<< (1 : Nat))) <<< (2 : Nat))) <<< (4 : Nat))) ^^^ (9#8)) 2)) ^^^ (rot ((((((fillS cl k).2.1) ^^^ (((fillS cl k).2.1) <<< (1 : Nat))) ^^^ ((((fillS cl k).2.1) ^^^ (((fillS cl k).2.1) <<< (1 : Nat))) <<< (2 : Nat))) ^^^ (((((fillS cl k).2.1) ^^^ (((fillS cl k).2.1) <<< (1 : Nat))) ^^^ ((((fillS cl k).2.1) ^^^ (((fillS cl k).2.1) <<< (1 : Nat))) <<< (2 : Nat))) <<< (4 : Nat))) ^^^ (9#8)) 3)), fun _ uw28 hC29 _ => Gives.run rfl (r_xor8 (a := (((((((fillS cl k).2.1) ^^^ (((fillS cl k).2.1) <<< (1 : Nat))) ^^^ ((((fillS cl k).2.1) ^^^ (((fillS cl k).2.1) <<< (1 : Nat))) <<< (2 : Nat))) ^^^ (((((fillS cl k).2.1) ^^^ (((fillS cl k).2.1) <<< (1 : Nat))) ^^^ ((((fillS cl k).2.1) ^^^ (((fillS cl k).2.1) <<< (1 : Nat))) <<< (2 : Nat))) <<< (4 : Nat))) ^^^ (9#8)) ^^^ (rot ((((((fillS cl k).2.1) ^^^ (((fillS cl k).2.1) <<< (1 : Nat))) ^^^ ((((fillS cl k).2.1) ^^^ (((fillS cl k).2.1) <<< (1 : Nat))) <<< (2 : Nat))) ^^^ (((((fillS cl k).2.1) ^^^ (((fillS cl k).2.1) <<< (1 : Nat))) ^^^ ((((fillS cl k).2.1) ^^^ (((fillS cl k).2.1) <<< (1 : Nat))) <<< (2 : Nat))) <<< (4 : Nat))) ^^^ (9#8)) 1)) ^^^ (rot ((((((fillS cl k).2.1) ^^^ (((fillS cl k).2.1) <<< (1 : Nat))) ^^^ ((((fillS cl k).2.1) ^^^ (((fillS cl k).2.1) <<< (1 : Nat))) <<< (2 : Nat))) ^^^ (((((fillS cl k).2.1) ^^^ (((fillS cl k).2.1) <<< (1 : Nat))) ^^^ ((((fillS cl k).2.1) ^^^ (((fillS cl k).2.1) <<< (1 : Nat))) <<< (2 : Nat))) <<< (4 : Nat))) ^^^ (9#8)) 2)) (b := rot ((((((fillS cl k).2.1) ^^^ (((fillS cl k).2.1) <<< (1 : Nat))) ^^^ ((((fillS cl k).2.1) ^^^ (((fillS cl k).2.1) <<< (1 : Nat))) <<< (2 : Nat))) ^^^ (((((fillS cl k).2.1) ^^^ (((fillS cl k).2.1) <<< (1 : Nat))) ^^^ ((((fillS cl k).2.1) ^^^ (((fillS cl k).2.1) <<< (1 : Nat))) <<< (2 : Nat))) <<< (4 : Nat))) ^^^ (9#8)) 3) rfl rfl) ⟨rfl, Chg.refl _ _⟩, ?_⟩
   refine ⟨u8 ((((((fillS cl k).2.1) ^^^ (((fillS cl k).2.1) <<< (1 : Nat))) ^^^ ((((fillS cl k).2.1) ^^^ (((fillS cl k).2.1) <<< (1 : Nat))) <<< (2 : Nat))) ^^^ (((((fillS cl k).2.1) ^^^ (((fillS cl k).2.1) <<< (1 : Nat))) ^^^ ((((fillS cl k).2.1) ^^^ (((fillS cl k).2.1) <<< (1 : Nat))) <<< (2 : Nat))) <<< (4 : Nat))) ^^^ (9#8)), fun _ uw30 hC31 _ => Gives.run rfl (r_move (v := u8 ((((((fillS cl k).2.1) ^^^ (((fillS cl k).2.1) <<< (1 : Nat))) ^^^ ((((fillS cl k).2.1) ^^^ (((fillS cl k).2.1) <<< (1 : Nat))) <<< (2 : Nat))) ^^^ (((((fillS cl k).2.1) ^^^ (((fillS cl k).2.1) <<< (1 : Nat))) ^^^ ((((fillS cl k).2.1) ^^^ (((fillS cl k).2.1) <<< (1 : Nat))) <<< (2 : Nat))) <<< (4 : Nat))) ^^^ (9#8))) rfl) ⟨rfl, Chg.refl _ _⟩, ?_⟩
   refine ⟨u8 (rot ((((((fillS cl k).2.1) ^^^ (((fillS cl k).2.1) <<< (1 : Nat))) ^^^ ((((fillS cl k).2.1) ^^^ (((fillS cl k).2.1) <<< (1 : Nat))) <<< (2 : Nat))) ^^^ (((((fillS cl k).2.1) ^^^ (((fillS cl k).2.1) <<< (1 : Nat))) ^^^ ((((fillS cl k).2.1) ^^^ (((fillS cl k).2.1) <<< (1 : Nat))) <<< (2 : Nat))) <<< (4 : Nat))) ^^^ (9#8)) 4), fun _ uw32 hC33 _ => Gives.call rfl (Enters.callL (vs := [u8 ((((((fillS cl k).2.1) ^^^ (((fillS cl k).2.1) <<< (1 : Nat))) ^^^ ((((fillS cl k).2.1) ^^^ (((fillS cl k).2.1) <<< (1 : Nat))) <<< (2 : Nat))) ^^^ (((((fillS cl k).2.1) ^^^ (((fillS cl k).2.1) <<< (1 : Nat))) ^^^ ((((fillS cl k).2.1) ^^^ (((fillS cl k).2.1) <<< (1 : Nat))) <<< (2 : Nat))) <<< (4 : Nat))) ^^^ (9#8)), i64 ((4 : Int))]) call125 rfl) (rot_ok ((((((fillS cl k).2.1) ^^^ (((fillS cl k).2.1) <<< (1 : Nat))) ^^^ ((((fillS cl k).2.1) ^^^ (((fillS cl k).2.1) <<< (1 : Nat))) <<< (2 : Nat))) ^^^ (((((fillS cl k).2.1) ^^^ (((fillS cl k).2.1) <<< (1 : Nat))) ^^^ ((((fillS cl k).2.1) ^^^ (((fillS cl k).2.1) <<< (1 : Nat))) <<< (2 : Nat))) <<< (4 : Nat))) ^^^ (9#8)) 4 (by decide) uw32), ?_⟩
   refine ⟨u8 ((((((((((fillS cl k).2.1) ^^^ (((fillS cl k).2.1) <<< (1 : Nat))) ^^^ ((((fillS cl k).2.1) ^^^ (((fillS cl k).2.1) <<< (1 : Nat))) <<< (2 : Nat))) ^^^ (((((fillS cl k).2.1) ^^^ (((fillS cl k).2.1) <<< (1 : Nat))) ^^^ ((((fillS cl k).2.1) ^^^ (((fillS cl k).2.1) <<< (1 : Nat))) <<< (2 : Nat))) <<< (4 : Nat))) ^^^ (9#8)) ^^^ (rot ((((((fillS cl k).2.1) ^^^ (((fillS cl k).2.1) <<< (1 : Nat))) ^^^ ((((fillS cl k).2.1) ^^^ (((fillS cl k).2.1) <<< (1 : Nat))) <<< (2 : Nat))) ^^^ (((((fillS cl k).2.1) ^^^ (((fillS cl k).2.1) <<< (1 : Nat))) ^^^ ((((fillS cl k).2.1) ^^^ (((fillS cl k).2.1) <<< (1 : Nat))) <<< (2 : Nat))) <<< (4 : Nat))) ^^^ (9#8)) 1)) ^^^ (rot ((((((fillS cl k).2.1) ^^^ (((fillS cl k).2.1) <<< (1 : Nat))) ^^^ ((((fillS cl k).2.1) ^^^ (((fillS cl k).2.1) <<< (1 : Nat))) <<< (2 : Nat))) ^^^ (((((fillS cl k).2.1) ^^^ (((fillS cl k).2.1) <<< (1 : Nat))) ^^^ ((((fillS cl k).2.1) ^^^ (((fillS cl k).2.1) <<< (1 : Nat))) <<< (2 : Nat))) <<< (4 : Nat))) ^^^ (9#8)) 2)) ^^^ (rot ((((((fillS cl k).2.1) ^^^ (((fillS cl k).2.1) <<< (1 : Nat))) ^^^ ((((fillS cl k).2.1) ^^^ (((fillS cl k).2.1) <<< (1 : Nat))) <<< (2 : Nat))) ^^^ (((((fillS cl k).2.1) ^^^ (((fillS cl k).2.1) <<< (1 : Nat))) ^^^ ((((fillS cl k).2.1) ^^^ (((fillS cl k).2.1) <<< (1 : Nat))) <<< (2 : Nat))) <<< (4 : Nat))) ^^^ (9#8)) 3)) ^^^ (rot ((((((fillS cl k).2.1) ^^^ (((fillS cl k).2.1) <<< (1 : Nat))) ^^^ ((((fillS cl k).2.1) ^^^ (((fillS cl k).2.1) <<< (1 : Nat))) <<< (2 : Nat))) ^^^ (((((fillS cl k).2.1) ^^^ (((fillS cl k).2.1) <<< (1 : Nat))) ^^^ ((((fillS cl k).2.1) ^^^ (((fillS cl k).2.1) <<< (1 : Nat))) <<< (2 : Nat))) <<< (4 : Nat))) ^^^ (9#8)) 4)), fun _ uw34 hC35 _ => Gives.run rfl (r_xor8 (a := ((((((((fillS cl k).2.1) ^^^ (((fillS cl k).2.1) <<< (1 : Nat))) ^^^ ((((fillS cl k).2.1) ^^^ (((fillS cl k).2.1) <<< (1 : Nat))) <<< (2 : Nat))) ^^^ (((((fillS cl k).2.1) ^^^ (((fillS cl k).2.1) <<< (1 : Nat))) ^^^ ((((fillS cl k).2.1) ^^^ (((fillS cl k).2.1) <<< (1 : Nat))) <<< (2 : Nat))) <<< (4 : Nat))) ^^^ (9#8)) ^^^ (rot ((((((fillS cl k).2.1) ^^^ (((fillS cl k).2.1) <<< (1 : Nat))) ^^^ ((((fillS cl k).2.1) ^^^ (((fillS cl k).2.1) <<< (1 : Nat))) <<< (2 : Nat))) ^^^ (((((fillS cl k).2.1) ^^^ (((fillS cl k).2.1) <<< (1 : Nat))) ^^^ ((((fillS cl k).2.1) ^^^ (((fillS cl k).2.1) <<< (1 : Nat))) <<< (2 : Nat))) <<< (4 : Nat))) ^^^ (9#8)) 1)) ^^^ (rot ((((((fillS cl k).2.1) ^^^ (((fillS cl k).2.1) <<< (1 : Nat))) ^^^ ((((fillS cl k).2.1) ^^^ (((fillS cl k).2.1) <<< (1 : Nat))) <<< (2 : Nat))) ^^^ (((((fillS cl k).2.1) ^^^ (((fillS cl k).2.1) <<< (1 : Nat))) ^^^ ((((fillS cl k).2.1) ^^^ (((fillS cl k).2.1) <<< (1 : Nat))) <<< (2 : Nat))) <<< (4 : Nat))) ^^^ (9#8)) 2)) ^^^ (rot ((((((fillS cl k).2.1) ^^^ (((fillS cl k).2.1) <<< (1 : Nat))) ^^^ ((((fillS cl k).2.1) ^^^ (((fillS cl k).2.1) <<< (1 : Nat))) <<< (2 : Nat))) ^^^ (((((fillS cl k).2.1) ^^^ (((fillS cl k).2.1) <<< (1 : Nat))) ^^^ ((((fillS cl k).2.1) ^^^ (((fillS cl k).2.1) <<< (1 : Nat))) <<< (2 : Nat))) <<< (4 : Nat))) ^^^ (9#8)) 3)) (b := rot ((((((fillS cl k).2.1) ^^^ (((fillS cl k).2.1) <<< (1 : Nat))) ^^^ ((((fillS cl k).2.1) ^^^ (((fillS cl k).2.1) <<< (1 : Nat))) <<< (2 : Nat))) ^^^ (((((fillS cl k).2.1) ^^^ (((fillS cl k).2.1) <<< (1 : Nat))) ^^^ ((((fillS cl k).2.1) ^^^ (((fillS cl k).2.1) <<< (1 : Nat))) <<< (2 : Nat))) <<< (4 : Nat))) ^^^ (9#8)) 4) rfl rfl) ⟨rfl, Chg.refl _ _⟩, ?_⟩
   refine ⟨u8 (((((((((((fillS cl k).2.1) ^^^ (((fillS cl k).2.1) <<< (1 : Nat))) ^^^ ((((fillS cl k).2.1) ^^^ (((fillS cl k).2.1) <<< (1 : Nat))) <<< (2 : Nat))) ^^^ (((((fillS cl k).2.1) ^^^ (((fillS cl k).2.1) <<< (1 : Nat))) ^^^ ((((fillS cl k).2.1) ^^^ (((fillS cl k).2.1) <<< (1 : Nat))) <<< (2 : Nat))) <<< (4 : Nat))) ^^^ (9#8)) ^^^ (rot ((((((fillS cl k).2.1) ^^^ (((fillS cl k).2.1) <<< (1 : Nat))) ^^^ ((((fillS cl k).2.1) ^^^ (((fillS cl k).2.1) <<< (1 : Nat))) <<< (2 : Nat))) ^^^ (((((fillS cl k).2.1) ^^^ (((fillS cl k).2.1) <<< (1 : Nat))) ^^^ ((((fillS cl k).2.1) ^^^ (((fillS cl k).2.1) <<< (1 : Nat))) <<< (2 : Nat))) <<< (4 : Nat))) ^^^ (9#8)) 1)) ^^^ (rot ((((((fillS cl k).2.1) ^^^ (((fillS cl k).2.1) <<< (1 : Nat))) ^^^ ((((fillS cl k).2.1) ^^^ (((fillS cl k).2.1) <<< (1 : Nat))) <<< (2 : Nat))) ^^^ (((((fillS cl k).2.1) ^^^ (((fillS cl k).2.1) <<< (1 : Nat))) ^^^ ((((fillS cl k).2.1) ^^^ (((fillS cl k).2.1) <<< (1 : Nat))) <<< (2 : Nat))) <<< (4 : Nat))) ^^^ (9#8)) 2)) ^^^ (rot ((((((fillS cl k).2.1) ^^^ (((fillS cl k).2.1) <<< (1 : Nat))) ^^^ ((((fillS cl k).2.1) ^^^ (((fillS cl k).2.1) <<< (1 : Nat))) <<< (2 : Nat))) ^^^ (((((fillS cl k).2.1) ^^^ (((fillS cl k).2.1) <<< (1 : Nat))) ^^^ ((((fillS cl k).2.1) ^^^ (((fillS cl k).2.1) <<< (1 : Nat))) <<< (2 : Nat))) <<< (4 : Nat))) ^^^ (9#8)) 3)) ^^^ (rot ((((((fillS cl k).2.1) ^^^ (((fillS cl k).2.1) <<< (1 : Nat))) ^^^ ((((fillS cl k).2.1) ^^^ (((fillS cl k).2.1) <<< (1 : Nat))) <<< (2 : Nat))) ^^^ (((((fillS cl k).2.1) ^^^ (((fillS cl k).2.1) <<< (1 : Nat))) ^^^ ((((fillS cl k).2.1) ^^^ (((fillS cl k).2.1) <<< (1 : Nat))) <<< (2 : Nat))) <<< (4 : Nat))) ^^^ (9#8)) 4)) ^^^ (99#8)), fun _ uw36 hC37 _ => Gives.run rfl (r_xor8 (a := (((((((((fillS cl k).2.1) ^^^ (((fillS cl k).2.1) <<< (1 : Nat))) ^^^ ((((fillS cl k).2.1) ^^^ (((fillS cl k).2.1) <<< (1 : Nat))) <<< (2 : Nat))) ^^^ (((((fillS cl k).2.1) ^^^ (((fillS cl k).2.1) <<< (1 : Nat))) ^^^ ((((fillS cl k).2.1) ^^^ (((fillS cl k).2.1) <<< (1 : Nat))) <<< (2 : Nat))) <<< (4 : Nat))) ^^^ (9#8)) ^^^ (rot ((((((fillS cl k).2.1) ^^^ (((fillS cl k).2.1) <<< (1 : Nat))) ^^^ ((((fillS cl k).2.1) ^^^ (((fillS cl k).2.1) <<< (1 : Nat))) <<< (2 : Nat))) ^^^ (((((fillS cl k).2.1) ^^^ (((fillS cl k).2.1) <<< (1 : Nat))) ^^^ ((((fillS cl k).2.1) ^^^ (((fillS cl k).2.1) <<< (1 : Nat))) <<< (2 : Nat))) <<< (4 : Nat))) ^^^ (9#8)) 1)) ^^^ (rot ((((((fillS cl k).2.1) ^^^ (((fillS cl k).2.1) <<< (1 : Nat))) ^^^ ((((fillS cl k).2.1) ^^^ (((fillS cl k).2.1) <<< (1 : Nat))) <<< (2 : Nat))) ^^^ (((((fillS cl k).2.1) ^^^ (((fillS cl k).2.1) <<< (1 : Nat))) ^^^ ((((fillS cl k).2.1) ^^^ (((fillS cl k).2.1) <<< (1 : Nat))) <<< (2 : Nat))) <<< (4 : Nat))) ^^^ (9#8)) 2)) ^^^ (rot ((((((fillS cl k).2.1) ^^^ (((fillS cl k).2.1) <<< (1 : Nat))) ^^^ ((((fillS cl k).2.1) ^^^ (((fillS cl k).2.1) <<< (1 : Nat))) <<< (2 : Nat))) ^^^ (((((fillS cl k).2.1) ^^^ (((fillS cl k).2.1) <<< (1 : Nat))) ^^^ ((((fillS cl k).2.1) ^^^ (((fillS cl k).2.1) <<< (1 : Nat))) <<< (2 : Nat))) <<< (4 : Nat))) ^^^ (9#8)) 3)) ^^^ (rot ((((((fillS cl k).2.1) ^^^ (((fillS cl k).2.1) <<< (1 : Nat))) ^^^ ((((fillS cl k).2.1) ^^^ (((fillS cl k).2.1) <<< (1 : Nat))) <<< (2 : Nat))) ^^^ (((((fillS cl k).2.1) ^^^ (((fillS cl k).2.1) <<< (1 : Nat))) ^^^ ((((fillS cl k).2.1) ^^^ (((fillS cl k).2.1) <<< (1 : Nat))) <<< (2 : Nat))) <<< (4 : Nat))) ^^^ (9#8)) 4)) (b := 99#8) rfl rfl) ⟨rfl, Chg.refl _ _⟩, ?_⟩
   refine ⟨pT b, fun _ uw38 hC39 _ => Gives.run rfl (r_nilCheck rfl) ⟨rfl, Chg.refl _ _⟩, ?_⟩
   refine ⟨.pointer (some ⟨b, 176, none⟩), fun _ uw40 hC41 _ => Gives.run rfl (r_fieldAddr (off' := 176) fld215_1 (by decide) (b := b) (off := 0) rfl (by omega)) ⟨rfl, Chg.refl _ _⟩, ?_⟩
   refine ⟨.pointer (some ⟨b, 176 + ((((fillS cl k).1) ^^^ (xt ((fillS cl k).1))).toNat), none⟩), fun _ uw42 hC43 _ => Gives.run rfl (r_indexA (off' := 176 + ((((fillS cl k).1) ^^^ (xt ((fillS cl k).1))).toNat)) (j := (((fillS cl k).1) ^^^ (xt ((fillS cl k).1))).toNat) arr213 (b := b) (off := 176) rfl rfl (by first | rfl | omega | (simp; omega)) (BitVec.isLt _) (by omega)) ⟨rfl, Chg.refl _ _⟩, ?_⟩
   intro r47 w44 hE46 hF
   have H45 := H5.ext hE46
   refine d_store (k := 0) (v := u8 (((((((((((fillS cl k).2.1) ^^^ (((fillS cl k).2.1) <<< (1 : Nat))) ^^^ ((((fillS cl k).2.1) ^^^ (((fillS cl k).2.1) <<< (1 : Nat))) <<< (2 : Nat))) ^^^ (((((fillS cl k).2.1) ^^^ (((fillS cl k).2.1) <<< (1 : Nat))) ^^^ ((((fillS cl k).2.1) ^^^ (((fillS cl k).2.1) <<< (1 : Nat))) <<< (2 : Nat))) <<< (4 : Nat))) ^^^ (9#8)) ^^^ (rot ((((((fillS cl k).2.1) ^^^ (((fillS cl k).2.1) <<< (1 : Nat))) ^^^ ((((fillS cl k).2.1) ^^^ (((fillS cl k).2.1) <<< (1 : Nat))) <<< (2 : Nat))) ^^^ (((((fillS cl k).2.1) ^^^ (((fillS cl k).2.1) <<< (1 : Nat))) ^^^ ((((fillS cl k).2.1) ^^^ (((fillS cl k).2.1) <<< (1 : Nat))) <<< (2 : Nat))) <<< (4 : Nat))) ^^^ (9#8)) 1)) ^^^ (rot ((((((fillS cl k).2.1) ^^^ (((fillS cl k).2.1) <<< (1 : Nat))) ^^^ ((((fillS cl k).2.1) ^^^ (((fillS cl k).2.1) <<< (1 : Nat))) <<< (2 : Nat))) ^^^ (((((fillS cl k).2.1) ^^^ (((fillS cl k).2.1) <<< (1 : Nat))) ^^^ ((((fillS cl k).2.1) ^^^ (((fillS cl k).2.1) <<< (1 : Nat))) <<< (2 : Nat))) <<< (4 : Nat))) ^^^ (9#8)) 2)) ^^^ (rot ((((((fillS cl k).2.1) ^^^ (((fillS cl k).2.1) <<< (1 : Nat))) ^^^ ((((fillS cl k).2.1) ^^^ (((fillS cl k).2.1) <<< (1 : Nat))) <<< (2 : Nat))) ^^^ (((((fillS cl k).2.1) ^^^ (((fillS cl k).2.1) <<< (1 : Nat))) ^^^ ((((fillS cl k).2.1) ^^^ (((fillS cl k).2.1) <<< (1 : Nat))) <<< (2 : Nat))) <<< (4 : Nat))) ^^^ (9#8)) 3)) ^^^ (rot ((((((fillS cl k).2.1) ^^^ (((fillS cl k).2.1) <<< (1 : Nat))) ^^^ ((((fillS cl k).2.1) ^^^ (((fillS cl k).2.1) <<< (1 : Nat))) <<< (2 : Nat))) ^^^ (((((fillS cl k).2.1) ^^^ (((fillS cl k).2.1) <<< (1 : Nat))) ^^^ ((((fillS cl k).2.1) ^^^ (((fillS cl k).2.1) <<< (1 : Nat))) <<< (2 : Nat))) <<< (4 : Nat))) ^^^ (9#8)) 4)) ^^^ (99#8))) (cs' := (cel E8 (((fillS cl k).2.2).set (176 + ((((fillS cl k).1) ^^^ (xt ((fillS cl k).1))).toNat)) (((((((((((fillS cl k).2.1) ^^^ (((fillS cl k).2.1) <<< (1 : Nat))) ^^^ ((((fillS cl k).2.1) ^^^ (((fillS cl k).2.1) <<< (1 : Nat))) <<< (2 : Nat))) ^^^ (((((fillS cl k).2.1) ^^^ (((fillS cl k).2.1) <<< (1 : Nat))) ^^^ ((((fillS cl k).2.1) ^^^ (((fillS cl k).2.1) <<< (1 : Nat))) <<< (2 : Nat))) <<< (4 : Nat))) ^^^ (9#8)) ^^^ (rot ((((((fillS cl k).2.1) ^^^ (((fillS cl k).2.1) <<< (1 : Nat))) ^^^ ((((fillS cl k).2.1) ^^^ (((fillS cl k).2.1) <<< (1 : Nat))) <<< (2 : Nat))) ^^^ (((((fillS cl k).2.1) ^^^ (((fillS cl k).2.1) <<< (1 : Nat))) ^^^ ((((fillS cl k).2.1) ^^^ (((fillS cl k).2.1) <<< (1 : Nat))) <<< (2 : Nat))) <<< (4 : Nat))) ^^^ (9#8)) 1)) ^^^ (rot ((((((fillS cl k).2.1) ^^^ (((fillS cl k).2.1) <<< (1 : Nat))) ^^^ ((((fillS cl k).2.1) ^^^ (((fillS cl k).2.1) <<< (1 : Nat))) <<< (2 : Nat))) ^^^ (((((fillS cl k).2.1) ^^^ (((fillS cl k).2.1) <<< (1 : Nat))) ^^^ ((((fillS cl k).2.1) ^^^ (((fillS cl k).2.1) <<< (1 : Nat))) <<< (2 : Nat))) <<< (4 : Nat))) ^^^ (9#8)) 2)) ^^^ (rot ((((((fillS cl k).2.1) ^^^ (((fillS cl k).2.1) <<< (1 : Nat))) ^^^ ((((fillS cl k).2.1) ^^^ (((fillS cl k).2.1) <<< (1 : Nat))) <<< (2 : Nat))) ^^^ (((((fillS cl k).2.1) ^^^ (((fillS cl k).2.1) <<< (1 : Nat))) ^^^ ((((fillS cl k).2.1) ^^^ (((fillS cl k).2.1) <<< (1 : Nat))) <<< (2 : Nat))) <<< (4 : Nat))) ^^^ (9#8)) 3)) ^^^ (rot ((((((fillS cl k).2.1) ^^^ (((fillS cl k).2.1) <<< (1 : Nat))) ^^^ ((((fillS cl k).2.1) ^^^ (((fillS cl k).2.1) <<< (1 : Nat))) <<< (2 : Nat))) ^^^ (((((fillS cl k).2.1) ^^^ (((fillS cl k).2.1) <<< (1 : Nat))) ^^^ ((((fillS cl k).2.1) ^^^ (((fillS cl k).2.1) <<< (1 : Nat))) <<< (2 : Nat))) <<< (4 : Nat))) ^^^ (9#8)) 4)) ^^^ (99#8)))).toArray) H45 rfl rfl rfl siz5 (by rfl) (by exact E8.one _) (by rw [List.size_toArray, cel_length]; show _ ≤ _ * 1; have := ((fillS cl k).1 ^^^ xt (fillS cl k).1).isLt; rw [hl]; omega) (by exact put1 (E := E8) rfl _ _ _) ?_
   intro w48 H49 hC50
   have H49' := H49.as (L' := [(some b, .cells (cel E8 (((fillS cl k).2.2).set (176 + ((((fillS cl k).1) ^^^ (xt ((fillS cl k).1))).toNat)) (((((((((((fillS cl k).2.1) ^^^ (((fillS cl k).2.1) <<< (1 : Nat))) ^^^ ((((fillS cl k).2.1) ^^^ (((fillS cl k).2.1) <<< (1 : Nat))) <<< (2 : Nat))) ^^^ (((((fillS cl k).2.1) ^^^ (((fillS cl k).2.1) <<< (1 : Nat))) ^^^ ((((fillS cl k).2.1) ^^^ (((fillS cl k).2.1) <<< (1 : Nat))) <<< (2 : Nat))) <<< (4 : Nat))) ^^^ (9#8)) ^^^ (rot ((((((fillS cl k).2.1) ^^^ (((fillS cl k).2.1) <<< (1 : Nat))) ^^^ ((((fillS cl k).2.1) ^^^ (((fillS cl k).2.1) <<< (1 : Nat))) <<< (2 : Nat))) ^^^ (((((fillS cl k).2.1) ^^^ (((fillS cl k).2.1) <<< (1 : Nat))) ^^^ ((((fillS cl k).2.1) ^^^ (((fillS cl k).2.1) <<< (1 : Nat))) <<< (2 : Nat))) <<< (4 : Nat))) ^^^ (9#8)) 1)) ^^^ (rot ((((((fillS cl k).2.1) ^^^ (((fillS cl k).2.1) <<< (1 : Nat))) ^^^ ((((fillS cl k).2.1) ^^^ (((fillS cl k).2.1) <<< (1 : Nat))) <<< (2 : Nat))) ^^^ (((((fillS cl k).2.1) ^^^ (((fillS cl k).2.1) <<< (1 : Nat))) ^^^ ((((fillS cl k).2.1) ^^^ (((fillS cl k).2.1) <<< (1 : Nat))) <<< (2 : Nat))) <<< (4 : Nat))) ^^^ (9#8)) 2)) ^^^ (rot ((((((fillS cl k).2.1) ^^^ (((fillS cl k).2.1) <<< (1 : Nat))) ^^^ ((((fillS cl k).2.1) ^^^ (((fillS cl k).2.1) <<< (1 : Nat))) <<< (2 : Nat))) ^^^ (((((fillS cl k).2.1) ^^^ (((fillS cl k).2.1) <<< (1 : Nat))) ^^^ ((((fillS cl k).2.1) ^^^ (((fillS cl k).2.1) <<< (1 : Nat))) <<< (2 : Nat))) <<< (4 : Nat))) ^^^ (9#8)) 3)) ^^^ (rot ((((((fillS cl k).2.1) ^^^ (((fillS cl k).2.1) <<< (1 : Nat))) ^^^ ((((fillS cl k).2.1) ^^^ (((fillS cl k).2.1) <<< (1 : Nat))) <<< (2 : Nat))) ^^^ (((((fillS cl k).2.1) ^^^ (((fillS cl k).2.1) <<< (1 : Nat))) ^^^ ((((fillS cl k).2.1) ^^^ (((fillS cl k).2.1) <<< (1 : Nat))) <<< (2 : Nat))) <<< (4 : Nat))) ^^^ (9#8)) 4)) ^^^ (99#8)))).toArray 215 (0, 0))]) rfl
   clear H49
   refine wnil ?_
   refine blockNormal ?_
   refine thenNormal ?_
   refine oneRegion ?_
   refine sq (r_addI (a := (k : Nat)) (b := (1 : Int)) rfl rfl (by omega)) ?_
   refine sM (i64 ((k : Nat) + (1 : Int))) rfl ?_
   refine wnil ?_
   refine thenNormal ?_
   have e3 : u8 ((((((fillS cl k).2.1) ^^^ (((fillS cl k).2.1) <<< (1 : Nat))) ^^^ ((((fillS cl k).2.1) ^^^ (((fillS cl k).2.1) <<< (1 : Nat))) <<< (2 : Nat))) ^^^ (((((fillS cl k).2.1) ^^^ (((fillS cl k).2.1) <<< (1 : Nat))) ^^^ ((((fillS cl k).2.1) ^^^ (((fillS cl k).2.1) <<< (1 : Nat))) <<< (2 : Nat))) <<< (4 : Nat))) ^^^ (9#8)) = u8 (fq (fillS cl k).2.1) := congrArg u8 (by simp only [fq]; first | rw [if_pos c23] | rw [if_neg c23])
   have eL : ((fillS cl k).2.2).set (176 + ((((fillS cl k).1) ^^^ (xt ((fillS cl k).1))).toNat)) (((((((((((fillS cl k).2.1) ^^^ (((fillS cl k).2.1) <<< (1 : Nat))) ^^^ ((((fillS cl k).2.1) ^^^ (((fillS cl k).2.1) <<< (1 : Nat))) <<< (2 : Nat))) ^^^ (((((fillS cl k).2.1) ^^^ (((fillS cl k).2.1) <<< (1 : Nat))) ^^^ ((((fillS cl k).2.1) ^^^ (((fillS cl k).2.1) <<< (1 : Nat))) <<< (2 : Nat))) <<< (4 : Nat))) ^^^ (9#8)) ^^^ (rot ((((((fillS cl k).2.1) ^^^ (((fillS cl k).2.1) <<< (1 : Nat))) ^^^ ((((fillS cl k).2.1) ^^^ (((fillS cl k).2.1) <<< (1 : Nat))) <<< (2 : Nat))) ^^^ (((((fillS cl k).2.1) ^^^ (((fillS cl k).2.1) <<< (1 : Nat))) ^^^ ((((fillS cl k).2.1) ^^^ (((fillS cl k).2.1) <<< (1 : Nat))) <<< (2 : Nat))) <<< (4 : Nat))) ^^^ (9#8)) 1)) ^^^ (rot ((((((fillS cl k).2.1) ^^^ (((fillS cl k).2.1) <<< (1 : Nat))) ^^^ ((((fillS cl k).2.1) ^^^ (((fillS cl k).2.1) <<< (1 : Nat))) <<< (2 : Nat))) ^^^ (((((fillS cl k).2.1) ^^^ (((fillS cl k).2.1) <<< (1 : Nat))) ^^^ ((((fillS cl k).2.1) ^^^ (((fillS cl k).2.1) <<< (1 : Nat))) <<< (2 : Nat))) <<< (4 : Nat))) ^^^ (9#8)) 2)) ^^^ (rot ((((((fillS cl k).2.1) ^^^ (((fillS cl k).2.1) <<< (1 : Nat))) ^^^ ((((fillS cl k).2.1) ^^^ (((fillS cl k).2.1) <<< (1 : Nat))) <<< (2 : Nat))) ^^^ (((((fillS cl k).2.1) ^^^ (((fillS cl k).2.1) <<< (1 : Nat))) ^^^ ((((fillS cl k).2.1) ^^^ (((fillS cl k).2.1) <<< (1 : Nat))) <<< (2 : Nat))) <<< (4 : Nat))) ^^^ (9#8)) 3)) ^^^ (rot ((((((fillS cl k).2.1) ^^^ (((fillS cl k).2.1) <<< (1 : Nat))) ^^^ ((((fillS cl k).2.1) ^^^ (((fillS cl k).2.1) <<< (1 : Nat))) <<< (2 : Nat))) ^^^ (((((fillS cl k).2.1) ^^^ (((fillS cl k).2.1) <<< (1 : Nat))) ^^^ ((((fillS cl k).2.1) ^^^ (((fillS cl k).2.1) <<< (1 : Nat))) <<< (2 : Nat))) <<< (4 : Nat))) ^^^ (9#8)) 4)) ^^^ (99#8)) = (fillS cl (k + 1)).2.2 := by simp only [fillS, aff, fp, fq]; first | rw [if_pos c23] | rw [if_neg c23]
   rw [eL] at H49'
   exact ⟨k + 1, _, rfl, ⟨rfl, rfl, e3, rfl, trivial⟩, ⟨by omega, H49'⟩, by show 255 - (k + 1) < 255 - k; omega⟩
  ·skip
   refine skipAny ?_
   refine thenNormal ?_
   refine drawAny (K := [none, none, none, none, none, none, none, none, none, none, none, none, none, none, none, none, none, none, none]) [0, 0, 0, 0, 8, 28, 0, 88, 252, 0, 728, 2044, 0, 5848, 16380, 32764, 1, 65537, 262143, 524287] (fun w' => Ext w3 w') (fun w' w'' => Ext w' w'') mixed (by kernel_rfl) (Ext.drew _) (fun _ _ h h' => h.trans h') ?_ ?_
   ·exact relNone (by decide)
   refine ⟨pT b, fun _ uw51 hC52 _ => Gives.run rfl (r_move (v := pT b) rfl) ⟨rfl, Chg.refl _ _⟩, ?_⟩
   refine ⟨u8 (((fillS cl k).1) ^^^ (xt ((fillS cl k).1))), fun _ uw53 hC54 _ => Gives.run rfl (r_move (v := u8 (((fillS cl k).1) ^^^ (xt ((fillS cl k).1)))) rfl) ⟨rfl, Chg.refl _ _⟩, ?_⟩
   refine ⟨u8 (((((fillS cl k).2.1) ^^^ (((fillS cl k).2.1) <<< (1 : Nat))) ^^^ ((((fillS cl k).2.1) ^^^ (((fillS cl k).2.1) <<< (1 : Nat))) <<< (2 : Nat))) ^^^ (((((fillS cl k).2.1) ^^^ (((fillS cl k).2.1) <<< (1 : Nat))) ^^^ ((((fillS cl k).2.1) ^^^ (((fillS cl k).2.1) <<< (1 : Nat))) <<< (2 : Nat))) <<< (4 : Nat))), fun _ uw55 hC56 _ => Gives.run rfl (r_move (v := u8 (((((fillS cl k).2.1) ^^^ (((fillS cl k).2.1) <<< (1 : Nat))) ^^^ ((((fillS cl k).2.1) ^^^ (((fillS cl k).2.1) <<< (1 : Nat))) <<< (2 : Nat))) ^^^ (((((fillS cl k).2.1) ^^^ (((fillS cl k).2.1) <<< (1 : Nat))) ^^^ ((((fillS cl k).2.1) ^^^ (((fillS cl k).2.1) <<< (1 : Nat))) <<< (2 : Nat))) <<< (4 : Nat)))) rfl) ⟨rfl, Chg.refl _ _⟩, ?_⟩
   refine ⟨u8 (((((fillS cl k).2.1) ^^^ (((fillS cl k).2.1) <<< (1 : Nat))) ^^^ ((((fillS cl k).2.1) ^^^ (((fillS cl k).2.1) <<< (1 : Nat))) <<< (2 : Nat))) ^^^ (((((fillS cl k).2.1) ^^^ (((fillS cl k).2.1) <<< (1 : Nat))) ^^^ ((((fillS cl k).2.1) ^^^ (((fillS cl k).2.1) <<< (1 : Nat))) <<< (2 : Nat))) <<< (4 : Nat))), fun _ uw57 hC58 _ => Gives.run rfl (r_move (v := u8 (((((fillS cl k).2.1) ^^^ (((fillS cl k).2.1) <<< (1 : Nat))) ^^^ ((((fillS cl k).2.1) ^^^ (((fillS cl k).2.1) <<< (1 : Nat))) <<< (2 : Nat))) ^^^ (((((fillS cl k).2.1) ^^^ (((fillS cl k).2.1) <<< (1 : Nat))) ^^^ ((((fillS cl k).2.1) ^^^ (((fillS cl k).2.1) <<< (1 : Nat))) <<< (2 : Nat))) <<< (4 : Nat)))) rfl) ⟨rfl, Chg.refl _ _⟩, ?_⟩
   refine ⟨u8 (rot (((((fillS cl k).2.1) ^^^ (((fillS cl k).2.1) <<< (1 : Nat))) ^^^ ((((fillS cl k).2.1) ^^^ (((fillS cl k).2.1) <<< (1 : Nat))) <<< (2 : Nat))) ^^^ (((((fillS cl k).2.1) ^^^ (((fillS cl k).2.1) <<< (1 : Nat))) ^^^ ((((fillS cl k).2.1) ^^^ (((fillS cl k).2.1) <<< (1 : Nat))) <<< (2 : Nat))) <<< (4 : Nat))) 1), fun _ uw59 hC60 _ => Gives.call rfl (Enters.callL (vs := [u8 (((((fillS cl k).2.1) ^^^ (((fillS cl k).2.1) <<< (1 : Nat))) ^^^ ((((fillS cl k).2.1) ^^^ (((fillS cl k).2.1) <<< (1 : Nat))) <<< (2 : Nat))) ^^^ (((((fillS cl k).2.1) ^^^ (((fillS cl k).2.1) <<< (1 : Nat))) ^^^ ((((fillS cl k).2.1) ^^^ (((fillS cl k).2.1) <<< (1 : Nat))) <<< (2 : Nat))) <<< (4 : Nat))), i64 ((1 : Int))]) call125 rfl) (rot_ok (((((fillS cl k).2.1) ^^^ (((fillS cl k).2.1) <<< (1 : Nat))) ^^^ ((((fillS cl k).2.1) ^^^ (((fillS cl k).2.1) <<< (1 : Nat))) <<< (2 : Nat))) ^^^ (((((fillS cl k).2.1) ^^^ (((fillS cl k).2.1) <<< (1 : Nat))) ^^^ ((((fillS cl k).2.1) ^^^ (((fillS cl k).2.1) <<< (1 : Nat))) <<< (2 : Nat))) <<< (4 : Nat))) 1 (by decide) uw59), ?_⟩
   refine ⟨u8 ((((((fillS cl k).2.1) ^^^ (((fillS cl k).2.1) <<< (1 : Nat))) ^^^ ((((fillS cl k).2.1) ^^^ (((fillS cl k).2.1) <<< (1 : Nat))) <<< (2 : Nat))) ^^^ (((((fillS cl k).2.1) ^^^ (((fillS cl k).2.1) <<< (1 : Nat))) ^^^ ((((fillS cl k).2.1) ^^^ (((fillS cl k).2.1) <<< (1 : Nat))) <<< (2 : Nat))) <<< (4 : Nat))) ^^^ (rot (((((fillS cl k).2.1) ^^^ (((fillS cl k).2.1) <<< (1 : Nat))) ^^^ ((((fillS cl k).2.1) ^^^ (((fillS cl k).2.1) <<< (1 : Nat))) <<< (2 : Nat))) ^^^ (((((fillS cl k).2.1) ^^^ (((fillS cl k).2.1) <<< (1 : Nat))) ^^^ ((((fillS cl k).2.1) ^^^ (((fillS cl k).2.1) <<< (1 : Nat))) <<< (2 : Nat))) <<< (4 : Nat))) 1)), fun _ uw61 hC62 _ => Gives.run rfl (r_xor8 (a := ((((fillS cl k).2.1) ^^^ (((fillS cl k).2.1) <<< (1 : Nat))) ^^^ ((((fillS cl k).2.1) ^^^ (((fillS cl k).2.1) <<< (1 : Nat))) <<< (2 : Nat))) ^^^ (((((fillS cl k).2.1) ^^^ (((fillS cl k).2.1) <<< (1 : Nat))) ^^^ ((((fillS cl k).2.1) ^^^ (((fillS cl k).2.1) <<< (1 : Nat))) <<< (2 : Nat))) <<< (4 : Nat))) (b := rot (((((fillS cl k).2.1) ^^^ (((fillS cl k).2.1) <<< (1 : Nat))) ^^^ ((((fillS cl k).2.1) ^^^ (((fillS cl k).2.1) <<< (1 : Nat))) <<< (2 : Nat))) ^^^ (((((fillS cl k).2.1) ^^^ (((fillS cl k).2.1) <<< (1 : Nat))) ^^^ ((((fillS cl k).2.1) ^^^ (((fillS cl k).2.1) <<< (1 : Nat))) <<< (2 : Nat))) <<< (4 : Nat))) 1) rfl rfl) ⟨rfl, Chg.refl _ _⟩, ?_⟩
   refine ⟨u8 (((((fillS cl k).2.1) ^^^ (((fillS cl k).2.1) <<< (1 : Nat))) ^^^ ((((fillS cl k).2.1) ^^^ (((fillS cl k).2.1) <<< (1 : Nat))) <<< (2 : Nat))) ^^^ (((((fillS cl k).2.1) ^^^ (((fillS cl k).2.1) <<< (1 : Nat))) ^^^ ((((fillS cl k).2.1) ^^^ (((fillS cl k).2.1) <<< (1 : Nat))) <<< (2 : Nat))) <<< (4 : Nat))), fun _ uw63 hC64 _ => Gives.run rfl (r_move (v := u8 (((((fillS cl k).2.1) ^^^ (((fillS cl k).2.1) <<< (1 : Nat))) ^^^ ((((fillS cl k).2.1) ^^^ (((fillS cl k).2.1) <<< (1 : Nat))) <<< (2 : Nat))) ^^^ (((((fillS cl k).2.1) ^^^ (((fillS cl k).2.1) <<< (1 : Nat))) ^^^ ((((fillS cl k).2.1) ^^^ (((fillS cl k).2.1) <<< (1 : Nat))) <<< (2 : Nat))) <<< (4 : Nat)))) rfl) ⟨rfl, Chg.refl _ _⟩, ?_⟩
   refine ⟨u8 (rot (((((fillS cl k).2.1) ^^^ (((fillS cl k).2.1) <<< (1 : Nat))) ^^^ ((((fillS cl k).2.1) ^^^ (((fillS cl k).2.1) <<< (1 : Nat))) <<< (2 : Nat))) ^^^ (((((fillS cl k).2.1) ^^^ (((fillS cl k).2.1) <<< (1 : Nat))) ^^^ ((((fillS cl k).2.1) ^^^ (((fillS cl k).2.1) <<< (1 : Nat))) <<< (2 : Nat))) <<< (4 : Nat))) 2), fun _ uw65 hC66 _ => Gives.call rfl (Enters.callL (vs := [u8 (((((fillS cl k).2.1) ^^^ (((fillS cl k).2.1) <<< (1 : Nat))) ^^^ ((((fillS cl k).2.1) ^^^ (((fillS cl k).2.1) <<< (1 : Nat))) <<< (2 : Nat))) ^^^ (((((fillS cl k).2.1) ^^^ (((fillS cl k).2.1) <<< (1 : Nat))) ^^^ ((((fillS cl k).2.1) ^^^ (((fillS cl k).2.1) <<< (1 : Nat))) <<< (2 : Nat))) <<< (4 : Nat))), i64 ((2 : Int))]) call125 rfl) (rot_ok (((((fillS cl k).2.1) ^^^ (((fillS cl k).2.1) <<< (1 : Nat))) ^^^ ((((fillS cl k).2.1) ^^^ (((fillS cl k).2.1) <<< (1 : Nat))) <<< (2 : Nat))) ^^^ (((((fillS cl k).2.1) ^^^ (((fillS cl k).2.1) <<< (1 : Nat))) ^^^ ((((fillS cl k).2.1) ^^^ (((fillS cl k).2.1) <<< (1 : Nat))) <<< (2 : Nat))) <<< (4 : Nat))) 2 (by decide) uw65), ?_⟩
   refine ⟨u8 (((((((fillS cl k).2.1) ^^^ (((fillS cl k).2.1) <<< (1 : Nat))) ^^^ ((((fillS cl k).2.1) ^^^ (((fillS cl k).2.1) <<< (1 : Nat))) <<< (2 : Nat))) ^^^ (((((fillS cl k).2.1) ^^^ (((fillS cl k).2.1) <<< (1 : Nat))) ^^^ ((((fillS cl k).2.1) ^^^ (((fillS cl k).2.1) <<< (1 : Nat))) <<< (2 : Nat))) <<< (4 : Nat))) ^^^ (rot (((((fillS cl k).2.1) ^^^ (((fillS cl k).2.1) <<< (1 : Nat))) ^^^ ((((fillS cl k).2.1) ^^^ (((fillS cl k).2.1) <<< (1 : Nat))) <<< (2 : Nat))) ^^^ (((((fillS cl k).2.1) ^^^ (((fillS cl k).2.1) <<< (1 : Nat))) ^^^ ((((fillS cl k).2.1) ^^^ (((fillS cl k).2.1) <<< (1 : Nat))) <<< (2 : Nat))) <<< (4 : Nat))) 1)) ^^^ (rot (((((fillS cl k).2.1) ^^^ (((fillS cl k).2.1) <<< (1 : Nat))) ^^^ ((((fillS cl k).2.1) ^^^ (((fillS cl k).2.1) <<< (1 : Nat))) <<< (2 : Nat))) ^^^ (((((fillS cl k).2.1) ^^^ (((fillS cl k).2.1) <<< (1 : Nat))) ^^^ ((((fillS cl k).2.1) ^^^ (((fillS cl k).2.1) <<< (1 : Nat))) <<< (2 : Nat))) <<< (4 : Nat))) 2)), fun _ uw67 hC68 _ => Gives.run rfl (r_xor8 (a := (((((fillS cl k).2.1) ^^^ (((fillS cl k).2.1) <<< (1 : Nat))) ^^^ ((((fillS cl k).2.1) ^^^ (((fillS cl k).2.1) <<< (1 : Nat))) <<< (2 : Nat))) ^^^ (((((fillS cl k).2.1) ^^^ (((fillS cl k).2.1) <<< (1 : Nat))) ^^^ ((((fillS cl k).2.1) ^^^ (((fillS cl k).2.1) <<< (1 : Nat))) <<< (2 : Nat))) <<< (4 : Nat))) ^^^ (rot (((((fillS cl k).2.1) ^^^ (((fillS cl k).2.1) <<< (1 : Nat))) ^^^ ((((fillS cl k).2.1) ^^^ (((fillS cl k).2.1) <<< (1 : Nat))) <<< (2 : Nat))) ^^^ (((((fillS cl k).2.1) ^^^ (((fillS cl k).2.1) <<< (1 : Nat))) ^^^ ((((fillS cl k).2.1) ^^^ (((fillS cl k).2.1) <<< (1 : Nat))) <<< (2 : Nat))) <<< (4 : Nat))) 1)) (b := rot (((((fillS cl k).2.1) ^^^ (((fillS cl k).2.1) <<< (1 : Nat))) ^^^ ((((fillS cl k).2.1) ^^^ (((fillS cl k).2.1) <<< (1 : Nat))) <<< (2 : Nat))) ^^^ (((((fillS cl k).2.1) ^^^ (((fillS cl k).2.1) <<< (1 : Nat))) ^^^ ((((fillS cl k).2.1) ^^^ (((fillS cl k).2.1) <<< (1 : Nat))) <<< (2 : Nat))) <<< (4 : Nat))) 2) rfl rfl) ⟨rfl, Chg.refl _ _⟩, ?_⟩
   refine ⟨u8 (((((fillS cl k).2.1) ^^^ (((fillS cl k).2.1) <<< (1 : Nat))) ^^^ ((((fillS cl k).2.1) ^^^ (((fillS cl k).2.1) <<< (1 : Nat))) <<< (2 : Nat))) ^^^ (((((fillS cl k).2.1) ^^^ (((fillS cl k).2.1) <<< (1 : Nat))) ^^^ ((((fillS cl k).2.1) ^^^ (((fillS cl k).2.1) <<< (1 : Nat))) <<< (2 : Nat))) <<< (4 : Nat))), fun _ uw69 hC70 _ => Gives.run rfl (r_move (v := u8 (((((fillS cl k).2.1) ^^^ (((fillS cl k).2.1) <<< (1 : Nat))) ^^^ ((((fillS cl k).2.1) ^^^ (((fillS cl k).2.1) <<< (1 : Nat))) <<< (2 : Nat))) ^^^ (((((fillS cl k).2.1) ^^^ (((fillS cl k).2.1) <<< (1 : Nat))) ^^^ ((((fillS cl k).2.1) ^^^ (((fillS cl k).2.1) <<< (1 : Nat))) <<< (2 : Nat))) <<< (4 : Nat)))) rfl) ⟨rfl, Chg.refl _ _⟩, ?_⟩
   refine ⟨u8 (rot (((((fillS cl k).2.1) ^^^ (((fillS cl k).2.1) <<< (1 : Nat))) ^^^ ((((fillS cl k).2.1) ^^^ (((fillS cl k).2.1) <<< (1 : Nat))) <<< (2 : Nat))) ^^^ (((((fillS cl k).2.1) ^^^ (((fillS cl k).2.1) <<< (1 : Nat))) ^^^ ((((fillS cl k).2.1) ^^^ (((fillS cl k).2.1) <<< (1 : Nat))) <<< (2 : Nat))) <<< (4 : Nat))) 3), fun _ uw71 hC72 _ => Gives.call rfl (Enters.callL (vs := [u8 (((((fillS cl k).2.1) ^^^ (((fillS cl k).2.1) <<< (1 : Nat))) ^^^ ((((fillS cl k).2.1) ^^^ (((fillS cl k).2.1) <<< (1 : Nat))) <<< (2 : Nat))) ^^^ (((((fillS cl k).2.1) ^^^ (((fillS cl k).2.1) <<< (1 : Nat))) ^^^ ((((fillS cl k).2.1) ^^^ (((fillS cl k).2.1) <<< (1 : Nat))) <<< (2 : Nat))) <<< (4 : Nat))), i64 ((3 : Int))]) call125 rfl) (rot_ok (((((fillS cl k).2.1) ^^^ (((fillS cl k).2.1) <<< (1 : Nat))) ^^^ ((((fillS cl k).2.1) ^^^ (((fillS cl k).2.1) <<< (1 : Nat))) <<< (2 : Nat))) ^^^ (((((fillS cl k).2.1) ^^^ (((fillS cl k).2.1) <<< (1 : Nat))) ^^^ ((((fillS cl k).2.1) ^^^ (((fillS cl k).2.1) <<< (1 : Nat))) <<< (2 : Nat))) <<< (4 : Nat))) 3 (by decide) uw71), ?_⟩
   refine ⟨u8 ((((((((fillS cl k).2.1) ^^^ (((fillS cl k).2.1) <<< (1 : Nat))) ^^^ ((((fillS cl k).2.1) ^^^ (((fillS cl k).2.1) <<< (1 : Nat))) <<< (2 : Nat))) ^^^ (((((fillS cl k).2.1) ^^^ (((fillS cl k).2.1) <<< (1 : Nat))) ^^^ ((((fillS cl k).2.1) ^^^ (((fillS cl k).2.1) <<< (1 : Nat))) <<< (2 : Nat))) <<< (4 : Nat))) ^^^ (rot (((((fillS cl k).2.1) ^^^ (((fillS cl k).2.1) <<< (1 : Nat))) ^^^ ((((fillS cl k).2.1) ^^^ (((fillS cl k).2.1) <<< (1 : Nat))) <<< (2 : Nat))) ^^^ (((((fillS cl k).2.1) ^^^ (((fillS cl k).2.1) <<< (1 : Nat))) ^^^ ((((fillS cl k).2.1) ^^^ (((fillS cl k).2.1) <<< (1 : Nat))) <<< (2 : Nat))) <<< (4 : Nat))) 1)) ^^^ (rot (((((fillS cl k).2.1) ^^^ (((fillS cl k).2.1) <<< (1 : Nat))) ^^^ ((((fillS cl k).2.1) ^^^ (((fillS cl k).2.1) <<< (1 : Nat))) <<< (2 : Nat))) ^^^ (((((fillS cl k).2.1) ^^^ (((fillS cl k).2.1) <<< (1 : Nat))) ^^^ ((((fillS cl k).2.1) ^^^ (((fillS cl k).2.1) <<< (1 : Nat))) <<< (2 : Nat))) <<< (4 : Nat))) 2)) ^^^ (rot (((((fillS cl k).2.1) ^^^ (((fillS cl k).2.1) <<< (1 : Nat))) ^^^ ((((fillS cl k).2.1) ^^^ (((fillS cl k).2.1) <<< (1 : Nat))) <<< (2 : Nat))) ^^^ (((((fillS cl k).2.1) ^^^ (((fillS cl k).2.1) <<< (1 : Nat))) ^^^ ((((fillS cl k).2.1) ^^^ (((fillS cl k).2.1) <<< (1 : Nat))) <<< (2 : Nat))) <<< (4 : Nat))) 3)), fun _ uw73 hC74 _ => Gives.run rfl (r_xor8 (a := ((((((fillS cl k).2.1) ^^^ (((fillS cl k).2.1) <<< (1 : Nat))) ^^^ ((((fillS cl k).2.1) ^^^ (((fillS cl k).2.1) <<< (1 : Nat))) <<< (2 : Nat))) ^^^ (((((fillS cl k).2.1) ^^^ (((fillS cl k).2.1) <<< (1 : Nat))) ^^^ ((((fillS cl k).2.1) ^^^ (((fillS cl k).2.1) <<< (1 : Nat))) <<< (2 : Nat))) <<< (4 : Nat))) ^^^ (rot (((((fillS cl k).2.1) ^^^ (((fillS cl k).2.1) <<< (1 : Nat))) ^^^ ((((fillS cl k).2.1) ^^^ (((fillS cl k).2.1) <<< (1 : Nat))) <<< (2 : Nat))) ^^^ (((((fillS cl k).2.1) ^^^ (((fillS cl k).2.1) <<< (1 : Nat))) ^^^ ((((fillS cl k).2.1) ^^^ (((fillS cl k).2.1) <<< (1 : Nat))) <<< (2 : Nat))) <<< (4 : Nat))) 1)) ^^^ (rot (((((fillS cl k).2.1) ^^^ (((fillS cl k).2.1) <<< (1 : Nat))) ^^^ ((((fillS cl k).2.1) ^^^ (((fillS cl k).2.1) <<< (1 : Nat))) <<< (2 : Nat))) ^^^ (((((fillS cl k).2.1) ^^^ (((fillS cl k).2.1) <<< (1 : Nat))) ^^^ ((((fillS cl k).2.1) ^^^ (((fillS cl k).2.1) <<< (1 : Nat))) <<< (2 : Nat))) <<< (4 : Nat))) 2)) (b := rot (((((fillS cl k).2.1) ^^^ (((fillS cl k).2.1) <<< (1 : Nat))) ^^^ ((((fillS cl k).2.1) ^^^ (((fillS cl k).2.1) <<< (1 : Nat))) <<< (2 : Nat))) ^^^ (((((fillS cl k).2.1) ^^^ (((fillS cl k).2.1) <<< (1 : Nat))) ^^^ ((((fillS cl k).2.1) ^^^ (((fillS cl k).2.1) <<< (1 : Nat))) <<< (2 : Nat))) <<< (4 : Nat))) 3) rfl rfl) ⟨rfl, Chg.refl _ _⟩, ?_⟩
   refine ⟨u8 (((((fillS cl k).2.1) ^^^ (((fillS cl k).2.1) <<< (1 : Nat))) ^^^ ((((fillS cl k).2.1) ^^^ (((fillS cl k).2.1) <<< (1 : Nat))) <<< (2 : Nat))) ^^^ (((((fillS cl k).2.1) ^^^ (((fillS cl k).2.1) <<< (1 : Nat))) ^^^ ((((fillS cl k).2.1) ^^^ (((fillS cl k).2.1) <<< (1 : Nat))) <<< (2 : Nat))) <<< (4 : Nat))), fun _ uw75 hC76 _ => Gives.run rfl (r_move (v := u8 (((((fillS cl k).2.1) ^^^ (((fillS cl k).2.1) <<< (1 : Nat))) ^^^ ((((fillS cl k).2.1) ^^^ (((fillS cl k).2.1) <<< (1 : Nat))) <<< (2 : Nat))) ^^^ (((((fillS cl k).2.1) ^^^ (((fillS cl k).2.1) <<< (1 : Nat))) ^^^ ((((fillS cl k).2.1) ^^^ (((fillS cl k).2.1) <<< (1 : Nat))) <<< (2 : Nat))) <<< (4 : Nat)))) rfl) ⟨rfl, Chg.refl _ _⟩, ?_⟩
   refine ⟨u8 (rot (((((fillS cl k).2.1) ^^^ (((fillS cl k).2.1) <<< (1 : Nat))) ^^^ ((((fillS cl k).2.1) ^^^ (((fillS cl k).2.1) <<< (1 : Nat))) <<< (2 : Nat))) ^^^ (((((fillS cl k).2.1) ^^^ (((fillS cl k).2.1) <<< (1 : Nat))) ^^^ ((((fillS cl k).2.1) ^^^ (((fillS cl k).2.1) <<< (1 : Nat))) <<< (2 : Nat))) <<< (4 : Nat))) 4), fun _ uw77 hC78 _ => Gives.call rfl (Enters.callL (vs := [u8 (((((fillS cl k).2.1) ^^^ (((fillS cl k).2.1) <<< (1 : Nat))) ^^^ ((((fillS cl k).2.1) ^^^ (((fillS cl k).2.1) <<< (1 : Nat))) <<< (2 : Nat))) ^^^ (((((fillS cl k).2.1) ^^^ (((fillS cl k).2.1) <<< (1 : Nat))) ^^^ ((((fillS cl k).2.1) ^^^ (((fillS cl k).2.1) <<< (1 : Nat))) <<< (2 : Nat))) <<< (4 : Nat))), i64 ((4 : Int))]) call125 rfl) (rot_ok (((((fillS cl k).2.1) ^^^ (((fillS cl k).2.1) <<< (1 : Nat))) ^^^ ((((fillS cl k).2.1) ^^^ (((fillS cl k).2.1) <<< (1 : Nat))) <<< (2 : Nat))) ^^^ (((((fillS cl k).2.1) ^^^ (((fillS cl k).2.1) <<< (1 : Nat))) ^^^ ((((fillS cl k).2.1) ^^^ (((fillS cl k).2.1) <<< (1 : Nat))) <<< (2 : Nat))) <<< (4 : Nat))) 4 (by decide) uw77), ?_⟩
   refine ⟨u8 (((((((((fillS cl k).2.1) ^^^ (((fillS cl k).2.1) <<< (1 : Nat))) ^^^ ((((fillS cl k).2.1) ^^^ (((fillS cl k).2.1) <<< (1 : Nat))) <<< (2 : Nat))) ^^^ (((((fillS cl k).2.1) ^^^ (((fillS cl k).2.1) <<< (1 : Nat))) ^^^ ((((fillS cl k).2.1) ^^^ (((fillS cl k).2.1) <<< (1 : Nat))) <<< (2 : Nat))) <<< (4 : Nat))) ^^^ (rot (((((fillS cl k).2.1) ^^^ (((fillS cl k).2.1) <<< (1 : Nat))) ^^^ ((((fillS cl k).2.1) ^^^ (((fillS cl k).2.1) <<< (1 : Nat))) <<< (2 : Nat))) ^^^ (((((fillS cl k).2.1) ^^^ (((fillS cl k).2.1) <<< (1 : Nat))) ^^^ ((((fillS cl k).2.1) ^^^ (((fillS cl k).2.1) <<< (1 : Nat))) <<< (2 : Nat))) <<< (4 : Nat))) 1)) ^^^ (rot (((((fillS cl k).2.1) ^^^ (((fillS cl k).2.1) <<< (1 : Nat))) ^^^ ((((fillS cl k).2.1) ^^^ (((fillS cl k).2.1) <<< (1 : Nat))) <<< (2 : Nat))) ^^^ (((((fillS cl k).2.1) ^^^ (((fillS cl k).2.1) <<< (1 : Nat))) ^^^ ((((fillS cl k).2.1) ^^^ (((fillS cl k).2.1) <<< (1 : Nat))) <<< (2 : Nat))) <<< (4 : Nat))) 2)) ^^^ (rot (((((fillS cl k).2.1) ^^^ (((fillS cl k).2.1) <<< (1 : Nat))) ^^^ ((((fillS cl k).2.1) ^^^ (((fillS cl k).2.1) <<< (1 : Nat))) <<< (2 : Nat))) ^^^ (((((fillS cl k).2.1) ^^^ (((fillS cl k).2.1) <<< (1 : Nat))) ^^^ ((((fillS cl k).2.1) ^^^ (((fillS cl k).2.1) <<< (1 : Nat))) <<< (2 : Nat))) <<< (4 : Nat))) 3)) ^^^ (rot (((((fillS cl k).2.1) ^^^ (((fillS cl k).2.1) <<< (1 : Nat))) ^^^ ((((fillS cl k).2.1) ^^^ (((fillS cl k).2.1) <<< (1 : Nat))) <<< (2 : Nat))) ^^^ (((((fillS cl k).2.1) ^^^ (((fillS cl k).2.1) <<< (1 : Nat))) ^^^ ((((fillS cl k).2.1) ^^^ (((fillS cl k).2.1) <<< (1 : Nat))) <<< (2 : Nat))) <<< (4 : Nat))) 4)), fun _ uw79 hC80 _ => Gives.run rfl (r_xor8 (a := (((((((fillS cl k).2.1) ^^^ (((fillS cl k).2.1) <<< (1 : Nat))) ^^^ ((((fillS cl k).2.1) ^^^ (((fillS cl k).2.1) <<< (1 : Nat))) <<< (2 : Nat))) ^^^ (((((fillS cl k).2.1) ^^^ (((fillS cl k).2.1) <<< (1 : Nat))) ^^^ ((((fillS cl k).2.1) ^^^ (((fillS cl k).2.1) <<< (1 : Nat))) <<< (2 : Nat))) <<< (4 : Nat))) ^^^ (rot (((((fillS cl k).2.1) ^^^ (((fillS cl k).2.1) <<< (1 : Nat))) ^^^ ((((fillS cl k).2.1) ^^^ (((fillS cl k).2.1) <<< (1 : Nat))) <<< (2 : Nat))) ^^^ (((((fillS cl k).2.1) ^^^ (((fillS cl k).2.1) <<< (1 : Nat))) ^^^ ((((fillS cl k).2.1) ^^^ (((fillS cl k).2.1) <<< (1 : Nat))) <<< (2 : Nat))) <<< (4 : Nat))) 1)) ^^^ (rot (((((fillS cl k).2.1) ^^^ (((fillS cl k).2.1) <<< (1 : Nat))) ^^^ ((((fillS cl k).2.1) ^^^ (((fillS cl k).2.1) <<< (1 : Nat))) <<< (2 : Nat))) ^^^ (((((fillS cl k).2.1) ^^^ (((fillS cl k).2.1) <<< (1 : Nat))) ^^^ ((((fillS cl k).2.1) ^^^ (((fillS cl k).2.1) <<< (1 : Nat))) <<< (2 : Nat))) <<< (4 : Nat))) 2)) ^^^ (rot (((((fillS cl k).2.1) ^^^ (((fillS cl k).2.1) <<< (1 : Nat))) ^^^ ((((fillS cl k).2.1) ^^^ (((fillS cl k).2.1) <<< (1 : Nat))) <<< (2 : Nat))) ^^^ (((((fillS cl k).2.1) ^^^ (((fillS cl k).2.1) <<< (1 : Nat))) ^^^ ((((fillS cl k).2.1) ^^^ (((fillS cl k).2.1) <<< (1 : Nat))) <<< (2 : Nat))) <<< (4 : Nat))) 3)) (b := rot (((((fillS cl k).2.1) ^^^ (((fillS cl k).2.1) <<< (1 : Nat))) ^^^ ((((fillS cl k).2.1) ^^^ (((fillS cl k).2.1) <<< (1 : Nat))) <<< (2 : Nat))) ^^^ (((((fillS cl k).2.1) ^^^ (((fillS cl k).2.1) <<< (1 : Nat))) ^^^ ((((fillS cl k).2.1) ^^^ (((fillS cl k).2.1) <<< (1 : Nat))) <<< (2 : Nat))) <<< (4 : Nat))) 4) rfl rfl) ⟨rfl, Chg.refl _ _⟩, ?_⟩
   refine ⟨u8 ((((((((((fillS cl k).2.1) ^^^ (((fillS cl k).2.1) <<< (1 : Nat))) ^^^ ((((fillS cl k).2.1) ^^^ (((fillS cl k).2.1) <<< (1 : Nat))) <<< (2 : Nat))) ^^^ (((((fillS cl k).2.1) ^^^ (((fillS cl k).2.1) <<< (1 : Nat))) ^^^ ((((fillS cl k).2.1) ^^^ (((fillS cl k).2.1) <<< (1 : Nat))) <<< (2 : Nat))) <<< (4 : Nat))) ^^^ (rot (((((fillS cl k).2.1) ^^^ (((fillS cl k).2.1) <<< (1 : Nat))) ^^^ ((((fillS cl k).2.1) ^^^ (((fillS cl k).2.1) <<< (1 : Nat))) <<< (2 : Nat))) ^^^ (((((fillS cl k).2.1) ^^^ (((fillS cl k).2.1) <<< (1 : Nat))) ^^^ ((((fillS cl k).2.1) ^^^ (((fillS cl k).2.1) <<< (1 : Nat))) <<< (2 : Nat))) <<< (4 : Nat))) 1)) ^^^ (rot (((((fillS cl k).2.1) ^^^ (((fillS cl k).2.1) <<< (1 : Nat))) ^^^ ((((fillS cl k).2.1) ^^^ (((fillS cl k).2.1) <<< (1 : Nat))) <<< (2 : Nat))) ^^^ (((((fillS cl k).2.1) ^^^ (((fillS cl k).2.1) <<< (1 : Nat))) ^^^ ((((fillS cl k).2.1) ^^^ (((fillS cl k).2.1) <<< (1 : Nat))) <<< (2 : Nat))) <<< (4 : Nat))) 2)) ^^^ (rot (((((fillS cl k).2.1) ^^^ (((fillS cl k).2.1) <<< (1 : Nat))) ^^^ ((((fillS cl k).2.1) ^^^ (((fillS cl k).2.1) <<< (1 : Nat))) <<< (2 : Nat))) ^^^ (((((fillS cl k).2.1) ^^^ (((fillS cl k).2.1) <<< (1 : Nat))) ^^^ ((((fillS cl k).2.1) ^^^ (((fillS cl k).2.1) <<< (1 : Nat))) <<< (2 : Nat))) <<< (4 : Nat))) 3)) ^^^ (rot (((((fillS cl k).2.1) ^^^ (((fillS cl k).2.1) <<< (1 : Nat))) ^^^ ((((fillS cl k).2.1) ^^^ (((fillS cl k).2.1) <<< (1 : Nat))) <<< (2 : Nat))) ^^^ (((((fillS cl k).2.1) ^^^ (((fillS cl k).2.1) <<< (1 : Nat))) ^^^ ((((fillS cl k).2.1) ^^^ (((fillS cl k).2.1) <<< (1 : Nat))) <<< (2 : Nat))) <<< (4 : Nat))) 4)) ^^^ (99#8)), fun _ uw81 hC82 _ => Gives.run rfl (r_xor8 (a := ((((((((fillS cl k).2.1) ^^^ (((fillS cl k).2.1) <<< (1 : Nat))) ^^^ ((((fillS cl k).2.1) ^^^ (((fillS cl k).2.1) <<< (1 : Nat))) <<< (2 : Nat))) ^^^ (((((fillS cl k).2.1) ^^^ (((fillS cl k).2.1) <<< (1 : Nat))) ^^^ ((((fillS cl k).2.1) ^^^ (((fillS cl k).2.1) <<< (1 : Nat))) <<< (2 : Nat))) <<< (4 : Nat))) ^^^ (rot (((((fillS cl k).2.1) ^^^ (((fillS cl k).2.1) <<< (1 : Nat))) ^^^ ((((fillS cl k).2.1) ^^^ (((fillS cl k).2.1) <<< (1 : Nat))) <<< (2 : Nat))) ^^^ (((((fillS cl k).2.1) ^^^ (((fillS cl k).2.1) <<< (1 : Nat))) ^^^ ((((fillS cl k).2.1) ^^^ (((fillS cl k).2.1) <<< (1 : Nat))) <<< (2 : Nat))) <<< (4 : Nat))) 1)) ^^^ (rot (((((fillS cl k).2.1) ^^^ (((fillS cl k).2.1) <<< (1 : Nat))) ^^^ ((((fillS cl k).2.1) ^^^ (((fillS cl k).2.1) <<< (1 : Nat))) <<< (2 : Nat))) ^^^ (((((fillS cl k).2.1) ^^^ (((fillS cl k).2.1) <<< (1 : Nat))) ^^^ ((((fillS cl k).2.1) ^^^ (((fillS cl k).2.1) <<< (1 : Nat))) <<< (2 : Nat))) <<< (4 : Nat))) 2)) ^^^ (rot (((((fillS cl k).2.1) ^^^ (((fillS cl k).2.1) <<< (1 : Nat))) ^^^ ((((fillS cl k).2.1) ^^^ (((fillS cl k).2.1) <<< (1 : Nat))) <<< (2 : Nat))) ^^^ (((((fillS cl k).2.1) ^^^ (((fillS cl k).2.1) <<< (1 : Nat))) ^^^ ((((fillS cl k).2.1) ^^^ (((fillS cl k).2.1) <<< (1 : Nat))) <<< (2 : Nat))) <<< (4 : Nat))) 3)) ^^^ (rot (((((fillS cl k).2.1) ^^^ (((fillS cl k).2.1) <<< (1 : Nat))) ^^^ ((((fillS cl k).2.1) ^^^ (((fillS cl k).2.1) <<< (1 : Nat))) <<< (2 : Nat))) ^^^ (((((fillS cl k).2.1) ^^^ (((fillS cl k).2.1) <<< (1 : Nat))) ^^^ ((((fillS cl k).2.1) ^^^ (((fillS cl k).2.1) <<< (1 : Nat))) <<< (2 : Nat))) <<< (4 : Nat))) 4)) (b := 99#8) rfl rfl) ⟨rfl, Chg.refl _ _⟩, ?_⟩
   refine ⟨pT b, fun _ uw83 hC84 _ => Gives.run rfl (r_nilCheck rfl) ⟨rfl, Chg.refl _ _⟩, ?_⟩
   refine ⟨.pointer (some ⟨b, 176, none⟩), fun _ uw85 hC86 _ => Gives.run rfl (r_fieldAddr (off' := 176) fld215_1 (by decide) (b := b) (off := 0) rfl (by omega)) ⟨rfl, Chg.refl _ _⟩, ?_⟩
   refine ⟨.pointer (some ⟨b, 176 + ((((fillS cl k).1) ^^^ (xt ((fillS cl k).1))).toNat), none⟩), fun _ uw87 hC88 _ => Gives.run rfl (r_indexA (off' := 176 + ((((fillS cl k).1) ^^^ (xt ((fillS cl k).1))).toNat)) (j := (((fillS cl k).1) ^^^ (xt ((fillS cl k).1))).toNat) arr213 (b := b) (off := 176) rfl rfl (by first | rfl | omega | (simp; omega)) (BitVec.isLt _) (by omega)) ⟨rfl, Chg.refl _ _⟩, ?_⟩
   intro r92 w89 hE91 hF
   have H90 := H5.ext hE91
   refine d_store (k := 0) (v := u8 ((((((((((fillS cl k).2.1) ^^^ (((fillS cl k).2.1) <<< (1 : Nat))) ^^^ ((((fillS cl k).2.1) ^^^ (((fillS cl k).2.1) <<< (1 : Nat))) <<< (2 : Nat))) ^^^ (((((fillS cl k).2.1) ^^^ (((fillS cl k).2.1) <<< (1 : Nat))) ^^^ ((((fillS cl k).2.1) ^^^ (((fillS cl k).2.1) <<< (1 : Nat))) <<< (2 : Nat))) <<< (4 : Nat))) ^^^ (rot (((((fillS cl k).2.1) ^^^ (((fillS cl k).2.1) <<< (1 : Nat))) ^^^ ((((fillS cl k).2.1) ^^^ (((fillS cl k).2.1) <<< (1 : Nat))) <<< (2 : Nat))) ^^^ (((((fillS cl k).2.1) ^^^ (((fillS cl k).2.1) <<< (1 : Nat))) ^^^ ((((fillS cl k).2.1) ^^^ (((fillS cl k).2.1) <<< (1 : Nat))) <<< (2 : Nat))) <<< (4 : Nat))) 1)) ^^^ (rot (((((fillS cl k).2.1) ^^^ (((fillS cl k).2.1) <<< (1 : Nat))) ^^^ ((((fillS cl k).2.1) ^^^ (((fillS cl k).2.1) <<< (1 : Nat))) <<< (2 : Nat))) ^^^ (((((fillS cl k).2.1) ^^^ (((fillS cl k).2.1) <<< (1 : Nat))) ^^^ ((((fillS cl k).2.1) ^^^ (((fillS cl k).2.1) <<< (1 : Nat))) <<< (2 : Nat))) <<< (4 : Nat))) 2)) ^^^ (rot (((((fillS cl k).2.1) ^^^ (((fillS cl k).2.1) <<< (1 : Nat))) ^^^ ((((fillS cl k).2.1) ^^^ (((fillS cl k).2.1) <<< (1 : Nat))) <<< (2 : Nat))) ^^^ (((((fillS cl k).2.1) ^^^ (((fillS cl k).2.1) <<< (1 : Nat))) ^^^ ((((fillS cl k).2.1) ^^^ (((fillS cl k).2.1) <<< (1 : Nat))) <<< (2 : Nat))) <<< (4 : Nat))) 3)) ^^^ (rot (((((fillS cl k).2.1) ^^^ (((fillS cl k).2.1) <<< (1 : Nat))) ^^^ ((((fillS cl k).2.1) ^^^ (((fillS cl k).2.1) <<< (1 : Nat))) <<< (2 : Nat))) ^^^ (((((fillS cl k).2.1) ^^^ (((fillS cl k).2.1) <<< (1 : Nat))) ^^^ ((((fillS cl k).2.1) ^^^ (((fillS cl k).2.1) <<< (1 : Nat))) <<< (2 : Nat))) <<< (4 : Nat))) 4)) ^^^ (99#8))) (cs' := (cel E8 (((fillS cl k).2.2).set (176 + ((((fillS cl k).1) ^^^ (xt ((fillS cl k).1))).toNat)) ((((((((((fillS cl k).2.1) ^^^ (((fillS cl k).2.1) <<< (1 : Nat))) ^^^ ((((fillS cl k).2.1) ^^^ (((fillS cl k).2.1) <<< (1 : Nat))) <<< (2 : Nat))) ^^^ (((((fillS cl k).2.1) ^^^ (((fillS cl k).2.1) <<< (1 : Nat))) ^^^ ((((fillS cl k).2.1) ^^^ (((fillS cl k).2.1) <<< (1 : Nat))) <<< (2 : Nat))) <<< (4 : Nat))) ^^^ (rot (((((fillS cl k).2.1) ^^^ (((fillS cl k).2.1) <<< (1 : Nat))) ^^^ ((((fillS cl k).2.1) ^^^ (((fillS cl k).2.1) <<< (1 : Nat))) <<< (2 : Nat))) ^^^ (((((fillS cl k).2.1) ^^^ (((fillS cl k).2.1) <<< (1 : Nat))) ^^^ ((((fillS cl k).2.1) ^^^ (((fillS cl k).2.1) <<< (1 : Nat))) <<< (2 : Nat))) <<< (4 : Nat))) 1)) ^^^ (rot (((((fillS cl k).2.1) ^^^ (((fillS cl k).2.1) <<< (1 : Nat))) ^^^ ((((fillS cl k).2.1) ^^^ (((fillS cl k).2.1) <<< (1 : Nat))) <<< (2 : Nat))) ^^^ (((((fillS cl k).2.1) ^^^ (((fillS cl k).2.1) <<< (1 : Nat))) ^^^ ((((fillS cl k).2.1) ^^^ (((fillS cl k).2.1) <<< (1 : Nat))) <<< (2 : Nat))) <<< (4 : Nat))) 2)) ^^^ (rot (((((fillS cl k).2.1) ^^^ (((fillS cl k).2.1) <<< (1 : Nat))) ^^^ ((((fillS cl k).2.1) ^^^ (((fillS cl k).2.1) <<< (1 : Nat))) <<< (2 : Nat))) ^^^ (((((fillS cl k).2.1) ^^^ (((fillS cl k).2.1) <<< (1 : Nat))) ^^^ ((((fillS cl k).2.1) ^^^ (((fillS cl k).2.1) <<< (1 : Nat))) <<< (2 : Nat))) <<< (4 : Nat))) 3)) ^^^ (rot (((((fillS cl k).2.1) ^^^ (((fillS cl k).2.1) <<< (1 : Nat))) ^^^ ((((fillS cl k).2.1) ^^^ (((fillS cl k).2.1) <<< (1 : Nat))) <<< (2 : Nat))) ^^^ (((((fillS cl k).2.1) ^^^ (((fillS cl k).2.1) <<< (1 : Nat))) ^^^ ((((fillS cl k).2.1) ^^^ (((fillS cl k).2.1) <<< (1 : Nat))) <<< (2 : Nat))) <<< (4 : Nat))) 4)) ^^^ (99#8)))).toArray) H90 rfl rfl rfl siz5 (by rfl) (by exact E8.one _) (by rw [List.size_toArray, cel_length]; show _ ≤ _ * 1; have := ((fillS cl k).1 ^^^ xt (fillS cl k).1).isLt; rw [hl]; omega) (by exact put1 (E := E8) rfl _ _ _) ?_
   intro w93 H94 hC95
   have H94' := H94.as (L' := [(some b, .cells (cel E8 (((fillS cl k).2.2).set (176 + ((((fillS cl k).1) ^^^ (xt ((fillS cl k).1))).toNat)) ((((((((((fillS cl k).2.1) ^^^ (((fillS cl k).2.1) <<< (1 : Nat))) ^^^ ((((fillS cl k).2.1) ^^^ (((fillS cl k).2.1) <<< (1 : Nat))) <<< (2 : Nat))) ^^^ (((((fillS cl k).2.1) ^^^ (((fillS cl k).2.1) <<< (1 : Nat))) ^^^ ((((fillS cl k).2.1) ^^^ (((fillS cl k).2.1) <<< (1 : Nat))) <<< (2 : Nat))) <<< (4 : Nat))) ^^^ (rot (((((fillS cl k).2.1) ^^^ (((fillS cl k).2.1) <<< (1 : Nat))) ^^^ ((((fillS cl k).2.1) ^^^ (((fillS cl k).2.1) <<< (1 : Nat))) <<< (2 : Nat))) ^^^ (((((fillS cl k).2.1) ^^^ (((fillS cl k).2.1) <<< (1 : Nat))) ^^^ ((((fillS cl k).2.1) ^^^ (((fillS cl k).2.1) <<< (1 : Nat))) <<< (2 : Nat))) <<< (4 : Nat))) 1)) ^^^ (rot (((((fillS cl k).2.1) ^^^ (((fillS cl k).2.1) <<< (1 : Nat))) ^^^ ((((fillS cl k).2.1) ^^^ (((fillS cl k).2.1) <<< (1 : Nat))) <<< (2 : Nat))) ^^^ (((((fillS cl k).2.1) ^^^ (((fillS cl k).2.1) <<< (1 : Nat))) ^^^ ((((fillS cl k).2.1) ^^^ (((fillS cl k).2.1) <<< (1 : Nat))) <<< (2 : Nat))) <<< (4 : Nat))) 2)) ^^^ (rot (((((fillS cl k).2.1) ^^^ (((fillS cl k).2.1) <<< (1 : Nat))) ^^^ ((((fillS cl k).2.1) ^^^ (((fillS cl k).2.1) <<< (1 : Nat))) <<< (2 : Nat))) ^^^ (((((fillS cl k).2.1) ^^^ (((fillS cl k).2.1) <<< (1 : Nat))) ^^^ ((((fillS cl k).2.1) ^^^ (((fillS cl k).2.1) <<< (1 : Nat))) <<< (2 : Nat))) <<< (4 : Nat))) 3)) ^^^ (rot (((((fillS cl k).2.1) ^^^ (((fillS cl k).2.1) <<< (1 : Nat))) ^^^ ((((fillS cl k).2.1) ^^^ (((fillS cl k).2.1) <<< (1 : Nat))) <<< (2 : Nat))) ^^^ (((((fillS cl k).2.1) ^^^ (((fillS cl k).2.1) <<< (1 : Nat))) ^^^ ((((fillS cl k).2.1) ^^^ (((fillS cl k).2.1) <<< (1 : Nat))) <<< (2 : Nat))) <<< (4 : Nat))) 4)) ^^^ (99#8)))).toArray 215 (0, 0))]) rfl
   clear H94
   refine wnil ?_
   refine blockNormal ?_
   refine thenNormal ?_
   refine oneRegion ?_
   refine sq (r_addI (a := (k : Nat)) (b := (1 : Int)) rfl rfl (by omega)) ?_
   refine sM (i64 ((k : Nat) + (1 : Int))) rfl ?_
   refine wnil ?_
   refine thenNormal ?_
   have e3 : u8 (((((fillS cl k).2.1) ^^^ (((fillS cl k).2.1) <<< (1 : Nat))) ^^^ ((((fillS cl k).2.1) ^^^ (((fillS cl k).2.1) <<< (1 : Nat))) <<< (2 : Nat))) ^^^ (((((fillS cl k).2.1) ^^^ (((fillS cl k).2.1) <<< (1 : Nat))) ^^^ ((((fillS cl k).2.1) ^^^ (((fillS cl k).2.1) <<< (1 : Nat))) <<< (2 : Nat))) <<< (4 : Nat))) = u8 (fq (fillS cl k).2.1) := congrArg u8 (by simp only [fq]; first | rw [if_pos c23] | rw [if_neg c23])
   have eL : ((fillS cl k).2.2).set (176 + ((((fillS cl k).1) ^^^ (xt ((fillS cl k).1))).toNat)) ((((((((((fillS cl k).2.1) ^^^ (((fillS cl k).2.1) <<< (1 : Nat))) ^^^ ((((fillS cl k).2.1) ^^^ (((fillS cl k).2.1) <<< (1 : Nat))) <<< (2 : Nat))) ^^^ (((((fillS cl k).2.1) ^^^ (((fillS cl k).2.1) <<< (1 : Nat))) ^^^ ((((fillS cl k).2.1) ^^^ (((fillS cl k).2.1) <<< (1 : Nat))) <<< (2 : Nat))) <<< (4 : Nat))) ^^^ (rot (((((fillS cl k).2.1) ^^^ (((fillS cl k).2.1) <<< (1 : Nat))) ^^^ ((((fillS cl k).2.1) ^^^ (((fillS cl k).2.1) <<< (1 : Nat))) <<< (2 : Nat))) ^^^ (((((fillS cl k).2.1) ^^^ (((fillS cl k).2.1) <<< (1 : Nat))) ^^^ ((((fillS cl k).2.1) ^^^ (((fillS cl k).2.1) <<< (1 : Nat))) <<< (2 : Nat))) <<< (4 : Nat))) 1)) ^^^ (rot (((((fillS cl k).2.1) ^^^ (((fillS cl k).2.1) <<< (1 : Nat))) ^^^ ((((fillS cl k).2.1) ^^^ (((fillS cl k).2.1) <<< (1 : Nat))) <<< (2 : Nat))) ^^^ (((((fillS cl k).2.1) ^^^ (((fillS cl k).2.1) <<< (1 : Nat))) ^^^ ((((fillS cl k).2.1) ^^^ (((fillS cl k).2.1) <<< (1 : Nat))) <<< (2 : Nat))) <<< (4 : Nat))) 2)) ^^^ (rot (((((fillS cl k).2.1) ^^^ (((fillS cl k).2.1) <<< (1 : Nat))) ^^^ ((((fillS cl k).2.1) ^^^ (((fillS cl k).2.1) <<< (1 : Nat))) <<< (2 : Nat))) ^^^ (((((fillS cl k).2.1) ^^^ (((fillS cl k).2.1) <<< (1 : Nat))) ^^^ ((((fillS cl k).2.1) ^^^ (((fillS cl k).2.1) <<< (1 : Nat))) <<< (2 : Nat))) <<< (4 : Nat))) 3)) ^^^ (rot (((((fillS cl k).2.1) ^^^ (((fillS cl k).2.1) <<< (1 : Nat))) ^^^ ((((fillS cl k).2.1) ^^^ (((fillS cl k).2.1) <<< (1 : Nat))) <<< (2 : Nat))) ^^^ (((((fillS cl k).2.1) ^^^ (((fillS cl k).2.1) <<< (1 : Nat))) ^^^ ((((fillS cl k).2.1) ^^^ (((fillS cl k).2.1) <<< (1 : Nat))) <<< (2 : Nat))) <<< (4 : Nat))) 4)) ^^^ (99#8)) = (fillS cl (k + 1)).2.2 := by simp only [fillS, aff, fp, fq]; first | rw [if_pos c23] | rw [if_neg c23]
   rw [eL] at H94'
   exact ⟨k + 1, _, rfl, ⟨rfl, rfl, e3, rfl, trivial⟩, ⟨by omega, H94'⟩, by show 255 - (k + 1) < 255 - k; omega⟩
 ·skip
  refine exitAny ?_
  refine thenExit ?_
  refine thenExit ?_
  refine blockHere ?_
  refine thenNormal ?_
  refine oneRegion ?_
  refine sM (pT b) rfl ?_
  refine sq (r_nilCheck rfl) ?_
  refine sq (r_fieldAddr (off' := 176) fld215_1 (by decide) (b := b) (off := 0) rfl (by omega)) ?_
  refine sq (r_indexA (off' := 176) (j := 0) arr213 (b := b) (off := 176) rfl rfl (by first | rfl | omega | (simp; omega)) (by omega) (by omega)) ?_
  refine d_store (k := 0) (v := u8 (99#8)) (cs' := (cel E8 (((fillS cl k).2.2).set 176 (99#8))).toArray) H2 rfl rfl rfl siz5 (by rfl) (by exact E8.one _) (by rw [List.size_toArray, cel_length]; show _ ≤ _ * 1; rw [hl]; decide) (by exact put1 (E := E8) rfl _ _ _) ?_
  intro w96 H97 hC98
  have H97' := H97.as (L' := [(some b, .cells (cel E8 (((fillS cl k).2.2).set 176 (99#8))).toArray 215 (0, 0))]) rfl
  clear H97
  refine wnil ?_
  refine endG (rs := []) (vs := []) rfl trivial ?_
  obtain rfl : k = 255 := by omega
  exact ⟨_, rfl, rfl, H97'.chg, H97'.get (k := 0) rfl⟩
theorem xor_ok (a b c d : BitVec 64) (w : World) : Calls Tryd.prog 86 [.agg (cel E64 [a, b]).toArray, .agg (cel E64 [c, d]).toArray].toArray w (Ret fun v w' => v = .agg (cel E64 [(a ^^^ c), (b ^^^ d)]).toArray ∧ Ext w w') := by
 have H := Hp.start No w
 refine enter (n := 16) Tryd.func86 rfl rfl (bLe rfl) ?_
 refine sR ?_
 refine q_box (v := .agg (cel E64 [a, b]).toArray) (o := .cells (cel E64 ([a, b])).toArray 38 (0, 0)) H rfl (by rfl) ?_
 intro b1 w2 hb1 H3 hE4
 refine q_box (v := .agg (cel E64 [c, d]).toArray) (o := .cells (cel E64 ([c, d])).toArray 38 (0, 0)) H3 rfl (by rfl) ?_
 intro b5 w6 hb5 H7 hE8
 refine q_alloc (o := .cells (cel E64 ([0#64, 0#64])).toArray 38 (0, 0)) H7 zer38 (by kernel_rfl) ?_
 intro b9 w10 hb9 H11 hE12
 refine wend ?_
 refine sR ?_
 refine sq (r_indexA (off' := 0) (j := 0) arr38 (b := b1) (off := 0) rfl rfl (by first | rfl | omega | (simp; omega)) (by omega) (by omega)) ?_
 refine sq (r_ld1 (E := E64) (l := [a, b]) (j := 0) (a := a) fits32 (H11.get (k := 2) rfl) (by rfl) rfl rfl) ?_
 refine sq (r_indexA (off' := 0) (j := 0) arr38 (b := b5) (off := 0) rfl rfl (by first | rfl | omega | (simp; omega)) (by omega) (by omega)) ?_
 refine sq (r_ld1 (E := E64) (l := [c, d]) (j := 0) (a := c) fits32 (H11.get (k := 1) rfl) (by rfl) rfl rfl) ?_
 refine sq (r_xor64 (a := a) (b := c) rfl rfl) ?_
 refine sq (r_indexA (off' := 1) (j := 1) arr38 (b := b1) (off := 0) rfl rfl (by first | rfl | omega | (simp; omega)) (by omega) (by omega)) ?_
 refine sq (r_ld1 (E := E64) (l := [a, b]) (j := 1) (a := b) fits32 (H11.get (k := 2) rfl) (by rfl) rfl rfl) ?_
 refine sq (r_indexA (off' := 1) (j := 1) arr38 (b := b5) (off := 0) rfl rfl (by first | rfl | omega | (simp; omega)) (by omega) (by omega)) ?_
 refine sq (r_ld1 (E := E64) (l := [c, d]) (j := 1) (a := d) fits32 (H11.get (k := 1) rfl) (by rfl) rfl rfl) ?_
 refine sq (r_xor64 (a := b) (b := d) rfl rfl) ?_
 refine sq (r_buildA (cs' := (cel E64 [a ^^^ c, b ^^^ d]).toArray) (ps := [(0, u64 (a ^^^ c)), (1, u64 (b ^^^ d))]) zer38 arr38 rfl (by rfl)) ?_
 refine d_store (k := 0) (v := .agg (cel E64 [a ^^^ c, b ^^^ d]).toArray) (cs' := (cel E64 ([a ^^^ c, b ^^^ d])).toArray) H11 rfl rfl rfl siz38 (by exact celSize (by first | rfl | (show _ * 1 = _; omega))) (by exact celOne _) (by rw [List.size_toArray, cel_length]; show _ ≤ _ * 1; first | omega | (simp only [List.length_set]; omega) | exact bLe rfl | (simp <;> omega)) (by exact putAll (by first | rfl | omega | (simp <;> omega))) ?_
 intro w13 H14 hC15
 have H14' := H14.as (L' := [(some b9, .cells (cel E64 ([a ^^^ c, b ^^^ d])).toArray 38 (0, 0)), (some b5, .cells (cel E64 ([c, d])).toArray 38 (0, 0)), (some b1, .cells (cel E64 ([a, b])).toArray 38 (0, 0))]) rfl
 clear H14
 refine wend ?_
 refine retAny ?_
 refine retG (rs := [.cell 4 38]) (vs := [.agg (cel E64 ([a ^^^ c, b ^^^ d])).toArray]) rfl ⟨r_loadA (cs' := (cel E64 ([a ^^^ c, b ^^^ d])).toArray) agg38 siz38 (H14'.get (k := 0) rfl) (off := 0) rfl (by exact bLe rfl) (by exact ext_all rfl), trivial⟩ ?_
 exact ⟨_, rfl, rfl, H14'.chg⟩
theorem double_ok (a b : BitVec 64) (w : World) : Calls Tryd.prog 106 [.agg (cel E64 [a, b]).toArray].toArray w (Ret fun v w' => v = .agg (cel E64 [(dbl a b).1, (dbl a b).2]).toArray ∧ Ext w w') := by
 have H := Hp.start No w
 refine enter (n := 24) Tryd.func106 rfl rfl (bLe rfl) ?_
 refine sR ?_
 refine q_box (v := .agg (cel E64 [a, b]).toArray) (o := .cells (cel E64 ([a, b])).toArray 38 (0, 0)) H rfl (by rfl) ?_
 intro b1 w2 hb1 H3 hE4
 refine q_alloc (o := .cells (cel E64 ([0#64, 0#64])).toArray 38 (0, 0)) H3 zer38 (by kernel_rfl) ?_
 intro b5 w6 hb5 H7 hE8
 refine wend ?_
 refine sR ?_
 refine sq (r_indexA (off' := 0) (j := 0) arr38 (b := b1) (off := 0) rfl rfl (by first | rfl | omega | (simp; omega)) (by omega) (by omega)) ?_
 refine sq (r_ld1 (E := E64) (l := [a, b]) (j := 0) (a := a) fits32 (H7.get (k := 1) rfl) (by rfl) rfl rfl) ?_
 refine sq (r_shl64 (a := a) (c := 1) rfl rfl) ?_
 refine sq (r_indexA (off' := 1) (j := 1) arr38 (b := b1) (off := 0) rfl rfl (by first | rfl | omega | (simp; omega)) (by omega) (by omega)) ?_
 refine sq (r_ld1 (E := E64) (l := [a, b]) (j := 1) (a := b) fits32 (H7.get (k := 1) rfl) (by rfl) rfl rfl) ?_
 refine sq (r_shl64 (a := b) (c := 1) rfl rfl) ?_
 refine sq (r_indexA (off' := 0) (j := 0) arr38 (b := b1) (off := 0) rfl rfl (by first | rfl | omega | (simp; omega)) (by omega) (by omega)) ?_
 refine sq (r_ld1 (E := E64) (l := [a, b]) (j := 0) (a := a) fits32 (H7.get (k := 1) rfl) (by rfl) rfl rfl) ?_
 refine sq (r_shr64 (a := a) (c := 63) rfl rfl) ?_
 refine sq (r_or64 (a := b <<< (1 : Nat)) (b := a >>> (63 : Nat)) rfl rfl) ?_
 refine sq (r_buildA (cs' := (cel E64 [a <<< (1 : Nat), (b <<< (1 : Nat)) ||| (a >>> (63 : Nat))]).toArray) (ps := [(0, u64 (a <<< (1 : Nat))), (1, u64 ((b <<< (1 : Nat)) ||| (a >>> (63 : Nat))))]) zer38 arr38 rfl (by rfl)) ?_
 refine q_alloc (o := .cells (cel E64 ([0#64, 0#64])).toArray 38 (0, 0)) H7 zer38 (by kernel_rfl) ?_
 intro b9 w10 hb9 H11 hE12
 refine d_store (k := 0) (v := .agg (cel E64 [a <<< (1 : Nat), (b <<< (1 : Nat)) ||| (a >>> (63 : Nat))]).toArray) (cs' := (cel E64 ([a <<< (1 : Nat), (b <<< (1 : Nat)) ||| (a >>> (63 : Nat))])).toArray) H11 rfl rfl rfl siz38 (by exact celSize (by first | rfl | (show _ * 1 = _; omega))) (by exact celOne _) (by rw [List.size_toArray, cel_length]; show _ ≤ _ * 1; first | omega | (simp only [List.length_set]; omega) | exact bLe rfl | (simp <;> omega)) (by exact putAll (by first | rfl | omega | (simp <;> omega))) ?_
 intro w13 H14 hC15
 have H14' := H14.as (L' := [(some b9, .cells (cel E64 ([a <<< (1 : Nat), (b <<< (1 : Nat)) ||| (a >>> (63 : Nat))])).toArray 38 (0, 0)), (some b5, .cells (cel E64 ([0#64, 0#64])).toArray 38 (0, 0)), (some b1, .cells (cel E64 ([a, b])).toArray 38 (0, 0))]) rfl
 clear H14
 refine wend ?_
 refine seqAny ?_
 refine sR ?_
 refine sq (r_indexA (off' := 1) (j := 1) arr38 (b := b1) (off := 0) rfl rfl (by first | rfl | omega | (simp; omega)) (by omega) (by omega)) ?_
 refine sq (r_ld1 (E := E64) (l := [a, b]) (j := 1) (a := b) fits32 (H14'.get (k := 2) rfl) (by rfl) rfl rfl) ?_
 refine sq (r_shr64 (a := b) (c := 63) rfl rfl) ?_
 refine sq (r_eql64 (a := b >>> (63 : Nat)) (b := 1#64) rfl rfl) ?_
 refine wend ?_
 refine condProp ((b >>> (63 : Nat)) = (1#64)) rfl (fun c => ?_) (fun c => ?_)
 ·skip
  refine oneRegion ?_
  refine sq (r_indexA (off' := 0) (j := 0) arr38 (b := b9) (off := 0) rfl rfl (by first | rfl | omega | (simp; omega)) (by omega) (by omega)) ?_
  refine sq (r_ld1 (E := E64) (l := [a <<< (1 : Nat), (b <<< (1 : Nat)) ||| (a >>> (63 : Nat))]) (j := 0) (a := a <<< (1 : Nat)) fits32 (H14'.get (k := 0) rfl) (by rfl) rfl rfl) ?_
  refine sq (r_xor64 (a := a <<< (1 : Nat)) (b := 135#64) rfl rfl) ?_
  refine sq (r_indexA (off' := 0) (j := 0) arr38 (b := b9) (off := 0) rfl rfl (by first | rfl | omega | (simp; omega)) (by omega) (by omega)) ?_
  refine d_store (k := 0) (v := u64 ((a <<< (1 : Nat)) ^^^ (135#64))) (cs' := (cel E64 ([(a <<< (1 : Nat)) ^^^ (135#64), (b <<< (1 : Nat)) ||| (a >>> (63 : Nat))])).toArray) H14' rfl rfl rfl siz32 (by rfl) (by exact E64.one _) (by rw [List.size_toArray, cel_length]; show _ ≤ _ * 1; first | omega | (simp only [List.length_set]; omega) | exact bLe rfl | (simp <;> omega)) (by exact put1 (E := E64) rfl _ _ _) ?_
  intro w16 H17 hC18
  have H17' := H17.as (L' := [(some b9, .cells (cel E64 ([(a <<< (1 : Nat)) ^^^ (135#64), (b <<< (1 : Nat)) ||| (a >>> (63 : Nat))])).toArray 38 (0, 0)), (some b5, .cells (cel E64 ([0#64, 0#64])).toArray 38 (0, 0)), (some b1, .cells (cel E64 ([a, b])).toArray 38 (0, 0))]) rfl
  clear H17
  refine wnil ?_
  refine thenNormal ?_
  refine sR ?_
  refine sq (r_loadA (cs' := (cel E64 ([(a <<< (1 : Nat)) ^^^ (135#64), (b <<< (1 : Nat)) ||| (a >>> (63 : Nat))])).toArray) agg38 siz38 (H17'.get (k := 0) rfl) (off := 0) rfl (by exact bLe rfl) (by exact ext_all rfl)) ?_
  refine d_store (k := 1) (v := .agg (cel E64 ([(a <<< (1 : Nat)) ^^^ (135#64), (b <<< (1 : Nat)) ||| (a >>> (63 : Nat))])).toArray) (cs' := (cel E64 ([(a <<< (1 : Nat)) ^^^ (135#64), (b <<< (1 : Nat)) ||| (a >>> (63 : Nat))])).toArray) H17' rfl rfl rfl siz38 (by exact celSize (by first | rfl | (show _ * 1 = _; omega))) (by exact celOne _) (by rw [List.size_toArray, cel_length]; show _ ≤ _ * 1; first | omega | (simp only [List.length_set]; omega) | exact bLe rfl | (simp <;> omega)) (by exact putAll (by first | rfl | omega | (simp <;> omega))) ?_
  intro w19 H20 hC21
  have H20' := H20.as (L' := [(some b9, .cells (cel E64 ([(a <<< (1 : Nat)) ^^^ (135#64), (b <<< (1 : Nat)) ||| (a >>> (63 : Nat))])).toArray 38 (0, 0)), (some b5, .cells (cel E64 ([(a <<< (1 : Nat)) ^^^ (135#64), (b <<< (1 : Nat)) ||| (a >>> (63 : Nat))])).toArray 38 (0, 0)), (some b1, .cells (cel E64 ([a, b])).toArray 38 (0, 0))]) rfl
  clear H20
  refine wend ?_
  refine retAny ?_
  refine retG (rs := [.cell 2 38]) (vs := [.agg (cel E64 ([(a <<< (1 : Nat)) ^^^ (135#64), (b <<< (1 : Nat)) ||| (a >>> (63 : Nat))])).toArray]) rfl ⟨r_loadA (cs' := (cel E64 ([(a <<< (1 : Nat)) ^^^ (135#64), (b <<< (1 : Nat)) ||| (a >>> (63 : Nat))])).toArray) agg38 siz38 (H20'.get (k := 1) rfl) (off := 0) rfl (by exact bLe rfl) (by exact ext_all rfl), trivial⟩ ?_
  have e : dbl a b = ((a <<< (1 : Nat)) ^^^ (135#64), (b <<< (1 : Nat)) ||| (a >>> (63 : Nat))) := by simp only [dbl]; first | rw [if_pos c] | rw [if_neg c]
  exact ⟨_, rfl, by rw [e]; rfl, H20'.chg⟩
 ·skip
  refine skipAny ?_
  refine thenNormal ?_
  refine sR ?_
  refine sq (r_loadA (cs' := (cel E64 ([a <<< (1 : Nat), (b <<< (1 : Nat)) ||| (a >>> (63 : Nat))])).toArray) agg38 siz38 (H14'.get (k := 0) rfl) (off := 0) rfl (by exact bLe rfl) (by exact ext_all rfl)) ?_
  refine d_store (k := 1) (v := .agg (cel E64 ([a <<< (1 : Nat), (b <<< (1 : Nat)) ||| (a >>> (63 : Nat))])).toArray) (cs' := (cel E64 ([a <<< (1 : Nat), (b <<< (1 : Nat)) ||| (a >>> (63 : Nat))])).toArray) H14' rfl rfl rfl siz38 (by exact celSize (by first | rfl | (show _ * 1 = _; omega))) (by exact celOne _) (by rw [List.size_toArray, cel_length]; show _ ≤ _ * 1; first | omega | (simp only [List.length_set]; omega) | exact bLe rfl | (simp <;> omega)) (by exact putAll (by first | rfl | omega | (simp <;> omega))) ?_
  intro w22 H23 hC24
  have H23' := H23.as (L' := [(some b9, .cells (cel E64 ([a <<< (1 : Nat), (b <<< (1 : Nat)) ||| (a >>> (63 : Nat))])).toArray 38 (0, 0)), (some b5, .cells (cel E64 ([a <<< (1 : Nat), (b <<< (1 : Nat)) ||| (a >>> (63 : Nat))])).toArray 38 (0, 0)), (some b1, .cells (cel E64 ([a, b])).toArray 38 (0, 0))]) rfl
  clear H23
  refine wend ?_
  refine retAny ?_
  refine retG (rs := [.cell 2 38]) (vs := [.agg (cel E64 ([a <<< (1 : Nat), (b <<< (1 : Nat)) ||| (a >>> (63 : Nat))])).toArray]) rfl ⟨r_loadA (cs' := (cel E64 ([a <<< (1 : Nat), (b <<< (1 : Nat)) ||| (a >>> (63 : Nat))])).toArray) agg38 siz38 (H23'.get (k := 1) rfl) (off := 0) rfl (by exact bLe rfl) (by exact ext_all rfl), trivial⟩ ?_
  have e : dbl a b = (a <<< (1 : Nat), (b <<< (1 : Nat)) ||| (a >>> (63 : Nat))) := by simp only [dbl]; first | rw [if_pos c] | rw [if_neg c]
  exact ⟨_, rfl, by rw [e]; rfl, H23'.chg⟩
theorem bytes_ok (a b : BitVec 64) (w : World) : Calls Tryd.prog 109 [.agg (cel E64 [a, b]).toArray].toArray w (Ret fun v w' => v = .agg (cel E8 (bytesS a b 16)).toArray ∧ Ext w w') := by
 have H := Hp.start No w
 refine enter (n := 21) Tryd.func109 rfl rfl (bLe rfl) ?_
 refine sR ?_
 refine q_box (v := .agg (cel E64 [a, b]).toArray) (o := .cells (cel E64 ([a, b])).toArray 38 (0, 0)) H rfl (by rfl) ?_
 intro b1 w2 hb1 H3 hE4
 refine q_alloc (o := .cells (cel E8 (List.replicate 16 0#8)).toArray 124 (0, 0)) H3 zer124 (by kernel_rfl) ?_
 intro b5 w6 hb5 H7 hE8
 refine wend ?_
 refine sR ?_
 refine q_alloc (o := .cells (cel E8 (List.replicate 16 0#8)).toArray 124 (0, 0)) H7 zer124 (by kernel_rfl) ?_
 intro b9 w10 hb9 H11 hE12
 refine wend ?_
 refine seqAny ?_
 refine sR ?_
 refine sM (i64 ((0 : Int))) rfl ?_
 refine wend ?_
 refine blockAny ?_
 refine loopAny (σ := Nat) (fun k => [(1, pT b1), (2, pT b5), (3, pT b9), (5, i64 (k : Nat))]) (fun k w' => k ≤ 16 ∧ Hp No w w' [(some b9, .cells (cel E8 (bytesS a b k)).toArray 124 (0, 0)), (some b5, .cells (cel E8 (List.replicate 16 0#8)).toArray 124 (0, 0)), (some b1, .cells (cel E64 ([a, b])).toArray 38 (0, 0))]) (fun k => 16 - k) (0) ?_ ?_ ?_
 ·exact ⟨rfl, rfl, rfl, rfl, trivial⟩
 ·exact ⟨by omega, H11⟩
 rintro k ρ w13 ⟨hk, H14⟩
 have hl := bytesS_len a b k
 refine sR ?_
 refine sq (r_lssI (a := (k : Nat)) (b := (16 : Int)) rfl rfl) ?_
 refine wend ?_
 refine seqAny ?_
 refine condProp (((k : Nat) : Int) < (16 : Int)) rfl (fun hk6 => ?_) (fun hk6 => ?_)
 ·skip
  refine skipAny ?_
  refine thenNormal ?_
  refine seqAny ?_
  refine blockAny ?_
  refine sR ?_
  refine sM (i64 (k : Nat)) rfl ?_
  refine sA (i64 (k : Nat)) rfl ?_
  refine wend ?_
  refine oneRegion ?_
  refine sM (i64 (k : Nat)) rfl ?_
  refine sM (i64 (k : Nat)) rfl ?_
  refine sq (r_quoI (a := (k : Nat)) (b := (8 : Int)) rfl rfl (by omega)) ?_
  refine sq (r_indexA (off' := k / 8) (j := k / 8) arr38 (b := b1) (off := 0) rfl rfl (by first | rfl | omega | (simp; omega)) (by omega) (by omega)) ?_
  refine sq (r_ld1 (E := E64) (l := [a, b]) (j := k / 8) (a := ([a, b].getD (k / 8) 0#64)) fits32 (H14.get (k := 2) rfl) (at_getD (by simp; omega)) rfl rfl) ?_
  refine sM (i64 (k : Nat)) rfl ?_
  refine sq (r_remI (a := (k : Nat)) (b := (8 : Int)) rfl rfl (by omega)) ?_
  refine sq (r_mulI (a := (8 : Int)) (b := (k : Nat) % (8 : Int)) rfl rfl (by omega)) ?_
  refine sq (r_shr64 (a := ([a, b].getD (k / 8) 0#64)) (c := 8 * (k % 8)) rfl rfl) ?_
  refine sq (r_64to8 und32 und5 (a := ([a, b].getD (k / 8) 0#64) >>> (8 * (k % 8) : Nat)) rfl) ?_
  refine sq (r_indexA (off' := k) (j := k) arr124 (b := b9) (off := 0) rfl rfl (by first | rfl | omega | (simp; omega)) (by omega) (by omega)) ?_
  refine d_store (k := 0) (v := u8 ((([a, b].getD (k / 8) 0#64) >>> (8 * (k % 8) : Nat)).setWidth 8)) (cs' := (cel E8 ((bytesS a b k).set k ((([a, b].getD (k / 8) 0#64) >>> (8 * (k % 8) : Nat)).setWidth 8))).toArray) H14 rfl rfl rfl siz5 (by rfl) (by exact E8.one _) (by rw [List.size_toArray, cel_length]; show _ ≤ _ * 1; first | omega | (simp only [List.length_set]; omega) | exact bLe rfl | (simp <;> omega)) (by exact put1 (E := E8) rfl _ _ _) ?_
  intro w15 H16 hC17
  have H16' := H16.as (L' := [(some b9, .cells (cel E8 ((bytesS a b k).set k ((([a, b].getD (k / 8) 0#64) >>> (8 * (k % 8) : Nat)).setWidth 8))).toArray 124 (0, 0)), (some b5, .cells (cel E8 (List.replicate 16 0#8)).toArray 124 (0, 0)), (some b1, .cells (cel E64 ([a, b])).toArray 38 (0, 0))]) rfl
  clear H16
  refine wnil ?_
  refine blockNormal ?_
  refine thenNormal ?_
  refine oneRegion ?_
  refine sq (r_addI (a := (k : Nat)) (b := (1 : Int)) rfl rfl (by omega)) ?_
  refine sM (i64 ((k : Nat) + (1 : Int))) rfl ?_
  refine wnil ?_
  refine thenNormal ?_
  exact ⟨k + 1, _, rfl, ⟨rfl, rfl, rfl, rfl, trivial⟩, ⟨by omega, H16'⟩, by show 16 - (k + 1) < 16 - k; omega⟩
 ·skip
  obtain rfl : k = 16 := by omega
  have H18 := H14.as (L' := [(some b9, .cells (cel E8 (bytesS a b 16)).toArray 124 (0, 0)), (some b5, .cells (cel E8 (List.replicate 16 0#8)).toArray 124 (0, 0)), (some b1, .cells (cel E64 ([a, b])).toArray 38 (0, 0))]) (rfl)
  refine exitAny ?_
  refine thenExit ?_
  refine thenExit ?_
  refine blockHere ?_
  refine thenNormal ?_
  refine sR ?_
  refine sq (r_loadA (cs' := (cel E8 (bytesS a b 16)).toArray) agg124 siz124 (H18.get (k := 0) rfl) (off := 0) rfl (by rw [List.size_toArray, cel_length]; show _ ≤ _ * 1; omega) (by exact ext_all (by rw [cel_length, bytesS_len]; rfl))) ?_
  refine d_store (k := 1) (v := .agg (cel E8 (bytesS a b 16)).toArray) (cs' := (cel E8 (bytesS a b 16)).toArray) H18 rfl rfl rfl siz124 (by exact celSize (by rw [bytesS_len]; rfl)) (by exact celOne _) (by rw [List.size_toArray, cel_length]; show _ ≤ _ * 1; first | omega | (simp only [List.length_set]; omega) | exact bLe rfl | (simp <;> omega)) (by exact putAll (by rw [bytesS_len]; rfl)) ?_
  intro w19 H20 hC21
  have H20' := H20.as (L' := [(some b9, .cells (cel E8 (bytesS a b 16)).toArray 124 (0, 0)), (some b5, .cells (cel E8 (bytesS a b 16)).toArray 124 (0, 0)), (some b1, .cells (cel E64 ([a, b])).toArray 38 (0, 0))]) rfl
  clear H20
  refine wend ?_
  refine retAny ?_
  refine retG (rs := [.cell 2 124]) (vs := [.agg (cel E8 (bytesS a b 16)).toArray]) rfl ⟨r_loadA (cs' := (cel E8 (bytesS a b 16)).toArray) agg124 siz124 (H20'.get (k := 1) rfl) (off := 0) rfl (by rw [List.size_toArray, cel_length, bytesS_len]; decide) (by exact ext_all (by rw [cel_length, bytesS_len]; rfl)), trivial⟩ ?_
  exact ⟨_, rfl, rfl, H20'.chg⟩
theorem label_ok (l : List By) (hl : l.length = 16) (w : World) : Calls Tryd.prog 107 [.agg (cel E8 l).toArray].toArray w (Ret fun v w' => v = .agg (cel E64 (labelS l 16)).toArray ∧ Ext w w') := by
 have H := Hp.start No w
 refine enter (n := 25) Tryd.func107 rfl rfl (bLe rfl) ?_
 refine sR ?_
 refine q_box (v := .agg (cel E8 l).toArray) (o := .cells (cel E8 l).toArray 124 (0, 0)) H rfl (by rfl) ?_
 intro b1 w2 hb1 H3 hE4
 refine q_alloc (o := .cells (cel E64 ([0#64, 0#64])).toArray 38 (0, 0)) H3 zer38 (by kernel_rfl) ?_
 intro b5 w6 hb5 H7 hE8
 refine wend ?_
 refine sR ?_
 refine q_alloc (o := .cells (cel E64 ([0#64, 0#64])).toArray 38 (0, 0)) H7 zer38 (by kernel_rfl) ?_
 intro b9 w10 hb9 H11 hE12
 refine wend ?_
 refine seqAny ?_
 refine sR ?_
 refine sq (r_loadA (cs' := (cel E8 l).toArray) agg124 siz124 (H11.get (k := 2) rfl) (off := 0) rfl (by rw [List.size_toArray, cel_length]; show _ ≤ _ * 1; omega) (by exact ext_all (by rw [cel_length]; show _ * 1 = _; omega))) ?_
 refine sM (i64 ((0 : Int))) rfl ?_
 refine wend ?_
 refine blockAny ?_
 refine loopAny (σ := Nat) (fun k => [(2, pT b5), (3, pT b9), (6, .agg (cel E8 l).toArray), (7, i64 (k : Nat))]) (fun k w' => k ≤ 16 ∧ Hp No w w' [(some b9, .cells (cel E64 (labelS l k)).toArray 38 (0, 0)), (some b5, .cells (cel E64 ([0#64, 0#64])).toArray 38 (0, 0)), (some b1, .cells (cel E8 l).toArray 124 (0, 0))]) (fun k => 16 - k) (0) ?_ ?_ ?_
 ·exact ⟨rfl, rfl, rfl, rfl, trivial⟩
 ·exact ⟨by omega, H11⟩
 rintro k ρ w13 ⟨hk, H14⟩
 have hL := labelS_len l k
 refine sR ?_
 refine sq (r_lssI (a := (k : Nat)) (b := (16 : Int)) rfl rfl) ?_
 refine wend ?_
 refine seqAny ?_
 refine condProp (((k : Nat) : Int) < (16 : Int)) rfl (fun hk8 => ?_) (fun hk8 => ?_)
 ·skip
  refine skipAny ?_
  refine thenNormal ?_
  refine seqAny ?_
  refine blockAny ?_
  refine sR ?_
  refine sM (i64 (k : Nat)) rfl ?_
  refine sq (r_idxE (E := E8) (l := l) (j := k) (a := l.getD k 0#8) rfl und124 one5 siz5 rfl rfl (by first | rfl | omega | (simp; omega)) (by omega) (by exact at_getD (by omega)) (fun _ => rfl)) ?_
  refine sA (i64 (k : Nat)) rfl ?_
  refine sA (u8 (l.getD k 0#8)) rfl ?_
  refine wend ?_
  refine drawAny (K := [none, none, none, none, none, none, none, none, none, none, none, none]) [0, 1, 3, 7, 0, 16, 0, 64, 192, 496, 1023, 2047, 4095] (fun w' => Ext w13 w') (fun w' w'' => Ext w' w'') mixed (by kernel_rfl) (Ext.drew _) (fun _ _ h h' => h.trans h') ?_ ?_
  ·exact relNone (by decide)
  refine ⟨i64 (k : Nat), fun _ uw15 hC16 _ => Gives.run rfl (r_move (v := i64 (k : Nat)) rfl) ⟨rfl, Chg.refl _ _⟩, ?_⟩
  refine ⟨i64 ((k : Nat) / (8 : Int)), fun _ uw17 hC18 _ => Gives.run rfl (r_quoI (a := (k : Nat)) (b := (8 : Int)) rfl rfl (by omega)) ⟨rfl, Chg.refl _ _⟩, ?_⟩
  refine ⟨.pointer (some ⟨b9, k / 8, none⟩), fun _ uw19 hC20 _ => Gives.run rfl (r_indexA (off' := k / 8) (j := k / 8) arr38 (b := b9) (off := 0) rfl rfl (by first | rfl | omega | (simp; omega)) (by omega) (by omega)) ⟨rfl, Chg.refl _ _⟩, ?_⟩
  refine ⟨u64 ((labelS l k).getD (k / 8) 0#64), fun _ uw21 hC22 _ => Gives.run rfl (r_ld1 (E := E64) (l := labelS l k) (j := k / 8) (a := (labelS l k).getD (k / 8) 0#64) fits32 ((H14.ext hC22).get (k := 0) rfl) (at_getD (by first | omega | (simp only [List.length_set]; omega) | exact bLe rfl | (simp <;> omega))) rfl rfl) ⟨rfl, Chg.refl _ _⟩, ?_⟩
  refine ⟨u8 (l.getD k 0#8), fun _ uw23 hC24 _ => Gives.run rfl (r_move (v := u8 (l.getD k 0#8)) rfl) ⟨rfl, Chg.refl _ _⟩, ?_⟩
  refine ⟨u64 ((l.getD k 0#8).setWidth 64), fun _ uw25 hC26 _ => Gives.run rfl (r_8to64 und5 und32 (a := l.getD k 0#8) rfl) ⟨rfl, Chg.refl _ _⟩, ?_⟩
  refine ⟨i64 (k : Nat), fun _ uw27 hC28 _ => Gives.run rfl (r_move (v := i64 (k : Nat)) rfl) ⟨rfl, Chg.refl _ _⟩, ?_⟩
  refine ⟨i64 ((k : Nat) % (8 : Int)), fun _ uw29 hC30 _ => Gives.run rfl (r_remI (a := (k : Nat)) (b := (8 : Int)) rfl rfl (by omega)) ⟨rfl, Chg.refl _ _⟩, ?_⟩
  refine ⟨i64 ((8 : Int) * ((k : Nat) % (8 : Int))), fun _ uw31 hC32 _ => Gives.run rfl (r_mulI (a := (8 : Int)) (b := (k : Nat) % (8 : Int)) rfl rfl (by omega)) ⟨rfl, Chg.refl _ _⟩, ?_⟩
  refine ⟨u64 (((l.getD k 0#8).setWidth 64) <<< (8 * (k % 8) : Nat)), fun _ uw33 hC34 _ => Gives.run rfl (r_shl64 (a := (l.getD k 0#8).setWidth 64) (c := 8 * (k % 8)) rfl rfl) ⟨rfl, Chg.refl _ _⟩, ?_⟩
  refine ⟨u64 (((labelS l k).getD (k / 8) 0#64) ||| (((l.getD k 0#8).setWidth 64) <<< (8 * (k % 8) : Nat))), fun _ uw35 hC36 _ => Gives.run rfl (r_or64 (a := (labelS l k).getD (k / 8) 0#64) (b := ((l.getD k 0#8).setWidth 64) <<< (8 * (k % 8) : Nat)) rfl rfl) ⟨rfl, Chg.refl _ _⟩, ?_⟩
  refine ⟨.pointer (some ⟨b9, k / 8, none⟩), fun _ uw37 hC38 _ => Gives.run rfl (r_indexA (off' := k / 8) (j := k / 8) arr38 (b := b9) (off := 0) rfl rfl (by first | rfl | omega | (simp; omega)) (by omega) (by omega)) ⟨rfl, Chg.refl _ _⟩, ?_⟩
  intro r42 w39 hE41 hF
  have H40 := H14.ext hE41
  refine d_store (k := 0) (v := u64 (((labelS l k).getD (k / 8) 0#64) ||| (((l.getD k 0#8).setWidth 64) <<< (8 * (k % 8) : Nat)))) (cs' := (cel E64 ((labelS l k).set (k / 8) (((labelS l k).getD (k / 8) 0#64) ||| (((l.getD k 0#8).setWidth 64) <<< (8 * (k % 8) : Nat))))).toArray) H40 rfl rfl rfl siz32 (by rfl) (by exact E64.one _) (by rw [List.size_toArray, cel_length]; show _ ≤ _ * 1; first | omega | (simp only [List.length_set]; omega) | exact bLe rfl | (simp <;> omega)) (by exact put1 (E := E64) rfl _ _ _) ?_
  intro w43 H44 hC45
  have H44' := H44.as (L' := [(some b9, .cells (cel E64 ((labelS l k).set (k / 8) (((labelS l k).getD (k / 8) 0#64) ||| (((l.getD k 0#8).setWidth 64) <<< (8 * (k % 8) : Nat))))).toArray 38 (0, 0)), (some b5, .cells (cel E64 ([0#64, 0#64])).toArray 38 (0, 0)), (some b1, .cells (cel E8 l).toArray 124 (0, 0))]) rfl
  clear H44
  refine wnil ?_
  refine blockNormal ?_
  refine thenNormal ?_
  refine oneRegion ?_
  refine sq (r_addI (a := (k : Nat)) (b := (1 : Int)) rfl rfl (by omega)) ?_
  refine sM (i64 ((k : Nat) + (1 : Int))) rfl ?_
  refine wnil ?_
  refine thenNormal ?_
  exact ⟨k + 1, _, rfl, ⟨rfl, rfl, rfl, rfl, trivial⟩, ⟨by omega, H44'⟩, by show 16 - (k + 1) < 16 - k; omega⟩
 ·skip
  obtain rfl : k = 16 := by omega
  have H46 := H14.as (L' := [(some b9, .cells (cel E64 (labelS l 16)).toArray 38 (0, 0)), (some b5, .cells (cel E64 ([0#64, 0#64])).toArray 38 (0, 0)), (some b1, .cells (cel E8 l).toArray 124 (0, 0))]) (rfl)
  refine exitAny ?_
  refine thenExit ?_
  refine thenExit ?_
  refine blockHere ?_
  refine thenNormal ?_
  refine sR ?_
  refine sq (r_loadA (cs' := (cel E64 (labelS l 16)).toArray) agg38 siz38 (H46.get (k := 0) rfl) (off := 0) rfl (by rw [List.size_toArray, cel_length, labelS_len]; decide) (by exact ext_all (by rw [cel_length, labelS_len]; rfl))) ?_
  refine d_store (k := 1) (v := .agg (cel E64 (labelS l 16)).toArray) (cs' := (cel E64 (labelS l 16)).toArray) H46 rfl rfl rfl siz38 (by exact celSize (by rw [labelS_len]; rfl)) (by exact celOne _) (by rw [List.size_toArray, cel_length]; show _ ≤ _ * 1; first | omega | (simp only [List.length_set]; omega) | exact bLe rfl | (simp <;> omega)) (by exact putAll (by rw [labelS_len]; rfl)) ?_
  intro w47 H48 hC49
  have H48' := H48.as (L' := [(some b9, .cells (cel E64 (labelS l 16)).toArray 38 (0, 0)), (some b5, .cells (cel E64 (labelS l 16)).toArray 38 (0, 0)), (some b1, .cells (cel E8 l).toArray 124 (0, 0))]) rfl
  clear H48
  refine wend ?_
  refine retAny ?_
  refine retG (rs := [.cell 2 38]) (vs := [.agg (cel E64 (labelS l 16)).toArray]) rfl ⟨r_loadA (cs' := (cel E64 (labelS l 16)).toArray) agg38 siz38 (H48'.get (k := 1) rfl) (off := 0) rfl (by rw [List.size_toArray, cel_length, labelS_len]; decide) (by exact ext_all (by rw [cel_length, labelS_len]; rfl)), trivial⟩ ?_
  exact ⟨_, rfl, rfl, H48'.chg⟩
theorem mix_ok (b : Nat) (l : List By) (hn : l.length = 16) (w : World) (hb : w.heap[b]? = some (.cells (cel E8 l).toArray 124 (0, 0))) : Calls Tryd.prog 120 [pT b].toArray w (Ret fun v w' => v = .tuple #[] ∧ Chg (· = b) w w' ∧ w'.heap[b]? = some (.cells (cel E8 (mixL l)).toArray 124 (0, 0))) := by
 have H := Hp.start1 (M := (· = b)) rfl hb
 refine enter (n := 55) Tryd.func120 rfl rfl (bLe rfl) ?_
 refine sR ?_
 refine sA (i64 ((0 : Int))) rfl ?_
 refine wend ?_
 refine blockAny ?_
 refine loopAny (σ := Nat) (fun k => [(0, pT b), (2, i64 ((4 * k : Nat)))]) (fun k w' => k ≤ 4 ∧ Hp (· = b) w w' [(some b, .cells (cel E8 (mixS l k)).toArray 124 (0, 0))]) (fun k => 4 - k) (0) ?_ ?_ ?_
 ·exact ⟨rfl, rfl, trivial⟩
 ·exact ⟨by omega, H⟩
 rintro k ρ w1 ⟨hk, H2⟩
 have hl := mixS_len l k
 rw [hn] at hl
 have h4 : (mixS l k).length = 16 := hl
 refine seqAny ?_
 refine sR ?_
 refine sM (i64 ((4 * k : Nat))) rfl ?_
 refine sq (r_lssI (a := (4 * k : Nat)) (b := (16 : Int)) rfl rfl) ?_
 refine wend ?_
 refine condProp (((4 * k : Nat) : Int) < (16 : Int)) rfl (fun hk7 => ?_) (fun hk7 => ?_)
 ·skip
  refine skipAny ?_
  refine thenNormal ?_
  refine seqAny ?_
  refine blockAny ?_
  refine sR ?_
  refine sM (pT b) rfl ?_
  refine sq (r_nilCheck rfl) ?_
  refine sM (i64 ((4 * k : Nat))) rfl ?_
  refine sM (i64 ((4 * k : Nat))) rfl ?_
  refine sq (r_addI (a := (4 * k : Nat)) (b := (4 : Int)) rfl rfl (by omega)) ?_
  refine sq (r_sliceA (l := 4 * k) (h := (4 * k) + 4) (l' := 4 * k) (h' := 4) arr124 (b := b) (off := 0) rfl rfl rfl (by first | rfl | omega | (simp; omega)) (by first | rfl | omega | (simp; omega)) (by omega) (by omega) (by omega) (by omega) (by omega)) ?_
  refine sq (r_arrPtr arr217 rfl (by omega)) ?_
  refine sq (r_loadA (cs' := (cel E8 (((mixS l k).drop (4 * k)).take 4)).toArray) agg217 siz217 (H2.get (k := 0) rfl) (off := 4 * k) rfl (by rw [List.size_toArray, cel_length]; show _ ≤ _ * 1; omega) (by exact ext_mid _ _ _ rfl)) ?_
  refine q_alloc (o := .cells (cel E8 ([0#8, 0#8, 0#8, 0#8])).toArray 217 (0, 0)) H2 zer217 (by kernel_rfl) ?_
  intro b3 w4 hb3 H5 hE6
  refine d_store (k := 0) (v := .agg (cel E8 (((mixS l k).drop (4 * k)).take 4)).toArray) (cs' := (cel E8 (mixA (mixS l k) (4 * k))).toArray) H5 rfl rfl rfl siz217 (by exact celSize (by simp [h4, E8]; omega)) (by exact celOne _) (by exact bLe rfl) (by exact putAll (by simp [h4]; omega)) ?_
  intro w7 H8 hC9
  have H8' := H8.as (L' := [(some b3, .cells (cel E8 (mixA (mixS l k) (4 * k))).toArray 217 (0, 0)), (some b, .cells (cel E8 (mixS l k)).toArray 124 (0, 0))]) rfl
  clear H8
  refine wend ?_
  refine sR ?_
  have hA : (mixA (mixS l k) (4 * k)).length = 4 := by simp [mixA, h4]; omega
  refine sq (r_indexA (off' := 0) (j := 0) arr217 (b := b3) (off := 0) rfl rfl (by first | rfl | omega | (simp; omega)) (by omega) (by omega)) ?_
  refine sq (r_ld1 (E := E8) (l := mixA (mixS l k) (4 * k)) (j := 0) (a := (mixA (mixS l k) (4 * k)).getD 0 0#8) fits5 (H8'.get (k := 0) rfl) (at_getD (by first | omega | (simp only [List.length_set]; omega) | exact bLe rfl | (simp <;> omega))) rfl rfl) ?_
  refine sq (r_indexA (off' := 1) (j := 1) arr217 (b := b3) (off := 0) rfl rfl (by first | rfl | omega | (simp; omega)) (by omega) (by omega)) ?_
  refine sq (r_ld1 (E := E8) (l := mixA (mixS l k) (4 * k)) (j := 1) (a := (mixA (mixS l k) (4 * k)).getD 1 0#8) fits5 (H8'.get (k := 0) rfl) (at_getD (by first | omega | (simp only [List.length_set]; omega) | exact bLe rfl | (simp <;> omega))) rfl rfl) ?_
  refine sq (r_xor8 (a := (mixA (mixS l k) (4 * k)).getD 0 0#8) (b := (mixA (mixS l k) (4 * k)).getD 1 0#8) rfl rfl) ?_
  refine sq (r_indexA (off' := 2) (j := 2) arr217 (b := b3) (off := 0) rfl rfl (by first | rfl | omega | (simp; omega)) (by omega) (by omega)) ?_
  refine sq (r_ld1 (E := E8) (l := mixA (mixS l k) (4 * k)) (j := 2) (a := (mixA (mixS l k) (4 * k)).getD 2 0#8) fits5 (H8'.get (k := 0) rfl) (at_getD (by first | omega | (simp only [List.length_set]; omega) | exact bLe rfl | (simp <;> omega))) rfl rfl) ?_
  refine sq (r_xor8 (a := ((mixA (mixS l k) (4 * k)).getD 0 0#8) ^^^ ((mixA (mixS l k) (4 * k)).getD 1 0#8)) (b := (mixA (mixS l k) (4 * k)).getD 2 0#8) rfl rfl) ?_
  refine sq (r_indexA (off' := 3) (j := 3) arr217 (b := b3) (off := 0) rfl rfl (by first | rfl | omega | (simp; omega)) (by omega) (by omega)) ?_
  refine sq (r_ld1 (E := E8) (l := mixA (mixS l k) (4 * k)) (j := 3) (a := (mixA (mixS l k) (4 * k)).getD 3 0#8) fits5 (H8'.get (k := 0) rfl) (at_getD (by first | omega | (simp only [List.length_set]; omega) | exact bLe rfl | (simp <;> omega))) rfl rfl) ?_
  refine sq (r_xor8 (a := (((mixA (mixS l k) (4 * k)).getD 0 0#8) ^^^ ((mixA (mixS l k) (4 * k)).getD 1 0#8)) ^^^ ((mixA (mixS l k) (4 * k)).getD 2 0#8)) (b := (mixA (mixS l k) (4 * k)).getD 3 0#8) rfl rfl) ?_
  refine sA (u8 (((((mixA (mixS l k) (4 * k)).getD 0 0#8) ^^^ ((mixA (mixS l k) (4 * k)).getD 1 0#8)) ^^^ ((mixA (mixS l k) (4 * k)).getD 2 0#8)) ^^^ ((mixA (mixS l k) (4 * k)).getD 3 0#8))) rfl ?_
  refine wend ?_
  refine sR ?_
  refine sM (i64 ((0 : Int))) rfl ?_
  refine wend ?_
  refine blockAny ?_
  refine loopAny (σ := Nat) (fun r => [(0, pT b), (2, i64 ((4 * k : Nat))), (3, pT b3), (4, u8 (allOf (mixA (mixS l k) (4 * k)))), (29, i64 (r : Nat))]) (fun r w' => r ≤ 4 ∧ Hp (· = b) w w' [(some b3, .cells (cel E8 (mixA (mixS l k) (4 * k))).toArray 217 (0, 0)), (some b, .cells (cel E8 (mixI (mixA (mixS l k) (4 * k)) (allOf (mixA (mixS l k) (4 * k))) (mixS l k) (4 * k) r)).toArray 124 (0, 0))]) (fun r => 4 - r) (0) ?_ ?_ ?_
  ·exact ⟨rfl, rfl, rfl, rfl, rfl, trivial⟩
  ·exact ⟨by omega, H8'⟩
  rintro r ρ w10 ⟨hr, H11⟩
  have hm := mixI_len (mixA (mixS l k) (4 * k)) (allOf (mixA (mixS l k) (4 * k))) (mixS l k) (4 * k) r
  rw [h4] at hm
  refine sR ?_
  refine sq (r_lssI (a := (r : Nat)) (b := (4 : Int)) rfl rfl) ?_
  refine wend ?_
  refine seqAny ?_
  refine condProp (((r : Nat) : Int) < (4 : Int)) rfl (fun hr30 => ?_) (fun hr30 => ?_)
  ·skip
   refine skipAny ?_
   refine thenNormal ?_
   refine seqAny ?_
   refine blockAny ?_
   refine sR ?_
   refine sM (i64 (r : Nat)) rfl ?_
   refine sA (i64 (r : Nat)) rfl ?_
   refine wend ?_
   refine drawAny (K := [none, none, none, none, none, none, none, none, none, none, none, none, none, none, none, none, none, none, none, none, none, none]) [0, 0, 0, 6, 1, 31, 63, 0, 0, 256, 768, 0, 2048, 6144, 14336, 30720, 65280, 130816, 262016, 524287, 1, 2097151, 4194303] (fun w' => Ext w10 w') (fun w' w'' => Ext w' w'') mixed (by kernel_rfl) (Ext.drew _) (fun _ _ h h' => h.trans h') ?_ ?_
   ·exact relNone (by decide)
   refine ⟨pT b, fun _ uw12 hC13 _ => Gives.run rfl (r_move (v := pT b) rfl) ⟨rfl, Chg.refl _ _⟩, ?_⟩
   refine ⟨i64 ((4 * k : Nat)), fun _ uw14 hC15 _ => Gives.run rfl (r_move (v := i64 ((4 * k : Nat))) rfl) ⟨rfl, Chg.refl _ _⟩, ?_⟩
   refine ⟨i64 (r : Nat), fun _ uw16 hC17 _ => Gives.run rfl (r_move (v := i64 (r : Nat)) rfl) ⟨rfl, Chg.refl _ _⟩, ?_⟩
   refine ⟨i64 ((4 * k : Nat) + (r : Nat)), fun _ uw18 hC19 _ => Gives.run rfl (r_addI (a := (4 * k : Nat)) (b := (r : Nat)) rfl rfl (by omega)) ⟨rfl, Chg.refl _ _⟩, ?_⟩
   refine ⟨pT b, fun _ uw20 hC21 _ => Gives.run rfl (r_nilCheck rfl) ⟨rfl, Chg.refl _ _⟩, ?_⟩
   refine ⟨.pointer (some ⟨b, (4 * k) + r, none⟩), fun _ uw22 hC23 _ => Gives.run rfl (r_indexA (off' := (4 * k) + r) (j := (4 * k) + r) arr124 (b := b) (off := 0) rfl rfl (by first | rfl | omega | (simp; omega)) (by omega) (by omega)) ⟨rfl, Chg.refl _ _⟩, ?_⟩
   refine ⟨u8 (((mixI (mixA (mixS l k) (4 * k)) (allOf (mixA (mixS l k) (4 * k))) (mixS l k) (4 * k) r)).getD ((4 * k) + r) 0#8), fun _ uw24 hC25 _ => Gives.run rfl (r_ld1 (E := E8) (l := (mixI (mixA (mixS l k) (4 * k)) (allOf (mixA (mixS l k) (4 * k))) (mixS l k) (4 * k) r)) (j := (4 * k) + r) (a := ((mixI (mixA (mixS l k) (4 * k)) (allOf (mixA (mixS l k) (4 * k))) (mixS l k) (4 * k) r)).getD ((4 * k) + r) 0#8) fits5 ((H11.ext hC25).get (k := 1) rfl) (at_getD (by first | omega | (simp only [List.length_set]; omega) | exact bLe rfl | (simp <;> omega))) rfl rfl) ⟨rfl, Chg.refl _ _⟩, ?_⟩
   refine ⟨u8 (allOf (mixA (mixS l k) (4 * k))), fun _ uw26 hC27 _ => Gives.run rfl (r_move (v := u8 (allOf (mixA (mixS l k) (4 * k)))) rfl) ⟨rfl, Chg.refl _ _⟩, ?_⟩
   refine ⟨i64 (r : Nat), fun _ uw28 hC29 _ => Gives.run rfl (r_move (v := i64 (r : Nat)) rfl) ⟨rfl, Chg.refl _ _⟩, ?_⟩
   refine ⟨.pointer (some ⟨b3, r, none⟩), fun _ uw30 hC31 _ => Gives.run rfl (r_indexA (off' := r) (j := r) arr217 (b := b3) (off := 0) rfl rfl (by first | rfl | omega | (simp; omega)) (by omega) (by omega)) ⟨rfl, Chg.refl _ _⟩, ?_⟩
   refine ⟨u8 ((mixA (mixS l k) (4 * k)).getD r 0#8), fun _ uw32 hC33 _ => Gives.run rfl (r_ld1 (E := E8) (l := mixA (mixS l k) (4 * k)) (j := r) (a := (mixA (mixS l k) (4 * k)).getD r 0#8) fits5 ((H11.ext hC33).get (k := 0) rfl) (at_getD (by first | omega | (simp only [List.length_set]; omega) | exact bLe rfl | (simp <;> omega))) rfl rfl) ⟨rfl, Chg.refl _ _⟩, ?_⟩
   refine ⟨i64 (r : Nat), fun _ uw34 hC35 _ => Gives.run rfl (r_move (v := i64 (r : Nat)) rfl) ⟨rfl, Chg.refl _ _⟩, ?_⟩
   refine ⟨i64 ((r : Nat) + (1 : Int)), fun _ uw36 hC37 _ => Gives.run rfl (r_addI (a := (r : Nat)) (b := (1 : Int)) rfl rfl (by omega)) ⟨rfl, Chg.refl _ _⟩, ?_⟩
   refine ⟨i64 (((r : Nat) + (1 : Int)) % (4 : Int)), fun _ uw38 hC39 _ => Gives.run rfl (r_remI (a := (r : Nat) + (1 : Int)) (b := (4 : Int)) rfl rfl (by omega)) ⟨rfl, Chg.refl _ _⟩, ?_⟩
   refine ⟨.pointer (some ⟨b3, (r + 1) % 4, none⟩), fun _ uw40 hC41 _ => Gives.run rfl (r_indexA (off' := (r + 1) % 4) (j := (r + 1) % 4) arr217 (b := b3) (off := 0) rfl rfl (by first | rfl | omega | (simp; omega)) (by omega) (by omega)) ⟨rfl, Chg.refl _ _⟩, ?_⟩
   refine ⟨u8 ((mixA (mixS l k) (4 * k)).getD ((r + 1) % 4) 0#8), fun _ uw42 hC43 _ => Gives.run rfl (r_ld1 (E := E8) (l := mixA (mixS l k) (4 * k)) (j := (r + 1) % 4) (a := (mixA (mixS l k) (4 * k)).getD ((r + 1) % 4) 0#8) fits5 ((H11.ext hC43).get (k := 0) rfl) (at_getD (by first | omega | (simp only [List.length_set]; omega) | exact bLe rfl | (simp <;> omega))) rfl rfl) ⟨rfl, Chg.refl _ _⟩, ?_⟩
   refine ⟨u8 (((mixA (mixS l k) (4 * k)).getD r 0#8) ^^^ ((mixA (mixS l k) (4 * k)).getD ((r + 1) % 4) 0#8)), fun _ uw44 hC45 _ => Gives.run rfl (r_xor8 (a := (mixA (mixS l k) (4 * k)).getD r 0#8) (b := (mixA (mixS l k) (4 * k)).getD ((r + 1) % 4) 0#8) rfl rfl) ⟨rfl, Chg.refl _ _⟩, ?_⟩
   refine ⟨u8 (xt (((mixA (mixS l k) (4 * k)).getD r 0#8) ^^^ ((mixA (mixS l k) (4 * k)).getD ((r + 1) % 4) 0#8))), fun _ uw46 hC47 _ => Gives.call rfl (Enters.callL (vs := [u8 (((mixA (mixS l k) (4 * k)).getD r 0#8) ^^^ ((mixA (mixS l k) (4 * k)).getD ((r + 1) % 4) 0#8))]) call116 rfl) (twice_ok (((mixA (mixS l k) (4 * k)).getD r 0#8) ^^^ ((mixA (mixS l k) (4 * k)).getD ((r + 1) % 4) 0#8)) uw46), ?_⟩
   refine ⟨u8 ((allOf (mixA (mixS l k) (4 * k))) ^^^ (xt (((mixA (mixS l k) (4 * k)).getD r 0#8) ^^^ ((mixA (mixS l k) (4 * k)).getD ((r + 1) % 4) 0#8)))), fun _ uw48 hC49 _ => Gives.run rfl (r_xor8 (a := allOf (mixA (mixS l k) (4 * k))) (b := xt (((mixA (mixS l k) (4 * k)).getD r 0#8) ^^^ ((mixA (mixS l k) (4 * k)).getD ((r + 1) % 4) 0#8))) rfl rfl) ⟨rfl, Chg.refl _ _⟩, ?_⟩
   refine ⟨u8 ((((mixI (mixA (mixS l k) (4 * k)) (allOf (mixA (mixS l k) (4 * k))) (mixS l k) (4 * k) r)).getD ((4 * k) + r) 0#8) ^^^ ((allOf (mixA (mixS l k) (4 * k))) ^^^ (xt (((mixA (mixS l k) (4 * k)).getD r 0#8) ^^^ ((mixA (mixS l k) (4 * k)).getD ((r + 1) % 4) 0#8))))), fun _ uw50 hC51 _ => Gives.run rfl (r_xor8 (a := ((mixI (mixA (mixS l k) (4 * k)) (allOf (mixA (mixS l k) (4 * k))) (mixS l k) (4 * k) r)).getD ((4 * k) + r) 0#8) (b := (allOf (mixA (mixS l k) (4 * k))) ^^^ (xt (((mixA (mixS l k) (4 * k)).getD r 0#8) ^^^ ((mixA (mixS l k) (4 * k)).getD ((r + 1) % 4) 0#8)))) rfl rfl) ⟨rfl, Chg.refl _ _⟩, ?_⟩
   refine ⟨pT b, fun _ uw52 hC53 _ => Gives.run rfl (r_nilCheck rfl) ⟨rfl, Chg.refl _ _⟩, ?_⟩
   refine ⟨.pointer (some ⟨b, (4 * k) + r, none⟩), fun _ uw54 hC55 _ => Gives.run rfl (r_indexA (off' := (4 * k) + r) (j := (4 * k) + r) arr124 (b := b) (off := 0) rfl rfl (by first | rfl | omega | (simp; omega)) (by omega) (by omega)) ⟨rfl, Chg.refl _ _⟩, ?_⟩
   intro r59 w56 hE58 hF
   have H57 := H11.ext hE58
   refine d_store (k := 1) (v := u8 ((((mixI (mixA (mixS l k) (4 * k)) (allOf (mixA (mixS l k) (4 * k))) (mixS l k) (4 * k) r)).getD ((4 * k) + r) 0#8) ^^^ ((allOf (mixA (mixS l k) (4 * k))) ^^^ (xt (((mixA (mixS l k) (4 * k)).getD r 0#8) ^^^ ((mixA (mixS l k) (4 * k)).getD ((r + 1) % 4) 0#8)))))) (cs' := (cel E8 ((mixI (mixA (mixS l k) (4 * k)) (allOf (mixA (mixS l k) (4 * k))) (mixS l k) (4 * k) r).set ((4 * k) + r) ((((mixI (mixA (mixS l k) (4 * k)) (allOf (mixA (mixS l k) (4 * k))) (mixS l k) (4 * k) r)).getD ((4 * k) + r) 0#8) ^^^ ((allOf (mixA (mixS l k) (4 * k))) ^^^ (xt (((mixA (mixS l k) (4 * k)).getD r 0#8) ^^^ ((mixA (mixS l k) (4 * k)).getD ((r + 1) % 4) 0#8))))))).toArray) H57 rfl rfl rfl siz5 (by rfl) (by exact E8.one _) (by rw [List.size_toArray, cel_length]; show _ ≤ _ * 1; first | omega | (simp only [List.length_set]; omega) | exact bLe rfl | (simp <;> omega)) (by exact put1 (E := E8) rfl _ _ _) ?_
   intro w60 H61 hC62
   have H61' := H61.as (L' := [(some b3, .cells (cel E8 (mixA (mixS l k) (4 * k))).toArray 217 (0, 0)), (some b, .cells (cel E8 ((mixI (mixA (mixS l k) (4 * k)) (allOf (mixA (mixS l k) (4 * k))) (mixS l k) (4 * k) r).set ((4 * k) + r) ((((mixI (mixA (mixS l k) (4 * k)) (allOf (mixA (mixS l k) (4 * k))) (mixS l k) (4 * k) r)).getD ((4 * k) + r) 0#8) ^^^ ((allOf (mixA (mixS l k) (4 * k))) ^^^ (xt (((mixA (mixS l k) (4 * k)).getD r 0#8) ^^^ ((mixA (mixS l k) (4 * k)).getD ((r + 1) % 4) 0#8))))))).toArray 124 (0, 0))]) rfl
   clear H61
   refine wnil ?_
   refine blockNormal ?_
   refine thenNormal ?_
   refine oneRegion ?_
   refine sq (r_addI (a := (r : Nat)) (b := (1 : Int)) rfl rfl (by omega)) ?_
   refine sM (i64 ((r : Nat) + (1 : Int))) rfl ?_
   refine wnil ?_
   refine thenNormal ?_
   exact ⟨r + 1, _, rfl, ⟨rfl, rfl, rfl, rfl, rfl, trivial⟩, ⟨by omega, H61'⟩, by show 4 - (r + 1) < 4 - r; omega⟩
  ·skip
   obtain rfl : r = 4 := by omega
   have H63 := H11.as (L' := [(some b3, .cells (cel E8 (mixA (mixS l k) (4 * k))).toArray 217 (0, 0)), (some b, .cells (cel E8 (mixS l (k + 1))).toArray 124 (0, 0))]) (rfl)
   refine exitAny ?_
   refine thenExit ?_
   refine thenExit ?_
   refine blockHere ?_
   refine blockNormal ?_
   refine thenNormal ?_
   refine oneRegion ?_
   refine sM (i64 ((4 * k : Nat))) rfl ?_
   refine sq (r_addI (a := (4 * k : Nat)) (b := (4 : Int)) rfl rfl (by omega)) ?_
   refine sA (i64 ((4 * k : Nat) + (4 : Int))) rfl ?_
   refine wnil ?_
   refine thenNormal ?_
   exact ⟨k + 1, _, rfl, ⟨rfl, congrArg i64 (by omega), trivial⟩, ⟨by omega, H63.drop1⟩, by show 4 - (k + 1) < 4 - k; omega⟩
 ·skip
  obtain rfl : k = 4 := by omega
  have H64 := H2.as (L' := [(some b, .cells (cel E8 (mixS l 4)).toArray 124 (0, 0))]) (rfl)
  refine exitAny ?_
  refine thenExit ?_
  refine thenExit ?_
  refine blockHere ?_
  refine endG (rs := []) (vs := []) rfl trivial ?_
  exact ⟨_, rfl, rfl, H64.chg, H64.get (k := 0) rfl⟩
theorem new_ok (key : List By) (hk : key.length = 16) (w : World) : Calls Tryd.prog 96 [.agg (cel E8 key).toArray].toArray w (Ret fun v w' => (∃ b, v = pT b ∧ w.heap.size ≤ b ∧ w'.heap[b]? = some (.cells (cel E8 (cipher key)).toArray 215 (0, 0))) ∧ Ext w w') := by
 have H := Hp.start No w
 refine enter (n := 99) Tryd.func96 rfl rfl (bLe rfl) ?_
 refine sR ?_
 refine q_box (v := .agg (cel E8 key).toArray) (o := .cells (cel E8 key).toArray 124 (0, 0)) H rfl (by rfl) ?_
 intro b1 w2 hb1 H3 hE4
 refine sA (.pointer none) rfl ?_
 refine wend ?_
 refine sR ?_
 refine sq (r_build (cs' := (List.replicate 432 (.int .u8 0)).toArray) (ps := []) zer215 pls215 rfl (by rfl)) ?_
 refine q_box (v := .agg (List.replicate 432 (.int .u8 0)).toArray) (o := .cells (cel E8 (List.replicate 432 0#8)).toArray 215 (0, 0)) H3 rfl (by kernel_rfl) ?_
 intro b5 w6 hb5 H7 hE8
 refine sA (pT b5) rfl ?_
 refine wend ?_
 refine sR ?_
 refine sM (pT b5) rfl ?_
 refine c_call (vs := [pT b5]) call115 rfl (fill_ok b5 (List.replicate 432 0#8) List.length_replicate w6 (H7.get (k := 0) rfl)) ?_
 rintro _ w9 ⟨rfl, hcw9, hnw9⟩
 have H11 := (H7.set (k := 0) rfl hcw9 hnw9).as (L' := [(some b5, .cells (cel E8 (fillL (List.replicate 432 0#8))).toArray 215 (0, 0)), (some b1, .cells (cel E8 key).toArray 124 (0, 0))]) rfl
 refine wend ?_
 refine seqAny ?_
 refine drawAny (K := [none, none, none, none, none]) [0, 0, 1, 5, 15, 31] (fun w' => Ext w9 w') (fun w' w'' => Ext w' w'') mixed (by kernel_rfl) (Ext.drew _) (fun _ _ h h' => h.trans h') ?_ ?_
 ·exact relNone (by decide)
 refine ⟨pT b5, fun _ uw12 hC13 _ => Gives.run rfl (r_move (v := pT b5) rfl) ⟨rfl, Chg.refl _ _⟩, ?_⟩
 refine ⟨.agg (cel E8 key).toArray, fun _ uw14 hC15 _ => Gives.run rfl (r_loadA (cs' := (cel E8 key).toArray) agg124 siz124 ((H11.ext hC15).get (k := 1) rfl) (off := 0) rfl (by rw [List.size_toArray, cel_length]; show _ ≤ _ * 1; omega) (by exact ext_all (by rw [cel_length]; show _ * 1 = _; omega))) ⟨rfl, Chg.refl _ _⟩, ?_⟩
 refine ⟨pT b5, fun _ uw16 hC17 _ => Gives.run rfl (r_nilCheck rfl) ⟨rfl, Chg.refl _ _⟩, ?_⟩
 refine ⟨pT b5, fun _ uw18 hC19 _ => Gives.run rfl (r_fieldAddr (off' := 0) fld215_0 (by decide) (b := b5) (off := 0) rfl (by omega)) ⟨rfl, Chg.refl _ _⟩, ?_⟩
 refine ⟨pT b5, fun _ uw20 hC21 _ => Gives.run rfl (r_indexA (off' := 0) (j := 0) arr212 (b := b5) (off := 0) rfl rfl (by first | rfl | omega | (simp; omega)) (by omega) (by omega)) ⟨rfl, Chg.refl _ _⟩, ?_⟩
 intro r25 w22 hE24 hF
 have H23 := H11.ext hE24
 refine d_store (k := 0) (v := .agg (cel E8 key).toArray) (cs' := (cel E8 ((newS key 0).1)).toArray) H23 rfl rfl rfl siz124 (by exact celSize (by rw [hk]; rfl)) (by exact celOne _) (by rw [List.size_toArray, cel_length, fillL_len, List.length_replicate]; decide) (by rw [newS_zero]; exact put0 (by rw [hk, fillL_len, List.length_replicate]; decide)) ?_
 intro w26 H27 hC28
 have H27' := H27.as (L' := [(some b5, .cells (cel E8 ((newS key 0).1)).toArray 215 (0, 0)), (some b1, .cells (cel E8 key).toArray 124 (0, 0))]) rfl
 clear H27
 refine wnil ?_
 refine thenNormal ?_
 refine sR ?_
 refine sA (u8 (1#8)) rfl ?_
 refine wend ?_
 refine seqAny ?_
 refine sR ?_
 refine sA (i64 ((1 : Int))) rfl ?_
 refine wend ?_
 refine blockAny ?_
 refine loopAny (σ := Nat) (fun k => [(3, pT b5), (4, u8 ((newS key k).2)), (5, i64 ((k + 1 : Nat)))]) (fun k w' => k ≤ 10 ∧ Hp No w w' [(some b5, .cells (cel E8 ((newS key k).1)).toArray 215 (0, 0)), (some b1, .cells (cel E8 key).toArray 124 (0, 0))]) (fun k => 10 - k) (0) ?_ ?_ ?_
 ·exact ⟨rfl, rfl, rfl, trivial⟩
 ·exact ⟨by omega, H27'⟩
 rintro k ρ w29 ⟨hk10, H30⟩
 have hl := newS_len key hk k
 refine seqAny ?_
 refine sR ?_
 refine sM (i64 ((k + 1 : Nat))) rfl ?_
 refine sq (r_leqI (a := (k + 1 : Nat)) (b := (10 : Int)) rfl rfl) ?_
 refine wend ?_
 refine condProp (((k + 1 : Nat) : Int) ≤ (10 : Int)) rfl (fun c20 => ?_) (fun c20 => ?_)
 ·skip
  refine skipAny ?_
  refine thenNormal ?_
  refine seqAny ?_
  refine blockAny ?_
  refine seqAny ?_
  refine drawAny (K := [none, none, none, none, none, none, none, none, none, none, none, none, none]) [0, 0, 2, 1, 9, 31, 0, 0, 64, 320, 960, 63, 4095] (fun w' => Ext w29 w') (fun w' w'' => Ext w' w'') mixed (by kernel_rfl) (Ext.drew _) (fun _ _ h h' => h.trans h') ?_ ?_
  ·exact relNone (by decide)
  refine ⟨pT b5, fun _ uw31 hC32 _ => Gives.run rfl (r_move (v := pT b5) rfl) ⟨rfl, Chg.refl _ _⟩, ?_⟩
  refine ⟨i64 ((k + 1 : Nat)), fun _ uw33 hC34 _ => Gives.run rfl (r_move (v := i64 ((k + 1 : Nat))) rfl) ⟨rfl, Chg.refl _ _⟩, ?_⟩
  refine ⟨i64 ((k + 1 : Nat) - (1 : Int)), fun _ uw35 hC36 _ => Gives.run rfl (r_subI (a := (k + 1 : Nat)) (b := (1 : Int)) rfl rfl (by omega)) ⟨rfl, Chg.refl _ _⟩, ?_⟩
  refine ⟨pT b5, fun _ uw37 hC38 _ => Gives.run rfl (r_nilCheck rfl) ⟨rfl, Chg.refl _ _⟩, ?_⟩
  refine ⟨pT b5, fun _ uw39 hC40 _ => Gives.run rfl (r_fieldAddr (off' := 0) fld215_0 (by decide) (b := b5) (off := 0) rfl (by omega)) ⟨rfl, Chg.refl _ _⟩, ?_⟩
  refine ⟨.pointer (some ⟨b5, (k + 1 - 1) * 16, none⟩), fun _ uw41 hC42 _ => Gives.run rfl (r_indexA (off' := (k + 1 - 1) * 16) (j := k + 1 - 1) arr212 (b := b5) (off := 0) rfl rfl (by first | rfl | omega | (simp; omega)) (by omega) (by omega)) ⟨rfl, Chg.refl _ _⟩, ?_⟩
  refine ⟨pT b5, fun _ uw43 hC44 _ => Gives.run rfl (r_move (v := pT b5) rfl) ⟨rfl, Chg.refl _ _⟩, ?_⟩
  refine ⟨i64 ((k + 1 : Nat)), fun _ uw45 hC46 _ => Gives.run rfl (r_move (v := i64 ((k + 1 : Nat))) rfl) ⟨rfl, Chg.refl _ _⟩, ?_⟩
  refine ⟨pT b5, fun _ uw47 hC48 _ => Gives.run rfl (r_nilCheck rfl) ⟨rfl, Chg.refl _ _⟩, ?_⟩
  refine ⟨pT b5, fun _ uw49 hC50 _ => Gives.run rfl (r_fieldAddr (off' := 0) fld215_0 (by decide) (b := b5) (off := 0) rfl (by omega)) ⟨rfl, Chg.refl _ _⟩, ?_⟩
  refine ⟨.pointer (some ⟨b5, (k + 1) * 16, none⟩), fun _ uw51 hC52 _ => Gives.run rfl (r_indexA (off' := (k + 1) * 16) (j := k + 1) arr212 (b := b5) (off := 0) rfl rfl (by first | rfl | omega | (simp; omega)) (by omega) (by omega)) ⟨rfl, Chg.refl _ _⟩, ?_⟩
  refine ⟨.pointer (some ⟨b5, (k + 1 - 1) * 16, none⟩), fun _ uw53 hC54 _ => Gives.run rfl (r_assign (v := .pointer (some ⟨b5, (k + 1 - 1) * 16, none⟩)) rfl) ⟨rfl, Chg.refl _ _⟩, ?_⟩
  refine ⟨.pointer (some ⟨b5, (k + 1) * 16, none⟩), fun _ uw55 hC56 _ => Gives.run rfl (r_assign (v := .pointer (some ⟨b5, (k + 1) * 16, none⟩)) rfl) ⟨rfl, Chg.refl _ _⟩, ?_⟩
  intro r60 w57 hE59 hF
  have H58 := H30.ext hE59
  refine wnil ?_
  refine thenNormal ?_
  refine seqAny ?_
  refine drawAny (K := [none, none, none, none, none, none, none, none, none, none, none, none, none, none, none, none, none, none, none, none, none, none, none, none, none, none, none, none, none, none, none, none, none, none, none, none, none, none, none, some (allocRel w57 (.cells (cel E8 [0#8, 0#8, 0#8, 0#8]).toArray 217 (0, 0)))]) [0, 0, 2, 6, 14, 1, 33, 127, 255, 0, 1023, 0, 0, 4096, 12288, 28672, 2048, 67584, 260096, 522240, 0, 0, 2097152, 6291456, 14680064, 1048576, 34603008, 133169152, 267386880, 0, 0, 1073741824, 3221225472, 7516192768, 536870912, 17716740096, 68182605824, 136902082560, 274877906943, 0, 1099511627775] (fun w' => Ext w57 w') (fun w' w'' => Ext w' w'') mixed (by kernel_rfl) (Ext.drew _) (fun _ _ h h' => h.trans h') ?_ ?_
  ·exact relOne 39 _ rfl rfl allocRel_stable (fun _ _ _ _ _ h => h)
  refine ⟨pT b5, fun _ uw61 hC62 _ => Gives.run rfl (r_move (v := pT b5) rfl) ⟨rfl, Chg.refl _ _⟩, ?_⟩
  refine ⟨.pointer (some ⟨b5, (k + 1 - 1) * 16, none⟩), fun _ uw63 hC64 _ => Gives.run rfl (r_move (v := .pointer (some ⟨b5, (k + 1 - 1) * 16, none⟩)) rfl) ⟨rfl, Chg.refl _ _⟩, ?_⟩
  refine ⟨.pointer (some ⟨b5, (k + 1 - 1) * 16, none⟩), fun _ uw65 hC66 _ => Gives.run rfl (r_nilCheck rfl) ⟨rfl, Chg.refl _ _⟩, ?_⟩
  refine ⟨.pointer (some ⟨b5, ((k + 1 - 1) * 16) + 13, none⟩), fun _ uw67 hC68 _ => Gives.run rfl (r_indexA (off' := ((k + 1 - 1) * 16) + 13) (j := 13) arr124 (b := b5) (off := (k + 1 - 1) * 16) rfl rfl (by first | rfl | omega | (simp; omega)) (by omega) (by omega)) ⟨rfl, Chg.refl _ _⟩, ?_⟩
  refine ⟨u8 (((newS key k).1).getD (((k + 1 - 1) * 16) + 13) 0#8), fun _ uw69 hC70 _ => Gives.run rfl (r_ld1 (E := E8) (l := (newS key k).1) (j := ((k + 1 - 1) * 16) + 13) (a := ((newS key k).1).getD (((k + 1 - 1) * 16) + 13) 0#8) fits5 ((H58.ext hC70).get (k := 0) rfl) (at_getD (by first | omega | (simp only [List.length_set]; omega) | exact bLe rfl | (simp <;> omega))) rfl rfl) ⟨rfl, Chg.refl _ _⟩, ?_⟩
  refine ⟨pT b5, fun _ uw71 hC72 _ => Gives.run rfl (r_nilCheck rfl) ⟨rfl, Chg.refl _ _⟩, ?_⟩
  refine ⟨.pointer (some ⟨b5, 176, none⟩), fun _ uw73 hC74 _ => Gives.run rfl (r_fieldAddr (off' := 176) fld215_1 (by decide) (b := b5) (off := 0) rfl (by omega)) ⟨rfl, Chg.refl _ _⟩, ?_⟩
  refine ⟨.pointer (some ⟨b5, 176 + ((((newS key k).1).getD (((k + 1 - 1) * 16) + 13) 0#8).toNat), none⟩), fun _ uw75 hC76 _ => Gives.run rfl (r_indexA (off' := 176 + ((((newS key k).1).getD (((k + 1 - 1) * 16) + 13) 0#8).toNat)) (j := (((newS key k).1).getD (((k + 1 - 1) * 16) + 13) 0#8).toNat) arr213 (b := b5) (off := 176) rfl rfl (by first | rfl | omega | (simp; omega)) (BitVec.isLt _) (by omega)) ⟨rfl, Chg.refl _ _⟩, ?_⟩
  refine ⟨u8 (((newS key k).1).getD (176 + ((((newS key k).1).getD (((k + 1 - 1) * 16) + 13) 0#8).toNat)) 0#8), fun _ uw77 hC78 _ => Gives.run rfl (r_ld1 (E := E8) (l := (newS key k).1) (j := 176 + ((((newS key k).1).getD (((k + 1 - 1) * 16) + 13) 0#8).toNat)) (a := ((newS key k).1).getD (176 + ((((newS key k).1).getD (((k + 1 - 1) * 16) + 13) 0#8).toNat)) 0#8) fits5 ((H58.ext hC78).get (k := 0) rfl) (at_getD (by have := ((newS key k).1.getD ((k + 1 - 1) * 16 + 13) 0#8).isLt; omega)) rfl rfl) ⟨rfl, Chg.refl _ _⟩, ?_⟩
  refine ⟨u8 ((newS key k).2), fun _ uw79 hC80 _ => Gives.run rfl (r_move (v := u8 ((newS key k).2)) rfl) ⟨rfl, Chg.refl _ _⟩, ?_⟩
  refine ⟨u8 ((((newS key k).1).getD (176 + ((((newS key k).1).getD (((k + 1 - 1) * 16) + 13) 0#8).toNat)) 0#8) ^^^ ((newS key k).2)), fun _ uw81 hC82 _ => Gives.run rfl (r_xor8 (a := ((newS key k).1).getD (176 + ((((newS key k).1).getD (((k + 1 - 1) * 16) + 13) 0#8).toNat)) 0#8) (b := (newS key k).2) rfl rfl) ⟨rfl, Chg.refl _ _⟩, ?_⟩
  refine ⟨pT b5, fun _ uw83 hC84 _ => Gives.run rfl (r_move (v := pT b5) rfl) ⟨rfl, Chg.refl _ _⟩, ?_⟩
  refine ⟨.pointer (some ⟨b5, (k + 1 - 1) * 16, none⟩), fun _ uw85 hC86 _ => Gives.run rfl (r_move (v := .pointer (some ⟨b5, (k + 1 - 1) * 16, none⟩)) rfl) ⟨rfl, Chg.refl _ _⟩, ?_⟩
  refine ⟨.pointer (some ⟨b5, (k + 1 - 1) * 16, none⟩), fun _ uw87 hC88 _ => Gives.run rfl (r_nilCheck rfl) ⟨rfl, Chg.refl _ _⟩, ?_⟩
  refine ⟨.pointer (some ⟨b5, ((k + 1 - 1) * 16) + 14, none⟩), fun _ uw89 hC90 _ => Gives.run rfl (r_indexA (off' := ((k + 1 - 1) * 16) + 14) (j := 14) arr124 (b := b5) (off := (k + 1 - 1) * 16) rfl rfl (by first | rfl | omega | (simp; omega)) (by omega) (by omega)) ⟨rfl, Chg.refl _ _⟩, ?_⟩
  refine ⟨u8 (((newS key k).1).getD (((k + 1 - 1) * 16) + 14) 0#8), fun _ uw91 hC92 _ => Gives.run rfl (r_ld1 (E := E8) (l := (newS key k).1) (j := ((k + 1 - 1) * 16) + 14) (a := ((newS key k).1).getD (((k + 1 - 1) * 16) + 14) 0#8) fits5 ((H58.ext hC92).get (k := 0) rfl) (at_getD (by first | omega | (simp only [List.length_set]; omega) | exact bLe rfl | (simp <;> omega))) rfl rfl) ⟨rfl, Chg.refl _ _⟩, ?_⟩
  refine ⟨pT b5, fun _ uw93 hC94 _ => Gives.run rfl (r_nilCheck rfl) ⟨rfl, Chg.refl _ _⟩, ?_⟩
  refine ⟨.pointer (some ⟨b5, 176, none⟩), fun _ uw95 hC96 _ => Gives.run rfl (r_fieldAddr (off' := 176) fld215_1 (by decide) (b := b5) (off := 0) rfl (by omega)) ⟨rfl, Chg.refl _ _⟩, ?_⟩
  refine ⟨.pointer (some ⟨b5, 176 + ((((newS key k).1).getD (((k + 1 - 1) * 16) + 14) 0#8).toNat), none⟩), fun _ uw97 hC98 _ => Gives.run rfl (r_indexA (off' := 176 + ((((newS key k).1).getD (((k + 1 - 1) * 16) + 14) 0#8).toNat)) (j := (((newS key k).1).getD (((k + 1 - 1) * 16) + 14) 0#8).toNat) arr213 (b := b5) (off := 176) rfl rfl (by first | rfl | omega | (simp; omega)) (BitVec.isLt _) (by omega)) ⟨rfl, Chg.refl _ _⟩, ?_⟩
  refine ⟨u8 (((newS key k).1).getD (176 + ((((newS key k).1).getD (((k + 1 - 1) * 16) + 14) 0#8).toNat)) 0#8), fun _ uw99 hC100 _ => Gives.run rfl (r_ld1 (E := E8) (l := (newS key k).1) (j := 176 + ((((newS key k).1).getD (((k + 1 - 1) * 16) + 14) 0#8).toNat)) (a := ((newS key k).1).getD (176 + ((((newS key k).1).getD (((k + 1 - 1) * 16) + 14) 0#8).toNat)) 0#8) fits5 ((H58.ext hC100).get (k := 0) rfl) (at_getD (by have := ((newS key k).1.getD ((k + 1 - 1) * 16 + 14) 0#8).isLt; omega)) rfl rfl) ⟨rfl, Chg.refl _ _⟩, ?_⟩
  refine ⟨pT b5, fun _ uw101 hC102 _ => Gives.run rfl (r_move (v := pT b5) rfl) ⟨rfl, Chg.refl _ _⟩, ?_⟩
  refine ⟨.pointer (some ⟨b5, (k + 1 - 1) * 16, none⟩), fun _ uw103 hC104 _ => Gives.run rfl (r_move (v := .pointer (some ⟨b5, (k + 1 - 1) * 16, none⟩)) rfl) ⟨rfl, Chg.refl _ _⟩, ?_⟩
  refine ⟨.pointer (some ⟨b5, (k + 1 - 1) * 16, none⟩), fun _ uw105 hC106 _ => Gives.run rfl (r_nilCheck rfl) ⟨rfl, Chg.refl _ _⟩, ?_⟩
  refine ⟨.pointer (some ⟨b5, ((k + 1 - 1) * 16) + 15, none⟩), fun _ uw107 hC108 _ => Gives.run rfl (r_indexA (off' := ((k + 1 - 1) * 16) + 15) (j := 15) arr124 (b := b5) (off := (k + 1 - 1) * 16) rfl rfl (by first | rfl | omega | (simp; omega)) (by omega) (by omega)) ⟨rfl, Chg.refl _ _⟩, ?_⟩
  refine ⟨u8 (((newS key k).1).getD (((k + 1 - 1) * 16) + 15) 0#8), fun _ uw109 hC110 _ => Gives.run rfl (r_ld1 (E := E8) (l := (newS key k).1) (j := ((k + 1 - 1) * 16) + 15) (a := ((newS key k).1).getD (((k + 1 - 1) * 16) + 15) 0#8) fits5 ((H58.ext hC110).get (k := 0) rfl) (at_getD (by first | omega | (simp only [List.length_set]; omega) | exact bLe rfl | (simp <;> omega))) rfl rfl) ⟨rfl, Chg.refl _ _⟩, ?_⟩
  refine ⟨pT b5, fun _ uw111 hC112 _ => Gives.run rfl (r_nilCheck rfl) ⟨rfl, Chg.refl _ _⟩, ?_⟩
  refine ⟨.pointer (some ⟨b5, 176, none⟩), fun _ uw113 hC114 _ => Gives.run rfl (r_fieldAddr (off' := 176) fld215_1 (by decide) (b := b5) (off := 0) rfl (by omega)) ⟨rfl, Chg.refl _ _⟩, ?_⟩
  refine ⟨.pointer (some ⟨b5, 176 + ((((newS key k).1).getD (((k + 1 - 1) * 16) + 15) 0#8).toNat), none⟩), fun _ uw115 hC116 _ => Gives.run rfl (r_indexA (off' := 176 + ((((newS key k).1).getD (((k + 1 - 1) * 16) + 15) 0#8).toNat)) (j := (((newS key k).1).getD (((k + 1 - 1) * 16) + 15) 0#8).toNat) arr213 (b := b5) (off := 176) rfl rfl (by first | rfl | omega | (simp; omega)) (BitVec.isLt _) (by omega)) ⟨rfl, Chg.refl _ _⟩, ?_⟩
  refine ⟨u8 (((newS key k).1).getD (176 + ((((newS key k).1).getD (((k + 1 - 1) * 16) + 15) 0#8).toNat)) 0#8), fun _ uw117 hC118 _ => Gives.run rfl (r_ld1 (E := E8) (l := (newS key k).1) (j := 176 + ((((newS key k).1).getD (((k + 1 - 1) * 16) + 15) 0#8).toNat)) (a := ((newS key k).1).getD (176 + ((((newS key k).1).getD (((k + 1 - 1) * 16) + 15) 0#8).toNat)) 0#8) fits5 ((H58.ext hC118).get (k := 0) rfl) (at_getD (by have := ((newS key k).1.getD ((k + 1 - 1) * 16 + 15) 0#8).isLt; omega)) rfl rfl) ⟨rfl, Chg.refl _ _⟩, ?_⟩
  refine ⟨pT b5, fun _ uw119 hC120 _ => Gives.run rfl (r_move (v := pT b5) rfl) ⟨rfl, Chg.refl _ _⟩, ?_⟩
  refine ⟨.pointer (some ⟨b5, (k + 1 - 1) * 16, none⟩), fun _ uw121 hC122 _ => Gives.run rfl (r_move (v := .pointer (some ⟨b5, (k + 1 - 1) * 16, none⟩)) rfl) ⟨rfl, Chg.refl _ _⟩, ?_⟩
  refine ⟨.pointer (some ⟨b5, (k + 1 - 1) * 16, none⟩), fun _ uw123 hC124 _ => Gives.run rfl (r_nilCheck rfl) ⟨rfl, Chg.refl _ _⟩, ?_⟩
  refine ⟨.pointer (some ⟨b5, ((k + 1 - 1) * 16) + 12, none⟩), fun _ uw125 hC126 _ => Gives.run rfl (r_indexA (off' := ((k + 1 - 1) * 16) + 12) (j := 12) arr124 (b := b5) (off := (k + 1 - 1) * 16) rfl rfl (by first | rfl | omega | (simp; omega)) (by omega) (by omega)) ⟨rfl, Chg.refl _ _⟩, ?_⟩
  refine ⟨u8 (((newS key k).1).getD (((k + 1 - 1) * 16) + 12) 0#8), fun _ uw127 hC128 _ => Gives.run rfl (r_ld1 (E := E8) (l := (newS key k).1) (j := ((k + 1 - 1) * 16) + 12) (a := ((newS key k).1).getD (((k + 1 - 1) * 16) + 12) 0#8) fits5 ((H58.ext hC128).get (k := 0) rfl) (at_getD (by first | omega | (simp only [List.length_set]; omega) | exact bLe rfl | (simp <;> omega))) rfl rfl) ⟨rfl, Chg.refl _ _⟩, ?_⟩
  refine ⟨pT b5, fun _ uw129 hC130 _ => Gives.run rfl (r_nilCheck rfl) ⟨rfl, Chg.refl _ _⟩, ?_⟩
  refine ⟨.pointer (some ⟨b5, 176, none⟩), fun _ uw131 hC132 _ => Gives.run rfl (r_fieldAddr (off' := 176) fld215_1 (by decide) (b := b5) (off := 0) rfl (by omega)) ⟨rfl, Chg.refl _ _⟩, ?_⟩
  refine ⟨.pointer (some ⟨b5, 176 + ((((newS key k).1).getD (((k + 1 - 1) * 16) + 12) 0#8).toNat), none⟩), fun _ uw133 hC134 _ => Gives.run rfl (r_indexA (off' := 176 + ((((newS key k).1).getD (((k + 1 - 1) * 16) + 12) 0#8).toNat)) (j := (((newS key k).1).getD (((k + 1 - 1) * 16) + 12) 0#8).toNat) arr213 (b := b5) (off := 176) rfl rfl (by first | rfl | omega | (simp; omega)) (BitVec.isLt _) (by omega)) ⟨rfl, Chg.refl _ _⟩, ?_⟩
  refine ⟨u8 (((newS key k).1).getD (176 + ((((newS key k).1).getD (((k + 1 - 1) * 16) + 12) 0#8).toNat)) 0#8), fun _ uw135 hC136 _ => Gives.run rfl (r_ld1 (E := E8) (l := (newS key k).1) (j := 176 + ((((newS key k).1).getD (((k + 1 - 1) * 16) + 12) 0#8).toNat)) (a := ((newS key k).1).getD (176 + ((((newS key k).1).getD (((k + 1 - 1) * 16) + 12) 0#8).toNat)) 0#8) fits5 ((H58.ext hC136).get (k := 0) rfl) (at_getD (by have := ((newS key k).1.getD ((k + 1 - 1) * 16 + 12) 0#8).isLt; omega)) rfl rfl) ⟨rfl, Chg.refl _ _⟩, ?_⟩
  refine ⟨.agg (cel E8 [(((newS key k).1).getD (176 + ((((newS key k).1).getD (((k + 1 - 1) * 16) + 13) 0#8).toNat)) 0#8) ^^^ ((newS key k).2), ((newS key k).1).getD (176 + ((((newS key k).1).getD (((k + 1 - 1) * 16) + 14) 0#8).toNat)) 0#8, ((newS key k).1).getD (176 + ((((newS key k).1).getD (((k + 1 - 1) * 16) + 15) 0#8).toNat)) 0#8, ((newS key k).1).getD (176 + ((((newS key k).1).getD (((k + 1 - 1) * 16) + 12) 0#8).toNat)) 0#8]).toArray, fun _ uw137 hC138 _ => Gives.run rfl (r_buildA (cs' := (cel E8 [(((newS key k).1).getD (176 + ((((newS key k).1).getD (((k + 1 - 1) * 16) + 13) 0#8).toNat)) 0#8) ^^^ ((newS key k).2), ((newS key k).1).getD (176 + ((((newS key k).1).getD (((k + 1 - 1) * 16) + 14) 0#8).toNat)) 0#8, ((newS key k).1).getD (176 + ((((newS key k).1).getD (((k + 1 - 1) * 16) + 15) 0#8).toNat)) 0#8, ((newS key k).1).getD (176 + ((((newS key k).1).getD (((k + 1 - 1) * 16) + 12) 0#8).toNat)) 0#8]).toArray) (ps := [(0, u8 ((((newS key k).1).getD (176 + ((((newS key k).1).getD (((k + 1 - 1) * 16) + 13) 0#8).toNat)) 0#8) ^^^ ((newS key k).2))), (1, u8 (((newS key k).1).getD (176 + ((((newS key k).1).getD (((k + 1 - 1) * 16) + 14) 0#8).toNat)) 0#8)), (2, u8 (((newS key k).1).getD (176 + ((((newS key k).1).getD (((k + 1 - 1) * 16) + 15) 0#8).toNat)) 0#8)), (3, u8 (((newS key k).1).getD (176 + ((((newS key k).1).getD (((k + 1 - 1) * 16) + 12) 0#8).toNat)) 0#8))]) zer217 arr217 rfl (by rfl)) ⟨rfl, Chg.refl _ _⟩, ?_⟩
  refine ⟨fun r uw139 hC140 hF => ?_, ?_⟩
  ·exact allocGives zer217 (by kernel_rfl) hC140
  intro r144 w141 hE143 hF
  have H142 := H58.ext hE143
  obtain ⟨b8, hb8, hbs, hbo⟩ := hF 39 _ rfl
  dsimp only
  rw [hb8]
  have H8 := H58.add1 hE143 hbs hbo
  refine d_store (k := 0) (v := .agg (cel E8 [(((newS key k).1).getD (176 + ((((newS key k).1).getD (((k + 1 - 1) * 16) + 13) 0#8).toNat)) 0#8) ^^^ ((newS key k).2), ((newS key k).1).getD (176 + ((((newS key k).1).getD (((k + 1 - 1) * 16) + 14) 0#8).toNat)) 0#8, ((newS key k).1).getD (176 + ((((newS key k).1).getD (((k + 1 - 1) * 16) + 15) 0#8).toNat)) 0#8, ((newS key k).1).getD (176 + ((((newS key k).1).getD (((k + 1 - 1) * 16) + 12) 0#8).toNat)) 0#8]).toArray) (cs' := (cel E8 (t0 (newS key k).1 (k + 1) (newS key k).2)).toArray) H8 rfl rfl rfl siz217 (by exact celSize rfl) (by exact celOne _) (by exact bLe rfl) (by exact putAll rfl) ?_
  intro w145 H146 hC147
  have H146' := H146.as (L' := [(some b8, .cells (cel E8 (t0 (newS key k).1 (k + 1) (newS key k).2)).toArray 217 (0, 0)), (some b5, .cells (cel E8 ((newS key k).1)).toArray 215 (0, 0)), (some b1, .cells (cel E8 key).toArray 124 (0, 0))]) rfl
  clear H146
  refine wnil ?_
  refine thenNormal ?_
  refine seqAny ?_
  refine sR ?_
  refine sM (i64 ((0 : Int))) rfl ?_
  refine wend ?_
  refine blockAny ?_
  refine loopAny (σ := Nat) (fun i => [(3, pT b5), (4, u8 ((newS key k).2)), (5, i64 ((k + 1 : Nat))), (6, .pointer (some ⟨b5, (k + 1 - 1) * 16, none⟩)), (7, .pointer (some ⟨b5, (k + 1) * 16, none⟩)), (8, pT b8), (73, i64 (i : Nat))]) (fun i w' => i ≤ 16 ∧ Hp No w w' [(some b8, .cells (cel E8 ((innS (newS key k).1 (t0 (newS key k).1 (k + 1) (newS key k).2) (k + 1) i).2)).toArray 217 (0, 0)), (some b5, .cells (cel E8 ((innS (newS key k).1 (t0 (newS key k).1 (k + 1) (newS key k).2) (k + 1) i).1)).toArray 215 (0, 0)), (some b1, .cells (cel E8 key).toArray 124 (0, 0))]) (fun i => 16 - i) (0) ?_ ?_ ?_
  ·exact ⟨rfl, rfl, rfl, rfl, rfl, rfl, rfl, trivial⟩
  ·exact ⟨by omega, H146'⟩
  rintro i ρ w148 ⟨hi, H149⟩
  have hi1 := (innS_len (newS key k).1 (t0 (newS key k).1 (k + 1) (newS key k).2) (k + 1) i).1
  rw [hl] at hi1
  have hi2 := (innS_len (newS key k).1 (t0 (newS key k).1 (k + 1) (newS key k).2) (k + 1) i).2
  rw [show (t0 (newS key k).1 (k + 1) (newS key k).2).length = 4 from rfl] at hi2
  refine sR ?_
  refine sq (r_lssI (a := (i : Nat)) (b := (16 : Int)) rfl rfl) ?_
  refine wend ?_
  refine seqAny ?_
  refine condProp (((i : Nat) : Int) < (16 : Int)) rfl (fun c74 => ?_) (fun c74 => ?_)
  ·skip
   refine skipAny ?_
   refine thenNormal ?_
   refine seqAny ?_
   refine blockAny ?_
   refine sR ?_
   refine sM (i64 (i : Nat)) rfl ?_
   refine sA (i64 (i : Nat)) rfl ?_
   refine wend ?_
   refine seqAny ?_
   refine drawAny (K := [none, none, none, none, none, none, none, none, none, none, none]) [0, 1, 3, 7, 0, 0, 16, 112, 240, 511, 1023, 2047] (fun w' => Ext w148 w') (fun w' w'' => Ext w' w'') mixed (by kernel_rfl) (Ext.drew _) (fun _ _ h h' => h.trans h') ?_ ?_
   ·exact relNone (by decide)
   refine ⟨i64 (i : Nat), fun _ uw150 hC151 _ => Gives.run rfl (r_move (v := i64 (i : Nat)) rfl) ⟨rfl, Chg.refl _ _⟩, ?_⟩
   refine ⟨i64 ((i : Nat) % (4 : Int)), fun _ uw152 hC153 _ => Gives.run rfl (r_remI (a := (i : Nat)) (b := (4 : Int)) rfl rfl (by omega)) ⟨rfl, Chg.refl _ _⟩, ?_⟩
   refine ⟨.pointer (some ⟨b8, i % 4, none⟩), fun _ uw154 hC155 _ => Gives.run rfl (r_indexA (off' := i % 4) (j := i % 4) arr217 (b := b8) (off := 0) rfl rfl (by first | rfl | omega | (simp; omega)) (by omega) (by omega)) ⟨rfl, Chg.refl _ _⟩, ?_⟩
   refine ⟨u8 (((innS (newS key k).1 (t0 (newS key k).1 (k + 1) (newS key k).2) (k + 1) i).2).getD (i % 4) 0#8), fun _ uw156 hC157 _ => Gives.run rfl (r_ld1 (E := E8) (l := (innS (newS key k).1 (t0 (newS key k).1 (k + 1) (newS key k).2) (k + 1) i).2) (j := i % 4) (a := ((innS (newS key k).1 (t0 (newS key k).1 (k + 1) (newS key k).2) (k + 1) i).2).getD (i % 4) 0#8) fits5 ((H149.ext hC157).get (k := 0) rfl) (at_getD (by first | omega | (simp only [List.length_set]; omega) | exact bLe rfl | (simp <;> omega))) rfl rfl) ⟨rfl, Chg.refl _ _⟩, ?_⟩
   refine ⟨.pointer (some ⟨b5, (k + 1 - 1) * 16, none⟩), fun _ uw158 hC159 _ => Gives.run rfl (r_move (v := .pointer (some ⟨b5, (k + 1 - 1) * 16, none⟩)) rfl) ⟨rfl, Chg.refl _ _⟩, ?_⟩
   refine ⟨i64 (i : Nat), fun _ uw160 hC161 _ => Gives.run rfl (r_move (v := i64 (i : Nat)) rfl) ⟨rfl, Chg.refl _ _⟩, ?_⟩
   refine ⟨.pointer (some ⟨b5, (k + 1 - 1) * 16, none⟩), fun _ uw162 hC163 _ => Gives.run rfl (r_nilCheck rfl) ⟨rfl, Chg.refl _ _⟩, ?_⟩
   refine ⟨.pointer (some ⟨b5, ((k + 1 - 1) * 16) + i, none⟩), fun _ uw164 hC165 _ => Gives.run rfl (r_indexA (off' := ((k + 1 - 1) * 16) + i) (j := i) arr124 (b := b5) (off := (k + 1 - 1) * 16) rfl rfl (by first | rfl | omega | (simp; omega)) (by omega) (by omega)) ⟨rfl, Chg.refl _ _⟩, ?_⟩
   refine ⟨u8 (((innS (newS key k).1 (t0 (newS key k).1 (k + 1) (newS key k).2) (k + 1) i).1).getD (((k + 1 - 1) * 16) + i) 0#8), fun _ uw166 hC167 _ => Gives.run rfl (r_ld1 (E := E8) (l := (innS (newS key k).1 (t0 (newS key k).1 (k + 1) (newS key k).2) (k + 1) i).1) (j := ((k + 1 - 1) * 16) + i) (a := ((innS (newS key k).1 (t0 (newS key k).1 (k + 1) (newS key k).2) (k + 1) i).1).getD (((k + 1 - 1) * 16) + i) 0#8) fits5 ((H149.ext hC167).get (k := 1) rfl) (at_getD (by first | omega | (simp only [List.length_set]; omega) | exact bLe rfl | (simp <;> omega))) rfl rfl) ⟨rfl, Chg.refl _ _⟩, ?_⟩
   refine ⟨u8 ((((innS (newS key k).1 (t0 (newS key k).1 (k + 1) (newS key k).2) (k + 1) i).2).getD (i % 4) 0#8) ^^^ (((innS (newS key k).1 (t0 (newS key k).1 (k + 1) (newS key k).2) (k + 1) i).1).getD (((k + 1 - 1) * 16) + i) 0#8)), fun _ uw168 hC169 _ => Gives.run rfl (r_xor8 (a := ((innS (newS key k).1 (t0 (newS key k).1 (k + 1) (newS key k).2) (k + 1) i).2).getD (i % 4) 0#8) (b := ((innS (newS key k).1 (t0 (newS key k).1 (k + 1) (newS key k).2) (k + 1) i).1).getD (((k + 1 - 1) * 16) + i) 0#8) rfl rfl) ⟨rfl, Chg.refl _ _⟩, ?_⟩
   refine ⟨.pointer (some ⟨b8, i % 4, none⟩), fun _ uw170 hC171 _ => Gives.run rfl (r_indexA (off' := i % 4) (j := i % 4) arr217 (b := b8) (off := 0) rfl rfl (by first | rfl | omega | (simp; omega)) (by omega) (by omega)) ⟨rfl, Chg.refl _ _⟩, ?_⟩
   intro r175 w172 hE174 hF
   have H173 := H149.ext hE174
   refine d_store (k := 0) (v := u8 ((((innS (newS key k).1 (t0 (newS key k).1 (k + 1) (newS key k).2) (k + 1) i).2).getD (i % 4) 0#8) ^^^ (((innS (newS key k).1 (t0 (newS key k).1 (k + 1) (newS key k).2) (k + 1) i).1).getD (((k + 1 - 1) * 16) + i) 0#8))) (cs' := (cel E8 (((innS (newS key k).1 (t0 (newS key k).1 (k + 1) (newS key k).2) (k + 1) i).2).set (i % 4) ((((innS (newS key k).1 (t0 (newS key k).1 (k + 1) (newS key k).2) (k + 1) i).2).getD (i % 4) 0#8) ^^^ (((innS (newS key k).1 (t0 (newS key k).1 (k + 1) (newS key k).2) (k + 1) i).1).getD (((k + 1 - 1) * 16) + i) 0#8)))).toArray) H173 rfl rfl rfl siz5 (by rfl) (by exact E8.one _) (by rw [List.size_toArray, cel_length]; show _ ≤ _ * 1; first | omega | (simp only [List.length_set]; omega) | exact bLe rfl | (simp <;> omega)) (by exact put1 (E := E8) rfl _ _ _) ?_
   intro w176 H177 hC178
   have H177' := H177.as (L' := [(some b8, .cells (cel E8 (((innS (newS key k).1 (t0 (newS key k).1 (k + 1) (newS key k).2) (k + 1) i).2).set (i % 4) ((((innS (newS key k).1 (t0 (newS key k).1 (k + 1) (newS key k).2) (k + 1) i).2).getD (i % 4) 0#8) ^^^ (((innS (newS key k).1 (t0 (newS key k).1 (k + 1) (newS key k).2) (k + 1) i).1).getD (((k + 1 - 1) * 16) + i) 0#8)))).toArray 217 (0, 0)), (some b5, .cells (cel E8 ((innS (newS key k).1 (t0 (newS key k).1 (k + 1) (newS key k).2) (k + 1) i).1)).toArray 215 (0, 0)), (some b1, .cells (cel E8 key).toArray 124 (0, 0))]) rfl
   clear H177
   refine wnil ?_
   refine thenNormal ?_
   refine drawAny (K := [none, none, none, none, none, none, none, none]) [0, 0, 0, 4, 12, 28, 1, 127, 255] (fun w' => Ext w176 w') (fun w' w'' => Ext w' w'') mixed (by kernel_rfl) (Ext.drew _) (fun _ _ h h' => h.trans h') ?_ ?_
   ·exact relNone (by decide)
   refine ⟨.pointer (some ⟨b5, (k + 1) * 16, none⟩), fun _ uw179 hC180 _ => Gives.run rfl (r_move (v := .pointer (some ⟨b5, (k + 1) * 16, none⟩)) rfl) ⟨rfl, Chg.refl _ _⟩, ?_⟩
   refine ⟨i64 (i : Nat), fun _ uw181 hC182 _ => Gives.run rfl (r_move (v := i64 (i : Nat)) rfl) ⟨rfl, Chg.refl _ _⟩, ?_⟩
   refine ⟨i64 (i : Nat), fun _ uw183 hC184 _ => Gives.run rfl (r_move (v := i64 (i : Nat)) rfl) ⟨rfl, Chg.refl _ _⟩, ?_⟩
   refine ⟨i64 ((i : Nat) % (4 : Int)), fun _ uw185 hC186 _ => Gives.run rfl (r_remI (a := (i : Nat)) (b := (4 : Int)) rfl rfl (by omega)) ⟨rfl, Chg.refl _ _⟩, ?_⟩
   refine ⟨.pointer (some ⟨b8, i % 4, none⟩), fun _ uw187 hC188 _ => Gives.run rfl (r_indexA (off' := i % 4) (j := i % 4) arr217 (b := b8) (off := 0) rfl rfl (by first | rfl | omega | (simp; omega)) (by omega) (by omega)) ⟨rfl, Chg.refl _ _⟩, ?_⟩
   refine ⟨u8 ((((innS (newS key k).1 (t0 (newS key k).1 (k + 1) (newS key k).2) (k + 1) i).2).set (i % 4) ((((innS (newS key k).1 (t0 (newS key k).1 (k + 1) (newS key k).2) (k + 1) i).2).getD (i % 4) 0#8) ^^^ (((innS (newS key k).1 (t0 (newS key k).1 (k + 1) (newS key k).2) (k + 1) i).1).getD (((k + 1 - 1) * 16) + i) 0#8))).getD (i % 4) 0#8), fun _ uw189 hC190 _ => Gives.run rfl (r_ld1 (E := E8) (l := ((innS (newS key k).1 (t0 (newS key k).1 (k + 1) (newS key k).2) (k + 1) i).2).set (i % 4) ((((innS (newS key k).1 (t0 (newS key k).1 (k + 1) (newS key k).2) (k + 1) i).2).getD (i % 4) 0#8) ^^^ (((innS (newS key k).1 (t0 (newS key k).1 (k + 1) (newS key k).2) (k + 1) i).1).getD (((k + 1 - 1) * 16) + i) 0#8))) (j := i % 4) (a := (((innS (newS key k).1 (t0 (newS key k).1 (k + 1) (newS key k).2) (k + 1) i).2).set (i % 4) ((((innS (newS key k).1 (t0 (newS key k).1 (k + 1) (newS key k).2) (k + 1) i).2).getD (i % 4) 0#8) ^^^ (((innS (newS key k).1 (t0 (newS key k).1 (k + 1) (newS key k).2) (k + 1) i).1).getD (((k + 1 - 1) * 16) + i) 0#8))).getD (i % 4) 0#8) fits5 ((H177'.ext hC190).get (k := 0) rfl) (at_getD (by first | omega | (simp only [List.length_set]; omega) | exact bLe rfl | (simp <;> omega))) rfl rfl) ⟨rfl, Chg.refl _ _⟩, ?_⟩
   refine ⟨.pointer (some ⟨b5, (k + 1) * 16, none⟩), fun _ uw191 hC192 _ => Gives.run rfl (r_nilCheck rfl) ⟨rfl, Chg.refl _ _⟩, ?_⟩
   refine ⟨.pointer (some ⟨b5, ((k + 1) * 16) + i, none⟩), fun _ uw193 hC194 _ => Gives.run rfl (r_indexA (off' := ((k + 1) * 16) + i) (j := i) arr124 (b := b5) (off := (k + 1) * 16) rfl rfl (by first | rfl | omega | (simp; omega)) (by omega) (by omega)) ⟨rfl, Chg.refl _ _⟩, ?_⟩
   intro r198 w195 hE197 hF
   have H196 := H177'.ext hE197
   refine d_store (k := 1) (v := u8 ((((innS (newS key k).1 (t0 (newS key k).1 (k + 1) (newS key k).2) (k + 1) i).2).set (i % 4) ((((innS (newS key k).1 (t0 (newS key k).1 (k + 1) (newS key k).2) (k + 1) i).2).getD (i % 4) 0#8) ^^^ (((innS (newS key k).1 (t0 (newS key k).1 (k + 1) (newS key k).2) (k + 1) i).1).getD (((k + 1 - 1) * 16) + i) 0#8))).getD (i % 4) 0#8)) (cs' := (cel E8 (((innS (newS key k).1 (t0 (newS key k).1 (k + 1) (newS key k).2) (k + 1) i).1).set (((k + 1) * 16) + i) ((((innS (newS key k).1 (t0 (newS key k).1 (k + 1) (newS key k).2) (k + 1) i).2).set (i % 4) ((((innS (newS key k).1 (t0 (newS key k).1 (k + 1) (newS key k).2) (k + 1) i).2).getD (i % 4) 0#8) ^^^ (((innS (newS key k).1 (t0 (newS key k).1 (k + 1) (newS key k).2) (k + 1) i).1).getD (((k + 1 - 1) * 16) + i) 0#8))).getD (i % 4) 0#8))).toArray) H196 rfl rfl rfl siz5 (by rfl) (by exact E8.one _) (by rw [List.size_toArray, cel_length]; show _ ≤ _ * 1; first | omega | (simp only [List.length_set]; omega) | exact bLe rfl | (simp <;> omega)) (by exact put1 (E := E8) rfl _ _ _) ?_
   intro w199 H200 hC201
   have H200' := H200.as (L' := [(some b8, .cells (cel E8 (((innS (newS key k).1 (t0 (newS key k).1 (k + 1) (newS key k).2) (k + 1) i).2).set (i % 4) ((((innS (newS key k).1 (t0 (newS key k).1 (k + 1) (newS key k).2) (k + 1) i).2).getD (i % 4) 0#8) ^^^ (((innS (newS key k).1 (t0 (newS key k).1 (k + 1) (newS key k).2) (k + 1) i).1).getD (((k + 1 - 1) * 16) + i) 0#8)))).toArray 217 (0, 0)), (some b5, .cells (cel E8 (((innS (newS key k).1 (t0 (newS key k).1 (k + 1) (newS key k).2) (k + 1) i).1).set (((k + 1) * 16) + i) ((((innS (newS key k).1 (t0 (newS key k).1 (k + 1) (newS key k).2) (k + 1) i).2).set (i % 4) ((((innS (newS key k).1 (t0 (newS key k).1 (k + 1) (newS key k).2) (k + 1) i).2).getD (i % 4) 0#8) ^^^ (((innS (newS key k).1 (t0 (newS key k).1 (k + 1) (newS key k).2) (k + 1) i).1).getD (((k + 1 - 1) * 16) + i) 0#8))).getD (i % 4) 0#8))).toArray 215 (0, 0)), (some b1, .cells (cel E8 key).toArray 124 (0, 0))]) rfl
   clear H200
   refine wnil ?_
   refine blockNormal ?_
   refine thenNormal ?_
   refine oneRegion ?_
   refine sq (r_addI (a := (i : Nat)) (b := (1 : Int)) rfl rfl (by omega)) ?_
   refine sM (i64 ((i : Nat) + (1 : Int))) rfl ?_
   refine wnil ?_
   refine thenNormal ?_
   exact ⟨i + 1, _, rfl, ⟨rfl, rfl, rfl, rfl, rfl, rfl, rfl, trivial⟩, ⟨by omega, H200'⟩, by show 16 - (i + 1) < 16 - i; omega⟩
  ·skip
   obtain rfl : i = 16 := by omega
   have H202 := H149.as (L' := [(some b8, .cells (cel E8 ((innS (newS key k).1 (t0 (newS key k).1 (k + 1) (newS key k).2) (k + 1) 16).2)).toArray 217 (0, 0)), (some b5, .cells (cel E8 ((newS key (k + 1)).1)).toArray 215 (0, 0)), (some b1, .cells (cel E8 key).toArray 124 (0, 0))]) (by rw [newS_succ])
   refine exitAny ?_
   refine thenExit ?_
   refine thenExit ?_
   refine blockHere ?_
   refine thenNormal ?_
   refine oneRegion ?_
   refine sM (u8 ((newS key k).2)) rfl ?_
   refine c_call (vs := [u8 ((newS key k).2)]) call116 rfl (twice_ok ((newS key k).2) w148) ?_
   rintro _ w203 ⟨rfl, hE204⟩
   have H205 := H202.ext hE204
   refine sA (u8 (xt ((newS key k).2))) rfl ?_
   refine wnil ?_
   refine blockNormal ?_
   refine thenNormal ?_
   refine oneRegion ?_
   refine sM (i64 ((k + 1 : Nat))) rfl ?_
   refine sq (r_addI (a := (k + 1 : Nat)) (b := (1 : Int)) rfl rfl (by omega)) ?_
   refine sA (i64 ((k + 1 : Nat) + (1 : Int))) rfl ?_
   refine wnil ?_
   refine thenNormal ?_
   exact ⟨k + 1, _, rfl, ⟨rfl, rfl, rfl, trivial⟩, ⟨by omega, H205.drop1⟩, by show 10 - (k + 1) < 10 - k; omega⟩
 ·skip
  obtain rfl : k = 10 := by omega
  have H206 := H30.as (L' := [(some b5, .cells (cel E8 (cipher key)).toArray 215 (0, 0)), (some b1, .cells (cel E8 key).toArray 124 (0, 0))]) (by rw [cipher])
  refine exitAny ?_
  refine thenExit ?_
  refine thenExit ?_
  refine blockHere ?_
  refine thenNormal ?_
  refine sR ?_
  refine sM (pT b5) rfl ?_
  refine sA (pT b5) rfl ?_
  refine wend ?_
  refine retAny ?_
  refine retG (rs := [.tmp 2]) (vs := [pT b5]) rfl ⟨⟨rfl, rfl⟩, trivial⟩ ?_
  exact ⟨_, rfl, ⟨_, rfl, by have := H206.own _ (List.mem_of_getElem? (i := 0) rfl) _ rfl; exact this.resolve_left (fun h => h), H206.get (k := 0) rfl⟩, H206.chg⟩
theorem enc_ok (bc : Nat) (cl : List By) (hcl : cl.length = 432) (b : List By) (hb : b.length = 16) (w : World) (hc : w.heap[bc]? = some (.cells (cel E8 cl).toArray 215 (0, 0))) : Calls Tryd.prog 108 [pT bc, .agg (cel E8 b).toArray].toArray w (Ret fun v w' => v = .agg (cel E8 (encL cl b)).toArray ∧ Ext w w') := by
 have H := Hp.start No w
 refine enter (n := 71) Tryd.func108 rfl rfl (bLe rfl) ?_
 refine sR ?_
 refine q_box (v := .agg (cel E8 b).toArray) (o := .cells (cel E8 b).toArray 124 (0, 0)) H rfl (by rfl) ?_
 intro b1 w2 hb1 H3 hE4
 refine q_alloc (o := .cells (cel E8 (List.replicate 16 0#8)).toArray 124 (0, 0)) H3 zer124 (by kernel_rfl) ?_
 intro b5 w6 hb5 H7 hE8
 refine wend ?_
 refine seqAny ?_
 refine sR ?_
 refine sM (i64 ((0 : Int))) rfl ?_
 refine wend ?_
 refine blockAny ?_
 refine loopAny (σ := Nat) (fun i => [(0, pT bc), (3, pT b1), (4, pT b5), (10, i64 (i : Nat))]) (fun i w' => i ≤ 16 ∧ Hp No w w' [(some b5, .cells (cel E8 (List.replicate 16 0#8)).toArray 124 (0, 0)), (some b1, .cells (cel E8 (addS cl b i)).toArray 124 (0, 0))]) (fun i => 16 - i) (0) ?_ ?_ ?_
 ·exact ⟨rfl, rfl, rfl, rfl, trivial⟩
 ·exact ⟨by omega, H7⟩
 rintro i ρ w9 ⟨hi, H10⟩
 have hl := addS_len cl b i
 rw [hb] at hl
 refine sR ?_
 refine sq (r_lssI (a := (i : Nat)) (b := (16 : Int)) rfl rfl) ?_
 refine wend ?_
 refine seqAny ?_
 refine condProp (((i : Nat) : Int) < (16 : Int)) rfl (fun c11 => ?_) (fun c11 => ?_)
 ·skip
  refine skipAny ?_
  refine thenNormal ?_
  refine seqAny ?_
  refine blockAny ?_
  refine sR ?_
  refine sM (i64 (i : Nat)) rfl ?_
  refine sA (i64 (i : Nat)) rfl ?_
  refine wend ?_
  refine drawAny (K := [none, none, none, none, none, none, none, none, none, none, none, none]) [0, 1, 3, 0, 0, 8, 40, 104, 248, 504, 1023, 2047, 4095] (fun w' => Ext w9 w') (fun w' w'' => Ext w' w'') mixed (by kernel_rfl) (Ext.drew _) (fun _ _ h h' => h.trans h') ?_ ?_
  ·exact relNone (by decide)
  refine ⟨i64 (i : Nat), fun _ uw11 hC12 _ => Gives.run rfl (r_move (v := i64 (i : Nat)) rfl) ⟨rfl, Chg.refl _ _⟩, ?_⟩
  refine ⟨.pointer (some ⟨b1, i, none⟩), fun _ uw13 hC14 _ => Gives.run rfl (r_indexA (off' := i) (j := i) arr124 (b := b1) (off := 0) rfl rfl (by first | rfl | omega | (simp; omega)) (by omega) (by omega)) ⟨rfl, Chg.refl _ _⟩, ?_⟩
  refine ⟨u8 ((addS cl b i).getD i 0#8), fun _ uw15 hC16 _ => Gives.run rfl (r_ld1 (E := E8) (l := addS cl b i) (j := i) (a := (addS cl b i).getD i 0#8) fits5 ((H10.ext hC16).get (k := 1) rfl) (at_getD (by first | omega | (simp only [List.length_set]; omega) | exact bLe rfl | (simp <;> omega))) rfl rfl) ⟨rfl, Chg.refl _ _⟩, ?_⟩
  refine ⟨pT bc, fun _ uw17 hC18 _ => Gives.run rfl (r_move (v := pT bc) rfl) ⟨rfl, Chg.refl _ _⟩, ?_⟩
  refine ⟨i64 (i : Nat), fun _ uw19 hC20 _ => Gives.run rfl (r_move (v := i64 (i : Nat)) rfl) ⟨rfl, Chg.refl _ _⟩, ?_⟩
  refine ⟨pT bc, fun _ uw21 hC22 _ => Gives.run rfl (r_nilCheck rfl) ⟨rfl, Chg.refl _ _⟩, ?_⟩
  refine ⟨pT bc, fun _ uw23 hC24 _ => Gives.run rfl (r_fieldAddr (off' := 0) fld215_0 (by decide) (b := bc) (off := 0) rfl (by omega)) ⟨rfl, Chg.refl _ _⟩, ?_⟩
  refine ⟨pT bc, fun _ uw25 hC26 _ => Gives.run rfl (r_indexA (off' := 0) (j := 0) arr212 (b := bc) (off := 0) rfl rfl (by first | rfl | omega | (simp; omega)) (by omega) (by omega)) ⟨rfl, Chg.refl _ _⟩, ?_⟩
  refine ⟨.pointer (some ⟨bc, i, none⟩), fun _ uw27 hC28 _ => Gives.run rfl (r_indexA (off' := i) (j := i) arr124 (b := bc) (off := 0) rfl rfl (by first | rfl | omega | (simp; omega)) (by omega) (by omega)) ⟨rfl, Chg.refl _ _⟩, ?_⟩
  refine ⟨u8 ((cl).getD i 0#8), fun _ uw29 hC30 _ => Gives.run rfl (r_ld1 (E := E8) (l := cl) (j := i) (a := (cl).getD i 0#8) fits5 ((H10.ext hC30).keepE hc) (at_getD (by first | omega | (simp only [List.length_set]; omega) | exact bLe rfl | (simp <;> omega))) rfl rfl) ⟨rfl, Chg.refl _ _⟩, ?_⟩
  refine ⟨u8 (((addS cl b i).getD i 0#8) ^^^ ((cl).getD i 0#8)), fun _ uw31 hC32 _ => Gives.run rfl (r_xor8 (a := (addS cl b i).getD i 0#8) (b := (cl).getD i 0#8) rfl rfl) ⟨rfl, Chg.refl _ _⟩, ?_⟩
  refine ⟨.pointer (some ⟨b1, i, none⟩), fun _ uw33 hC34 _ => Gives.run rfl (r_indexA (off' := i) (j := i) arr124 (b := b1) (off := 0) rfl rfl (by first | rfl | omega | (simp; omega)) (by omega) (by omega)) ⟨rfl, Chg.refl _ _⟩, ?_⟩
  intro r38 w35 hE37 hF
  have H36 := H10.ext hE37
  refine d_store (k := 1) (v := u8 (((addS cl b i).getD i 0#8) ^^^ ((cl).getD i 0#8))) (cs' := (cel E8 ((addS cl b i).set i (((addS cl b i).getD i 0#8) ^^^ ((cl).getD i 0#8)))).toArray) H36 rfl rfl rfl siz5 (by rfl) (by exact E8.one _) (by rw [List.size_toArray, cel_length]; show _ ≤ _ * 1; first | omega | (simp only [List.length_set]; omega) | exact bLe rfl | (simp <;> omega)) (by exact put1 (E := E8) rfl _ _ _) ?_
  intro w39 H40 hC41
  have H40' := H40.as (L' := [(some b5, .cells (cel E8 (List.replicate 16 0#8)).toArray 124 (0, 0)), (some b1, .cells (cel E8 ((addS cl b i).set i (((addS cl b i).getD i 0#8) ^^^ ((cl).getD i 0#8)))).toArray 124 (0, 0))]) rfl
  clear H40
  refine wnil ?_
  refine blockNormal ?_
  refine thenNormal ?_
  refine oneRegion ?_
  refine sq (r_addI (a := (i : Nat)) (b := (1 : Int)) rfl rfl (by omega)) ?_
  refine sM (i64 ((i : Nat) + (1 : Int))) rfl ?_
  refine wnil ?_
  refine thenNormal ?_
  exact ⟨i + 1, _, rfl, ⟨rfl, rfl, rfl, rfl, trivial⟩, ⟨by omega, H40'⟩, by show 16 - (i + 1) < 16 - i; omega⟩
 ·skip
  obtain rfl : i = 16 := by omega
  have H42 := H10.as (L' := [(some b5, .cells (cel E8 (List.replicate 16 0#8)).toArray 124 (0, 0)), (some b1, .cells (cel E8 (encS cl b 0)).toArray 124 (0, 0))]) (by rw [encS])
  refine exitAny ?_
  refine thenExit ?_
  refine thenExit ?_
  refine blockHere ?_
  refine thenNormal ?_
  refine seqAny ?_
  refine sR ?_
  refine sA (i64 ((1 : Int))) rfl ?_
  refine wend ?_
  refine blockAny ?_
  refine loopAny (σ := Nat) (fun k => [(0, pT bc), (3, pT b1), (4, pT b5), (6, i64 ((k + 1 : Nat)))]) (fun k w' => k ≤ 10 ∧ Hp No w w' [(some b5, .cells (cel E8 (List.replicate 16 0#8)).toArray 124 (0, 0)), (some b1, .cells (cel E8 (encS cl b k)).toArray 124 (0, 0))]) (fun k => 10 - k) (0) ?_ ?_ ?_
  ·exact ⟨rfl, rfl, rfl, rfl, trivial⟩
  ·exact ⟨by omega, H42⟩
  rintro k ρ w43 ⟨hk, H44⟩
  have hl := encS_len cl b k
  rw [hb] at hl
  refine seqAny ?_
  refine sR ?_
  refine sM (i64 ((k + 1 : Nat))) rfl ?_
  refine sq (r_leqI (a := (k + 1 : Nat)) (b := (10 : Int)) rfl rfl) ?_
  refine wend ?_
  refine condProp (((k + 1 : Nat) : Int) ≤ (10 : Int)) rfl (fun c27 => ?_) (fun c27 => ?_)
  ·skip
   refine skipAny ?_
   refine thenNormal ?_
   refine seqAny ?_
   refine blockAny ?_
   refine sR ?_
   refine q_alloc (o := .cells (cel E8 (List.replicate 16 0#8)).toArray 124 (0, 0)) H44 zer124 (by kernel_rfl) ?_
   intro b45 w46 hb45 H47 hE48
   refine wend ?_
   refine seqAny ?_
   refine sR ?_
   refine sM (i64 ((0 : Int))) rfl ?_
   refine wend ?_
   refine blockAny ?_
   refine loopAny (σ := Nat) (fun i => [(0, pT bc), (3, pT b1), (4, pT b5), (6, i64 ((k + 1 : Nat))), (7, pT b45), (30, i64 (i : Nat))]) (fun i w' => i ≤ 16 ∧ Hp No w w' [(some b45, .cells (cel E8 (subS cl (encS cl b k) i)).toArray 124 (0, 0)), (some b5, .cells (cel E8 (List.replicate 16 0#8)).toArray 124 (0, 0)), (some b1, .cells (cel E8 (encS cl b k)).toArray 124 (0, 0))]) (fun i => 16 - i) (0) ?_ ?_ ?_
   ·exact ⟨rfl, rfl, rfl, rfl, rfl, rfl, trivial⟩
   ·exact ⟨by omega, H47⟩
   rintro i ρ w49 ⟨hi, H50⟩
   have hs := subS_len cl (encS cl b k) i
   refine sR ?_
   refine sq (r_lssI (a := (i : Nat)) (b := (16 : Int)) rfl rfl) ?_
   refine wend ?_
   refine seqAny ?_
   refine condProp (((i : Nat) : Int) < (16 : Int)) rfl (fun c31 => ?_) (fun c31 => ?_)
   ·skip
    refine skipAny ?_
    refine thenNormal ?_
    refine seqAny ?_
    refine blockAny ?_
    refine sR ?_
    refine sM (i64 (i : Nat)) rfl ?_
    refine sA (i64 (i : Nat)) rfl ?_
    refine wend ?_
    refine drawAny (K := [none, none, none, none, none, none, none, none, none, none, none, none, none, none, none]) [0, 0, 0, 0, 8, 24, 60, 124, 252, 508, 2, 1026, 4094, 8190, 16383, 32767] (fun w' => Ext w49 w') (fun w' w'' => Ext w' w'') mixed (by kernel_rfl) (Ext.drew _) (fun _ _ h h' => h.trans h') ?_ ?_
    ·exact relNone (by decide)
    refine ⟨i64 (i : Nat), fun _ uw51 hC52 _ => Gives.run rfl (r_move (v := i64 (i : Nat)) rfl) ⟨rfl, Chg.refl _ _⟩, ?_⟩
    refine ⟨pT bc, fun _ uw53 hC54 _ => Gives.run rfl (r_move (v := pT bc) rfl) ⟨rfl, Chg.refl _ _⟩, ?_⟩
    refine ⟨i64 (i : Nat), fun _ uw55 hC56 _ => Gives.run rfl (r_move (v := i64 (i : Nat)) rfl) ⟨rfl, Chg.refl _ _⟩, ?_⟩
    refine ⟨i64 (i : Nat), fun _ uw57 hC58 _ => Gives.run rfl (r_move (v := i64 (i : Nat)) rfl) ⟨rfl, Chg.refl _ _⟩, ?_⟩
    refine ⟨i64 ((i : Nat) % (4 : Int)), fun _ uw59 hC60 _ => Gives.run rfl (r_remI (a := (i : Nat)) (b := (4 : Int)) rfl rfl (by omega)) ⟨rfl, Chg.refl _ _⟩, ?_⟩
    refine ⟨i64 ((4 : Int) * ((i : Nat) % (4 : Int))), fun _ uw61 hC62 _ => Gives.run rfl (r_mulI (a := (4 : Int)) (b := (i : Nat) % (4 : Int)) rfl rfl (by omega)) ⟨rfl, Chg.refl _ _⟩, ?_⟩
    refine ⟨i64 ((i : Nat) + ((4 : Int) * ((i : Nat) % (4 : Int)))), fun _ uw63 hC64 _ => Gives.run rfl (r_addI (a := (i : Nat)) (b := (4 : Int) * ((i : Nat) % (4 : Int))) rfl rfl (by omega)) ⟨rfl, Chg.refl _ _⟩, ?_⟩
    refine ⟨i64 (((i : Nat) + ((4 : Int) * ((i : Nat) % (4 : Int)))) % (16 : Int)), fun _ uw65 hC66 _ => Gives.run rfl (r_remI (a := (i : Nat) + ((4 : Int) * ((i : Nat) % (4 : Int)))) (b := (16 : Int)) rfl rfl (by omega)) ⟨rfl, Chg.refl _ _⟩, ?_⟩
    refine ⟨.pointer (some ⟨b1, (i + (4 * (i % 4))) % 16, none⟩), fun _ uw67 hC68 _ => Gives.run rfl (r_indexA (off' := (i + (4 * (i % 4))) % 16) (j := (i + (4 * (i % 4))) % 16) arr124 (b := b1) (off := 0) rfl rfl (by first | rfl | omega | (simp; omega)) (by omega) (by omega)) ⟨rfl, Chg.refl _ _⟩, ?_⟩
    refine ⟨u8 (((encS cl b k)).getD ((i + (4 * (i % 4))) % 16) 0#8), fun _ uw69 hC70 _ => Gives.run rfl (r_ld1 (E := E8) (l := (encS cl b k)) (j := (i + (4 * (i % 4))) % 16) (a := ((encS cl b k)).getD ((i + (4 * (i % 4))) % 16) 0#8) fits5 ((H50.ext hC70).get (k := 2) rfl) (at_getD (by first | omega | (simp only [List.length_set]; omega) | exact bLe rfl | (simp <;> omega))) rfl rfl) ⟨rfl, Chg.refl _ _⟩, ?_⟩
    refine ⟨pT bc, fun _ uw71 hC72 _ => Gives.run rfl (r_nilCheck rfl) ⟨rfl, Chg.refl _ _⟩, ?_⟩
    refine ⟨.pointer (some ⟨bc, 176, none⟩), fun _ uw73 hC74 _ => Gives.run rfl (r_fieldAddr (off' := 176) fld215_1 (by decide) (b := bc) (off := 0) rfl (by omega)) ⟨rfl, Chg.refl _ _⟩, ?_⟩
    refine ⟨.pointer (some ⟨bc, 176 + ((((encS cl b k)).getD ((i + (4 * (i % 4))) % 16) 0#8).toNat), none⟩), fun _ uw75 hC76 _ => Gives.run rfl (r_indexA (off' := 176 + ((((encS cl b k)).getD ((i + (4 * (i % 4))) % 16) 0#8).toNat)) (j := (((encS cl b k)).getD ((i + (4 * (i % 4))) % 16) 0#8).toNat) arr213 (b := bc) (off := 176) rfl rfl (by first | rfl | omega | (simp; omega)) (BitVec.isLt _) (by omega)) ⟨rfl, Chg.refl _ _⟩, ?_⟩
    refine ⟨u8 ((cl).getD (176 + ((((encS cl b k)).getD ((i + (4 * (i % 4))) % 16) 0#8).toNat)) 0#8), fun _ uw77 hC78 _ => Gives.run rfl (r_ld1 (E := E8) (l := cl) (j := 176 + ((((encS cl b k)).getD ((i + (4 * (i % 4))) % 16) 0#8).toNat)) (a := (cl).getD (176 + ((((encS cl b k)).getD ((i + (4 * (i % 4))) % 16) 0#8).toNat)) 0#8) fits5 ((H50.ext hC78).keepE hc) (at_getD (by have := ((encS cl b k).getD ((i + 4 * (i % 4)) % 16) 0#8).isLt; omega)) rfl rfl) ⟨rfl, Chg.refl _ _⟩, ?_⟩
    refine ⟨.pointer (some ⟨b45, i, none⟩), fun _ uw79 hC80 _ => Gives.run rfl (r_indexA (off' := i) (j := i) arr124 (b := b45) (off := 0) rfl rfl (by first | rfl | omega | (simp; omega)) (by omega) (by omega)) ⟨rfl, Chg.refl _ _⟩, ?_⟩
    intro r84 w81 hE83 hF
    have H82 := H50.ext hE83
    refine d_store (k := 0) (v := u8 ((cl).getD (176 + ((((encS cl b k)).getD ((i + (4 * (i % 4))) % 16) 0#8).toNat)) 0#8)) (cs' := (cel E8 ((subS cl (encS cl b k) i).set i ((cl).getD (176 + ((((encS cl b k)).getD ((i + (4 * (i % 4))) % 16) 0#8).toNat)) 0#8))).toArray) H82 rfl rfl rfl siz5 (by rfl) (by exact E8.one _) (by rw [List.size_toArray, cel_length]; show _ ≤ _ * 1; first | omega | (simp only [List.length_set]; omega) | exact bLe rfl | (simp <;> omega)) (by exact put1 (E := E8) rfl _ _ _) ?_
    intro w85 H86 hC87
    have H86' := H86.as (L' := [(some b45, .cells (cel E8 ((subS cl (encS cl b k) i).set i ((cl).getD (176 + ((((encS cl b k)).getD ((i + (4 * (i % 4))) % 16) 0#8).toNat)) 0#8))).toArray 124 (0, 0)), (some b5, .cells (cel E8 (List.replicate 16 0#8)).toArray 124 (0, 0)), (some b1, .cells (cel E8 (encS cl b k)).toArray 124 (0, 0))]) rfl
    clear H86
    refine wnil ?_
    refine blockNormal ?_
    refine thenNormal ?_
    refine oneRegion ?_
    refine sq (r_addI (a := (i : Nat)) (b := (1 : Int)) rfl rfl (by omega)) ?_
    refine sM (i64 ((i : Nat) + (1 : Int))) rfl ?_
    refine wnil ?_
    refine thenNormal ?_
    exact ⟨i + 1, _, rfl, ⟨rfl, rfl, rfl, rfl, rfl, rfl, trivial⟩, ⟨by omega, H86'⟩, by show 16 - (i + 1) < 16 - i; omega⟩
   ·skip
    obtain rfl : i = 16 := by omega
    have H88 := H50.as (L' := [(some b45, .cells (cel E8 (subS cl (encS cl b k) 16)).toArray 124 (0, 0)), (some b5, .cells (cel E8 (List.replicate 16 0#8)).toArray 124 (0, 0)), (some b1, .cells (cel E8 (encS cl b k)).toArray 124 (0, 0))]) (rfl)
    refine exitAny ?_
    refine thenExit ?_
    refine thenExit ?_
    refine blockHere ?_
    refine thenNormal ?_
    refine seqAny ?_
    refine sR ?_
    refine sM (i64 ((k + 1 : Nat))) rfl ?_
    refine sq (r_lssI (a := (k + 1 : Nat)) (b := (10 : Int)) rfl rfl) ?_
    refine wend ?_
    refine condProp (((k + 1 : Nat) : Int) < (10 : Int)) rfl (fun c50 => ?_) (fun c50 => ?_)
    ·skip
     refine oneRegion ?_
     refine c_call (vs := [pT b45]) call120 rfl (mix_ok b45 (subS cl (encS cl b k) 16) (subS_len _ _ _) w49 (H88.get (k := 0) rfl)) ?_
     rintro _ w89 ⟨rfl, hcw89, hnw89⟩
     rw [show mixL (subS cl (encS cl b k) 16) = (rndT cl (encS cl b k) (k + 1)) by simp only [rndT]; rw [if_pos (by omega)]] at hnw89
     have H91 := (H88.set (k := 0) rfl hcw89 hnw89).as (L' := [(some b45, .cells (cel E8 (rndT cl (encS cl b k) (k + 1))).toArray 124 (0, 0)), (some b5, .cells (cel E8 (List.replicate 16 0#8)).toArray 124 (0, 0)), (some b1, .cells (cel E8 (encS cl b k)).toArray 124 (0, 0))]) rfl
     refine wnil ?_
     refine thenNormal ?_
     refine sR ?_
     refine sM (i64 ((0 : Int))) rfl ?_
     refine wend ?_
     refine blockAny ?_
     refine loopAny (σ := Nat) (fun i => [(0, pT bc), (3, pT b1), (4, pT b5), (6, i64 ((k + 1 : Nat))), (7, pT b45), (52, i64 (i : Nat))]) (fun i w' => i ≤ 16 ∧ Hp No w w' [(some b45, .cells (cel E8 (rndT cl (encS cl b k) (k + 1))).toArray 124 (0, 0)), (some b5, .cells (cel E8 (List.replicate 16 0#8)).toArray 124 (0, 0)), (some b1, .cells (cel E8 (keyS cl (rndT cl (encS cl b k) (k + 1)) (encS cl b k) (k + 1) i)).toArray 124 (0, 0))]) (fun i => 16 - i) (0) ?_ ?_ ?_
     ·exact ⟨rfl, rfl, rfl, rfl, rfl, rfl, trivial⟩
     ·exact ⟨by omega, H91⟩
     rintro i ρ w92 ⟨hi, H93⟩
     have hr := rndT_len cl (encS cl b k) (k + 1)
     have hq := keyS_len cl (rndT cl (encS cl b k) (k + 1)) (encS cl b k) (k + 1) i
     rw [hl] at hq
     refine sR ?_
     refine sq (r_lssI (a := (i : Nat)) (b := (16 : Int)) rfl rfl) ?_
     refine wend ?_
     refine seqAny ?_
     refine condProp (((i : Nat) : Int) < (16 : Int)) rfl (fun c53 => ?_) (fun c53 => ?_)
     ·skip
      refine skipAny ?_
      refine thenNormal ?_
      refine seqAny ?_
      refine blockAny ?_
      refine sR ?_
      refine sM (i64 (i : Nat)) rfl ?_
      refine sA (i64 (i : Nat)) rfl ?_
      refine wend ?_
      refine drawAny (K := [none, none, none, none, none, none, none, none, none, none, none, none, none, none]) [0, 0, 2, 6, 0, 0, 0, 16, 144, 432, 1008, 2032, 4094, 8191, 16383] (fun w' => Ext w92 w') (fun w' w'' => Ext w' w'') mixed (by kernel_rfl) (Ext.drew _) (fun _ _ h h' => h.trans h') ?_ ?_
      ·exact relNone (by decide)
      refine ⟨i64 (i : Nat), fun _ uw94 hC95 _ => Gives.run rfl (r_move (v := i64 (i : Nat)) rfl) ⟨rfl, Chg.refl _ _⟩, ?_⟩
      refine ⟨i64 (i : Nat), fun _ uw96 hC97 _ => Gives.run rfl (r_move (v := i64 (i : Nat)) rfl) ⟨rfl, Chg.refl _ _⟩, ?_⟩
      refine ⟨.pointer (some ⟨b45, i, none⟩), fun _ uw98 hC99 _ => Gives.run rfl (r_indexA (off' := i) (j := i) arr124 (b := b45) (off := 0) rfl rfl (by first | rfl | omega | (simp; omega)) (by omega) (by omega)) ⟨rfl, Chg.refl _ _⟩, ?_⟩
      refine ⟨u8 (((rndT cl (encS cl b k) (k + 1))).getD i 0#8), fun _ uw100 hC101 _ => Gives.run rfl (r_ld1 (E := E8) (l := (rndT cl (encS cl b k) (k + 1))) (j := i) (a := ((rndT cl (encS cl b k) (k + 1))).getD i 0#8) fits5 ((H93.ext hC101).get (k := 0) rfl) (at_getD (by first | omega | (simp only [List.length_set]; omega) | exact bLe rfl | (simp <;> omega))) rfl rfl) ⟨rfl, Chg.refl _ _⟩, ?_⟩
      refine ⟨pT bc, fun _ uw102 hC103 _ => Gives.run rfl (r_move (v := pT bc) rfl) ⟨rfl, Chg.refl _ _⟩, ?_⟩
      refine ⟨i64 ((k + 1 : Nat)), fun _ uw104 hC105 _ => Gives.run rfl (r_move (v := i64 ((k + 1 : Nat))) rfl) ⟨rfl, Chg.refl _ _⟩, ?_⟩
      refine ⟨i64 (i : Nat), fun _ uw106 hC107 _ => Gives.run rfl (r_move (v := i64 (i : Nat)) rfl) ⟨rfl, Chg.refl _ _⟩, ?_⟩
      refine ⟨pT bc, fun _ uw108 hC109 _ => Gives.run rfl (r_nilCheck rfl) ⟨rfl, Chg.refl _ _⟩, ?_⟩
      refine ⟨pT bc, fun _ uw110 hC111 _ => Gives.run rfl (r_fieldAddr (off' := 0) fld215_0 (by decide) (b := bc) (off := 0) rfl (by omega)) ⟨rfl, Chg.refl _ _⟩, ?_⟩
      refine ⟨.pointer (some ⟨bc, (k + 1) * 16, none⟩), fun _ uw112 hC113 _ => Gives.run rfl (r_indexA (off' := (k + 1) * 16) (j := k + 1) arr212 (b := bc) (off := 0) rfl rfl (by first | rfl | omega | (simp; omega)) (by omega) (by omega)) ⟨rfl, Chg.refl _ _⟩, ?_⟩
      refine ⟨.pointer (some ⟨bc, ((k + 1) * 16) + i, none⟩), fun _ uw114 hC115 _ => Gives.run rfl (r_indexA (off' := ((k + 1) * 16) + i) (j := i) arr124 (b := bc) (off := (k + 1) * 16) rfl rfl (by first | rfl | omega | (simp; omega)) (by omega) (by omega)) ⟨rfl, Chg.refl _ _⟩, ?_⟩
      refine ⟨u8 ((cl).getD (((k + 1) * 16) + i) 0#8), fun _ uw116 hC117 _ => Gives.run rfl (r_ld1 (E := E8) (l := cl) (j := ((k + 1) * 16) + i) (a := (cl).getD (((k + 1) * 16) + i) 0#8) fits5 ((H93.ext hC117).keepE hc) (at_getD (by first | omega | (simp only [List.length_set]; omega) | exact bLe rfl | (simp <;> omega))) rfl rfl) ⟨rfl, Chg.refl _ _⟩, ?_⟩
      refine ⟨u8 ((((rndT cl (encS cl b k) (k + 1))).getD i 0#8) ^^^ ((cl).getD (((k + 1) * 16) + i) 0#8)), fun _ uw118 hC119 _ => Gives.run rfl (r_xor8 (a := ((rndT cl (encS cl b k) (k + 1))).getD i 0#8) (b := (cl).getD (((k + 1) * 16) + i) 0#8) rfl rfl) ⟨rfl, Chg.refl _ _⟩, ?_⟩
      refine ⟨.pointer (some ⟨b1, i, none⟩), fun _ uw120 hC121 _ => Gives.run rfl (r_indexA (off' := i) (j := i) arr124 (b := b1) (off := 0) rfl rfl (by first | rfl | omega | (simp; omega)) (by omega) (by omega)) ⟨rfl, Chg.refl _ _⟩, ?_⟩
      intro r125 w122 hE124 hF
      have H123 := H93.ext hE124
      refine d_store (k := 2) (v := u8 ((((rndT cl (encS cl b k) (k + 1))).getD i 0#8) ^^^ ((cl).getD (((k + 1) * 16) + i) 0#8))) (cs' := (cel E8 ((keyS cl (rndT cl (encS cl b k) (k + 1)) (encS cl b k) (k + 1) i).set i ((((rndT cl (encS cl b k) (k + 1))).getD i 0#8) ^^^ ((cl).getD (((k + 1) * 16) + i) 0#8)))).toArray) H123 rfl rfl rfl siz5 (by rfl) (by exact E8.one _) (by rw [List.size_toArray, cel_length]; show _ ≤ _ * 1; first | omega | (simp only [List.length_set]; omega) | exact bLe rfl | (simp <;> omega)) (by exact put1 (E := E8) rfl _ _ _) ?_
      intro w126 H127 hC128
      have H127' := H127.as (L' := [(some b45, .cells (cel E8 (rndT cl (encS cl b k) (k + 1))).toArray 124 (0, 0)), (some b5, .cells (cel E8 (List.replicate 16 0#8)).toArray 124 (0, 0)), (some b1, .cells (cel E8 ((keyS cl (rndT cl (encS cl b k) (k + 1)) (encS cl b k) (k + 1) i).set i ((((rndT cl (encS cl b k) (k + 1))).getD i 0#8) ^^^ ((cl).getD (((k + 1) * 16) + i) 0#8)))).toArray 124 (0, 0))]) rfl
      clear H127
      refine wnil ?_
      refine blockNormal ?_
      refine thenNormal ?_
      refine oneRegion ?_
      refine sq (r_addI (a := (i : Nat)) (b := (1 : Int)) rfl rfl (by omega)) ?_
      refine sM (i64 ((i : Nat) + (1 : Int))) rfl ?_
      refine wnil ?_
      refine thenNormal ?_
      exact ⟨i + 1, _, rfl, ⟨rfl, rfl, rfl, rfl, rfl, rfl, trivial⟩, ⟨by omega, H127'⟩, by show 16 - (i + 1) < 16 - i; omega⟩
     ·skip
      obtain rfl : i = 16 := by omega
      have H129 := H93.as (L' := [(some b45, .cells (cel E8 (rndT cl (encS cl b k) (k + 1))).toArray 124 (0, 0)), (some b5, .cells (cel E8 (List.replicate 16 0#8)).toArray 124 (0, 0)), (some b1, .cells (cel E8 (encS cl b (k + 1))).toArray 124 (0, 0))]) (by rw [encS])
      refine exitAny ?_
      refine thenExit ?_
      refine thenExit ?_
      refine blockHere ?_
      refine blockNormal ?_
      refine thenNormal ?_
      refine oneRegion ?_
      refine sM (i64 ((k + 1 : Nat))) rfl ?_
      refine sq (r_addI (a := (k + 1 : Nat)) (b := (1 : Int)) rfl rfl (by omega)) ?_
      refine sA (i64 ((k + 1 : Nat) + (1 : Int))) rfl ?_
      refine wnil ?_
      refine thenNormal ?_
      exact ⟨k + 1, _, rfl, ⟨rfl, rfl, rfl, rfl, trivial⟩, ⟨by omega, H129.drop1⟩, by show 10 - (k + 1) < 10 - k; omega⟩
    ·skip
     have H130 := H88
     rw [show subS cl (encS cl b k) 16 = (rndT cl (encS cl b k) (k + 1)) by simp only [rndT]; rw [if_neg (by omega)]] at H130
     refine skipAny ?_
     refine thenNormal ?_
     refine sR ?_
     refine sM (i64 ((0 : Int))) rfl ?_
     refine wend ?_
     refine blockAny ?_
     refine loopAny (σ := Nat) (fun i => [(0, pT bc), (3, pT b1), (4, pT b5), (6, i64 ((k + 1 : Nat))), (7, pT b45), (52, i64 (i : Nat))]) (fun i w' => i ≤ 16 ∧ Hp No w w' [(some b45, .cells (cel E8 (rndT cl (encS cl b k) (k + 1))).toArray 124 (0, 0)), (some b5, .cells (cel E8 (List.replicate 16 0#8)).toArray 124 (0, 0)), (some b1, .cells (cel E8 (keyS cl (rndT cl (encS cl b k) (k + 1)) (encS cl b k) (k + 1) i)).toArray 124 (0, 0))]) (fun i => 16 - i) (0) ?_ ?_ ?_
     ·exact ⟨rfl, rfl, rfl, rfl, rfl, rfl, trivial⟩
     ·exact ⟨by omega, H130⟩
     rintro i ρ w131 ⟨hi, H132⟩
     have hr := rndT_len cl (encS cl b k) (k + 1)
     have hq := keyS_len cl (rndT cl (encS cl b k) (k + 1)) (encS cl b k) (k + 1) i
     rw [hl] at hq
     refine sR ?_
     refine sq (r_lssI (a := (i : Nat)) (b := (16 : Int)) rfl rfl) ?_
     refine wend ?_
     refine seqAny ?_
     refine condProp (((i : Nat) : Int) < (16 : Int)) rfl (fun c53 => ?_) (fun c53 => ?_)
     ·skip
      refine skipAny ?_
      refine thenNormal ?_
      refine seqAny ?_
      refine blockAny ?_
      refine sR ?_
      refine sM (i64 (i : Nat)) rfl ?_
      refine sA (i64 (i : Nat)) rfl ?_
      refine wend ?_
      refine drawAny (K := [none, none, none, none, none, none, none, none, none, none, none, none, none, none]) [0, 0, 2, 6, 0, 0, 0, 16, 144, 432, 1008, 2032, 4094, 8191, 16383] (fun w' => Ext w131 w') (fun w' w'' => Ext w' w'') mixed (by kernel_rfl) (Ext.drew _) (fun _ _ h h' => h.trans h') ?_ ?_
      ·exact relNone (by decide)
      refine ⟨i64 (i : Nat), fun _ uw133 hC134 _ => Gives.run rfl (r_move (v := i64 (i : Nat)) rfl) ⟨rfl, Chg.refl _ _⟩, ?_⟩
      refine ⟨i64 (i : Nat), fun _ uw135 hC136 _ => Gives.run rfl (r_move (v := i64 (i : Nat)) rfl) ⟨rfl, Chg.refl _ _⟩, ?_⟩
      refine ⟨.pointer (some ⟨b45, i, none⟩), fun _ uw137 hC138 _ => Gives.run rfl (r_indexA (off' := i) (j := i) arr124 (b := b45) (off := 0) rfl rfl (by first | rfl | omega | (simp; omega)) (by omega) (by omega)) ⟨rfl, Chg.refl _ _⟩, ?_⟩
      refine ⟨u8 (((rndT cl (encS cl b k) (k + 1))).getD i 0#8), fun _ uw139 hC140 _ => Gives.run rfl (r_ld1 (E := E8) (l := (rndT cl (encS cl b k) (k + 1))) (j := i) (a := ((rndT cl (encS cl b k) (k + 1))).getD i 0#8) fits5 ((H132.ext hC140).get (k := 0) rfl) (at_getD (by first | omega | (simp only [List.length_set]; omega) | exact bLe rfl | (simp <;> omega))) rfl rfl) ⟨rfl, Chg.refl _ _⟩, ?_⟩
      refine ⟨pT bc, fun _ uw141 hC142 _ => Gives.run rfl (r_move (v := pT bc) rfl) ⟨rfl, Chg.refl _ _⟩, ?_⟩
      refine ⟨i64 ((k + 1 : Nat)), fun _ uw143 hC144 _ => Gives.run rfl (r_move (v := i64 ((k + 1 : Nat))) rfl) ⟨rfl, Chg.refl _ _⟩, ?_⟩
      refine ⟨i64 (i : Nat), fun _ uw145 hC146 _ => Gives.run rfl (r_move (v := i64 (i : Nat)) rfl) ⟨rfl, Chg.refl _ _⟩, ?_⟩
      refine ⟨pT bc, fun _ uw147 hC148 _ => Gives.run rfl (r_nilCheck rfl) ⟨rfl, Chg.refl _ _⟩, ?_⟩
      refine ⟨pT bc, fun _ uw149 hC150 _ => Gives.run rfl (r_fieldAddr (off' := 0) fld215_0 (by decide) (b := bc) (off := 0) rfl (by omega)) ⟨rfl, Chg.refl _ _⟩, ?_⟩
      refine ⟨.pointer (some ⟨bc, (k + 1) * 16, none⟩), fun _ uw151 hC152 _ => Gives.run rfl (r_indexA (off' := (k + 1) * 16) (j := k + 1) arr212 (b := bc) (off := 0) rfl rfl (by first | rfl | omega | (simp; omega)) (by omega) (by omega)) ⟨rfl, Chg.refl _ _⟩, ?_⟩
      refine ⟨.pointer (some ⟨bc, ((k + 1) * 16) + i, none⟩), fun _ uw153 hC154 _ => Gives.run rfl (r_indexA (off' := ((k + 1) * 16) + i) (j := i) arr124 (b := bc) (off := (k + 1) * 16) rfl rfl (by first | rfl | omega | (simp; omega)) (by omega) (by omega)) ⟨rfl, Chg.refl _ _⟩, ?_⟩
      refine ⟨u8 ((cl).getD (((k + 1) * 16) + i) 0#8), fun _ uw155 hC156 _ => Gives.run rfl (r_ld1 (E := E8) (l := cl) (j := ((k + 1) * 16) + i) (a := (cl).getD (((k + 1) * 16) + i) 0#8) fits5 ((H132.ext hC156).keepE hc) (at_getD (by first | omega | (simp only [List.length_set]; omega) | exact bLe rfl | (simp <;> omega))) rfl rfl) ⟨rfl, Chg.refl _ _⟩, ?_⟩
      refine ⟨u8 ((((rndT cl (encS cl b k) (k + 1))).getD i 0#8) ^^^ ((cl).getD (((k + 1) * 16) + i) 0#8)), fun _ uw157 hC158 _ => Gives.run rfl (r_xor8 (a := ((rndT cl (encS cl b k) (k + 1))).getD i 0#8) (b := (cl).getD (((k + 1) * 16) + i) 0#8) rfl rfl) ⟨rfl, Chg.refl _ _⟩, ?_⟩
      refine ⟨.pointer (some ⟨b1, i, none⟩), fun _ uw159 hC160 _ => Gives.run rfl (r_indexA (off' := i) (j := i) arr124 (b := b1) (off := 0) rfl rfl (by first | rfl | omega | (simp; omega)) (by omega) (by omega)) ⟨rfl, Chg.refl _ _⟩, ?_⟩
      intro r164 w161 hE163 hF
      have H162 := H132.ext hE163
      refine d_store (k := 2) (v := u8 ((((rndT cl (encS cl b k) (k + 1))).getD i 0#8) ^^^ ((cl).getD (((k + 1) * 16) + i) 0#8))) (cs' := (cel E8 ((keyS cl (rndT cl (encS cl b k) (k + 1)) (encS cl b k) (k + 1) i).set i ((((rndT cl (encS cl b k) (k + 1))).getD i 0#8) ^^^ ((cl).getD (((k + 1) * 16) + i) 0#8)))).toArray) H162 rfl rfl rfl siz5 (by rfl) (by exact E8.one _) (by rw [List.size_toArray, cel_length]; show _ ≤ _ * 1; first | omega | (simp only [List.length_set]; omega) | exact bLe rfl | (simp <;> omega)) (by exact put1 (E := E8) rfl _ _ _) ?_
      intro w165 H166 hC167
      have H166' := H166.as (L' := [(some b45, .cells (cel E8 (rndT cl (encS cl b k) (k + 1))).toArray 124 (0, 0)), (some b5, .cells (cel E8 (List.replicate 16 0#8)).toArray 124 (0, 0)), (some b1, .cells (cel E8 ((keyS cl (rndT cl (encS cl b k) (k + 1)) (encS cl b k) (k + 1) i).set i ((((rndT cl (encS cl b k) (k + 1))).getD i 0#8) ^^^ ((cl).getD (((k + 1) * 16) + i) 0#8)))).toArray 124 (0, 0))]) rfl
      clear H166
      refine wnil ?_
      refine blockNormal ?_
      refine thenNormal ?_
      refine oneRegion ?_
      refine sq (r_addI (a := (i : Nat)) (b := (1 : Int)) rfl rfl (by omega)) ?_
      refine sM (i64 ((i : Nat) + (1 : Int))) rfl ?_
      refine wnil ?_
      refine thenNormal ?_
      exact ⟨i + 1, _, rfl, ⟨rfl, rfl, rfl, rfl, rfl, rfl, trivial⟩, ⟨by omega, H166'⟩, by show 16 - (i + 1) < 16 - i; omega⟩
     ·skip
      obtain rfl : i = 16 := by omega
      have H168 := H132.as (L' := [(some b45, .cells (cel E8 (rndT cl (encS cl b k) (k + 1))).toArray 124 (0, 0)), (some b5, .cells (cel E8 (List.replicate 16 0#8)).toArray 124 (0, 0)), (some b1, .cells (cel E8 (encS cl b (k + 1))).toArray 124 (0, 0))]) (by rw [encS])
      refine exitAny ?_
      refine thenExit ?_
      refine thenExit ?_
      refine blockHere ?_
      refine blockNormal ?_
      refine thenNormal ?_
      refine oneRegion ?_
      refine sM (i64 ((k + 1 : Nat))) rfl ?_
      refine sq (r_addI (a := (k + 1 : Nat)) (b := (1 : Int)) rfl rfl (by omega)) ?_
      refine sA (i64 ((k + 1 : Nat) + (1 : Int))) rfl ?_
      refine wnil ?_
      refine thenNormal ?_
      exact ⟨k + 1, _, rfl, ⟨rfl, rfl, rfl, rfl, trivial⟩, ⟨by omega, H168.drop1⟩, by show 10 - (k + 1) < 10 - k; omega⟩
  ·skip
   obtain rfl : k = 10 := by omega
   have H169 := H44.as (L' := [(some b5, .cells (cel E8 (List.replicate 16 0#8)).toArray 124 (0, 0)), (some b1, .cells (cel E8 (encL cl b)).toArray 124 (0, 0))]) (by rw [encL])
   refine exitAny ?_
   refine thenExit ?_
   refine thenExit ?_
   refine blockHere ?_
   refine thenNormal ?_
   refine sR ?_
   refine sq (r_loadA (cs' := (cel E8 (encL cl b)).toArray) agg124 siz124 (H169.get (k := 1) rfl) (off := 0) rfl (by rw [List.size_toArray, cel_length, encL_len, hb]; decide) (by exact ext_all (by rw [cel_length, encL_len, hb]; rfl))) ?_
   refine d_store (k := 0) (v := .agg (cel E8 (encL cl b)).toArray) (cs' := (cel E8 (encL cl b)).toArray) H169 rfl rfl rfl siz124 (by exact celSize (by rw [encL_len, hb]; rfl)) (by exact celOne _) (by rw [List.size_toArray, cel_length]; show _ ≤ _ * 1; first | omega | (simp only [List.length_set]; omega) | exact bLe rfl | (simp <;> omega)) (by exact putAll (by rw [encL_len, hb]; rfl)) ?_
   intro w170 H171 hC172
   have H171' := H171.as (L' := [(some b5, .cells (cel E8 (encL cl b)).toArray 124 (0, 0)), (some b1, .cells (cel E8 (encL cl b)).toArray 124 (0, 0))]) rfl
   clear H171
   refine wend ?_
   refine retAny ?_
   refine retG (rs := [.cell 4 124]) (vs := [.agg (cel E8 (encL cl b)).toArray]) rfl ⟨r_loadA (cs' := (cel E8 (encL cl b)).toArray) agg124 siz124 (H171'.get (k := 0) rfl) (off := 0) rfl (by rw [List.size_toArray, cel_length, encL_len, hb]; decide) (by exact ext_all (by rw [cel_length, encL_len, hb]; rfl)), trivial⟩ ?_
   exact ⟨_, rfl, rfl, H171'.chg⟩
theorem word_ok (bc : Nat) (cl : List By) (hcl : cl.length = 432) (n : BitVec 64) (w : World) (hc : w.heap[bc]? = some (.cells (cel E8 cl).toArray 215 (0, 0))) : Calls Tryd.prog 117 [pT bc, u64 (n)].toArray w (Ret fun v w' => v = u64 (wordL cl n) ∧ Ext w w') := by
 have H := Hp.start No w
 refine enter (n := 17) Tryd.func117 rfl rfl (bLe rfl) ?_
 refine sR ?_
 refine sA (u64 (0#64)) rfl ?_
 refine wend ?_
 refine sR ?_
 refine sM (pT bc) rfl ?_
 refine sM (u64 (n)) rfl ?_
 refine sq (r_quo64 (a := n) (b := 2#64) rfl rfl (by decide)) ?_
 refine sq (r_buildA (cs' := (cel E64 [n / (2#64), 0#64]).toArray) (ps := [(0, u64 (n / (2#64))), (1, u64 (0#64))]) zer38 arr38 rfl (by rfl)) ?_
 refine c_call (vs := [.agg (cel E64 [n / (2#64), 0#64]).toArray]) call109 rfl (bytes_ok (n / (2#64)) (0#64) w) ?_
 rintro _ w1 ⟨rfl, hE2⟩
 have H3 := H.ext hE2
 refine c_call (vs := [pT bc, .agg (cel E8 (bytesS (n / (2#64)) (0#64) 16)).toArray]) call108 rfl (enc_ok bc cl hcl (bytesS (n / (2#64)) (0#64) 16) (bytesS_len _ _ _) w1 (H3.keepE hc)) ?_
 rintro _ w4 ⟨rfl, hE5⟩
 have H6 := H3.ext hE5
 refine q_alloc (o := .cells (cel E8 (List.replicate 16 0#8)).toArray 124 (0, 0)) H6 zer124 (by kernel_rfl) ?_
 intro b7 w8 hb7 H9 hE10
 refine d_store (k := 0) (v := .agg (cel E8 (encL cl (bytesS (n / (2#64)) (0#64) 16))).toArray) (cs' := (cel E8 (encL cl (bytesS (n / (2#64)) (0#64) 16))).toArray) H9 rfl rfl rfl siz124 (by exact celSize (by rw [encL_len, bytesS_len]; rfl)) (by exact celOne _) (by rw [List.size_toArray, cel_length]; show _ ≤ _ * 1; first | omega | (simp only [List.length_set]; omega) | exact bLe rfl | (simp <;> omega)) (by exact putAll (by rw [encL_len, bytesS_len]; rfl)) ?_
 intro w11 H12 hC13
 have H12' := H12.as (L' := [(some b7, .cells (cel E8 (encL cl (bytesS (n / (2#64)) (0#64) 16))).toArray 124 (0, 0))]) rfl
 clear H12
 refine wend ?_
 refine sR ?_
 refine sq (r_loadA (cs' := (cel E8 (encL cl (bytesS (n / (2#64)) (0#64) 16))).toArray) agg124 siz124 (H12'.get (k := 0) rfl) (off := 0) rfl (by rw [List.size_toArray, cel_length, encL_len, bytesS_len]; decide) (by exact ext_all (by rw [cel_length, encL_len, bytesS_len]; rfl))) ?_
 refine c_call (vs := [.agg (cel E8 (encL cl (bytesS (n / (2#64)) (0#64) 16))).toArray]) call107 rfl (label_ok (encL cl (bytesS (n / (2#64)) (0#64) 16)) (by rw [encL_len, bytesS_len]) w11) ?_
 rintro _ w14 ⟨rfl, hE15⟩
 have H16 := H12'.ext hE15
 refine sM (u64 (n)) rfl ?_
 refine sq (r_rem64 (a := n) (b := 2#64) rfl rfl (by decide)) ?_
 refine sq (r_idxE (E := E64) (l := labelS (encL cl (bytesS (n / (2#64)) (0#64) 16)) 16) (j := (n % (2#64)).toNat) (a := (labelS (encL cl (bytesS (n / (2#64)) (0#64) 16)) 16).getD ((n % (2#64)).toNat) 0#64) rfl und38 one32 siz32 rfl rfl (by first | rfl | omega | (simp; omega)) (by have := BitVec.umod_lt n (y := 2#64) (by decide); simpa [BitVec.lt_def] using this) (by exact at_getD (by rw [labelS_len]; have := BitVec.umod_lt n (y := 2#64) (by decide); simpa [BitVec.lt_def] using this)) (fun _ => rfl)) ?_
 refine sA (u64 ((labelS (encL cl (bytesS (n / (2#64)) (0#64) 16)) 16).getD ((n % (2#64)).toNat) 0#64)) rfl ?_
 refine wend ?_
 refine retAny ?_
 refine retG (rs := [.tmp 4]) (vs := [u64 ((labelS (encL cl (bytesS (n / (2#64)) (0#64) 16)) 16).getD ((n % (2#64)).toNat) 0#64)]) rfl ⟨⟨rfl, rfl⟩, trivial⟩ ?_
 exact ⟨_, rfl, rfl, H16.chg⟩
theorem fixed_ok (w : World) : Calls Tryd.prog 85 [].toArray w (Ret fun v w' => (∃ b, v = pT b ∧ w.heap.size ≤ b ∧ w'.heap[b]? = some (.cells (cel E8 (cipher fixKey)).toArray 215 (0, 0))) ∧ Ext w w') := by
 have H := Hp.start No w
 refine enter (n := 13) Tryd.func85 rfl rfl (bLe rfl) ?_
 refine sR ?_
 refine sA (.pointer none) rfl ?_
 refine wend ?_
 refine sR ?_
 refine q_alloc (o := .cells (cel E8 (List.replicate 16 0#8)).toArray 124 (0, 0)) H zer124 (by kernel_rfl) ?_
 intro b1 w2 hb1 H3 hE4
 refine wend ?_
 refine seqAny ?_
 refine sR ?_
 refine sM (i64 ((0 : Int))) rfl ?_
 refine wend ?_
 refine blockAny ?_
 refine loopAny (σ := Nat) (fun i => [(1, pT b1), (3, i64 (i : Nat))]) (fun i w' => i ≤ 16 ∧ Hp No w w' [(some b1, .cells (cel E8 (fixS i)).toArray 124 (0, 0))]) (fun i => 16 - i) (0) ?_ ?_ ?_
 ·exact ⟨rfl, rfl, trivial⟩
 ·exact ⟨by omega, H3⟩
 rintro i ρ w5 ⟨hi, H6⟩
 have hl := fixS_len i
 refine sR ?_
 refine sq (r_lssI (a := (i : Nat)) (b := (16 : Int)) rfl rfl) ?_
 refine wend ?_
 refine seqAny ?_
 refine condProp (((i : Nat) : Int) < (16 : Int)) rfl (fun c4 => ?_) (fun c4 => ?_)
 ·skip
  refine skipAny ?_
  refine thenNormal ?_
  refine seqAny ?_
  refine blockAny ?_
  refine sR ?_
  refine sM (i64 (i : Nat)) rfl ?_
  refine sA (i64 (i : Nat)) rfl ?_
  refine wend ?_
  refine oneRegion ?_
  refine sM (i64 (i : Nat)) rfl ?_
  refine sM (i64 (i : Nat)) rfl ?_
  refine sq (r_Ito8 und3 und5 (a := (i : Nat)) rfl) ?_
  refine sq (r_indexA (off' := i) (j := i) arr124 (b := b1) (off := 0) rfl rfl (by first | rfl | omega | (simp; omega)) (by omega) (by omega)) ?_
  refine d_store (k := 0) (v := u8 (BitVec.ofInt 8 (i : Nat))) (cs' := (cel E8 ((fixS i).set i (BitVec.ofInt 8 (i : Nat)))).toArray) H6 rfl rfl rfl siz5 (by rfl) (by exact E8.one _) (by rw [List.size_toArray, cel_length]; show _ ≤ _ * 1; first | omega | (simp only [List.length_set]; omega) | exact bLe rfl | (simp <;> omega)) (by exact put1 (E := E8) rfl _ _ _) ?_
  intro w7 H8 hC9
  have H8' := H8.as (L' := [(some b1, .cells (cel E8 ((fixS i).set i (BitVec.ofInt 8 (i : Nat)))).toArray 124 (0, 0))]) rfl
  clear H8
  refine wnil ?_
  refine blockNormal ?_
  refine thenNormal ?_
  refine oneRegion ?_
  refine sq (r_addI (a := (i : Nat)) (b := (1 : Int)) rfl rfl (by omega)) ?_
  refine sM (i64 ((i : Nat) + (1 : Int))) rfl ?_
  refine wnil ?_
  refine thenNormal ?_
  exact ⟨i + 1, _, rfl, ⟨rfl, rfl, trivial⟩, ⟨by omega, H8'⟩, by show 16 - (i + 1) < 16 - i; omega⟩
 ·skip
  obtain rfl : i = 16 := by omega
  have H10 := H6.as (L' := [(some b1, .cells (cel E8 fixKey).toArray 124 (0, 0))]) (by rw [fixKey])
  refine exitAny ?_
  refine thenExit ?_
  refine thenExit ?_
  refine blockHere ?_
  refine thenNormal ?_
  refine sR ?_
  refine sq (r_loadA (cs' := (cel E8 fixKey).toArray) agg124 siz124 (H10.get (k := 0) rfl) (off := 0) rfl (by rw [List.size_toArray, cel_length, fixKey, fixS_len]; decide) (by exact ext_all (by rw [cel_length, fixKey, fixS_len]; rfl))) ?_
  refine c_call (vs := [.agg (cel E8 fixKey).toArray]) call96 rfl (new_ok fixKey (fixS_len 16) w5) ?_
  rintro _ w11 ⟨⟨b13, rfl, hb14, ho15⟩, hE16⟩
  have H17 := H10.add1 hE16 hb14 ho15
  refine sA (pT b13) rfl ?_
  refine wend ?_
  refine retAny ?_
  refine retG (rs := [.tmp 0]) (vs := [pT b13]) rfl ⟨⟨rfl, rfl⟩, trivial⟩ ?_
  exact ⟨_, rfl, ⟨_, rfl, by have := H17.own _ (List.mem_of_getElem? (i := 0) rfl) _ rfl; exact this.resolve_left (fun h => h), H17.get (k := 0) rfl⟩, H17.chg⟩
theorem hash_ok (bc : Nat) (cl : List By) (hcl : cl.length = 432) (a b tw : BitVec 64) (w : World) (hc : w.heap[bc]? = some (.cells (cel E8 cl).toArray 215 (0, 0))) : Calls Tryd.prog 87 [pT bc, .agg (cel E64 [a, b]).toArray, u64 (tw)].toArray w (Ret fun v w' => v = .agg (cel E64 [(hashL cl a b tw).1, (hashL cl a b tw).2]).toArray ∧ Ext w w') := by
 have H := Hp.start No w
 refine enter (n := 20) Tryd.func87 rfl rfl (bLe rfl) ?_
 refine sR ?_
 refine q_box (v := .agg (cel E64 [a, b]).toArray) (o := .cells (cel E64 ([a, b])).toArray 38 (0, 0)) H rfl (by rfl) ?_
 intro b1 w2 hb1 H3 hE4
 refine q_alloc (o := .cells (cel E64 ([0#64, 0#64])).toArray 38 (0, 0)) H3 zer38 (by kernel_rfl) ?_
 intro b5 w6 hb5 H7 hE8
 refine wend ?_
 refine sR ?_
 refine sq (r_loadA (cs' := (cel E64 ([a, b])).toArray) agg38 siz38 (H7.get (k := 1) rfl) (off := 0) rfl (by exact bLe rfl) (by exact ext_all rfl)) ?_
 refine c_call (vs := [.agg (cel E64 ([a, b])).toArray]) call106 rfl (double_ok a b w6) ?_
 rintro _ w9 ⟨rfl, hE10⟩
 have H11 := H7.ext hE10
 refine sM (u64 (tw)) rfl ?_
 refine sq (r_buildA (cs' := (cel E64 [tw, 0#64]).toArray) (ps := [(0, u64 (tw)), (1, u64 (0#64))]) zer38 arr38 rfl (by rfl)) ?_
 refine c_call (vs := [.agg (cel E64 [(dbl a b).1, (dbl a b).2]).toArray, .agg (cel E64 [tw, 0#64]).toArray]) call86 rfl (xor_ok ((dbl a b).1) ((dbl a b).2) tw (0#64) w9) ?_
 rintro _ w12 ⟨rfl, hE13⟩
 have H14 := H11.ext hE13
 refine q_alloc (o := .cells (cel E64 ([0#64, 0#64])).toArray 38 (0, 0)) H14 zer38 (by kernel_rfl) ?_
 intro b15 w16 hb15 H17 hE18
 refine d_store (k := 0) (v := .agg (cel E64 [((dbl a b).1) ^^^ tw, ((dbl a b).2) ^^^ (0#64)]).toArray) (cs' := (cel E64 ([((dbl a b).1) ^^^ tw, ((dbl a b).2) ^^^ (0#64)])).toArray) H17 rfl rfl rfl siz38 (by exact celSize (by first | rfl | (show _ * 1 = _; omega))) (by exact celOne _) (by rw [List.size_toArray, cel_length]; show _ ≤ _ * 1; first | omega | (simp only [List.length_set]; omega) | exact bLe rfl | (simp <;> omega)) (by exact putAll (by first | rfl | omega | (simp <;> omega))) ?_
 intro w19 H20 hC21
 have H20' := H20.as (L' := [(some b15, .cells (cel E64 ([((dbl a b).1) ^^^ tw, ((dbl a b).2) ^^^ (0#64)])).toArray 38 (0, 0)), (some b5, .cells (cel E64 ([0#64, 0#64])).toArray 38 (0, 0)), (some b1, .cells (cel E64 ([a, b])).toArray 38 (0, 0))]) rfl
 clear H20
 refine wend ?_
 refine seqAny ?_
 refine drawAny (K := [none, none, none, none, none, none, none]) [0, 0, 0, 4, 14, 30, 63, 127] (fun w' => Ext w19 w') (fun w' w'' => Ext w' w'') mixed (by kernel_rfl) (Ext.drew _) (fun _ _ h h' => h.trans h') ?_ ?_
 ·exact relNone (by decide)
 refine ⟨.agg (cel E64 ([((dbl a b).1) ^^^ tw, ((dbl a b).2) ^^^ (0#64)])).toArray, fun _ uw22 hC23 _ => Gives.run rfl (r_loadA (cs' := (cel E64 ([((dbl a b).1) ^^^ tw, ((dbl a b).2) ^^^ (0#64)])).toArray) agg38 siz38 ((H20'.ext hC23).get (k := 0) rfl) (off := 0) rfl (by exact bLe rfl) (by exact ext_all rfl)) ⟨rfl, Chg.refl _ _⟩, ?_⟩
 refine ⟨pT bc, fun _ uw24 hC25 _ => Gives.run rfl (r_move (v := pT bc) rfl) ⟨rfl, Chg.refl _ _⟩, ?_⟩
 refine ⟨.agg (cel E64 ([((dbl a b).1) ^^^ tw, ((dbl a b).2) ^^^ (0#64)])).toArray, fun _ uw26 hC27 _ => Gives.run rfl (r_loadA (cs' := (cel E64 ([((dbl a b).1) ^^^ tw, ((dbl a b).2) ^^^ (0#64)])).toArray) agg38 siz38 ((H20'.ext hC27).get (k := 0) rfl) (off := 0) rfl (by exact bLe rfl) (by exact ext_all rfl)) ⟨rfl, Chg.refl _ _⟩, ?_⟩
 refine ⟨.agg (cel E8 (bytesS (((dbl a b).1) ^^^ tw) (((dbl a b).2) ^^^ (0#64)) 16)).toArray, fun _ uw28 hC29 _ => Gives.call rfl (Enters.callL (vs := [.agg (cel E64 ([((dbl a b).1) ^^^ tw, ((dbl a b).2) ^^^ (0#64)])).toArray]) call109 rfl) (bytes_ok (((dbl a b).1) ^^^ tw) (((dbl a b).2) ^^^ (0#64)) uw28), ?_⟩
 refine ⟨.agg (cel E8 (encL cl (bytesS (((dbl a b).1) ^^^ tw) (((dbl a b).2) ^^^ (0#64)) 16))).toArray, fun _ uw30 hC31 _ => Gives.call rfl (Enters.callL (vs := [pT bc, .agg (cel E8 (bytesS (((dbl a b).1) ^^^ tw) (((dbl a b).2) ^^^ (0#64)) 16)).toArray]) call108 rfl) (enc_ok bc cl hcl (bytesS (((dbl a b).1) ^^^ tw) (((dbl a b).2) ^^^ (0#64)) 16) (bytesS_len _ _ _) uw30 ((H20'.ext hC31).keepE hc)), ?_⟩
 refine ⟨.agg (cel E64 [(labelS (encL cl (bytesS (((dbl a b).1) ^^^ tw) (((dbl a b).2) ^^^ (0#64)) 16)) 16).getD 0 0#64, (labelS (encL cl (bytesS (((dbl a b).1) ^^^ tw) (((dbl a b).2) ^^^ (0#64)) 16)) 16).getD 1 0#64]).toArray, fun _ uw32 hC33 _ => Gives.call rfl (Enters.callL (vs := [.agg (cel E8 (encL cl (bytesS (((dbl a b).1) ^^^ tw) (((dbl a b).2) ^^^ (0#64)) 16))).toArray]) call107 rfl) ((label_ok (encL cl (bytesS (((dbl a b).1) ^^^ tw) (((dbl a b).2) ^^^ (0#64)) 16)) (by rw [encL_len, bytesS_len]) uw32).mono (fun _ _ h => by obtain ⟨v, h1, h2, h3⟩ := h; exact ⟨v, h1, by rw [h2, ← two_list (labelS_len _ _)], h3⟩)), ?_⟩
 refine ⟨.agg (cel E64 [(((dbl a b).1) ^^^ tw) ^^^ ((labelS (encL cl (bytesS (((dbl a b).1) ^^^ tw) (((dbl a b).2) ^^^ (0#64)) 16)) 16).getD 0 0#64), (((dbl a b).2) ^^^ (0#64)) ^^^ ((labelS (encL cl (bytesS (((dbl a b).1) ^^^ tw) (((dbl a b).2) ^^^ (0#64)) 16)) 16).getD 1 0#64)]).toArray, fun _ uw34 hC35 _ => Gives.call rfl (Enters.callL (vs := [.agg (cel E64 ([((dbl a b).1) ^^^ tw, ((dbl a b).2) ^^^ (0#64)])).toArray, .agg (cel E64 [(labelS (encL cl (bytesS (((dbl a b).1) ^^^ tw) (((dbl a b).2) ^^^ (0#64)) 16)) 16).getD 0 0#64, (labelS (encL cl (bytesS (((dbl a b).1) ^^^ tw) (((dbl a b).2) ^^^ (0#64)) 16)) 16).getD 1 0#64]).toArray]) call86 rfl) (xor_ok (((dbl a b).1) ^^^ tw) (((dbl a b).2) ^^^ (0#64)) ((labelS (encL cl (bytesS (((dbl a b).1) ^^^ tw) (((dbl a b).2) ^^^ (0#64)) 16)) 16).getD 0 0#64) ((labelS (encL cl (bytesS (((dbl a b).1) ^^^ tw) (((dbl a b).2) ^^^ (0#64)) 16)) 16).getD 1 0#64) uw34), ?_⟩
 intro r39 w36 hE38 hF
 have H37 := H20'.ext hE38
 refine d_store (k := 1) (v := .agg (cel E64 [(((dbl a b).1) ^^^ tw) ^^^ ((labelS (encL cl (bytesS (((dbl a b).1) ^^^ tw) (((dbl a b).2) ^^^ (0#64)) 16)) 16).getD 0 0#64), (((dbl a b).2) ^^^ (0#64)) ^^^ ((labelS (encL cl (bytesS (((dbl a b).1) ^^^ tw) (((dbl a b).2) ^^^ (0#64)) 16)) 16).getD 1 0#64)]).toArray) (cs' := (cel E64 ([(((dbl a b).1) ^^^ tw) ^^^ ((labelS (encL cl (bytesS (((dbl a b).1) ^^^ tw) (((dbl a b).2) ^^^ (0#64)) 16)) 16).getD 0 0#64), (((dbl a b).2) ^^^ (0#64)) ^^^ ((labelS (encL cl (bytesS (((dbl a b).1) ^^^ tw) (((dbl a b).2) ^^^ (0#64)) 16)) 16).getD 1 0#64)])).toArray) H37 rfl rfl rfl siz38 (by exact celSize (by first | rfl | (show _ * 1 = _; omega))) (by exact celOne _) (by rw [List.size_toArray, cel_length]; show _ ≤ _ * 1; first | omega | (simp only [List.length_set]; omega) | exact bLe rfl | (simp <;> omega)) (by exact putAll (by first | rfl | omega | (simp <;> omega))) ?_
 intro w40 H41 hC42
 have H41' := H41.as (L' := [(some b15, .cells (cel E64 ([((dbl a b).1) ^^^ tw, ((dbl a b).2) ^^^ (0#64)])).toArray 38 (0, 0)), (some b5, .cells (cel E64 ([(((dbl a b).1) ^^^ tw) ^^^ ((labelS (encL cl (bytesS (((dbl a b).1) ^^^ tw) (((dbl a b).2) ^^^ (0#64)) 16)) 16).getD 0 0#64), (((dbl a b).2) ^^^ (0#64)) ^^^ ((labelS (encL cl (bytesS (((dbl a b).1) ^^^ tw) (((dbl a b).2) ^^^ (0#64)) 16)) 16).getD 1 0#64)])).toArray 38 (0, 0)), (some b1, .cells (cel E64 ([a, b])).toArray 38 (0, 0))]) rfl
 clear H41
 refine wnil ?_
 refine thenNormal ?_
 refine retAny ?_
 refine retG (rs := [.cell 6 38]) (vs := [.agg (cel E64 ([(((dbl a b).1) ^^^ tw) ^^^ ((labelS (encL cl (bytesS (((dbl a b).1) ^^^ tw) (((dbl a b).2) ^^^ (0#64)) 16)) 16).getD 0 0#64), (((dbl a b).2) ^^^ (0#64)) ^^^ ((labelS (encL cl (bytesS (((dbl a b).1) ^^^ tw) (((dbl a b).2) ^^^ (0#64)) 16)) 16).getD 1 0#64)])).toArray]) rfl ⟨r_loadA (cs' := (cel E64 ([(((dbl a b).1) ^^^ tw) ^^^ ((labelS (encL cl (bytesS (((dbl a b).1) ^^^ tw) (((dbl a b).2) ^^^ (0#64)) 16)) 16).getD 0 0#64), (((dbl a b).2) ^^^ (0#64)) ^^^ ((labelS (encL cl (bytesS (((dbl a b).1) ^^^ tw) (((dbl a b).2) ^^^ (0#64)) 16)) 16).getD 1 0#64)])).toArray) agg38 siz38 (H41'.get (k := 1) rfl) (off := 0) rfl (by exact bLe rfl) (by exact ext_all rfl), trivial⟩ ?_
 exact ⟨_, rfl, rfl, H41'.chg⟩
end Go.Proofs.YteofdmdpaejgaaaDoor.Aes
