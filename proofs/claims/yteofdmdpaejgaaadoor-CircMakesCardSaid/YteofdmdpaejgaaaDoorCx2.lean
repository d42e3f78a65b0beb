/- What the claim has need of: ErrD, Fault, FaultC, Circ, Circ2, Cm, Cm2, Cm3. -/
import Derived.Test.YteofdmdpaejgaaaDoorCx1
import Derived.Test.YteofdmdpaejgaaaDoorProg
import Derived.Laws.StructEq
namespace Go.Proofs.YteofdmdpaejgaaaDoor.Vc
open Go
/-- an error with the number e, in k places, whose blocks aren't below lo -/
def Er (lo : Nat) (w : World) (e : Int) : Nat → Value → Prop
  | 0, v => v = .iface 57 (i64 e)
  | k + 1, v => ∃ (b : Nat) (nm : ByteArray) (at' : Int) (v' : Value), v = .iface 183 (.pointer (some ⟨b, 0, none⟩)) ∧ lo ≤ b ∧ w.heap[b]? = some (.cells #[.string nm, i64 at', i64 ((k + 1 : Nat) : Int), v'] 186 (0, 0)) ∧ Er lo w e k v'
theorem Er.chg {lo : Nat} {M : Nat → Prop} {w w' : World} {e : Int} (hC : Chg M w w') (hM : ∀ b, lo ≤ b → ¬ M b) : ∀ {k : Nat} {v : Value}, Er lo w e k v → Er lo w' e k v
  | 0, _, h => h
  | _ + 1, _, ⟨b, nm, at', v', h1, h2, h3, h4⟩ => ⟨b, nm, at', v', h1, h2, hC.blk _ _ (hM b h2) h3, Er.chg hC hM h4⟩
theorem Er.chgs {lo : Nat} {N : Nat → Prop} {w w' : World} {e : Int} (hC : Chg N w w') (hN : ∀ b, lo ≤ b → b < w.heap.size → ¬ N b) : ∀ {k : Nat} {v : Value}, Er lo w e k v → Er lo w' e k v
  | 0, _, h => h
  | _ + 1, _, ⟨b, nm, at', v', h1, h2, h3, h4⟩ => ⟨b, nm, at', v', h1, h2, hC.blk _ _ (hN b h2 (lt_of_some h3)) h3, Er.chgs hC hN h4⟩
theorem Er.ext {lo : Nat} {w w' : World} {e : Int} {k : Nat} {v : Value} (h : Er lo w e k v) (hE : Ext w w') : Er lo w' e k v := Er.chg hE (fun _ _ x => x) h
theorem Er.mono {lo lo' : Nat} {w : World} {e : Int} (hl : lo' ≤ lo) : ∀ {k : Nat} {v : Value}, Er lo w e k v → Er lo' w e k v
  | 0, _, h => h
  | _ + 1, _, ⟨b, nm, at', v', h1, h2, h3, h4⟩ => ⟨b, nm, at', v', h1, Nat.le_trans hl h2, h3, Er.mono hl h4⟩
theorem Er.iface {lo : Nat} {w : World} {e : Int} : ∀ {k : Nat} {v : Value}, Er lo w e k v → ∃ T x, v = .iface T x
  | 0, _, h => ⟨_, _, h⟩
  | _ + 1, _, ⟨_, _, _, _, h1, _, _, _⟩ => ⟨_, _, h1⟩
/-- what the condition tells of errors.errorType's cell -/
def Gl (w : World) : Prop := ∃ (cs : Array Value) (T : TypeId) (fr : Nat × Nat), w.heap[0]? = some (.cells cs T fr) ∧ cs[0]? = some (.iface 221 (.agg #[typeHandle Tryd.prog 27]))
theorem Chg.gl {M : Nat → Prop} {w w' : World} (h : Chg M w w') (hM : ¬ M 0) (hG : Gl w) : Gl w' := by
  obtain ⟨cs, T, fr, h1, h2⟩ := hG
  exact ⟨cs, T, fr, h.blk _ _ hM h1, h2⟩
theorem Ext.gl {w w' : World} (h : Ext w w') (hG : Gl w) : Gl w' := Chg.gl h (fun x => x) hG
theorem Gl.lt {w : World} (hG : Gl w) : 0 < w.heap.size := by
  obtain ⟨cs, T, fr, h1, _⟩ := hG
  exact lt_of_some h1
end Go.Proofs.YteofdmdpaejgaaaDoor.Vc
namespace Go.Proofs.YteofdmdpaejgaaaDoor.Er
open Go Go.Proofs.YteofdmdpaejgaaaDoor.Vc
theorem agg196 : isAgg' Tryd.prog 196 = true := by kernel_rfl
theorem call103 : callable Tryd.prog 103 = true := by kernel_rfl
theorem call146 : callable Tryd.prog 146 = true := by kernel_rfl
theorem call71 : callable Tryd.prog 71 = true := by kernel_rfl
theorem call72 : callable Tryd.prog 72 = true := by kernel_rfl
theorem call99 : callable Tryd.prog 99 = true := by kernel_rfl
theorem cmpI57 : cmpI Tryd.prog 57 = true := by kernel_rfl
theorem fld186_3 : fld Tryd.prog 186 3 = some (3, 1, 27) := by kernel_rfl
theorem hs183_226 : hasI Tryd.prog 183 226 = true := by kernel_rfl
theorem isI20 : isI Tryd.prog 20 = true := by kernel_rfl
theorem isI27 : isI Tryd.prog 27 = true := by kernel_rfl
theorem lk183_223 : lacksI Tryd.prog 183 223 = true := by kernel_rfl
theorem lk57_223 : lacksI Tryd.prog 57 223 = true := by kernel_rfl
theorem lk57_226 : lacksI Tryd.prog 57 226 = true := by kernel_rfl
theorem lk57_228 : lacksI Tryd.prog 57 228 = true := by kernel_rfl
theorem lk57_233 : lacksI Tryd.prog 57 233 = true := by kernel_rfl
theorem one190 : isOne Tryd.prog 190 = true := by kernel_rfl
theorem one27 : isOne Tryd.prog 27 = true := by kernel_rfl
theorem pls186 : pls Tryd.prog 186 = some #[(0, 1), (1, 1), (2, 1), (3, 1)] := by kernel_rfl
theorem siz196 : siz Tryd.prog 196 = some 3 := by kernel_rfl
theorem und183 : Tryd.prog.underlying 183 = some (.pointer 186) := by kernel_rfl
theorem und184 : Tryd.prog.underlying 184 = some (.pointer 183) := by kernel_rfl
theorem und57 : Tryd.prog.underlying 57 = some (.int .i64) := by kernel_rfl
theorem zer183 : zer Tryd.prog 183 = some (.pointer none) := by kernel_rfl
theorem zer186 : zer Tryd.prog 186 = some (.agg #[.string ⟨#[]⟩, .int .i64 0, .int .i64 0, .nilIface]) := by kernel_rfl
theorem zer196 : zer Tryd.prog 196 = some (.agg #[.pointer none, .pointer none, .int .u64 0]) := by kernel_rfl
theorem x_typeOf57 (v : Value) (w : World) : Xc Tryd.prog 98 [.iface 57 v] w (fun r w' => r = .iface 221 (.agg #[.pointer (some ⟨1, 57, none⟩)]) ∧ w = w') :=
  Xc.of (e := Extern.ReflectliteType.typeOf) Tryd.func98 (by kernel_rfl) (by kernel_rfl) (by kernel_rfl) (by kernel_rfl) (by kernel_rfl) ⟨rfl, rfl⟩
theorem x_typeOf183 (v : Value) (w : World) : Xc Tryd.prog 98 [.iface 183 v] w (fun r w' => r = .iface 221 (.agg #[.pointer (some ⟨1, 183, none⟩)]) ∧ w = w') :=
  Xc.of (e := Extern.ReflectliteType.typeOf) Tryd.func98 (by kernel_rfl) (by kernel_rfl) (by kernel_rfl) (by kernel_rfl) (by kernel_rfl) ⟨rfl, rfl⟩
theorem x_comparable  (w : World) : Xc Tryd.prog 152 [.agg #[.pointer (some ⟨1, 57, none⟩)]] w (fun r w' => r = .bool true ∧ w = w') :=
  Xc.of (e := (Extern.ReflectliteType.method fun t => do Extern.Rtype.noPackHeld "Comparable" t; pure (.bool (← typeInfo t).comparable))) Tryd.func152 (by kernel_rfl) (by kernel_rfl) (by kernel_rfl) (by kernel_rfl) (by kernel_rfl) ⟨rfl, rfl⟩
theorem x_assign57_183  (w : World) : Xc Tryd.prog 151 [.agg #[.pointer (some ⟨1, 57, none⟩)], .iface 221 (.agg #[.pointer (some ⟨1, 183, none⟩)])] w (fun r w' => r = .bool false ∧ w = w') :=
  Xc.of (e := (Extern.ReflectliteType.relation "AssignableTo" Extern.ReflectliteType.assignableTo)) Tryd.func151 (by kernel_rfl) (by kernel_rfl) (by kernel_rfl) (by kernel_rfl) (by kernel_rfl) ⟨rfl, rfl⟩
theorem x_assign183_57  (w : World) : Xc Tryd.prog 151 [.agg #[.pointer (some ⟨1, 183, none⟩)], .iface 221 (.agg #[.pointer (some ⟨1, 57, none⟩)])] w (fun r w' => r = .bool false ∧ w = w') :=
  Xc.of (e := (Extern.ReflectliteType.relation "AssignableTo" Extern.ReflectliteType.assignableTo)) Tryd.func151 (by kernel_rfl) (by kernel_rfl) (by kernel_rfl) (by kernel_rfl) (by kernel_rfl) ⟨rfl, rfl⟩
theorem x_assign57_57  (w : World) : Xc Tryd.prog 151 [.agg #[.pointer (some ⟨1, 57, none⟩)], .iface 221 (.agg #[.pointer (some ⟨1, 57, none⟩)])] w (fun r w' => r = .bool true ∧ w = w') :=
  Xc.of (e := (Extern.ReflectliteType.relation "AssignableTo" Extern.ReflectliteType.assignableTo)) Tryd.func151 (by kernel_rfl) (by kernel_rfl) (by kernel_rfl) (by kernel_rfl) (by kernel_rfl) ⟨rfl, rfl⟩
theorem x_valueOf184 (t : Addr) (w : World) : Xc Tryd.prog 100 [.iface 184 (.pointer (some t))] w (fun r w' => ∃ b, r = .agg #[.pointer (some ⟨1, 184, none⟩), .pointer (some ⟨b, 0, none⟩), .int .u64 150] ∧ w.heap.size ≤ b ∧ w'.heap[b]? = some (.cells #[.pointer (some t)] 184 (0, 0)) ∧ Ext w w') :=
  Xc.of (e := (fun args => Extern.ReflectliteValue.unpack (args.getD 0 (.tuple #[])))) (v := .agg #[.pointer (some ⟨1, 184, none⟩), .pointer (some ⟨w.heap.size, 0, none⟩), .int .u64 150]) (w' := w.alloc (.cells #[.pointer (some t)] 184)) Tryd.func100 (by kernel_rfl) (by kernel_rfl) (by kernel_rfl) (by kernel_rfl) (by kernel_rfl) ⟨w.heap.size, rfl, Nat.le_refl _, alloc_new _ _, Ext.alloc _ _⟩
theorem x_type184 (a : Addr) (w : World) : Xc Tryd.prog 101 [.agg #[.pointer (some ⟨1, 184, none⟩), .pointer (some a), .int .u64 150]] w (fun r w' => r = .iface 221 (.agg #[.pointer (some ⟨1, 184, none⟩)]) ∧ w = w') :=
  Xc.of (e := (Extern.ReflectliteValue.methodAny (Extern.ReflectliteValue.valueError "reflectlite.Value.Type" 0) (fun t _ _ _ => Extern.ReflectliteType.toType t))) Tryd.func101 (by kernel_rfl) (by kernel_rfl) (by kernel_rfl) (by kernel_rfl) (by kernel_rfl) ⟨rfl, rfl⟩
theorem x_kind184  (w : World) : Xc Tryd.prog 141 [.pointer (some ⟨1, 184, none⟩)] w (fun r w' => r = u8 22#8 ∧ w = w') :=
  Xc.of (e := (Extern.ReflectliteType.abiMethod fun t => do pure (.int .u8 (← Extern.Rtype.kind t)))) Tryd.func141 (by kernel_rfl) (by kernel_rfl) (by kernel_rfl) (by kernel_rfl) (by kernel_rfl) ⟨rfl, rfl⟩
theorem x_kind183  (w : World) : Xc Tryd.prog 141 [.pointer (some ⟨1, 183, none⟩)] w (fun r w' => r = u8 22#8 ∧ w = w') :=
  Xc.of (e := (Extern.ReflectliteType.abiMethod fun t => do pure (.int .u8 (← Extern.Rtype.kind t)))) Tryd.func141 (by kernel_rfl) (by kernel_rfl) (by kernel_rfl) (by kernel_rfl) (by kernel_rfl) ⟨rfl, rfl⟩
theorem rlm (z : Sem Value) (f : TypeId → Addr → Nat → Nat → Sem Value) (v : Value) : Extern.ReflectliteValue.method z f #[v] = (do match ← Extern.ReflectliteValue.parts v with | none => z | some (t, a, fl) => f t a fl (fl % 32)) := rfl
theorem parts184 (a : Addr) (w : World) : (Extern.ReflectliteValue.parts (.agg #[.pointer (some ⟨1, 184, none⟩), .pointer (some a), .int .u64 150])).run Tryd.prog w = .ok (some (184, a, 150)) w := by kernel_rfl
theorem x_isNil184 (a p : Addr) (w : World) (ha : w.cell? a = some (.pointer (some p))) : Xc Tryd.prog 102 [.agg #[.pointer (some ⟨1, 184, none⟩), .pointer (some a), .int .u64 150]] w (fun r w' => r = .bool false ∧ w = w') :=
  Xc.of (e := (Extern.ReflectliteValue.method (Extern.ReflectliteValue.valueError "reflectlite.Value.IsNil" 0) Extern.ReflectliteValue.isNil)) Tryd.func102 (by kernel_rfl) (by kernel_rfl) (by kernel_rfl) (by kernel_rfl) (by show (Extern.ReflectliteValue.method _ _ #[_]).run _ _ = _; rw [rlm]; simp only [Sem.run_bind, parts184, Result.andThen]; simp [Extern.ReflectliteValue.isNil, loadVar, isAgg, underlying, ha, Result.andThen]) ⟨rfl, rfl⟩
theorem x_elem184  (w : World) : Xc Tryd.prog 153 [.agg #[.pointer (some ⟨1, 184, none⟩)]] w (fun r w' => r = .iface 221 (.agg #[.pointer (some ⟨1, 183, none⟩)]) ∧ w = w') :=
  Xc.of (e := (Extern.ReflectliteType.method Extern.ReflectliteType.elem)) Tryd.func153 (by kernel_rfl) (by kernel_rfl) (by kernel_rfl) (by kernel_rfl) (by kernel_rfl) ⟨rfl, rfl⟩
theorem x_impl183  (w : World) : Xc Tryd.prog 154 [.agg #[.pointer (some ⟨1, 183, none⟩)], .iface 221 (.agg #[.pointer (some ⟨1, 27, none⟩)])] w (fun r w' => r = .bool true ∧ w = w') :=
  Xc.of (e := (Extern.ReflectliteType.relation "Implements" Extern.ReflectliteType.implements_)) Tryd.func154 (by kernel_rfl) (by kernel_rfl) (by kernel_rfl) (by kernel_rfl) (by kernel_rfl) ⟨rfl, rfl⟩
theorem m_Comparable (v : Value) : Mth Tryd.prog 221 "Comparable" (.agg #[v]) 152 (.agg #[v]) := fun w => by kernel_rfl
theorem m_AssignableTo (v : Value) : Mth Tryd.prog 221 "AssignableTo" (.agg #[v]) 151 (.agg #[v]) := fun w => by kernel_rfl
theorem m_Elem (v : Value) : Mth Tryd.prog 221 "Elem" (.agg #[v]) 153 (.agg #[v]) := fun w => by kernel_rfl
theorem m_Implements (v : Value) : Mth Tryd.prog 221 "Implements" (.agg #[v]) 154 (.agg #[v]) := fun w => by kernel_rfl
theorem m_Kind (v : Value) : Mth Tryd.prog 221 "Kind" (.agg #[v]) 141 v := fun w => by kernel_rfl
theorem m_Unwrap (v : Value) : Mth Tryd.prog 183 "Unwrap" v 146 v := fun w => by kernel_rfl
theorem handleErr : typeHandle Tryd.prog 27 = .pointer (some ⟨1, 27, none⟩) := by kernel_rfl
theorem unwrap_ok (b : Nat) (nm : ByteArray) (at1 d : Int) (v1 : Value) (w : World) (hb : w.heap[b]? = some (.cells #[.string nm, i64 at1, i64 d, v1] 186 (0, 0))) : Calls Tryd.prog 146 [.pointer (some ⟨b, 0, none⟩)].toArray w (Ret fun v w' => v1 = v ∧ Ext w w') := by
  have H := Hp.start No w
  refine enter (n := 7) Tryd.func146 rfl rfl (Nat.le_of_ble_eq_true rfl) ?_
  refine seqRegion ?_
  refine sq (r_assign (v := .nilIface) rfl) ?_
  refine wend ?_
  refine seqRegion ?_
  refine sq (r_move (v := .pointer (some ⟨b, 0, none⟩)) rfl) ?_
  refine sq (r_nilCheck rfl) ?_
  refine sq (r_fieldAddr (off' := 3) fld186_3 (by decide) (b := b) (off := 0) rfl (by omega)) ?_
  refine sq (r_loadC (v := v1) one27 (H.keepE hb) (off := 3) rfl (by rfl)) ?_
  refine sq (r_assign (v := v1) rfl) ?_
  refine wend ?_
  refine retAny ?_
  refine retG (rs := [.tmp 2]) (vs := [v1]) rfl ⟨⟨rfl, rfl⟩, trivial⟩ ?_
  exact ⟨_, rfl, rfl, H.chg⟩
theorem is0_ok (e e2 : Int) (k : Nat) (v : Value) (lo : Nat) (w : World) (hEr : Er lo w e k v) : Calls Tryd.prog 99 [v, .iface 57 (i64 e2), .bool true].toArray w (Ret fun r w' => r = .bool (decide (e = e2)) ∧ Ext w w') := by
  have H := Hp.start No w
  refine enter (n := 54) Tryd.func99 rfl rfl (Nat.le_of_ble_eq_true rfl) ?_
  refine seqRegion ?_
  refine sq (r_assign (v := .bool (false)) rfl) ?_
  refine wend ?_
  refine blockAny ?_
  refine loopAny (σ := Value × Nat) (fun (v, k) => [(0, v), (1, .iface 57 (i64 e2)), (2, .bool (true))]) (fun (v, k) w' => Er lo w' e k v ∧ Hp No w w' []) (fun (v, k) => k) ((v, k)) ?_ ?_ ?_
  · exact ⟨rfl, rfl, rfl, trivial⟩
  · exact ⟨hEr, H⟩
  rintro ⟨v, k⟩ ρ w1 ⟨hEr, HL⟩
  rcases k with _ | k
  · skip
    obtain rfl : v = .iface 57 (i64 e) := hEr
    refine blockAny ?_
    refine seqAny ?_
    refine seqRegion ?_
    refine sq (r_move (v := .bool (true)) rfl) ?_
    refine sq (r_move (v := .bool (true)) rfl) ?_
    refine sqAny (v := .iface 57 (i64 e)) (w' := w1) (wantedSome (d' := 15) (b := true) rfl rfl rfl) (r_move (v := .iface 57 (i64 e)) rfl) ?_
    refine sqAny (v := .iface 57 (i64 e2)) (w' := w1) (wantedSome (d' := 15) (b := true) rfl rfl rfl) (r_move (v := .iface 57 (i64 e2)) rfl) ?_
    refine sqAny (v := .bool (decide (e = e2))) (w' := w1) (wantedSome (d' := 15) (b := true) rfl rfl rfl) (r_eqlIE isI27 cmpI57 (a := e) (b := e2) rfl rfl) ?_
    refine sq (r_pickT (u := .bool (decide (e = e2))) rfl rfl) ?_
    refine wend ?_
    refine condProp (e = e2) rfl (fun c19 => ?_) (fun c19 => ?_)
    · skip
      refine seqRegion ?_
      refine sq (r_assign (v := .bool (true)) rfl) ?_
      refine wend ?_
      refine retAny ?_
      refine thenRet ?_
      refine blockRet ?_
      refine thenRet ?_
      refine blockRet ?_
      refine retG (rs := [.tmp 6]) (vs := [.bool (true)]) rfl ⟨⟨rfl, rfl⟩, trivial⟩ ?_
      exact ⟨_, rfl, by first | (rw [decide_eq_true c19]; rfl) | (rw [decide_eq_false c19]; rfl), HL.chg⟩
    · skip
      refine skipAny ?_
      refine thenNormal ?_
      refine seqAny ?_
      refine seqRegion ?_
      refine sq (r_move (v := .iface 57 (i64 e)) rfl) ?_
      refine sq (r_lacks lk57_223 rfl) ?_
      refine sq (r_move (v := .tuple #[.nilIface, .bool (false)]) rfl) ?_
      refine sq (r_extract (vs := #[.nilIface, .bool (false)]) rfl rfl) ?_
      refine sq (r_extract (vs := #[.nilIface, .bool (false)]) rfl rfl) ?_
      refine sq (r_assign (v := .nilIface) rfl) ?_
      refine sq (r_assign (v := .bool (false)) rfl) ?_
      refine wend ?_
      refine seqRegion ?_
      refine sq (r_move (v := .bool (false)) rfl) ?_
      refine sq (r_move (v := .bool (false)) rfl) ?_
      refine skAny (wantedSome (d' := 26) (b := false) rfl rfl rfl) ?_
      refine skAny (wantedSome (d' := 26) (b := false) rfl rfl rfl) ?_
      refine skAny (wantedSome (d' := 26) (b := false) rfl rfl rfl) ?_
      refine sq (r_pickF (v := .bool (false)) rfl rfl) ?_
      refine wend ?_
      refine condFalse rfl ?_
      refine skipAny ?_
      refine thenNormal ?_
      refine seqRegion ?_
      refine sq (r_move (v := .iface 57 (i64 e)) rfl) ?_
      refine wend ?_
      refine blockAny ?_
      refine seqRegion ?_
      refine sq (r_lacks lk57_226 rfl) ?_
      refine sq (r_extract (vs := #[.nilIface, .bool (false)]) rfl rfl) ?_
      refine sq (r_extract (vs := #[.nilIface, .bool (false)]) rfl rfl) ?_
      refine wend ?_
      refine condFalse rfl ?_
      refine seqRegion ?_
      refine sq (r_lacks lk57_228 rfl) ?_
      refine sq (r_extract (vs := #[.nilIface, .bool (false)]) rfl rfl) ?_
      refine sq (r_extract (vs := #[.nilIface, .bool (false)]) rfl rfl) ?_
      refine wend ?_
      refine condFalse rfl ?_
      refine seqRegion ?_
      refine sq (r_assign (v := .iface 57 (i64 e)) rfl) ?_
      refine wend ?_
      refine seqRegion ?_
      refine sq (r_assign (v := .bool (false)) rfl) ?_
      refine wend ?_
      refine retAny ?_
      refine blockRet ?_
      refine blockRet ?_
      refine thenRet ?_
      refine blockRet ?_
      refine retG (rs := [.tmp 6]) (vs := [.bool (false)]) rfl ⟨⟨rfl, rfl⟩, trivial⟩ ?_
      exact ⟨_, rfl, by first | (rw [decide_eq_true c19]; rfl) | (rw [decide_eq_false c19]; rfl), HL.chg⟩
  · skip
    obtain ⟨b, nm, at1, v1, rfl, hlo, hb, hEr1⟩ := hEr
    refine blockAny ?_
    refine seqAny ?_
    refine seqRegion ?_
    refine sq (r_move (v := .bool (true)) rfl) ?_
    refine sq (r_move (v := .bool (true)) rfl) ?_
    refine sqAny (v := .iface 183 (.pointer (some ⟨b, 0, none⟩))) (w' := w1) (wantedSome (d' := 15) (b := true) rfl rfl rfl) (r_move (v := .iface 183 (.pointer (some ⟨b, 0, none⟩))) rfl) ?_
    refine sqAny (v := .iface 57 (i64 e2)) (w' := w1) (wantedSome (d' := 15) (b := true) rfl rfl rfl) (r_move (v := .iface 57 (i64 e2)) rfl) ?_
    refine sqAny (v := .bool (false)) (w' := w1) (wantedSome (d' := 15) (b := true) rfl rfl rfl) (r_eqlII isI27 rfl rfl rfl) ?_
    refine sq (r_pickT (u := .bool (false)) rfl rfl) ?_
    refine wend ?_
    refine condFalse rfl ?_
    refine skipAny ?_
    refine thenNormal ?_
    refine seqAny ?_
    refine seqRegion ?_
    refine sq (r_move (v := .iface 183 (.pointer (some ⟨b, 0, none⟩))) rfl) ?_
    refine sq (r_lacks lk183_223 rfl) ?_
    refine sq (r_move (v := .tuple #[.nilIface, .bool (false)]) rfl) ?_
    refine sq (r_extract (vs := #[.nilIface, .bool (false)]) rfl rfl) ?_
    refine sq (r_extract (vs := #[.nilIface, .bool (false)]) rfl rfl) ?_
    refine sq (r_assign (v := .nilIface) rfl) ?_
    refine sq (r_assign (v := .bool (false)) rfl) ?_
    refine wend ?_
    refine seqRegion ?_
    refine sq (r_move (v := .bool (false)) rfl) ?_
    refine sq (r_move (v := .bool (false)) rfl) ?_
    refine skAny (wantedSome (d' := 26) (b := false) rfl rfl rfl) ?_
    refine skAny (wantedSome (d' := 26) (b := false) rfl rfl rfl) ?_
    refine skAny (wantedSome (d' := 26) (b := false) rfl rfl rfl) ?_
    refine sq (r_pickF (v := .bool (false)) rfl rfl) ?_
    refine wend ?_
    refine condFalse rfl ?_
    refine skipAny ?_
    refine thenNormal ?_
    refine seqRegion ?_
    refine sq (r_move (v := .iface 183 (.pointer (some ⟨b, 0, none⟩))) rfl) ?_
    refine wend ?_
    refine blockAny ?_
    refine seqRegion ?_
    refine sq (r_has hs183_226 rfl) ?_
    refine sq (r_extract (vs := #[.iface 183 (.pointer (some ⟨b, 0, none⟩)), .bool (true)]) rfl rfl) ?_
    refine sq (r_extract (vs := #[.iface 183 (.pointer (some ⟨b, 0, none⟩)), .bool (true)]) rfl rfl) ?_
    refine wend ?_
    refine condTrue rfl ?_
    refine seqRegion ?_
    refine sq (r_assign (v := .iface 183 (.pointer (some ⟨b, 0, none⟩))) rfl) ?_
    refine wend ?_
    refine seqRegion ?_
    refine sq (r_move (v := .iface 183 (.pointer (some ⟨b, 0, none⟩))) rfl) ?_
    refine caAny (wantedNone rfl _ _) (Enters.inv (vs := []) call146 rfl (m_Unwrap _) rfl) (unwrap_ok b nm at1 _ v1 w1 hb) ?_
    rintro _ w3 ⟨rfl, hE5⟩
    have H6 := HL.ext hE5
    refine sq (r_assign (v := v1) rfl) ?_
    have hEr2 := hEr1.ext hE5
    obtain ⟨T1, x1, rfl⟩ := hEr2.iface
    refine wend ?_
    refine seqRegion ?_
    refine sq (r_move (v := .iface T1 (x1)) rfl) ?_
    refine sq (r_eqlIN isI27 rfl rfl) ?_
    refine wend ?_
    refine condFalse rfl ?_
    refine skipAny ?_
    refine blockNormal ?_
    refine blockNormal ?_
    refine thenNormal ?_
    exact ⟨(.iface T1 x1, k), _, rfl, ⟨rfl, rfl, rfl, trivial⟩, ⟨hEr2, H6⟩, Nat.lt_succ_self k⟩
theorem is1_ok (e e2 : Int) (k : Nat) (v : Value) (lo : Nat) (w : World) (hEr : Er lo w e k v) : Calls Tryd.prog 71 [v, .iface 57 (i64 e2)].toArray w (Ret fun r w' => r = .bool (decide (e = e2)) ∧ Ext w w') := by
  obtain ⟨T0, x0, rfl⟩ := hEr.iface
  have H := Hp.start No w
  refine enter (n := 22) Tryd.func71 rfl rfl (Nat.le_of_ble_eq_true rfl) ?_
  refine seqRegion ?_
  refine sq (r_assign (v := .bool (false)) rfl) ?_
  refine wend ?_
  refine seqAny ?_
  refine seqRegion ?_
  refine sq (r_move (v := .iface T0 (x0)) rfl) ?_
  refine sq (r_eqlIN isI27 rfl rfl) ?_
  refine sq (r_move (v := .bool (false)) rfl) ?_
  refine sqAny (v := .iface 57 (i64 e2)) (w' := w) (wantedSome (d' := 8) (b := false) rfl rfl rfl) (r_move (v := .iface 57 (i64 e2)) rfl) ?_
  refine sqAny (v := .bool (false)) (w' := w) (wantedSome (d' := 8) (b := false) rfl rfl rfl) (r_eqlIN isI27 rfl rfl) ?_
  refine sq (r_pickF (v := .bool (false)) rfl rfl) ?_
  refine wend ?_
  refine condFalse rfl ?_
  refine skipAny ?_
  refine thenNormal ?_
  refine seqRegion ?_
  refine sq (r_move (v := .iface 57 (i64 e2)) rfl) ?_
  refine sqR (wantedNone rfl _ _) (r_ext (vs := [.iface 57 (i64 e2)]) rfl (x_typeOf57 (i64 e2) w)) ?_
  rintro _ _ ⟨rfl, rfl⟩
  refine sqR (wantedNone rfl _ _) (r_invX (vs := []) rfl (m_Comparable _) rfl (x_comparable w)) ?_
  rintro _ _ ⟨rfl, rfl⟩
  refine sq (r_assign (v := .bool (true)) rfl) ?_
  refine wend ?_
  refine seqRegion ?_
  refine sq (r_move (v := .iface T0 (x0)) rfl) ?_
  refine sq (r_move (v := .iface 57 (i64 e2)) rfl) ?_
  refine sq (r_move (v := .bool (true)) rfl) ?_
  refine c_call (vs := [.iface T0 (x0), .iface 57 (i64 e2), .bool (true)]) call99 rfl (is0_ok e e2 k (.iface T0 x0) lo w (hEr.ext H.chg)) ?_
  rintro _ w5 ⟨rfl, hE6⟩
  have H7 := H.ext hE6
  refine sq (r_assign (v := .bool (decide (e = e2))) rfl) ?_
  refine wend ?_
  refine retAny ?_
  refine retG (rs := [.tmp 4]) (vs := [.bool (decide (e = e2))]) rfl ⟨⟨rfl, rfl⟩, trivial⟩ ?_
  exact ⟨_, rfl, rfl, H7.chg⟩
theorem is_ok (e e2 : Int) (k : Nat) (v : Value) (lo : Nat) (w : World) (hEr : Er lo w e k v) : Calls Tryd.prog 24 [v, i64 e2].toArray w (Ret fun r w' => r = .bool (decide (e = e2)) ∧ Ext w w') := by
  obtain ⟨T0, x0, rfl⟩ := hEr.iface
  have H := Hp.start No w
  refine enter (n := 13) Tryd.func24 rfl rfl (Nat.le_of_ble_eq_true rfl) ?_
  refine seqRegion ?_
  refine sq (r_assign (v := .bool (false)) rfl) ?_
  refine wend ?_
  refine seqRegion ?_
  refine sq (r_move (v := .iface T0 (x0)) rfl) ?_
  refine sq (r_neqIN isI27 rfl rfl) ?_
  refine sq (r_move (v := .bool (true)) rfl) ?_
  refine sqAny (v := .iface T0 (x0)) (w' := w) (wantedSome (d' := 7) (b := true) rfl rfl rfl) (r_move (v := .iface T0 (x0)) rfl) ?_
  refine sqAny (v := i64 (e2)) (w' := w) (wantedSome (d' := 7) (b := true) rfl rfl rfl) (r_move (v := i64 (e2)) rfl) ?_
  refine sqAny (v := .iface 57 (i64 (e2))) (w' := w) (wantedSome (d' := 7) (b := true) rfl rfl rfl) (r_mkI und57 (xv := i64 (e2)) rfl) ?_
  refine caAny (wantedSome (d' := 7) (b := true) rfl rfl rfl) (Enters.callL (vs := [.iface T0 (x0), .iface 57 (i64 (e2))]) call71 rfl) (is1_ok e e2 k (.iface T0 x0) lo w (hEr.ext H.chg)) ?_
  rintro _ w1 ⟨rfl, hE2⟩
  have H3 := H.ext hE2
  refine sq (r_pickT (u := .bool (decide (e = e2))) rfl rfl) ?_
  refine sq (r_assign (v := .bool (decide (e = e2))) rfl) ?_
  refine wend ?_
  refine retAny ?_
  refine retG (rs := [.tmp 4]) (vs := [.bool (decide (e = e2))]) rfl ⟨⟨rfl, rfl⟩, trivial⟩ ?_
  exact ⟨_, rfl, rfl, H3.chg⟩
theorem as0_ok (e : Int) (t b : Nat) (w : World) : Calls Tryd.prog 103 [.iface 57 (i64 e), .iface 184 (.pointer (some ⟨t, 0, none⟩)), .agg #[.pointer (some ⟨1, 184, none⟩), .pointer (some ⟨b, 0, none⟩), .int .u64 150], .iface 221 (.agg #[.pointer (some ⟨1, 183, none⟩)])].toArray w (Ret fun v w' => v = .bool false ∧ Ext w w') := by
  have H := Hp.start No w
  refine enter (n := 62) Tryd.func103 rfl rfl (Nat.le_of_ble_eq_true rfl) ?_
  refine seqRegion ?_
  refine q_box (v := .agg #[.pointer (some ⟨1, 184, none⟩), .pointer (some ⟨b, 0, none⟩), .int .u64 150]) (o := .cells #[.pointer (some ⟨1, 184, none⟩), .pointer (some ⟨b, 0, none⟩), .int .u64 150] 196 (0, 0)) H rfl (by rfl) ?_
  intro b1 w2 hb1 H3 hE4
  refine sq (r_assign (v := .bool (false)) rfl) ?_
  refine wend ?_
  refine blockAny ?_
  refine loopAny (σ := Unit) (fun _ => [(0, .iface 57 (i64 e)), (1, .iface 184 (.pointer (some ⟨t, 0, none⟩))), (3, .iface 221 (.agg #[.pointer (some ⟨1, 183, none⟩)])), (6, .pointer (some ⟨b1, 0, none⟩))]) (fun _ w' => True ∧ Hp No w w' [(some b1, .cells #[.pointer (some ⟨1, 184, none⟩), .pointer (some ⟨b, 0, none⟩), .int .u64 150] 196 (0, 0))]) (fun _ => 0) (()) ?_ ?_ ?_
  · exact ⟨rfl, rfl, rfl, rfl, trivial⟩
  · exact ⟨trivial, H3⟩
  rintro _ ρ w5 ⟨_, HL⟩
  refine blockAny ?_
  refine seqAny ?_
  refine seqRegion ?_
  refine sq (r_move (v := .iface 57 (i64 e)) rfl) ?_
  refine sqR (wantedNone rfl _ _) (r_ext (vs := [.iface 57 (i64 e)]) rfl (x_typeOf57 (i64 e) w5)) ?_
  rintro _ _ ⟨rfl, rfl⟩
  refine sq (r_move (v := .iface 221 (.agg #[.pointer (some ⟨1, 183, none⟩)])) rfl) ?_
  refine sqR (wantedNone rfl _ _) (r_invX (vs := [.iface 221 (.agg #[.pointer (some ⟨1, 183, none⟩)])]) rfl (m_AssignableTo _) rfl (x_assign57_183 w5)) ?_
  rintro _ _ ⟨rfl, rfl⟩
  refine wend ?_
  refine condFalse rfl ?_
  refine skipAny ?_
  refine thenNormal ?_
  refine seqAny ?_
  refine seqRegion ?_
  refine sq (r_move (v := .iface 57 (i64 e)) rfl) ?_
  refine sq (r_lacks lk57_233 rfl) ?_
  refine sq (r_move (v := .tuple #[.nilIface, .bool (false)]) rfl) ?_
  refine sq (r_extract (vs := #[.nilIface, .bool (false)]) rfl rfl) ?_
  refine sq (r_extract (vs := #[.nilIface, .bool (false)]) rfl rfl) ?_
  refine sq (r_assign (v := .nilIface) rfl) ?_
  refine sq (r_assign (v := .bool (false)) rfl) ?_
  refine wend ?_
  refine seqRegion ?_
  refine sq (r_move (v := .bool (false)) rfl) ?_
  refine sq (r_move (v := .bool (false)) rfl) ?_
  refine skAny (wantedSome (d' := 31) (b := false) rfl rfl rfl) ?_
  refine skAny (wantedSome (d' := 31) (b := false) rfl rfl rfl) ?_
  refine skAny (wantedSome (d' := 31) (b := false) rfl rfl rfl) ?_
  refine sq (r_pickF (v := .bool (false)) rfl rfl) ?_
  refine wend ?_
  refine condFalse rfl ?_
  refine skipAny ?_
  refine thenNormal ?_
  refine seqRegion ?_
  refine sq (r_move (v := .iface 57 (i64 e)) rfl) ?_
  refine wend ?_
  refine blockAny ?_
  refine seqRegion ?_
  refine sq (r_lacks lk57_226 rfl) ?_
  refine sq (r_extract (vs := #[.nilIface, .bool (false)]) rfl rfl) ?_
  refine sq (r_extract (vs := #[.nilIface, .bool (false)]) rfl rfl) ?_
  refine wend ?_
  refine condFalse rfl ?_
  refine seqRegion ?_
  refine sq (r_lacks lk57_228 rfl) ?_
  refine sq (r_extract (vs := #[.nilIface, .bool (false)]) rfl rfl) ?_
  refine sq (r_extract (vs := #[.nilIface, .bool (false)]) rfl rfl) ?_
  refine wend ?_
  refine condFalse rfl ?_
  refine seqRegion ?_
  refine sq (r_assign (v := .iface 57 (i64 e)) rfl) ?_
  refine wend ?_
  refine seqRegion ?_
  refine sq (r_assign (v := .bool (false)) rfl) ?_
  refine wend ?_
  refine retAny ?_
  refine blockRet ?_
  refine blockRet ?_
  refine thenRet ?_
  refine blockRet ?_
  refine retG (rs := [.tmp 8]) (vs := [.bool (false)]) rfl ⟨⟨rfl, rfl⟩, trivial⟩ ?_
  exact ⟨_, rfl, rfl, HL.chg⟩
theorem as1_ok (e : Int) (t : Nat) (w : World) (hG : Gl w) : Calls Tryd.prog 72 [.iface 57 (i64 e), .iface 184 (.pointer (some ⟨t, 0, none⟩))].toArray w (Ret fun v w' => v = .bool false ∧ Ext w w') := by
  obtain ⟨gcs, gT, gfr, hg, hgv⟩ := hG
  rw [handleErr] at hgv
  have H := Hp.start No w
  refine enter (n := 42) Tryd.func72 rfl rfl (Nat.le_of_ble_eq_true rfl) ?_
  refine seqRegion ?_
  refine sq (r_assign (v := .bool (false)) rfl) ?_
  refine wend ?_
  refine seqAny ?_
  refine seqRegion ?_
  refine sq (r_move (v := .iface 57 (i64 e)) rfl) ?_
  refine sq (r_eqlIN isI27 rfl rfl) ?_
  refine wend ?_
  refine condFalse rfl ?_
  refine skipAny ?_
  refine thenNormal ?_
  refine seqAny ?_
  refine seqRegion ?_
  refine sq (r_move (v := .iface 184 (.pointer (some ⟨t, 0, none⟩))) rfl) ?_
  refine sq (r_eqlIN isI20 rfl rfl) ?_
  refine wend ?_
  refine condFalse rfl ?_
  refine skipAny ?_
  refine thenNormal ?_
  refine seqRegion ?_
  refine sq (r_move (v := .iface 184 (.pointer (some ⟨t, 0, none⟩))) rfl) ?_
  refine sqR (wantedNone rfl _ _) (r_ext (vs := [.iface 184 (.pointer (some ⟨t, 0, none⟩))]) rfl (x_valueOf184 ⟨t, 0, none⟩ w)) ?_
  rintro _ w1 ⟨b3, rfl, hb4, ho5, hE6⟩
  have H7 := H.add1 hE6 hb4 ho5
  have H7' := H7.as (L' := [(some b3, .cells #[.pointer (some ⟨t, 0, none⟩)] 184 (0, 0))]) rfl
  refine q_alloc (o := .cells #[.pointer none, .pointer none, u64 (0#64)] 196 (0, 0)) H7' zer196 (by kernel_rfl) ?_
  intro b8 w9 hb8 H10 hE11
  refine d_store (k := 0) (v := .agg #[.pointer (some ⟨1, 184, none⟩), .pointer (some ⟨b3, 0, none⟩), .int .u64 150]) (cs' := #[.pointer (some ⟨1, 184, none⟩), .pointer (some ⟨b3, 0, none⟩), .int .u64 150]) H10 rfl rfl rfl siz196 (by rfl) (by intro u hu; simp [Value.cells] at hu; first | (subst hu; rfl) | (rcases hu with rfl | rfl | rfl <;> rfl)) (by exact Nat.le_of_ble_eq_true rfl) (by rfl) ?_
  intro w12 H13 hC14
  have H13' := H13.as (L' := [(some b8, .cells #[.pointer (some ⟨1, 184, none⟩), .pointer (some ⟨b3, 0, none⟩), .int .u64 150] 196 (0, 0)), (some b3, .cells #[.pointer (some ⟨t, 0, none⟩)] 184 (0, 0))]) rfl
  clear H13
  refine wend ?_
  refine seqRegion ?_
  refine sq (r_loadA (cs' := #[.pointer (some ⟨1, 184, none⟩), .pointer (some ⟨b3, 0, none⟩), .int .u64 150]) agg196 siz196 (H13'.get (k := 0) rfl) (off := 0) rfl (by exact Nat.le_of_ble_eq_true rfl) (by rfl)) ?_
  refine sqR (wantedNone rfl _ _) (r_ext (vs := [.agg #[.pointer (some ⟨1, 184, none⟩), .pointer (some ⟨b3, 0, none⟩), .int .u64 150]]) rfl (x_type184 ⟨b3, 0, none⟩ w12)) ?_
  rintro _ _ ⟨rfl, rfl⟩
  refine sq (r_assign (v := .iface 221 (.agg #[.pointer (some ⟨1, 184, none⟩)])) rfl) ?_
  refine wend ?_
  refine seqAny ?_
  refine seqRegion ?_
  refine sq (r_move (v := .iface 221 (.agg #[.pointer (some ⟨1, 184, none⟩)])) rfl) ?_
  refine sqR (wantedNone rfl _ _) (r_invX (vs := []) rfl (m_Kind _) rfl (x_kind184 w12)) ?_
  rintro _ _ ⟨rfl, rfl⟩
  refine sq ((r_neq8 (a := 22#8) (b := 22#8) rfl rfl).as (v' := .bool (false)) (by rfl)) ?_
  refine sq (r_move (v := .bool (false)) rfl) ?_
  refine sqAny (v := .agg #[.pointer (some ⟨1, 184, none⟩), .pointer (some ⟨b3, 0, none⟩), .int .u64 150]) (w' := w12) (wantedSome (d' := 20) (b := false) rfl rfl rfl) (r_loadA (cs' := #[.pointer (some ⟨1, 184, none⟩), .pointer (some ⟨b3, 0, none⟩), .int .u64 150]) agg196 siz196 (H13'.get (k := 0) rfl) (off := 0) rfl (by exact Nat.le_of_ble_eq_true rfl) (by rfl)) ?_
  refine sqR (wantedSome (d' := 20) (b := false) rfl rfl rfl) (r_ext (vs := [.agg #[.pointer (some ⟨1, 184, none⟩), .pointer (some ⟨b3, 0, none⟩), .int .u64 150]]) rfl (x_isNil184 ⟨b3, 0, none⟩ ⟨t, 0, none⟩ w12 (by rw [cell_eq (H13'.get (k := 1) rfl)]; rfl))) ?_
  rintro _ _ ⟨rfl, rfl⟩
  refine sq (r_pickF (v := .bool (false)) rfl rfl) ?_
  refine wend ?_
  refine condFalse rfl ?_
  refine skipAny ?_
  refine thenNormal ?_
  refine seqRegion ?_
  refine sq (r_move (v := .iface 221 (.agg #[.pointer (some ⟨1, 184, none⟩)])) rfl) ?_
  refine sqR (wantedNone rfl _ _) (r_invX (vs := []) rfl (m_Elem _) rfl (x_elem184 w12)) ?_
  rintro _ _ ⟨rfl, rfl⟩
  refine sq (r_assign (v := .iface 221 (.agg #[.pointer (some ⟨1, 183, none⟩)])) rfl) ?_
  refine wend ?_
  refine seqAny ?_
  refine seqRegion ?_
  refine sq (r_move (v := .iface 221 (.agg #[.pointer (some ⟨1, 183, none⟩)])) rfl) ?_
  refine sqR (wantedNone rfl _ _) (r_invX (vs := []) rfl (m_Kind _) rfl (x_kind183 w12)) ?_
  rintro _ _ ⟨rfl, rfl⟩
  refine sq ((r_neq8 (a := 22#8) (b := 20#8) rfl rfl).as (v' := .bool (true)) (by rfl)) ?_
  refine sq (r_move (v := .bool (true)) rfl) ?_
  refine sqAny (v := .iface 221 (.agg #[.pointer (some ⟨1, 183, none⟩)])) (w' := w12) (wantedSome (d' := 30) (b := true) rfl rfl rfl) (r_move (v := .iface 221 (.agg #[.pointer (some ⟨1, 183, none⟩)])) rfl) ?_
  refine sqAny (v := .iface 221 (.agg #[.pointer (some ⟨1, 27, none⟩)])) (w' := w12) (wantedSome (d' := 30) (b := true) rfl rfl rfl) (r_loadC (v := .iface 221 (.agg #[.pointer (some ⟨1, 27, none⟩)])) one190 (H13'.keepE hg) (off := 0) rfl (hgv)) ?_
  refine sqR (wantedSome (d' := 30) (b := true) rfl rfl rfl) (r_invX (vs := [.iface 221 (.agg #[.pointer (some ⟨1, 27, none⟩)])]) rfl (m_Implements _) rfl (x_impl183 w12)) ?_
  rintro _ _ ⟨rfl, rfl⟩
  refine sqAny (v := .bool (false)) (w' := w12) (wantedSome (d' := 30) (b := true) rfl rfl rfl) (r_notT rfl) ?_
  refine sq (r_pickT (u := .bool (false)) rfl rfl) ?_
  refine wend ?_
  refine condFalse rfl ?_
  refine skipAny ?_
  refine thenNormal ?_
  refine seqRegion ?_
  refine sq (r_move (v := .iface 57 (i64 e)) rfl) ?_
  refine sq (r_move (v := .iface 184 (.pointer (some ⟨t, 0, none⟩))) rfl) ?_
  refine sq (r_loadA (cs' := #[.pointer (some ⟨1, 184, none⟩), .pointer (some ⟨b3, 0, none⟩), .int .u64 150]) agg196 siz196 (H13'.get (k := 0) rfl) (off := 0) rfl (by exact Nat.le_of_ble_eq_true rfl) (by rfl)) ?_
  refine sq (r_move (v := .iface 221 (.agg #[.pointer (some ⟨1, 183, none⟩)])) rfl) ?_
  refine c_call (vs := [.iface 57 (i64 e), .iface 184 (.pointer (some ⟨t, 0, none⟩)), .agg #[.pointer (some ⟨1, 184, none⟩), .pointer (some ⟨b3, 0, none⟩), .int .u64 150], .iface 221 (.agg #[.pointer (some ⟨1, 183, none⟩)])]) call103 rfl (as0_ok e t b3 w12) ?_
  rintro _ w27 ⟨rfl, hE28⟩
  have H29 := H13'.ext hE28
  refine sq (r_assign (v := .bool (false)) rfl) ?_
  refine wend ?_
  refine retAny ?_
  refine retG (rs := [.tmp 4]) (vs := [.bool (false)]) rfl ⟨⟨rfl, rfl⟩, trivial⟩ ?_
  exact ⟨_, rfl, rfl, H29.chg⟩
theorem wrap0_ok (e at1 : Int) (nm : ByteArray) (w : World) (hG : Gl w) : Calls Tryd.prog 63 [.iface 57 (i64 e), .string (nm), i64 (at1)].toArray w (Ret fun v w' => Er w.heap.size w' e 1 v ∧ Ext w w') := by
  have H := Hp.start No w
  refine enter (n := 29) Tryd.func63 rfl rfl (Nat.le_of_ble_eq_true rfl) ?_
  refine seqRegion ?_
  refine sq (r_assign (v := .nilIface) rfl) ?_
  refine wend ?_
  refine seqAny ?_
  refine seqRegion ?_
  refine sq (r_move (v := .iface 57 (i64 e)) rfl) ?_
  refine sq (r_eqlIN isI27 rfl rfl) ?_
  refine wend ?_
  refine condFalse rfl ?_
  refine skipAny ?_
  refine thenNormal ?_
  refine seqRegion ?_
  refine sq (r_assign (v := i64 ((1 : Int))) rfl) ?_
  refine wend ?_
  refine seqRegion ?_
  refine q_alloc (o := .cells #[.pointer none] 183 (0, 0)) H zer183 (by kernel_rfl) ?_
  intro b1 w2 hb1 H3 hE4
  refine wend ?_
  refine seqAny ?_
  refine seqRegion ?_
  refine sq (r_move (v := .iface 57 (i64 e)) rfl) ?_
  refine sq (r_mkIP und184 (xv := .pointer (some ⟨b1, 0, none⟩)) rfl) ?_
  refine c_call (vs := [.iface 57 (i64 e), .iface 184 (.pointer (some ⟨b1, 0, none⟩))]) call72 rfl (as1_ok e b1 w2 (Chg.gl H3.chg (fun x => x) hG)) ?_
  rintro _ w5 ⟨rfl, hE6⟩
  have H7 := H3.ext hE6
  refine wend ?_
  refine condFalse rfl ?_
  refine skipAny ?_
  refine thenNormal ?_
  refine seqAny ?_
  refine seqRegion ?_
  refine sq (r_move (v := i64 ((1 : Int))) rfl) ?_
  refine sq (r_gtrI (a := (1 : Int)) (b := (64 : Int)) rfl rfl) ?_
  refine wend ?_
  refine condFalse rfl ?_
  refine skipAny ?_
  refine thenNormal ?_
  refine seqRegion ?_
  refine sq (r_move (v := .string (nm)) rfl) ?_
  refine sq (r_move (v := i64 (at1)) rfl) ?_
  refine sq (r_move (v := i64 ((1 : Int))) rfl) ?_
  refine sq (r_move (v := .iface 57 (i64 e)) rfl) ?_
  refine sq (r_build (cs' := #[.string (nm), i64 (at1), i64 ((1 : Int)), .iface 57 (i64 e)]) (ps := [(0, .string (nm)), (1, i64 (at1)), (2, i64 ((1 : Int))), (3, .iface 57 (i64 e))]) zer186 pls186 rfl (by rfl)) ?_
  refine q_box (v := .agg #[.string (nm), i64 (at1), i64 ((1 : Int)), .iface 57 (i64 e)]) (o := .cells #[.string (nm), i64 (at1), i64 ((1 : Int)), .iface 57 (i64 e)] 186 (0, 0)) H7 rfl (by rfl) ?_
  intro b8 w9 hb8 H10 hE11
  refine sq (r_mkIP und183 (xv := .pointer (some ⟨b8, 0, none⟩)) rfl) ?_
  refine sq (r_assign (v := .iface 183 (.pointer (some ⟨b8, 0, none⟩))) rfl) ?_
  refine wend ?_
  refine retAny ?_
  refine retG (rs := [.tmp 6]) (vs := [.iface 183 (.pointer (some ⟨b8, 0, none⟩))]) rfl ⟨⟨rfl, rfl⟩, trivial⟩ ?_
  exact ⟨_, rfl, ⟨b8, _, _, _, rfl, (H10.own _ (List.mem_of_getElem? (i := 0) rfl) _ rfl).resolve_left (fun h => h), H10.get (k := 0) rfl, rfl⟩, H10.chg⟩
end Go.Proofs.YteofdmdpaejgaaaDoor.Er
namespace Go.Proofs.YteofdmdpaejgaaaDoor.Er
open Go Go.Proofs.YteofdmdpaejgaaaDoor.Vc
theorem fits57 : Fits Tryd.prog 57 EI := fitsI (by kernel_rfl) (by kernel_rfl)
theorem lk183_233 : lacksI Tryd.prog 183 233 = true := by kernel_rfl
theorem one57 : isOne Tryd.prog 57 = true := by kernel_rfl
theorem siz57 : siz Tryd.prog 57 = some 1 := by kernel_rfl
theorem und148 : Tryd.prog.underlying 148 = some (.pointer 57) := by kernel_rfl
theorem zer57 : zer Tryd.prog 57 = some (.int .i64 0) := by kernel_rfl
theorem x_valueOf148 (t : Addr) (w : World) : Xc Tryd.prog 100 [.iface 148 (.pointer (some t))] w (fun r w' => ∃ b, r = .agg #[.pointer (some ⟨1, 148, none⟩), .pointer (some ⟨b, 0, none⟩), .int .u64 150] ∧ w.heap.size ≤ b ∧ w'.heap[b]? = some (.cells #[.pointer (some t)] 148 (0, 0)) ∧ Ext w w') :=
  Xc.of (e := (fun args => Extern.ReflectliteValue.unpack (args.getD 0 (.tuple #[])))) (v := .agg #[.pointer (some ⟨1, 148, none⟩), .pointer (some ⟨w.heap.size, 0, none⟩), .int .u64 150]) (w' := w.alloc (.cells #[.pointer (some t)] 148)) Tryd.func100 (by kernel_rfl) (by kernel_rfl) (by kernel_rfl) (by kernel_rfl) (by kernel_rfl) ⟨w.heap.size, rfl, Nat.le_refl _, alloc_new _ _, Ext.alloc _ _⟩
theorem x_type148 (a : Addr) (w : World) : Xc Tryd.prog 101 [.agg #[.pointer (some ⟨1, 148, none⟩), .pointer (some a), .int .u64 150]] w (fun r w' => r = .iface 221 (.agg #[.pointer (some ⟨1, 148, none⟩)]) ∧ w = w') :=
  Xc.of (e := (Extern.ReflectliteValue.methodAny (Extern.ReflectliteValue.valueError "reflectlite.Value.Type" 0) (fun t _ _ _ => Extern.ReflectliteType.toType t))) Tryd.func101 (by kernel_rfl) (by kernel_rfl) (by kernel_rfl) (by kernel_rfl) (by kernel_rfl) ⟨rfl, rfl⟩
theorem x_kind148  (w : World) : Xc Tryd.prog 141 [.pointer (some ⟨1, 148, none⟩)] w (fun r w' => r = u8 22#8 ∧ w = w') :=
  Xc.of (e := (Extern.ReflectliteType.abiMethod fun t => do pure (.int .u8 (← Extern.Rtype.kind t)))) Tryd.func141 (by kernel_rfl) (by kernel_rfl) (by kernel_rfl) (by kernel_rfl) (by kernel_rfl) ⟨rfl, rfl⟩
theorem x_kind57  (w : World) : Xc Tryd.prog 141 [.pointer (some ⟨1, 57, none⟩)] w (fun r w' => r = u8 2#8 ∧ w = w') :=
  Xc.of (e := (Extern.ReflectliteType.abiMethod fun t => do pure (.int .u8 (← Extern.Rtype.kind t)))) Tryd.func141 (by kernel_rfl) (by kernel_rfl) (by kernel_rfl) (by kernel_rfl) (by kernel_rfl) ⟨rfl, rfl⟩
theorem parts148 (a : Addr) (w : World) : (Extern.ReflectliteValue.parts (.agg #[.pointer (some ⟨1, 148, none⟩), .pointer (some a), .int .u64 150])).run Tryd.prog w = .ok (some (148, a, 150)) w := by kernel_rfl
theorem x_isNil148 (a p : Addr) (w : World) (ha : w.cell? a = some (.pointer (some p))) : Xc Tryd.prog 102 [.agg #[.pointer (some ⟨1, 148, none⟩), .pointer (some a), .int .u64 150]] w (fun r w' => r = .bool false ∧ w = w') :=
  Xc.of (e := (Extern.ReflectliteValue.method (Extern.ReflectliteValue.valueError "reflectlite.Value.IsNil" 0) Extern.ReflectliteValue.isNil)) Tryd.func102 (by kernel_rfl) (by kernel_rfl) (by kernel_rfl) (by kernel_rfl) (by show (Extern.ReflectliteValue.method _ _ #[_]).run _ _ = _; rw [rlm]; simp only [Sem.run_bind, parts148, Result.andThen]; simp [Extern.ReflectliteValue.isNil, loadVar, isAgg, underlying, ha, Result.andThen]) ⟨rfl, rfl⟩
theorem x_elem148  (w : World) : Xc Tryd.prog 153 [.agg #[.pointer (some ⟨1, 148, none⟩)]] w (fun r w' => r = .iface 221 (.agg #[.pointer (some ⟨1, 57, none⟩)]) ∧ w = w') :=
  Xc.of (e := (Extern.ReflectliteType.method Extern.ReflectliteType.elem)) Tryd.func153 (by kernel_rfl) (by kernel_rfl) (by kernel_rfl) (by kernel_rfl) (by kernel_rfl) ⟨rfl, rfl⟩
theorem x_impl57  (w : World) : Xc Tryd.prog 154 [.agg #[.pointer (some ⟨1, 57, none⟩)], .iface 221 (.agg #[.pointer (some ⟨1, 27, none⟩)])] w (fun r w' => r = .bool true ∧ w = w') :=
  Xc.of (e := (Extern.ReflectliteType.relation "Implements" Extern.ReflectliteType.implements_)) Tryd.func154 (by kernel_rfl) (by kernel_rfl) (by kernel_rfl) (by kernel_rfl) (by kernel_rfl) ⟨rfl, rfl⟩
theorem elemOf148 (w : World) : (Extern.Rtype.elem? 148).run Tryd.prog w = .ok (some 57) w := by kernel_rfl
theorem mk57 (p : Addr) (w : World) : (Extern.ReflectliteValue.mk 57 p Extern.ReflectliteValue.flagAddr).run Tryd.prog w = .ok (.agg #[.pointer (some ⟨1, 57, none⟩), .pointer (some p), .int .u64 386]) w := by kernel_rfl
theorem x_elemV (a p : Addr) (w : World) (ha : w.cell? a = some (.pointer (some p))) : Xc Tryd.prog 118 [.agg #[.pointer (some ⟨1, 148, none⟩), .pointer (some a), .int .u64 150]] w (fun r w' => r = .agg #[.pointer (some ⟨1, 57, none⟩), .pointer (some p), .int .u64 386] ∧ w = w') :=
  Xc.of (e := (Extern.ReflectliteValue.method (Extern.ReflectliteValue.valueError "reflectlite.Value.Elem" 0) Extern.ReflectliteValue.elem)) Tryd.func118 (by kernel_rfl) (by kernel_rfl) (by kernel_rfl) (by kernel_rfl) (by show (Extern.ReflectliteValue.method _ _ #[_]).run _ _ = _; rw [rlm]; simp only [Sem.run_bind, parts148, Result.andThen]; simp [Extern.ReflectliteValue.elem, loadVar, isAgg, underlying, Tryd.underlying148, ha, Result.andThen, elemOf148, mk57]) ⟨rfl, rfl⟩
theorem x_valueOf57 (e : Int) (w : World) : Xc Tryd.prog 100 [.iface 57 (i64 e)] w (fun r w' => ∃ b, r = .agg #[.pointer (some ⟨1, 57, none⟩), .pointer (some ⟨b, 0, none⟩), .int .u64 130] ∧ w.heap.size ≤ b ∧ w'.heap[b]? = some (.cells #[i64 e] 57 (0, 0)) ∧ Ext w w') :=
  Xc.of (e := (fun args => Extern.ReflectliteValue.unpack (args.getD 0 (.tuple #[])))) (v := .agg #[.pointer (some ⟨1, 57, none⟩), .pointer (some ⟨w.heap.size, 0, none⟩), .int .u64 130]) (w' := w.alloc (.cells #[i64 e] 57)) Tryd.func100 (by kernel_rfl) (by kernel_rfl) (by kernel_rfl) (by kernel_rfl) (by kernel_rfl) ⟨w.heap.size, rfl, Nat.le_refl _, alloc_new _ _, Ext.alloc _ _⟩
theorem rls (v x : Value) : Extern.ReflectliteValue.set #[v, x] = (do
    let (some (dst, a, fl), some (src, b, _)) := (← Extern.ReflectliteValue.parts v, ← Extern.ReflectliteValue.parts x)
      | unsupported (.noEntry "extern/(internal/reflectlite.Value).Set.zeroValue")
    if fl / Extern.ReflectliteValue.flagAddr % 2 == 0 then unsupported (.noEntry "extern/(internal/reflectlite.Value).Set.unaddressable")
    let val ← loadVar src b
    if ← Extern.Rtype.directlyAssignable dst src then storeVar dst a val
    else if ← Extern.Rtype.implements dst src then
      if (← Extern.Rtype.kind src) == 20 then
        match val with
        | .nilIface => unsupported (.noEntry "extern/reflectlite: a nil value of one interface type handed on as a value of another")
        | _ => storeVar dst a val
      else storeVar dst a (.iface src val)
    else panicString ("reflectlite.Set: value of type " ++ (← Extern.Rtype.spelt src) ++ " is not assignable to type " ++ (← Extern.Rtype.spelt dst))
    pure (.tuple #[])) := rfl
theorem partsA (a : Addr) (w : World) : (Extern.ReflectliteValue.parts (.agg #[.pointer (some ⟨1, 57, none⟩), .pointer (some a), .int .u64 386])).run Tryd.prog w = .ok (some (57, a, 386)) w := by kernel_rfl
theorem partsB (a : Addr) (w : World) : (Extern.ReflectliteValue.parts (.agg #[.pointer (some ⟨1, 57, none⟩), .pointer (some a), .int .u64 130])).run Tryd.prog w = .ok (some (57, a, 130)) w := by kernel_rfl
theorem direct57 (w : World) : (Extern.Rtype.directlyAssignable 57 57).run Tryd.prog w = .ok true w := by kernel_rfl
theorem x_set (t b : Nat) (e : Int) (old : Value) (X T2 : TypeId) (fr : Nat × Nat) (w : World) (hb : w.heap[b]? = some (.cells #[i64 e] X fr)) (ht : w.heap[t]? = some (.cells #[old] T2 (0, 0))) :
    Xc Tryd.prog 119 [.agg #[.pointer (some ⟨1, 57, none⟩), .pointer (some ⟨t, 0, none⟩), .int .u64 386], .agg #[.pointer (some ⟨1, 57, none⟩), .pointer (some ⟨b, 0, none⟩), .int .u64 130]] w (fun r w' => r = .tuple #[] ∧ Chg (· = t) w w' ∧ w'.heap[t]? = some (.cells #[i64 e] T2 (0, 0))) := by
  have h1 := run_load1 (P := Tryd.prog) (off := 0) one57 hb rfl
  have h2 := run_storeV (P := Tryd.prog) (off := 0) (v := i64 e) siz57 rfl (EI.one e) ht (Nat.le_refl 1)
  refine Xc.of (e := Extern.ReflectliteValue.set) (w' := setBlk w t (.cells #[i64 e] T2 (0, 0))) Tryd.func119 (by kernel_rfl) (by kernel_rfl) (by kernel_rfl) (by kernel_rfl) ?_ ⟨rfl, Chg.setBlk _ _ _, setBlk_new ht⟩
  show (Extern.ReflectliteValue.set #[_, _]).run _ _ = _
  rw [rls]
  simp only [Sem.run_bind, partsA, partsB, Result.andThen]
  simp [Extern.ReflectliteValue.flagAddr, h1, Result.andThen, direct57, h2]
  rfl
theorem asE0_ok (e o : Int) (t vb k lo : Nat) (v : Value) (w : World) (hEr : Er lo w e k v) (ht : w.heap[t]? = some (.cells #[i64 (o)] 57 (0, 0))) (hvb : w.heap[vb]? = some (.cells #[.pointer (some ⟨t, 0, none⟩)] 148 (0, 0))) (hvt : ¬ (vb = t)) : Calls Tryd.prog 103 [v, .iface 148 (.pointer (some ⟨t, 0, none⟩)), .agg #[.pointer (some ⟨1, 148, none⟩), .pointer (some ⟨vb, 0, none⟩), .int .u64 150], .iface 221 (.agg #[.pointer (some ⟨1, 57, none⟩)])].toArray w (Ret fun r w' => r = .bool true ∧ Chg (· = t) w w' ∧ w'.heap[t]? = some (.cells #[i64 (e)] 57 (0, 0))) := by
  have H := Hp.start1 (M := (· = t)) rfl ht
  refine enter (n := 62) Tryd.func103 rfl rfl (Nat.le_of_ble_eq_true rfl) ?_
  refine seqRegion ?_
  refine q_box (v := .agg #[.pointer (some ⟨1, 148, none⟩), .pointer (some ⟨vb, 0, none⟩), .int .u64 150]) (o := .cells #[.pointer (some ⟨1, 148, none⟩), .pointer (some ⟨vb, 0, none⟩), .int .u64 150] 196 (0, 0)) H rfl (by rfl) ?_
  intro b1 w2 hb1 H3 hE4
  refine sq (r_assign (v := .bool (false)) rfl) ?_
  refine wend ?_
  refine blockAny ?_
  refine loopAny (σ := Value × Nat) (fun (v, k) => [(0, v), (1, .iface 148 (.pointer (some ⟨t, 0, none⟩))), (3, .iface 221 (.agg #[.pointer (some ⟨1, 57, none⟩)])), (6, .pointer (some ⟨b1, 0, none⟩))]) (fun (v, k) w' => Er lo w' e k v ∧ Hp (· = t) w w' [(some b1, .cells #[.pointer (some ⟨1, 148, none⟩), .pointer (some ⟨vb, 0, none⟩), .int .u64 150] 196 (0, 0)), (some t, .cells #[i64 (o)] 57 (0, 0))]) (fun (v, k) => k) ((v, k)) ?_ ?_ ?_
  · exact ⟨rfl, rfl, rfl, rfl, trivial⟩
  · exact ⟨hEr.ext hE4, H3⟩
  rintro ⟨v, k⟩ ρ w5 ⟨hEr, HL⟩
  rcases k with _ | k
  · skip
    obtain rfl : v = .iface 57 (i64 e) := hEr
    refine blockAny ?_
    refine seqAny ?_
    refine seqRegion ?_
    refine sq (r_move (v := .iface 57 (i64 e)) rfl) ?_
    refine sqR (wantedNone rfl _ _) (r_ext (vs := [.iface 57 (i64 e)]) rfl (x_typeOf57 (i64 e) w5)) ?_
    rintro _ _ ⟨rfl, rfl⟩
    refine sq (r_move (v := .iface 221 (.agg #[.pointer (some ⟨1, 57, none⟩)])) rfl) ?_
    refine sqR (wantedNone rfl _ _) (r_invX (vs := [.iface 221 (.agg #[.pointer (some ⟨1, 57, none⟩)])]) rfl (m_AssignableTo _) rfl (x_assign57_57 w5)) ?_
    rintro _ _ ⟨rfl, rfl⟩
    refine wend ?_
    refine condTrue rfl ?_
    refine seqRegion ?_
    refine sq (r_loadA (cs' := #[.pointer (some ⟨1, 148, none⟩), .pointer (some ⟨vb, 0, none⟩), .int .u64 150]) agg196 siz196 (HL.get (k := 0) rfl) (off := 0) rfl (by exact Nat.le_of_ble_eq_true rfl) (by rfl)) ?_
    refine sqR (wantedNone rfl _ _) (r_ext (vs := [.agg #[.pointer (some ⟨1, 148, none⟩), .pointer (some ⟨vb, 0, none⟩), .int .u64 150]]) rfl (x_elemV ⟨vb, 0, none⟩ ⟨t, 0, none⟩ w5 (by rw [cell_eq (HL.keep hvt hvb)]; rfl))) ?_
    rintro _ _ ⟨rfl, rfl⟩
    refine sq (r_move (v := .iface 57 (i64 e)) rfl) ?_
    refine sqR (wantedNone rfl _ _) (r_ext (vs := [.iface 57 (i64 e)]) rfl (x_valueOf57 e w5)) ?_
    rintro _ w13 ⟨b15, rfl, hb16, ho17, hE18⟩
    have hvs := HL.chg.size
    have H19 := HL.add1 hE18 hb16 ho17
    have H19' := H19.as (L' := [(some b15, .cells #[i64 (e)] 57 (0, 0)), (some b1, .cells #[.pointer (some ⟨1, 148, none⟩), .pointer (some ⟨vb, 0, none⟩), .int .u64 150] 196 (0, 0)), (some t, .cells #[i64 (o)] 57 (0, 0))]) rfl
    refine sqR (wantedNone rfl _ _) (r_ext (vs := [.agg #[.pointer (some ⟨1, 57, none⟩), .pointer (some ⟨t, 0, none⟩), .int .u64 386], .agg #[.pointer (some ⟨1, 57, none⟩), .pointer (some ⟨b15, 0, none⟩), .int .u64 130]]) rfl (x_set t b15 e (i64 o) _ _ _ w13 (H19'.get (k := 0) rfl) (H19'.get (k := 2) rfl))) ?_
    rintro _ w20 ⟨rfl, hC22, hn23⟩
    have H24 := (H19'.set (k := 2) rfl hC22 hn23).as (L' := [(some b15, .cells #[i64 (e)] 57 (0, 0)), (some b1, .cells #[.pointer (some ⟨1, 148, none⟩), .pointer (some ⟨vb, 0, none⟩), .int .u64 150] 196 (0, 0)), (some t, .cells #[i64 (e)] 57 (0, 0))]) rfl
    refine wend ?_
    refine seqRegion ?_
    refine sq (r_assign (v := .bool (true)) rfl) ?_
    refine wend ?_
    refine retAny ?_
    refine thenRet ?_
    refine blockRet ?_
    refine thenRet ?_
    refine blockRet ?_
    refine retG (rs := [.tmp 8]) (vs := [.bool (true)]) rfl ⟨⟨rfl, rfl⟩, trivial⟩ ?_
    exact ⟨_, rfl, rfl, H24.chg, H24.get (k := 2) rfl⟩
  · skip
    obtain ⟨b, nm, at1, v1, rfl, hlo, hb, hEr1⟩ := hEr
    refine blockAny ?_
    refine seqAny ?_
    refine seqRegion ?_
    refine sq (r_move (v := .iface 183 (.pointer (some ⟨b, 0, none⟩))) rfl) ?_
    refine sqR (wantedNone rfl _ _) (r_ext (vs := [.iface 183 (.pointer (some ⟨b, 0, none⟩))]) rfl (x_typeOf183 (.pointer (some ⟨b, 0, none⟩)) w5)) ?_
    rintro _ _ ⟨rfl, rfl⟩
    refine sq (r_move (v := .iface 221 (.agg #[.pointer (some ⟨1, 57, none⟩)])) rfl) ?_
    refine sqR (wantedNone rfl _ _) (r_invX (vs := [.iface 221 (.agg #[.pointer (some ⟨1, 57, none⟩)])]) rfl (m_AssignableTo _) rfl (x_assign183_57 w5)) ?_
    rintro _ _ ⟨rfl, rfl⟩
    refine wend ?_
    refine condFalse rfl ?_
    refine skipAny ?_
    refine thenNormal ?_
    refine seqAny ?_
    refine seqRegion ?_
    refine sq (r_move (v := .iface 183 (.pointer (some ⟨b, 0, none⟩))) rfl) ?_
    refine sq (r_lacks lk183_233 rfl) ?_
    refine sq (r_move (v := .tuple #[.nilIface, .bool (false)]) rfl) ?_
    refine sq (r_extract (vs := #[.nilIface, .bool (false)]) rfl rfl) ?_
    refine sq (r_extract (vs := #[.nilIface, .bool (false)]) rfl rfl) ?_
    refine sq (r_assign (v := .nilIface) rfl) ?_
    refine sq (r_assign (v := .bool (false)) rfl) ?_
    refine wend ?_
    refine seqRegion ?_
    refine sq (r_move (v := .bool (false)) rfl) ?_
    refine sq (r_move (v := .bool (false)) rfl) ?_
    refine skAny (wantedSome (d' := 31) (b := false) rfl rfl rfl) ?_
    refine skAny (wantedSome (d' := 31) (b := false) rfl rfl rfl) ?_
    refine skAny (wantedSome (d' := 31) (b := false) rfl rfl rfl) ?_
    refine sq (r_pickF (v := .bool (false)) rfl rfl) ?_
    refine wend ?_
    refine condFalse rfl ?_
    refine skipAny ?_
    refine thenNormal ?_
    refine seqRegion ?_
    refine sq (r_move (v := .iface 183 (.pointer (some ⟨b, 0, none⟩))) rfl) ?_
    refine wend ?_
    refine blockAny ?_
    refine seqRegion ?_
    refine sq (r_has hs183_226 rfl) ?_
    refine sq (r_extract (vs := #[.iface 183 (.pointer (some ⟨b, 0, none⟩)), .bool (true)]) rfl rfl) ?_
    refine sq (r_extract (vs := #[.iface 183 (.pointer (some ⟨b, 0, none⟩)), .bool (true)]) rfl rfl) ?_
    refine wend ?_
    refine condTrue rfl ?_
    refine seqRegion ?_
    refine sq (r_assign (v := .iface 183 (.pointer (some ⟨b, 0, none⟩))) rfl) ?_
    refine wend ?_
    refine seqRegion ?_
    refine sq (r_move (v := .iface 183 (.pointer (some ⟨b, 0, none⟩))) rfl) ?_
    refine caAny (wantedNone rfl _ _) (Enters.inv (vs := []) call146 rfl (m_Unwrap _) rfl) (unwrap_ok b nm at1 _ v1 w5 hb) ?_
    rintro _ w29 ⟨rfl, hE31⟩
    have H32 := HL.ext hE31
    refine sq (r_assign (v := v1) rfl) ?_
    have hEr2 := hEr1.ext hE31
    obtain ⟨T1, x1, rfl⟩ := hEr2.iface
    refine wend ?_
    refine seqRegion ?_
    refine sq (r_move (v := .iface T1 (x1)) rfl) ?_
    refine sq (r_eqlIN isI27 rfl rfl) ?_
    refine wend ?_
    refine condFalse rfl ?_
    refine skipAny ?_
    refine blockNormal ?_
    refine blockNormal ?_
    refine thenNormal ?_
    exact ⟨(.iface T1 x1, k), _, rfl, ⟨rfl, rfl, rfl, rfl, trivial⟩, ⟨hEr2, H32⟩, Nat.lt_succ_self k⟩
theorem asE1_ok (e o : Int) (t k lo : Nat) (v : Value) (w : World) (hG : Gl w) (hM0 : ¬ (0 = t)) (hEr : Er lo w e k v) (ht : w.heap[t]? = some (.cells #[i64 (o)] 57 (0, 0))) : Calls Tryd.prog 72 [v, .iface 148 (.pointer (some ⟨t, 0, none⟩))].toArray w (Ret fun r w' => r = .bool true ∧ Chg (· = t) w w' ∧ w'.heap[t]? = some (.cells #[i64 (e)] 57 (0, 0))) := by
  obtain ⟨gcs, gT, gfr, hg, hgv⟩ := hG
  rw [handleErr] at hgv
  obtain ⟨T0, x0, rfl⟩ := hEr.iface
  have H := Hp.start1 (M := (· = t)) rfl ht
  refine enter (n := 42) Tryd.func72 rfl rfl (Nat.le_of_ble_eq_true rfl) ?_
  refine seqRegion ?_
  refine sq (r_assign (v := .bool (false)) rfl) ?_
  refine wend ?_
  refine seqAny ?_
  refine seqRegion ?_
  refine sq (r_move (v := .iface T0 (x0)) rfl) ?_
  refine sq (r_eqlIN isI27 rfl rfl) ?_
  refine wend ?_
  refine condFalse rfl ?_
  refine skipAny ?_
  refine thenNormal ?_
  refine seqAny ?_
  refine seqRegion ?_
  refine sq (r_move (v := .iface 148 (.pointer (some ⟨t, 0, none⟩))) rfl) ?_
  refine sq (r_eqlIN isI20 rfl rfl) ?_
  refine wend ?_
  refine condFalse rfl ?_
  refine skipAny ?_
  refine thenNormal ?_
  refine seqRegion ?_
  refine sq (r_move (v := .iface 148 (.pointer (some ⟨t, 0, none⟩))) rfl) ?_
  refine sqR (wantedNone rfl _ _) (r_ext (vs := [.iface 148 (.pointer (some ⟨t, 0, none⟩))]) rfl (x_valueOf148 ⟨t, 0, none⟩ w)) ?_
  rintro _ w1 ⟨b3, rfl, hb4, ho5, hE6⟩
  have hvs := H.chg.size
  have H7 := H.add1 hE6 hb4 ho5
  have H7' := H7.as (L' := [(some b3, .cells #[.pointer (some ⟨t, 0, none⟩)] 148 (0, 0)), (some t, .cells #[i64 (o)] 57 (0, 0))]) rfl
  refine q_alloc (o := .cells #[.pointer none, .pointer none, u64 (0#64)] 196 (0, 0)) H7' zer196 (by kernel_rfl) ?_
  intro b8 w9 hb8 H10 hE11
  refine d_store (k := 0) (v := .agg #[.pointer (some ⟨1, 148, none⟩), .pointer (some ⟨b3, 0, none⟩), .int .u64 150]) (cs' := #[.pointer (some ⟨1, 148, none⟩), .pointer (some ⟨b3, 0, none⟩), .int .u64 150]) H10 rfl rfl rfl siz196 (by rfl) (by intro u hu; simp [Value.cells] at hu; first | (subst hu; rfl) | (rcases hu with rfl | rfl | rfl <;> rfl)) (by exact Nat.le_of_ble_eq_true rfl) (by rfl) ?_
  intro w12 H13 hC14
  have H13' := H13.as (L' := [(some b8, .cells #[.pointer (some ⟨1, 148, none⟩), .pointer (some ⟨b3, 0, none⟩), .int .u64 150] 196 (0, 0)), (some b3, .cells #[.pointer (some ⟨t, 0, none⟩)] 148 (0, 0)), (some t, .cells #[i64 (o)] 57 (0, 0))]) rfl
  clear H13
  refine wend ?_
  refine seqRegion ?_
  refine sq (r_loadA (cs' := #[.pointer (some ⟨1, 148, none⟩), .pointer (some ⟨b3, 0, none⟩), .int .u64 150]) agg196 siz196 (H13'.get (k := 0) rfl) (off := 0) rfl (by exact Nat.le_of_ble_eq_true rfl) (by rfl)) ?_
  refine sqR (wantedNone rfl _ _) (r_ext (vs := [.agg #[.pointer (some ⟨1, 148, none⟩), .pointer (some ⟨b3, 0, none⟩), .int .u64 150]]) rfl (x_type148 ⟨b3, 0, none⟩ w12)) ?_
  rintro _ _ ⟨rfl, rfl⟩
  refine sq (r_assign (v := .iface 221 (.agg #[.pointer (some ⟨1, 148, none⟩)])) rfl) ?_
  refine wend ?_
  refine seqAny ?_
  refine seqRegion ?_
  refine sq (r_move (v := .iface 221 (.agg #[.pointer (some ⟨1, 148, none⟩)])) rfl) ?_
  refine sqR (wantedNone rfl _ _) (r_invX (vs := []) rfl (m_Kind _) rfl (x_kind148 w12)) ?_
  rintro _ _ ⟨rfl, rfl⟩
  refine sq ((r_neq8 (a := 22#8) (b := 22#8) rfl rfl).as (v' := .bool (false)) (by rfl)) ?_
  refine sq (r_move (v := .bool (false)) rfl) ?_
  refine sqAny (v := .agg #[.pointer (some ⟨1, 148, none⟩), .pointer (some ⟨b3, 0, none⟩), .int .u64 150]) (w' := w12) (wantedSome (d' := 20) (b := false) rfl rfl rfl) (r_loadA (cs' := #[.pointer (some ⟨1, 148, none⟩), .pointer (some ⟨b3, 0, none⟩), .int .u64 150]) agg196 siz196 (H13'.get (k := 0) rfl) (off := 0) rfl (by exact Nat.le_of_ble_eq_true rfl) (by rfl)) ?_
  refine sqR (wantedSome (d' := 20) (b := false) rfl rfl rfl) (r_ext (vs := [.agg #[.pointer (some ⟨1, 148, none⟩), .pointer (some ⟨b3, 0, none⟩), .int .u64 150]]) rfl (x_isNil148 ⟨b3, 0, none⟩ ⟨t, 0, none⟩ w12 (by rw [cell_eq (H13'.get (k := 1) rfl)]; rfl))) ?_
  rintro _ _ ⟨rfl, rfl⟩
  refine sq (r_pickF (v := .bool (false)) rfl rfl) ?_
  refine wend ?_
  refine condFalse rfl ?_
  refine skipAny ?_
  refine thenNormal ?_
  refine seqRegion ?_
  refine sq (r_move (v := .iface 221 (.agg #[.pointer (some ⟨1, 148, none⟩)])) rfl) ?_
  refine sqR (wantedNone rfl _ _) (r_invX (vs := []) rfl (m_Elem _) rfl (x_elem148 w12)) ?_
  rintro _ _ ⟨rfl, rfl⟩
  refine sq (r_assign (v := .iface 221 (.agg #[.pointer (some ⟨1, 57, none⟩)])) rfl) ?_
  refine wend ?_
  refine seqAny ?_
  refine seqRegion ?_
  refine sq (r_move (v := .iface 221 (.agg #[.pointer (some ⟨1, 57, none⟩)])) rfl) ?_
  refine sqR (wantedNone rfl _ _) (r_invX (vs := []) rfl (m_Kind _) rfl (x_kind57 w12)) ?_
  rintro _ _ ⟨rfl, rfl⟩
  refine sq ((r_neq8 (a := 2#8) (b := 20#8) rfl rfl).as (v' := .bool (true)) (by rfl)) ?_
  refine sq (r_move (v := .bool (true)) rfl) ?_
  refine sqAny (v := .iface 221 (.agg #[.pointer (some ⟨1, 57, none⟩)])) (w' := w12) (wantedSome (d' := 30) (b := true) rfl rfl rfl) (r_move (v := .iface 221 (.agg #[.pointer (some ⟨1, 57, none⟩)])) rfl) ?_
  refine sqAny (v := .iface 221 (.agg #[.pointer (some ⟨1, 27, none⟩)])) (w' := w12) (wantedSome (d' := 30) (b := true) rfl rfl rfl) (r_loadC (v := .iface 221 (.agg #[.pointer (some ⟨1, 27, none⟩)])) one190 (H13'.keep hM0 hg) (off := 0) rfl (hgv)) ?_
  refine sqR (wantedSome (d' := 30) (b := true) rfl rfl rfl) (r_invX (vs := [.iface 221 (.agg #[.pointer (some ⟨1, 27, none⟩)])]) rfl (m_Implements _) rfl (x_impl57 w12)) ?_
  rintro _ _ ⟨rfl, rfl⟩
  refine sqAny (v := .bool (false)) (w' := w12) (wantedSome (d' := 30) (b := true) rfl rfl rfl) (r_notT rfl) ?_
  refine sq (r_pickT (u := .bool (false)) rfl rfl) ?_
  refine wend ?_
  refine condFalse rfl ?_
  refine skipAny ?_
  refine thenNormal ?_
  refine seqRegion ?_
  refine sq (r_move (v := .iface T0 (x0)) rfl) ?_
  refine sq (r_move (v := .iface 148 (.pointer (some ⟨t, 0, none⟩))) rfl) ?_
  refine sq (r_loadA (cs' := #[.pointer (some ⟨1, 148, none⟩), .pointer (some ⟨b3, 0, none⟩), .int .u64 150]) agg196 siz196 (H13'.get (k := 0) rfl) (off := 0) rfl (by exact Nat.le_of_ble_eq_true rfl) (by rfl)) ?_
  refine sq (r_move (v := .iface 221 (.agg #[.pointer (some ⟨1, 57, none⟩)])) rfl) ?_
  refine c_call (vs := [.iface T0 (x0), .iface 148 (.pointer (some ⟨t, 0, none⟩)), .agg #[.pointer (some ⟨1, 148, none⟩), .pointer (some ⟨b3, 0, none⟩), .int .u64 150], .iface 221 (.agg #[.pointer (some ⟨1, 57, none⟩)])]) call103 rfl (asE0_ok e o t b3 k lo (.iface T0 x0) w12 (Er.chgs (((Ext.chg (M := fun x => x = b8) hE6).trans (Ext.chg (M := fun x => x = b8) hE11)).trans (hC14.mono (M' := fun x => x = b8) (fun _ h => by subst h; simp))) (fun x h1 h2 h3 => by have := hE6.size; have := hE11.size; have := hC14.size; rcases h3 with rfl <;> omega) hEr) (H13'.get (k := 2) rfl) (H13'.get (k := 1) rfl) (fun e2 => by have := lt_of_some ht; omega)) ?_
  rintro _ w27 ⟨rfl, hC29, hn30⟩
  have H31 := (H13'.set (k := 2) rfl hC29 hn30).as (L' := [(some b8, .cells #[.pointer (some ⟨1, 148, none⟩), .pointer (some ⟨b3, 0, none⟩), .int .u64 150] 196 (0, 0)), (some b3, .cells #[.pointer (some ⟨t, 0, none⟩)] 148 (0, 0)), (some t, .cells #[i64 (e)] 57 (0, 0))]) rfl
  refine sq (r_assign (v := .bool (true)) rfl) ?_
  refine wend ?_
  refine retAny ?_
  refine retG (rs := [.tmp 4]) (vs := [.bool (true)]) rfl ⟨⟨rfl, rfl⟩, trivial⟩ ?_
  exact ⟨_, rfl, rfl, H31.chg, H31.get (k := 2) rfl⟩
theorem code_ok (e : Int) (k lo : Nat) (v : Value) (w : World) (hG : Gl w) (hEr : Er lo w e k v) : Calls Tryd.prog 26 [v].toArray w (Ret fun r w' => r = i64 e ∧ Ext w w') := by
  obtain ⟨T0, x0, rfl⟩ := hEr.iface
  have H := Hp.start No w
  refine enter (n := 10) Tryd.func26 rfl rfl (Nat.le_of_ble_eq_true rfl) ?_
  refine seqRegion ?_
  refine sq (r_assign (v := i64 ((0 : Int))) rfl) ?_
  refine wend ?_
  refine seqAny ?_
  refine seqRegion ?_
  refine sq (r_move (v := .iface T0 (x0)) rfl) ?_
  refine sq (r_eqlIN isI27 rfl rfl) ?_
  refine wend ?_
  refine condFalse rfl ?_
  refine skipAny ?_
  refine thenNormal ?_
  refine seqRegion ?_
  refine q_alloc (o := .cells (cel EI ([0])).toArray 57 (0, 0)) H zer57 (by kernel_rfl) ?_
  intro b1 w2 hb1 H3 hE4
  refine wend ?_
  refine seqAny ?_
  refine seqRegion ?_
  refine sq (r_move (v := .iface T0 (x0)) rfl) ?_
  refine sq (r_mkIP und148 (xv := .pointer (some ⟨b1, 0, none⟩)) rfl) ?_
  refine c_call (vs := [.iface T0 (x0), .iface 148 (.pointer (some ⟨b1, 0, none⟩))]) call72 rfl (asE1_ok e 0 b1 k lo (.iface T0 x0) w2 (Chg.gl H3.chg (fun x => x) hG) (by have := hG.lt; have := (H3.own _ (List.mem_of_getElem? (i := 0) rfl) _ rfl).resolve_left (fun h => h); omega) (hEr.ext hE4) (H3.get (k := 0) rfl)) ?_
  rintro _ w5 ⟨rfl, hC7, hn8⟩
  have H9 := (H3.set (k := 0) rfl hC7 hn8).as (L' := [(some b1, .cells (cel EI ([e])).toArray 57 (0, 0))]) rfl
  refine wend ?_
  refine condTrue rfl ?_
  refine seqRegion ?_
  refine sq (r_ld1 (E := EI) (l := [e]) (j := 0) (a := e) fits57 (H9.get (k := 0) rfl) (by rfl) rfl rfl) ?_
  refine sq (r_assign (v := i64 (e)) rfl) ?_
  refine wend ?_
  refine retAny ?_
  refine thenRet ?_
  refine retG (rs := [.tmp 2]) (vs := [i64 (e)]) rfl ⟨⟨rfl, rfl⟩, trivial⟩ ?_
  exact ⟨_, rfl, rfl, H9.chg⟩
end Go.Proofs.YteofdmdpaejgaaaDoor.Er
namespace Go.Proofs.YteofdmdpaejgaaaDoor.Er
open Go Go.Proofs.YteofdmdpaejgaaaDoor.Vc Go.Proofs.YteofdmdpaejgaaaDoor.Circ
theorem agg70 : isAgg' Tryd.prog 70 = true := by kernel_rfl
theorem byt4 : byt Tryd.prog 4 = some 1 := by kernel_rfl
theorem call24 : callable Tryd.prog 24 = true := by kernel_rfl
theorem call31 : callable Tryd.prog 31 = true := by kernel_rfl
theorem call32 : callable Tryd.prog 32 = true := by kernel_rfl
theorem call37 : callable Tryd.prog 37 = true := by kernel_rfl
theorem call63 : callable Tryd.prog 63 = true := by kernel_rfl
theorem fits3 : Fits Tryd.prog 3 EI := fitsI (by kernel_rfl) (by kernel_rfl)
theorem fits4 : Fits Tryd.prog 4 EB := fitsB (by kernel_rfl) (by kernel_rfl)
theorem fits99 : Fits Tryd.prog 99 EG := fitsG (by kernel_rfl) (by kernel_rfl)
theorem fld70_0 : fld Tryd.prog 70 0 = some (0, 1, 3) := by kernel_rfl
theorem fld70_1 : fld Tryd.prog 70 1 = some (1, 1, 68) := by kernel_rfl
theorem fld70_2 : fld Tryd.prog 70 2 = some (2, 1, 60) := by kernel_rfl
theorem fld99_0 : fld Tryd.prog 99 0 = some (0, 1, 97) := by kernel_rfl
theorem fld99_1 : fld Tryd.prog 99 1 = some (1, 1, 3) := by kernel_rfl
theorem fld99_2 : fld Tryd.prog 99 2 = some (2, 1, 3) := by kernel_rfl
theorem one3 : isOne Tryd.prog 3 = true := by kernel_rfl
theorem one60 : isOne Tryd.prog 60 = true := by kernel_rfl
theorem one68 : isOne Tryd.prog 68 = true := by kernel_rfl
theorem one97 : isOne Tryd.prog 97 = true := by kernel_rfl
theorem pls70 : pls Tryd.prog 70 = some #[(0, 1), (1, 1), (2, 1)] := by kernel_rfl
theorem pls99 : pls Tryd.prog 99 = some #[(0, 1), (1, 1), (2, 1)] := by kernel_rfl
theorem siz70 : siz Tryd.prog 70 = some 3 := by kernel_rfl
theorem siz99 : siz Tryd.prog 99 = some 3 := by kernel_rfl
theorem sli60 : sli Tryd.prog 60 = some (3, 1) := by kernel_rfl
theorem sli68 : sli Tryd.prog 68 = some (99, 3) := by kernel_rfl
theorem sli76 : sli Tryd.prog 76 = some (4, 1) := by kernel_rfl
theorem und4 : Tryd.prog.underlying 4 = some .bool := by kernel_rfl
theorem zer3 : zer Tryd.prog 3 = some (.int .i64 0) := by kernel_rfl
theorem zer4 : zer Tryd.prog 4 = some (.bool false) := by kernel_rfl
theorem zer70 : zer Tryd.prog 70 = some (.agg #[.int .i64 0, .slice none 0 0, .slice none 0 0]) := by kernel_rfl
theorem zer99 : zer Tryd.prog 99 = some (.agg #[.int .i64 0, .int .i64 0, .int .i64 0]) := by kernel_rfl
set_option maxHeartbeats 2000000 in
theorem check_ok (n : Int) (gs : List Gt) (ol : List Int) (ga oa : Option Addr) (gc oc : Nat) (w : World) (hG : Gl w) (hGs : Rd EG w ga gs) (hOl : Rd EI w oa ol) (hgl : gs.length ≤ 140737488355328) (hol : ol.length ≤ 140737488355328) : Calls Tryd.prog 31 [.agg #[i64 (n), .slice ga gs.length gc, .slice oa ol.length oc]].toArray w (Ret fun v w' => ((v = .nilIface ∧ IsC n gs ol) ∨ (Er w.heap.size w' 90 1 v ∧ ¬ IsC n gs ol)) ∧ Ext w w') := by
  have H := Hp.start No w
  refine enter (n := 109) Tryd.func31 rfl rfl (Nat.le_of_ble_eq_true rfl) ?_
  refine seqRegion ?_
  refine q_box (v := .agg #[i64 (n), .slice ga gs.length gc, .slice oa ol.length oc]) (o := .cells #[i64 (n), .slice ga gs.length gc, .slice oa ol.length oc] 70 (0, 0)) H rfl (by rfl) ?_
  intro b1 w2 hb1 H3 hE4
  refine sq (r_assign (v := .nilIface) rfl) ?_
  refine wend ?_
  refine seqAny ?_
  refine seqRegion ?_
  refine sq (r_fieldAddr (off' := 0) fld70_0 (by decide) (b := b1) (off := 0) rfl (by omega)) ?_
  refine sq (r_loadC (v := i64 (n)) one3 (H3.get (k := 0) rfl) (off := 0) rfl (by rfl)) ?_
  refine sq (r_lssI (a := n) (b := (0 : Int)) rfl rfl) ?_
  refine sq (r_move (v := .bool (decide ((n : Int) < (0 : Int)))) rfl) ?_
  by_cases g5 : (n : Int) < (0 : Int)
  · skip
    refine skAny (wantedSome (d' := 12) (b := true) rfl rfl (congrArg Value.bool (decide_eq_true g5))) ?_
    refine skAny (wantedSome (d' := 12) (b := true) rfl rfl (congrArg Value.bool (decide_eq_true g5))) ?_
    refine skAny (wantedSome (d' := 12) (b := true) rfl rfl (congrArg Value.bool (decide_eq_true g5))) ?_
    refine sq (r_pickT (u := .bool (true)) (congrArg Value.bool (decide_eq_true g5)) rfl) ?_
    refine sq (r_move (v := .bool (true)) rfl) ?_
    refine skAny (wantedSome (d' := 17) (b := true) rfl rfl rfl) ?_
    refine skAny (wantedSome (d' := 17) (b := true) rfl rfl rfl) ?_
    refine skAny (wantedSome (d' := 17) (b := true) rfl rfl rfl) ?_
    refine skAny (wantedSome (d' := 17) (b := true) rfl rfl rfl) ?_
    refine sq (r_pickT (u := .bool (true)) rfl rfl) ?_
    refine sq (r_move (v := .bool (true)) rfl) ?_
    refine skAny (wantedSome (d' := 23) (b := true) rfl rfl rfl) ?_
    refine skAny (wantedSome (d' := 23) (b := true) rfl rfl rfl) ?_
    refine skAny (wantedSome (d' := 23) (b := true) rfl rfl rfl) ?_
    refine skAny (wantedSome (d' := 23) (b := true) rfl rfl rfl) ?_
    refine sq (r_pickT (u := .bool (true)) rfl rfl) ?_
    refine wend ?_
    refine condTrue rfl ?_
    refine seqRegion ?_
    refine sq (r_mkI und57 (xv := i64 ((90 : Int))) rfl) ?_
    refine sq (r_fieldAddr (off' := 0) fld70_0 (by decide) (b := b1) (off := 0) rfl (by omega)) ?_
    refine sq (r_loadC (v := i64 (n)) one3 (H3.get (k := 0) rfl) (off := 0) rfl (by rfl)) ?_
    have := H3.lt (List.mem_of_getElem? (i := 0) rfl) rfl
    refine c_call (vs := [.iface 57 (i64 ((90 : Int))), .string ({data := #[99, 105, 114, 99, 117, 105, 116]}), i64 (n)]) call63 rfl (wrap0_ok (90 : Int) n ({data := #[99, 105, 114, 99, 117, 105, 116]}) w2 (Chg.gl H3.chg (fun x => x) hG)) ?_
    rintro v8 w6 ⟨hEr9, hE10⟩
    have H11 := H3.ext hE10
    obtain ⟨T12, x13, rfl⟩ := hEr9.iface
    refine sq (r_assign (v := .iface T12 (x13)) rfl) ?_
    refine wend ?_
    refine retAny ?_
    refine thenRet ?_
    refine retG (rs := [.tmp 2]) (vs := [.iface T12 (x13)]) rfl ⟨⟨rfl, rfl⟩, trivial⟩ ?_
    exact ⟨_, rfl, .inr ⟨hEr9.mono H3.chg.size, fun hg => by have := hg.lo; have := hg.hi; have := hg.gates; have := hg.outs; omega⟩, H11.chg⟩
  · skip
    refine sqAny (v := .pointer (some ⟨b1, 0, none⟩)) (w' := w2) (wantedSome (d' := 12) (b := false) rfl rfl (congrArg Value.bool (decide_eq_false g5))) (r_fieldAddr (off' := 0) fld70_0 (by decide) (b := b1) (off := 0) rfl (by omega)) ?_
    refine sqAny (v := i64 (n)) (w' := w2) (wantedSome (d' := 12) (b := false) rfl rfl (congrArg Value.bool (decide_eq_false g5))) (r_loadC (v := i64 (n)) one3 (H3.get (k := 0) rfl) (off := 0) rfl (by rfl)) ?_
    refine sqAny (v := .bool (decide (((4096 : Int) : Int) < n))) (w' := w2) (wantedSome (d' := 12) (b := false) rfl rfl (congrArg Value.bool (decide_eq_false g5))) (r_gtrI (a := n) (b := (4096 : Int)) rfl rfl) ?_
    refine sq (r_pickF (v := .bool (decide (((4096 : Int) : Int) < n))) (congrArg Value.bool (decide_eq_false g5)) rfl) ?_
    refine sq (r_move (v := .bool (decide (((4096 : Int) : Int) < n))) rfl) ?_
    by_cases g14 : ((4096 : Int) : Int) < n
    · skip
      refine skAny (wantedSome (d' := 17) (b := true) rfl rfl (congrArg Value.bool (decide_eq_true g14))) ?_
      refine skAny (wantedSome (d' := 17) (b := true) rfl rfl (congrArg Value.bool (decide_eq_true g14))) ?_
      refine skAny (wantedSome (d' := 17) (b := true) rfl rfl (congrArg Value.bool (decide_eq_true g14))) ?_
      refine skAny (wantedSome (d' := 17) (b := true) rfl rfl (congrArg Value.bool (decide_eq_true g14))) ?_
      refine sq (r_pickT (u := .bool (true)) (congrArg Value.bool (decide_eq_true g14)) rfl) ?_
      refine sq (r_move (v := .bool (true)) rfl) ?_
      refine skAny (wantedSome (d' := 23) (b := true) rfl rfl rfl) ?_
      refine skAny (wantedSome (d' := 23) (b := true) rfl rfl rfl) ?_
      refine skAny (wantedSome (d' := 23) (b := true) rfl rfl rfl) ?_
      refine skAny (wantedSome (d' := 23) (b := true) rfl rfl rfl) ?_
      refine sq (r_pickT (u := .bool (true)) rfl rfl) ?_
      refine wend ?_
      refine condTrue rfl ?_
      refine seqRegion ?_
      refine sq (r_mkI und57 (xv := i64 ((90 : Int))) rfl) ?_
      refine sq (r_fieldAddr (off' := 0) fld70_0 (by decide) (b := b1) (off := 0) rfl (by omega)) ?_
      refine sq (r_loadC (v := i64 (n)) one3 (H3.get (k := 0) rfl) (off := 0) rfl (by rfl)) ?_
      have := H3.lt (List.mem_of_getElem? (i := 0) rfl) rfl
      refine c_call (vs := [.iface 57 (i64 ((90 : Int))), .string ({data := #[99, 105, 114, 99, 117, 105, 116]}), i64 (n)]) call63 rfl (wrap0_ok (90 : Int) n ({data := #[99, 105, 114, 99, 117, 105, 116]}) w2 (Chg.gl H3.chg (fun x => x) hG)) ?_
      rintro v17 w15 ⟨hEr18, hE19⟩
      have H20 := H3.ext hE19
      obtain ⟨T21, x22, rfl⟩ := hEr18.iface
      refine sq (r_assign (v := .iface T21 (x22)) rfl) ?_
      refine wend ?_
      refine retAny ?_
      refine thenRet ?_
      refine retG (rs := [.tmp 2]) (vs := [.iface T21 (x22)]) rfl ⟨⟨rfl, rfl⟩, trivial⟩ ?_
      exact ⟨_, rfl, .inr ⟨hEr18.mono H3.chg.size, fun hg => by have := hg.lo; have := hg.hi; have := hg.gates; have := hg.outs; omega⟩, H20.chg⟩
    · skip
      refine sqAny (v := .pointer (some ⟨b1, 1, none⟩)) (w' := w2) (wantedSome (d' := 17) (b := false) rfl rfl (congrArg Value.bool (decide_eq_false g14))) (r_fieldAddr (off' := 1) fld70_1 (by decide) (b := b1) (off := 0) rfl (by omega)) ?_
      refine sqAny (v := .slice ga gs.length gc) (w' := w2) (wantedSome (d' := 17) (b := false) rfl rfl (congrArg Value.bool (decide_eq_false g14))) (r_loadC (v := .slice ga gs.length gc) one68 (H3.get (k := 0) rfl) (off := 1) rfl (by rfl)) ?_
      refine sqAny (v := i64 ((gs.length : Nat))) (w' := w2) (wantedSome (d' := 17) (b := false) rfl rfl (congrArg Value.bool (decide_eq_false g14))) (r_lenS sli68 (a := ga) (m := gs.length) (c := gc) rfl) ?_
      refine sqAny (v := .bool (decide (((4096 : Int) : Int) < (gs.length : Nat)))) (w' := w2) (wantedSome (d' := 17) (b := false) rfl rfl (congrArg Value.bool (decide_eq_false g14))) (r_gtrI (a := (gs.length : Nat)) (b := (4096 : Int)) rfl rfl) ?_
      refine sq (r_pickF (v := .bool (decide (((4096 : Int) : Int) < (gs.length : Nat)))) (congrArg Value.bool (decide_eq_false g14)) rfl) ?_
      refine sq (r_move (v := .bool (decide (((4096 : Int) : Int) < (gs.length : Nat)))) rfl) ?_
      by_cases g23 : ((4096 : Int) : Int) < (gs.length : Nat)
      · skip
        refine skAny (wantedSome (d' := 23) (b := true) rfl rfl (congrArg Value.bool (decide_eq_true g23))) ?_
        refine skAny (wantedSome (d' := 23) (b := true) rfl rfl (congrArg Value.bool (decide_eq_true g23))) ?_
        refine skAny (wantedSome (d' := 23) (b := true) rfl rfl (congrArg Value.bool (decide_eq_true g23))) ?_
        refine skAny (wantedSome (d' := 23) (b := true) rfl rfl (congrArg Value.bool (decide_eq_true g23))) ?_
        refine sq (r_pickT (u := .bool (true)) (congrArg Value.bool (decide_eq_true g23)) rfl) ?_
        refine wend ?_
        refine condTrue rfl ?_
        refine seqRegion ?_
        refine sq (r_mkI und57 (xv := i64 ((90 : Int))) rfl) ?_
        refine sq (r_fieldAddr (off' := 0) fld70_0 (by decide) (b := b1) (off := 0) rfl (by omega)) ?_
        refine sq (r_loadC (v := i64 (n)) one3 (H3.get (k := 0) rfl) (off := 0) rfl (by rfl)) ?_
        have := H3.lt (List.mem_of_getElem? (i := 0) rfl) rfl
        refine c_call (vs := [.iface 57 (i64 ((90 : Int))), .string ({data := #[99, 105, 114, 99, 117, 105, 116]}), i64 (n)]) call63 rfl (wrap0_ok (90 : Int) n ({data := #[99, 105, 114, 99, 117, 105, 116]}) w2 (Chg.gl H3.chg (fun x => x) hG)) ?_
        rintro v26 w24 ⟨hEr27, hE28⟩
        have H29 := H3.ext hE28
        obtain ⟨T30, x31, rfl⟩ := hEr27.iface
        refine sq (r_assign (v := .iface T30 (x31)) rfl) ?_
        refine wend ?_
        refine retAny ?_
        refine thenRet ?_
        refine retG (rs := [.tmp 2]) (vs := [.iface T30 (x31)]) rfl ⟨⟨rfl, rfl⟩, trivial⟩ ?_
        exact ⟨_, rfl, .inr ⟨hEr27.mono H3.chg.size, fun hg => by have := hg.lo; have := hg.hi; have := hg.gates; have := hg.outs; omega⟩, H29.chg⟩
      · skip
        refine sqAny (v := .pointer (some ⟨b1, 2, none⟩)) (w' := w2) (wantedSome (d' := 23) (b := false) rfl rfl (congrArg Value.bool (decide_eq_false g23))) (r_fieldAddr (off' := 2) fld70_2 (by decide) (b := b1) (off := 0) rfl (by omega)) ?_
        refine sqAny (v := .slice oa ol.length oc) (w' := w2) (wantedSome (d' := 23) (b := false) rfl rfl (congrArg Value.bool (decide_eq_false g23))) (r_loadC (v := .slice oa ol.length oc) one60 (H3.get (k := 0) rfl) (off := 2) rfl (by rfl)) ?_
        refine sqAny (v := i64 ((ol.length : Nat))) (w' := w2) (wantedSome (d' := 23) (b := false) rfl rfl (congrArg Value.bool (decide_eq_false g23))) (r_lenS sli60 (a := oa) (m := ol.length) (c := oc) rfl) ?_
        refine sqAny (v := .bool (decide (((64 : Int) : Int) < (ol.length : Nat)))) (w' := w2) (wantedSome (d' := 23) (b := false) rfl rfl (congrArg Value.bool (decide_eq_false g23))) (r_gtrI (a := (ol.length : Nat)) (b := (64 : Int)) rfl rfl) ?_
        refine sq (r_pickF (v := .bool (decide (((64 : Int) : Int) < (ol.length : Nat)))) (congrArg Value.bool (decide_eq_false g23)) rfl) ?_
        refine wend ?_
        refine condProp (((64 : Int) : Int) < (ol.length : Nat)) rfl (fun c28 => ?_) (fun c28 => ?_)
        · skip
          refine seqRegion ?_
          refine sq (r_mkI und57 (xv := i64 ((90 : Int))) rfl) ?_
          refine sq (r_fieldAddr (off' := 0) fld70_0 (by decide) (b := b1) (off := 0) rfl (by omega)) ?_
          refine sq (r_loadC (v := i64 (n)) one3 (H3.get (k := 0) rfl) (off := 0) rfl (by rfl)) ?_
          have := H3.lt (List.mem_of_getElem? (i := 0) rfl) rfl
          refine c_call (vs := [.iface 57 (i64 ((90 : Int))), .string ({data := #[99, 105, 114, 99, 117, 105, 116]}), i64 (n)]) call63 rfl (wrap0_ok (90 : Int) n ({data := #[99, 105, 114, 99, 117, 105, 116]}) w2 (Chg.gl H3.chg (fun x => x) hG)) ?_
          rintro v34 w32 ⟨hEr35, hE36⟩
          have H37 := H3.ext hE36
          obtain ⟨T38, x39, rfl⟩ := hEr35.iface
          refine sq (r_assign (v := .iface T38 (x39)) rfl) ?_
          refine wend ?_
          refine retAny ?_
          refine thenRet ?_
          refine retG (rs := [.tmp 2]) (vs := [.iface T38 (x39)]) rfl ⟨⟨rfl, rfl⟩, trivial⟩ ?_
          exact ⟨_, rfl, .inr ⟨hEr35.mono H3.chg.size, fun hg => by have := hg.lo; have := hg.hi; have := hg.gates; have := hg.outs; omega⟩, H37.chg⟩
        · skip
          refine skipAny ?_
          refine thenNormal ?_
          refine seqAny ?_
          refine seqRegion ?_
          refine sq (r_fieldAddr (off' := 1) fld70_1 (by decide) (b := b1) (off := 0) rfl (by omega)) ?_
          refine sq (r_loadC (v := .slice ga gs.length gc) one68 (H3.get (k := 0) rfl) (off := 1) rfl (by rfl)) ?_
          refine sq (r_lenS sli68 (a := ga) (m := gs.length) (c := gc) rfl) ?_
          refine sq (r_move (v := i64 ((0 : Int))) rfl) ?_
          refine wend ?_
          refine blockAny ?_
          refine loopAny (σ := Nat) (fun i => [(1, .pointer (some ⟨b1, 0, none⟩)), (34, .slice ga gs.length gc), (35, i64 ((gs.length : Nat))), (36, i64 ((i : Nat)))]) (fun i w' => i ≤ gs.length ∧ (∀ j, j < i → gokP (gs.getD j g0) (n + (j : Nat))) ∧ Hp No w w' [(some b1, .cells #[i64 (n), .slice ga gs.length gc, .slice oa ol.length oc] 70 (0, 0))]) (fun i => gs.length - i) (0) ?_ ?_ ?_
          · exact ⟨rfl, rfl, rfl, rfl, trivial⟩
          · exact ⟨by omega, fun j hj => by omega, H3⟩
          rintro i ρ w40 ⟨hi, hgs, HL⟩
          refine seqRegion ?_
          refine sq (r_lssI (a := (i : Nat)) (b := (gs.length : Nat)) rfl rfl) ?_
          refine wend ?_
          refine seqAny ?_
          refine condProp (((i : Nat) : Int) < (gs.length : Nat)) rfl (fun c37 => ?_) (fun c37 => ?_)
          · skip
            refine skipAny ?_
            refine thenNormal ?_
            refine seqAny ?_
            refine blockAny ?_
            refine seqRegion ?_
            refine sq (r_move (v := i64 ((i : Nat))) rfl) ?_
            refine sq (r_idxS (E := EG) (l := gs) (j := i) sli68 (hGs.ext HL.chg) rfl rfl (by first | rfl | omega | (simp; omega)) (by rfl) (by omega)) ?_
            refine sq ((r_ldS (E := EG) (l := gs) (j := i) (v := (gs).getD i g0) fits99 (hGs.ext HL.chg) rfl rfl (at_getD (by omega))).as (v' := .agg #[i64 (((gs).getD i g0).k), i64 (((gs).getD i g0).a), i64 (((gs).getD i g0).b)]) rfl) ?_
            refine q_alloc (o := .cells #[i64 ((0 : Int)), i64 ((0 : Int)), i64 ((0 : Int))] 99 (0, 0)) HL zer99 (by kernel_rfl) ?_
            intro b42 w43 hb42 H44 hE45
            refine sq (r_assign (v := i64 ((i : Nat))) rfl) ?_
            refine d_store (k := 0) (v := .agg #[i64 (((gs).getD i g0).k), i64 (((gs).getD i g0).a), i64 (((gs).getD i g0).b)]) (cs' := #[i64 (((gs).getD i g0).k), i64 (((gs).getD i g0).a), i64 (((gs).getD i g0).b)]) H44 rfl rfl rfl siz99 (by rfl) (by intro u hu; simp [Value.cells] at hu; first | (subst hu; rfl) | (rcases hu with rfl | rfl | rfl <;> rfl)) (by exact Nat.le_of_ble_eq_true rfl) (by rfl) ?_
            intro w46 H47 hC48
            have H47' := H47.as (L' := [(some b42, .cells #[i64 (((gs).getD i g0).k), i64 (((gs).getD i g0).a), i64 (((gs).getD i g0).b)] 99 (0, 0)), (some b1, .cells #[i64 (n), .slice ga gs.length gc, .slice oa ol.length oc] 70 (0, 0))]) rfl
            clear H47
            refine wend ?_
            refine seqRegion ?_
            refine sq (r_fieldAddr (off' := 0) fld70_0 (by decide) (b := b1) (off := 0) rfl (by omega)) ?_
            refine sq (r_loadC (v := i64 (n)) one3 (H47'.get (k := 1) rfl) (off := 0) rfl (by rfl)) ?_
            refine sq (r_move (v := i64 ((i : Nat))) rfl) ?_
            refine sq (r_addI (a := n) (b := (i : Nat)) rfl rfl (by omega)) ?_
            refine sq (r_assign (v := i64 (n + (i : Nat))) rfl) ?_
            refine wend ?_
            refine seqRegion ?_
            refine sq (r_fieldAddr (off' := 1) fld99_1 (by decide) (b := b42) (off := 0) rfl (by omega)) ?_
            refine sq (r_loadC (v := i64 (((gs).getD i g0).a)) one3 (H47'.get (k := 0) rfl) (off := 1) rfl (by rfl)) ?_
            refine sq (r_geqI (a := ((gs).getD i g0).a) (b := (0 : Int)) rfl rfl) ?_
            refine sq (r_move (v := .bool (decide (((0 : Int) : Int) ≤ (((gs).getD i g0).a)))) rfl) ?_
            by_cases g49 : ((0 : Int) : Int) ≤ (((gs).getD i g0).a)
            · skip
              refine sqAny (v := .pointer (some ⟨b42, 1, none⟩)) (w' := w46) (wantedSome (d' := 48) (b := true) rfl rfl (congrArg Value.bool (decide_eq_true g49))) (r_fieldAddr (off' := 1) fld99_1 (by decide) (b := b42) (off := 0) rfl (by omega)) ?_
              refine sqAny (v := i64 (((gs).getD i g0).a)) (w' := w46) (wantedSome (d' := 48) (b := true) rfl rfl (congrArg Value.bool (decide_eq_true g49))) (r_loadC (v := i64 (((gs).getD i g0).a)) one3 (H47'.get (k := 0) rfl) (off := 1) rfl (by rfl)) ?_
              refine sqAny (v := i64 (n + (i : Nat))) (w' := w46) (wantedSome (d' := 48) (b := true) rfl rfl (congrArg Value.bool (decide_eq_true g49))) (r_move (v := i64 (n + (i : Nat))) rfl) ?_
              refine sqAny (v := .bool (decide ((((gs).getD i g0).a : Int) < (n + (i : Nat))))) (w' := w46) (wantedSome (d' := 48) (b := true) rfl rfl (congrArg Value.bool (decide_eq_true g49))) (r_lssI (a := ((gs).getD i g0).a) (b := n + (i : Nat)) rfl rfl) ?_
              refine sq (r_pickT (u := .bool (decide ((((gs).getD i g0).a : Int) < (n + (i : Nat))))) (congrArg Value.bool (decide_eq_true g49)) rfl) ?_
              refine sq (r_assign (v := .bool (decide ((((gs).getD i g0).a : Int) < (n + (i : Nat))))) rfl) ?_
              refine wend ?_
              refine seqAny ?_
              refine seqRegion ?_
              refine sq (r_fieldAddr (off' := 0) fld99_0 (by decide) (b := b42) (off := 0) rfl (by omega)) ?_
              refine sq (r_loadC (v := i64 (((gs).getD i g0).k)) one97 (H47'.get (k := 0) rfl) (off := 0) rfl (by rfl)) ?_
              refine wend ?_
              refine blockAny ?_
              refine seqAny ?_
              refine seqRegion ?_
              refine sq (r_eqlI (a := ((gs).getD i g0).k) (b := (1 : Int)) rfl rfl) ?_
              refine sq (r_assign (v := .bool (decide ((((gs).getD i g0).k : Int) = (1 : Int)))) rfl) ?_
              refine wend ?_
              refine condProp ((((gs).getD i g0).k : Int) = (1 : Int)) rfl (fun c56 => ?_) (fun c56 => ?_)
              · skip
                refine skipAny ?_
                refine thenNormal ?_
                refine condTrue (congrArg Value.bool (decide_eq_true c56)) ?_
                refine oneRegion ?_
                refine sq (r_move (v := .bool (decide ((((gs).getD i g0).a : Int) < (n + (i : Nat))))) rfl) ?_
                refine sq (r_move (v := .bool (decide ((((gs).getD i g0).a : Int) < (n + (i : Nat))))) rfl) ?_
                by_cases g50 : (((gs).getD i g0).a : Int) < (n + (i : Nat))
                · skip
                  refine sqAny (v := .pointer (some ⟨b42, 2, none⟩)) (w' := w46) (wantedSome (d' := 60) (b := true) rfl rfl (congrArg Value.bool (decide_eq_true g50))) (r_fieldAddr (off' := 2) fld99_2 (by decide) (b := b42) (off := 0) rfl (by omega)) ?_
                  refine sqAny (v := i64 (((gs).getD i g0).b)) (w' := w46) (wantedSome (d' := 60) (b := true) rfl rfl (congrArg Value.bool (decide_eq_true g50))) (r_loadC (v := i64 (((gs).getD i g0).b)) one3 (H47'.get (k := 0) rfl) (off := 2) rfl (by rfl)) ?_
                  refine sqAny (v := .bool (decide (((0 : Int) : Int) ≤ (((gs).getD i g0).b)))) (w' := w46) (wantedSome (d' := 60) (b := true) rfl rfl (congrArg Value.bool (decide_eq_true g50))) (r_geqI (a := ((gs).getD i g0).b) (b := (0 : Int)) rfl rfl) ?_
                  refine sq (r_pickT (u := .bool (decide (((0 : Int) : Int) ≤ (((gs).getD i g0).b)))) (congrArg Value.bool (decide_eq_true g50)) rfl) ?_
                  refine sq (r_move (v := .bool (decide (((0 : Int) : Int) ≤ (((gs).getD i g0).b)))) rfl) ?_
                  by_cases g51 : ((0 : Int) : Int) ≤ (((gs).getD i g0).b)
                  · skip
                    refine sqAny (v := .pointer (some ⟨b42, 2, none⟩)) (w' := w46) (wantedSome (d' := 65) (b := true) rfl rfl (congrArg Value.bool (decide_eq_true g51))) (r_fieldAddr (off' := 2) fld99_2 (by decide) (b := b42) (off := 0) rfl (by omega)) ?_
                    refine sqAny (v := i64 (((gs).getD i g0).b)) (w' := w46) (wantedSome (d' := 65) (b := true) rfl rfl (congrArg Value.bool (decide_eq_true g51))) (r_loadC (v := i64 (((gs).getD i g0).b)) one3 (H47'.get (k := 0) rfl) (off := 2) rfl (by rfl)) ?_
                    refine sqAny (v := i64 (n + (i : Nat))) (w' := w46) (wantedSome (d' := 65) (b := true) rfl rfl (congrArg Value.bool (decide_eq_true g51))) (r_move (v := i64 (n + (i : Nat))) rfl) ?_
                    refine sqAny (v := .bool (decide ((((gs).getD i g0).b : Int) < (n + (i : Nat))))) (w' := w46) (wantedSome (d' := 65) (b := true) rfl rfl (congrArg Value.bool (decide_eq_true g51))) (r_lssI (a := ((gs).getD i g0).b) (b := n + (i : Nat)) rfl rfl) ?_
                    refine sq (r_pickT (u := .bool (decide ((((gs).getD i g0).b : Int) < (n + (i : Nat))))) (congrArg Value.bool (decide_eq_true g51)) rfl) ?_
                    refine sq (r_assign (v := .bool (decide ((((gs).getD i g0).b : Int) < (n + (i : Nat))))) rfl) ?_
                    refine wnil ?_
                    refine blockNormal ?_
                    refine thenNormal ?_
                    refine seqRegion ?_
                    refine sq (r_move (v := .bool (decide ((((gs).getD i g0).b : Int) < (n + (i : Nat))))) rfl) ?_
                    refine sq (r_not (b := decide ((((gs).getD i g0).b : Int) < (n + (i : Nat)))) rfl) ?_
                    refine wend ?_
                    refine condBool (!(decide ((((gs).getD i g0).b : Int) < (n + (i : Nat))))) rfl (fun c80 => ?_) (fun c80 => ?_)
                    · skip
                      replace c80 : ¬ ((((gs).getD i g0).b : Int) < (n + (i : Nat))) := by simpa using c80
                      refine seqRegion ?_
                      refine sq (r_mkI und57 (xv := i64 ((90 : Int))) rfl) ?_
                      refine sq (r_move (v := i64 ((i : Nat))) rfl) ?_
                      have := H47'.lt (List.mem_of_getElem? (i := 0) rfl) rfl
                      have := H47'.lt (List.mem_of_getElem? (i := 1) rfl) rfl
                      refine c_call (vs := [.iface 57 (i64 ((90 : Int))), .string ({data := #[103, 97, 116, 101]}), i64 ((i : Nat))]) call63 rfl (wrap0_ok (90 : Int) (i : Nat) ({data := #[103, 97, 116, 101]}) w46 (Chg.gl H47'.chg (fun x => x) hG)) ?_
                      rintro v54 w52 ⟨hEr55, hE56⟩
                      have H57 := H47'.ext hE56
                      obtain ⟨T58, x59, rfl⟩ := hEr55.iface
                      refine sq (r_assign (v := .iface T58 (x59)) rfl) ?_
                      refine wend ?_
                      refine retAny ?_
                      refine blockRet ?_
                      refine thenRet ?_
                      refine thenRet ?_
                      refine blockRet ?_
                      refine thenRet ?_
                      refine retG (rs := [.tmp 2]) (vs := [.iface T58 (x59)]) rfl ⟨⟨rfl, rfl⟩, trivial⟩ ?_
                      exact ⟨_, rfl, .inr ⟨hEr55.mono H47'.chg.size, fun hg => by have := hg.gok i (by omega); unfold gokP at this; omega⟩, H57.chg⟩
                    · skip
                      replace c80 : (((gs).getD i g0).b : Int) < (n + (i : Nat)) := by simpa using c80
                      refine skipAny ?_
                      refine blockNormal ?_
                      refine thenNormal ?_
                      refine oneRegion ?_
                      refine sq (r_addI (a := (i : Nat)) (b := (1 : Int)) rfl rfl (by omega)) ?_
                      refine sq (r_move (v := i64 ((i : Nat) + (1 : Int))) rfl) ?_
                      refine wnil ?_
                      refine thenNormal ?_
                      have hgi : gokP (gs.getD i g0) (n + (i : Nat)) := by unfold gokP; omega
                      exact ⟨i + 1, _, rfl, ⟨rfl, rfl, rfl, rfl, trivial⟩, ⟨by omega, fun j hj => if h : j < i then hgs j h else by (rw [show j = i by omega]; exact hgi), (H47'.dropk 0)⟩, by show gs.length - (i + 1) < gs.length - i; omega⟩
                  · skip
                    refine skAny (wantedSome (d' := 65) (b := false) rfl rfl (congrArg Value.bool (decide_eq_false g51))) ?_
                    refine skAny (wantedSome (d' := 65) (b := false) rfl rfl (congrArg Value.bool (decide_eq_false g51))) ?_
                    refine skAny (wantedSome (d' := 65) (b := false) rfl rfl (congrArg Value.bool (decide_eq_false g51))) ?_
                    refine skAny (wantedSome (d' := 65) (b := false) rfl rfl (congrArg Value.bool (decide_eq_false g51))) ?_
                    refine sq (r_pickF (v := .bool (false)) (congrArg Value.bool (decide_eq_false g51)) rfl) ?_
                    refine sq (r_assign (v := .bool (false)) rfl) ?_
                    refine wnil ?_
                    refine blockNormal ?_
                    refine thenNormal ?_
                    refine seqRegion ?_
                    refine sq (r_move (v := .bool (false)) rfl) ?_
                    refine sq (r_notF rfl) ?_
                    refine wend ?_
                    refine condTrue rfl ?_
                    refine seqRegion ?_
                    refine sq (r_mkI und57 (xv := i64 ((90 : Int))) rfl) ?_
                    refine sq (r_move (v := i64 ((i : Nat))) rfl) ?_
                    have := H47'.lt (List.mem_of_getElem? (i := 0) rfl) rfl
                    have := H47'.lt (List.mem_of_getElem? (i := 1) rfl) rfl
                    refine c_call (vs := [.iface 57 (i64 ((90 : Int))), .string ({data := #[103, 97, 116, 101]}), i64 ((i : Nat))]) call63 rfl (wrap0_ok (90 : Int) (i : Nat) ({data := #[103, 97, 116, 101]}) w46 (Chg.gl H47'.chg (fun x => x) hG)) ?_
                    rintro v62 w60 ⟨hEr63, hE64⟩
                    have H65 := H47'.ext hE64
                    obtain ⟨T66, x67, rfl⟩ := hEr63.iface
                    refine sq (r_assign (v := .iface T66 (x67)) rfl) ?_
                    refine wend ?_
                    refine retAny ?_
                    refine blockRet ?_
                    refine thenRet ?_
                    refine thenRet ?_
                    refine blockRet ?_
                    refine thenRet ?_
                    refine retG (rs := [.tmp 2]) (vs := [.iface T66 (x67)]) rfl ⟨⟨rfl, rfl⟩, trivial⟩ ?_
                    exact ⟨_, rfl, .inr ⟨hEr63.mono H47'.chg.size, fun hg => by have := hg.gok i (by omega); unfold gokP at this; omega⟩, H65.chg⟩
                · skip
                  refine skAny (wantedSome (d' := 60) (b := false) rfl rfl (congrArg Value.bool (decide_eq_false g50))) ?_
                  refine skAny (wantedSome (d' := 60) (b := false) rfl rfl (congrArg Value.bool (decide_eq_false g50))) ?_
                  refine skAny (wantedSome (d' := 60) (b := false) rfl rfl (congrArg Value.bool (decide_eq_false g50))) ?_
                  refine sq (r_pickF (v := .bool (false)) (congrArg Value.bool (decide_eq_false g50)) rfl) ?_
                  refine sq (r_move (v := .bool (false)) rfl) ?_
                  refine skAny (wantedSome (d' := 65) (b := false) rfl rfl rfl) ?_
                  refine skAny (wantedSome (d' := 65) (b := false) rfl rfl rfl) ?_
                  refine skAny (wantedSome (d' := 65) (b := false) rfl rfl rfl) ?_
                  refine skAny (wantedSome (d' := 65) (b := false) rfl rfl rfl) ?_
                  refine sq (r_pickF (v := .bool (false)) rfl rfl) ?_
                  refine sq (r_assign (v := .bool (false)) rfl) ?_
                  refine wnil ?_
                  refine blockNormal ?_
                  refine thenNormal ?_
                  refine seqRegion ?_
                  refine sq (r_move (v := .bool (false)) rfl) ?_
                  refine sq (r_notF rfl) ?_
                  refine wend ?_
                  refine condTrue rfl ?_
                  refine seqRegion ?_
                  refine sq (r_mkI und57 (xv := i64 ((90 : Int))) rfl) ?_
                  refine sq (r_move (v := i64 ((i : Nat))) rfl) ?_
                  have := H47'.lt (List.mem_of_getElem? (i := 0) rfl) rfl
                  have := H47'.lt (List.mem_of_getElem? (i := 1) rfl) rfl
                  refine c_call (vs := [.iface 57 (i64 ((90 : Int))), .string ({data := #[103, 97, 116, 101]}), i64 ((i : Nat))]) call63 rfl (wrap0_ok (90 : Int) (i : Nat) ({data := #[103, 97, 116, 101]}) w46 (Chg.gl H47'.chg (fun x => x) hG)) ?_
                  rintro v70 w68 ⟨hEr71, hE72⟩
                  have H73 := H47'.ext hE72
                  obtain ⟨T74, x75, rfl⟩ := hEr71.iface
                  refine sq (r_assign (v := .iface T74 (x75)) rfl) ?_
                  refine wend ?_
                  refine retAny ?_
                  refine blockRet ?_
                  refine thenRet ?_
                  refine thenRet ?_
                  refine blockRet ?_
                  refine thenRet ?_
                  refine retG (rs := [.tmp 2]) (vs := [.iface T74 (x75)]) rfl ⟨⟨rfl, rfl⟩, trivial⟩ ?_
                  exact ⟨_, rfl, .inr ⟨hEr71.mono H47'.chg.size, fun hg => by have := hg.gok i (by omega); unfold gokP at this; omega⟩, H73.chg⟩
              · skip
                refine oneRegion ?_
                refine sq (r_eqlI (a := ((gs).getD i g0).k) (b := (2 : Int)) rfl rfl) ?_
                refine sq (r_assign (v := .bool (decide ((((gs).getD i g0).k : Int) = (2 : Int)))) rfl) ?_
                refine wnil ?_
                refine thenNormal ?_
                refine condProp ((((gs).getD i g0).k : Int) = (2 : Int)) rfl (fun c56 => ?_) (fun c56 => ?_)
                · skip
                  refine oneRegion ?_
                  refine sq (r_move (v := .bool (decide ((((gs).getD i g0).a : Int) < (n + (i : Nat))))) rfl) ?_
                  refine sq (r_move (v := .bool (decide ((((gs).getD i g0).a : Int) < (n + (i : Nat))))) rfl) ?_
                  by_cases g76 : (((gs).getD i g0).a : Int) < (n + (i : Nat))
                  · skip
                    refine sqAny (v := .pointer (some ⟨b42, 2, none⟩)) (w' := w46) (wantedSome (d' := 60) (b := true) rfl rfl (congrArg Value.bool (decide_eq_true g76))) (r_fieldAddr (off' := 2) fld99_2 (by decide) (b := b42) (off := 0) rfl (by omega)) ?_
                    refine sqAny (v := i64 (((gs).getD i g0).b)) (w' := w46) (wantedSome (d' := 60) (b := true) rfl rfl (congrArg Value.bool (decide_eq_true g76))) (r_loadC (v := i64 (((gs).getD i g0).b)) one3 (H47'.get (k := 0) rfl) (off := 2) rfl (by rfl)) ?_
                    refine sqAny (v := .bool (decide (((0 : Int) : Int) ≤ (((gs).getD i g0).b)))) (w' := w46) (wantedSome (d' := 60) (b := true) rfl rfl (congrArg Value.bool (decide_eq_true g76))) (r_geqI (a := ((gs).getD i g0).b) (b := (0 : Int)) rfl rfl) ?_
                    refine sq (r_pickT (u := .bool (decide (((0 : Int) : Int) ≤ (((gs).getD i g0).b)))) (congrArg Value.bool (decide_eq_true g76)) rfl) ?_
                    refine sq (r_move (v := .bool (decide (((0 : Int) : Int) ≤ (((gs).getD i g0).b)))) rfl) ?_
                    by_cases g77 : ((0 : Int) : Int) ≤ (((gs).getD i g0).b)
                    · skip
                      refine sqAny (v := .pointer (some ⟨b42, 2, none⟩)) (w' := w46) (wantedSome (d' := 65) (b := true) rfl rfl (congrArg Value.bool (decide_eq_true g77))) (r_fieldAddr (off' := 2) fld99_2 (by decide) (b := b42) (off := 0) rfl (by omega)) ?_
                      refine sqAny (v := i64 (((gs).getD i g0).b)) (w' := w46) (wantedSome (d' := 65) (b := true) rfl rfl (congrArg Value.bool (decide_eq_true g77))) (r_loadC (v := i64 (((gs).getD i g0).b)) one3 (H47'.get (k := 0) rfl) (off := 2) rfl (by rfl)) ?_
                      refine sqAny (v := i64 (n + (i : Nat))) (w' := w46) (wantedSome (d' := 65) (b := true) rfl rfl (congrArg Value.bool (decide_eq_true g77))) (r_move (v := i64 (n + (i : Nat))) rfl) ?_
                      refine sqAny (v := .bool (decide ((((gs).getD i g0).b : Int) < (n + (i : Nat))))) (w' := w46) (wantedSome (d' := 65) (b := true) rfl rfl (congrArg Value.bool (decide_eq_true g77))) (r_lssI (a := ((gs).getD i g0).b) (b := n + (i : Nat)) rfl rfl) ?_
                      refine sq (r_pickT (u := .bool (decide ((((gs).getD i g0).b : Int) < (n + (i : Nat))))) (congrArg Value.bool (decide_eq_true g77)) rfl) ?_
                      refine sq (r_assign (v := .bool (decide ((((gs).getD i g0).b : Int) < (n + (i : Nat))))) rfl) ?_
                      refine wnil ?_
                      refine blockNormal ?_
                      refine thenNormal ?_
                      refine seqRegion ?_
                      refine sq (r_move (v := .bool (decide ((((gs).getD i g0).b : Int) < (n + (i : Nat))))) rfl) ?_
                      refine sq (r_not (b := decide ((((gs).getD i g0).b : Int) < (n + (i : Nat)))) rfl) ?_
                      refine wend ?_
                      refine condBool (!(decide ((((gs).getD i g0).b : Int) < (n + (i : Nat))))) rfl (fun c80 => ?_) (fun c80 => ?_)
                      · skip
                        replace c80 : ¬ ((((gs).getD i g0).b : Int) < (n + (i : Nat))) := by simpa using c80
                        refine seqRegion ?_
                        refine sq (r_mkI und57 (xv := i64 ((90 : Int))) rfl) ?_
                        refine sq (r_move (v := i64 ((i : Nat))) rfl) ?_
                        have := H47'.lt (List.mem_of_getElem? (i := 0) rfl) rfl
                        have := H47'.lt (List.mem_of_getElem? (i := 1) rfl) rfl
                        refine c_call (vs := [.iface 57 (i64 ((90 : Int))), .string ({data := #[103, 97, 116, 101]}), i64 ((i : Nat))]) call63 rfl (wrap0_ok (90 : Int) (i : Nat) ({data := #[103, 97, 116, 101]}) w46 (Chg.gl H47'.chg (fun x => x) hG)) ?_
                        rintro v80 w78 ⟨hEr81, hE82⟩
                        have H83 := H47'.ext hE82
                        obtain ⟨T84, x85, rfl⟩ := hEr81.iface
                        refine sq (r_assign (v := .iface T84 (x85)) rfl) ?_
                        refine wend ?_
                        refine retAny ?_
                        refine blockRet ?_
                        refine thenRet ?_
                        refine thenRet ?_
                        refine blockRet ?_
                        refine thenRet ?_
                        refine retG (rs := [.tmp 2]) (vs := [.iface T84 (x85)]) rfl ⟨⟨rfl, rfl⟩, trivial⟩ ?_
                        exact ⟨_, rfl, .inr ⟨hEr81.mono H47'.chg.size, fun hg => by have := hg.gok i (by omega); unfold gokP at this; omega⟩, H83.chg⟩
                      · skip
                        replace c80 : (((gs).getD i g0).b : Int) < (n + (i : Nat)) := by simpa using c80
                        refine skipAny ?_
                        refine blockNormal ?_
                        refine thenNormal ?_
                        refine oneRegion ?_
                        refine sq (r_addI (a := (i : Nat)) (b := (1 : Int)) rfl rfl (by omega)) ?_
                        refine sq (r_move (v := i64 ((i : Nat) + (1 : Int))) rfl) ?_
                        refine wnil ?_
                        refine thenNormal ?_
                        have hgi : gokP (gs.getD i g0) (n + (i : Nat)) := by unfold gokP; omega
                        exact ⟨i + 1, _, rfl, ⟨rfl, rfl, rfl, rfl, trivial⟩, ⟨by omega, fun j hj => if h : j < i then hgs j h else by (rw [show j = i by omega]; exact hgi), (H47'.dropk 0)⟩, by show gs.length - (i + 1) < gs.length - i; omega⟩
                    · skip
                      refine skAny (wantedSome (d' := 65) (b := false) rfl rfl (congrArg Value.bool (decide_eq_false g77))) ?_
                      refine skAny (wantedSome (d' := 65) (b := false) rfl rfl (congrArg Value.bool (decide_eq_false g77))) ?_
                      refine skAny (wantedSome (d' := 65) (b := false) rfl rfl (congrArg Value.bool (decide_eq_false g77))) ?_
                      refine skAny (wantedSome (d' := 65) (b := false) rfl rfl (congrArg Value.bool (decide_eq_false g77))) ?_
                      refine sq (r_pickF (v := .bool (false)) (congrArg Value.bool (decide_eq_false g77)) rfl) ?_
                      refine sq (r_assign (v := .bool (false)) rfl) ?_
                      refine wnil ?_
                      refine blockNormal ?_
                      refine thenNormal ?_
                      refine seqRegion ?_
                      refine sq (r_move (v := .bool (false)) rfl) ?_
                      refine sq (r_notF rfl) ?_
                      refine wend ?_
                      refine condTrue rfl ?_
                      refine seqRegion ?_
                      refine sq (r_mkI und57 (xv := i64 ((90 : Int))) rfl) ?_
                      refine sq (r_move (v := i64 ((i : Nat))) rfl) ?_
                      have := H47'.lt (List.mem_of_getElem? (i := 0) rfl) rfl
                      have := H47'.lt (List.mem_of_getElem? (i := 1) rfl) rfl
                      refine c_call (vs := [.iface 57 (i64 ((90 : Int))), .string ({data := #[103, 97, 116, 101]}), i64 ((i : Nat))]) call63 rfl (wrap0_ok (90 : Int) (i : Nat) ({data := #[103, 97, 116, 101]}) w46 (Chg.gl H47'.chg (fun x => x) hG)) ?_
                      rintro v88 w86 ⟨hEr89, hE90⟩
                      have H91 := H47'.ext hE90
                      obtain ⟨T92, x93, rfl⟩ := hEr89.iface
                      refine sq (r_assign (v := .iface T92 (x93)) rfl) ?_
                      refine wend ?_
                      refine retAny ?_
                      refine blockRet ?_
                      refine thenRet ?_
                      refine thenRet ?_
                      refine blockRet ?_
                      refine thenRet ?_
                      refine retG (rs := [.tmp 2]) (vs := [.iface T92 (x93)]) rfl ⟨⟨rfl, rfl⟩, trivial⟩ ?_
                      exact ⟨_, rfl, .inr ⟨hEr89.mono H47'.chg.size, fun hg => by have := hg.gok i (by omega); unfold gokP at this; omega⟩, H91.chg⟩
                  · skip
                    refine skAny (wantedSome (d' := 60) (b := false) rfl rfl (congrArg Value.bool (decide_eq_false g76))) ?_
                    refine skAny (wantedSome (d' := 60) (b := false) rfl rfl (congrArg Value.bool (decide_eq_false g76))) ?_
                    refine skAny (wantedSome (d' := 60) (b := false) rfl rfl (congrArg Value.bool (decide_eq_false g76))) ?_
                    refine sq (r_pickF (v := .bool (false)) (congrArg Value.bool (decide_eq_false g76)) rfl) ?_
                    refine sq (r_move (v := .bool (false)) rfl) ?_
                    refine skAny (wantedSome (d' := 65) (b := false) rfl rfl rfl) ?_
                    refine skAny (wantedSome (d' := 65) (b := false) rfl rfl rfl) ?_
                    refine skAny (wantedSome (d' := 65) (b := false) rfl rfl rfl) ?_
                    refine skAny (wantedSome (d' := 65) (b := false) rfl rfl rfl) ?_
                    refine sq (r_pickF (v := .bool (false)) rfl rfl) ?_
                    refine sq (r_assign (v := .bool (false)) rfl) ?_
                    refine wnil ?_
                    refine blockNormal ?_
                    refine thenNormal ?_
                    refine seqRegion ?_
                    refine sq (r_move (v := .bool (false)) rfl) ?_
                    refine sq (r_notF rfl) ?_
                    refine wend ?_
                    refine condTrue rfl ?_
                    refine seqRegion ?_
                    refine sq (r_mkI und57 (xv := i64 ((90 : Int))) rfl) ?_
                    refine sq (r_move (v := i64 ((i : Nat))) rfl) ?_
                    have := H47'.lt (List.mem_of_getElem? (i := 0) rfl) rfl
                    have := H47'.lt (List.mem_of_getElem? (i := 1) rfl) rfl
                    refine c_call (vs := [.iface 57 (i64 ((90 : Int))), .string ({data := #[103, 97, 116, 101]}), i64 ((i : Nat))]) call63 rfl (wrap0_ok (90 : Int) (i : Nat) ({data := #[103, 97, 116, 101]}) w46 (Chg.gl H47'.chg (fun x => x) hG)) ?_
                    rintro v96 w94 ⟨hEr97, hE98⟩
                    have H99 := H47'.ext hE98
                    obtain ⟨T100, x101, rfl⟩ := hEr97.iface
                    refine sq (r_assign (v := .iface T100 (x101)) rfl) ?_
                    refine wend ?_
                    refine retAny ?_
                    refine blockRet ?_
                    refine thenRet ?_
                    refine thenRet ?_
                    refine blockRet ?_
                    refine thenRet ?_
                    refine retG (rs := [.tmp 2]) (vs := [.iface T100 (x101)]) rfl ⟨⟨rfl, rfl⟩, trivial⟩ ?_
                    exact ⟨_, rfl, .inr ⟨hEr97.mono H47'.chg.size, fun hg => by have := hg.gok i (by omega); unfold gokP at this; omega⟩, H99.chg⟩
                · skip
                  refine seqRegion ?_
                  refine sq (r_eqlI (a := ((gs).getD i g0).k) (b := (3 : Int)) rfl rfl) ?_
                  refine sq (r_assign (v := .bool (decide ((((gs).getD i g0).k : Int) = (3 : Int)))) rfl) ?_
                  refine wend ?_
                  refine condProp ((((gs).getD i g0).k : Int) = (3 : Int)) rfl (fun c71 => ?_) (fun c71 => ?_)
                  · skip
                    refine oneRegion ?_
                    refine sq (r_move (v := .bool (decide ((((gs).getD i g0).a : Int) < (n + (i : Nat))))) rfl) ?_
                    refine sq (r_move (v := .bool (decide ((((gs).getD i g0).a : Int) < (n + (i : Nat))))) rfl) ?_
                    by_cases g102 : (((gs).getD i g0).a : Int) < (n + (i : Nat))
                    · skip
                      refine sqAny (v := .pointer (some ⟨b42, 2, none⟩)) (w' := w46) (wantedSome (d' := 74) (b := true) rfl rfl (congrArg Value.bool (decide_eq_true g102))) (r_fieldAddr (off' := 2) fld99_2 (by decide) (b := b42) (off := 0) rfl (by omega)) ?_
                      refine sqAny (v := i64 (((gs).getD i g0).b)) (w' := w46) (wantedSome (d' := 74) (b := true) rfl rfl (congrArg Value.bool (decide_eq_true g102))) (r_loadC (v := i64 (((gs).getD i g0).b)) one3 (H47'.get (k := 0) rfl) (off := 2) rfl (by rfl)) ?_
                      refine sqAny (v := .bool (decide ((((gs).getD i g0).b : Int) = (0 : Int)))) (w' := w46) (wantedSome (d' := 74) (b := true) rfl rfl (congrArg Value.bool (decide_eq_true g102))) (r_eqlI (a := ((gs).getD i g0).b) (b := (0 : Int)) rfl rfl) ?_
                      refine sq (r_pickT (u := .bool (decide ((((gs).getD i g0).b : Int) = (0 : Int)))) (congrArg Value.bool (decide_eq_true g102)) rfl) ?_
                      refine sq (r_assign (v := .bool (decide ((((gs).getD i g0).b : Int) = (0 : Int)))) rfl) ?_
                      refine wnil ?_
                      refine blockNormal ?_
                      refine thenNormal ?_
                      refine seqRegion ?_
                      refine sq (r_move (v := .bool (decide ((((gs).getD i g0).b : Int) = (0 : Int)))) rfl) ?_
                      refine sq (r_not (b := decide ((((gs).getD i g0).b : Int) = (0 : Int))) rfl) ?_
                      refine wend ?_
                      refine condBool (!(decide ((((gs).getD i g0).b : Int) = (0 : Int)))) rfl (fun c80 => ?_) (fun c80 => ?_)
                      · skip
                        replace c80 : ¬ ((((gs).getD i g0).b : Int) = (0 : Int)) := by simpa using c80
                        refine seqRegion ?_
                        refine sq (r_mkI und57 (xv := i64 ((90 : Int))) rfl) ?_
                        refine sq (r_move (v := i64 ((i : Nat))) rfl) ?_
                        have := H47'.lt (List.mem_of_getElem? (i := 0) rfl) rfl
                        have := H47'.lt (List.mem_of_getElem? (i := 1) rfl) rfl
                        refine c_call (vs := [.iface 57 (i64 ((90 : Int))), .string ({data := #[103, 97, 116, 101]}), i64 ((i : Nat))]) call63 rfl (wrap0_ok (90 : Int) (i : Nat) ({data := #[103, 97, 116, 101]}) w46 (Chg.gl H47'.chg (fun x => x) hG)) ?_
                        rintro v105 w103 ⟨hEr106, hE107⟩
                        have H108 := H47'.ext hE107
                        obtain ⟨T109, x110, rfl⟩ := hEr106.iface
                        refine sq (r_assign (v := .iface T109 (x110)) rfl) ?_
                        refine wend ?_
                        refine retAny ?_
                        refine blockRet ?_
                        refine thenRet ?_
                        refine thenRet ?_
                        refine blockRet ?_
                        refine thenRet ?_
                        refine retG (rs := [.tmp 2]) (vs := [.iface T109 (x110)]) rfl ⟨⟨rfl, rfl⟩, trivial⟩ ?_
                        exact ⟨_, rfl, .inr ⟨hEr106.mono H47'.chg.size, fun hg => by have := hg.gok i (by omega); unfold gokP at this; omega⟩, H108.chg⟩
                      · skip
                        replace c80 : (((gs).getD i g0).b : Int) = (0 : Int) := by simpa using c80
                        refine skipAny ?_
                        refine blockNormal ?_
                        refine thenNormal ?_
                        refine oneRegion ?_
                        refine sq (r_addI (a := (i : Nat)) (b := (1 : Int)) rfl rfl (by omega)) ?_
                        refine sq (r_move (v := i64 ((i : Nat) + (1 : Int))) rfl) ?_
                        refine wnil ?_
                        refine thenNormal ?_
                        have hgi : gokP (gs.getD i g0) (n + (i : Nat)) := by unfold gokP; omega
                        exact ⟨i + 1, _, rfl, ⟨rfl, rfl, rfl, rfl, trivial⟩, ⟨by omega, fun j hj => if h : j < i then hgs j h else by (rw [show j = i by omega]; exact hgi), (H47'.dropk 0)⟩, by show gs.length - (i + 1) < gs.length - i; omega⟩
                    · skip
                      refine skAny (wantedSome (d' := 74) (b := false) rfl rfl (congrArg Value.bool (decide_eq_false g102))) ?_
                      refine skAny (wantedSome (d' := 74) (b := false) rfl rfl (congrArg Value.bool (decide_eq_false g102))) ?_
                      refine skAny (wantedSome (d' := 74) (b := false) rfl rfl (congrArg Value.bool (decide_eq_false g102))) ?_
                      refine sq (r_pickF (v := .bool (false)) (congrArg Value.bool (decide_eq_false g102)) rfl) ?_
                      refine sq (r_assign (v := .bool (false)) rfl) ?_
                      refine wnil ?_
                      refine blockNormal ?_
                      refine thenNormal ?_
                      refine seqRegion ?_
                      refine sq (r_move (v := .bool (false)) rfl) ?_
                      refine sq (r_notF rfl) ?_
                      refine wend ?_
                      refine condTrue rfl ?_
                      refine seqRegion ?_
                      refine sq (r_mkI und57 (xv := i64 ((90 : Int))) rfl) ?_
                      refine sq (r_move (v := i64 ((i : Nat))) rfl) ?_
                      have := H47'.lt (List.mem_of_getElem? (i := 0) rfl) rfl
                      have := H47'.lt (List.mem_of_getElem? (i := 1) rfl) rfl
                      refine c_call (vs := [.iface 57 (i64 ((90 : Int))), .string ({data := #[103, 97, 116, 101]}), i64 ((i : Nat))]) call63 rfl (wrap0_ok (90 : Int) (i : Nat) ({data := #[103, 97, 116, 101]}) w46 (Chg.gl H47'.chg (fun x => x) hG)) ?_
                      rintro v113 w111 ⟨hEr114, hE115⟩
                      have H116 := H47'.ext hE115
                      obtain ⟨T117, x118, rfl⟩ := hEr114.iface
                      refine sq (r_assign (v := .iface T117 (x118)) rfl) ?_
                      refine wend ?_
                      refine retAny ?_
                      refine blockRet ?_
                      refine thenRet ?_
                      refine thenRet ?_
                      refine blockRet ?_
                      refine thenRet ?_
                      refine retG (rs := [.tmp 2]) (vs := [.iface T117 (x118)]) rfl ⟨⟨rfl, rfl⟩, trivial⟩ ?_
                      exact ⟨_, rfl, .inr ⟨hEr114.mono H47'.chg.size, fun hg => by have := hg.gok i (by omega); unfold gokP at this; omega⟩, H116.chg⟩
                  · skip
                    refine oneRegion ?_
                    refine sq (r_assign (v := .bool (false)) rfl) ?_
                    refine wnil ?_
                    refine blockNormal ?_
                    refine thenNormal ?_
                    refine seqRegion ?_
                    refine sq (r_move (v := .bool (false)) rfl) ?_
                    refine sq (r_notF rfl) ?_
                    refine wend ?_
                    refine condTrue rfl ?_
                    refine seqRegion ?_
                    refine sq (r_mkI und57 (xv := i64 ((90 : Int))) rfl) ?_
                    refine sq (r_move (v := i64 ((i : Nat))) rfl) ?_
                    have := H47'.lt (List.mem_of_getElem? (i := 0) rfl) rfl
                    have := H47'.lt (List.mem_of_getElem? (i := 1) rfl) rfl
                    refine c_call (vs := [.iface 57 (i64 ((90 : Int))), .string ({data := #[103, 97, 116, 101]}), i64 ((i : Nat))]) call63 rfl (wrap0_ok (90 : Int) (i : Nat) ({data := #[103, 97, 116, 101]}) w46 (Chg.gl H47'.chg (fun x => x) hG)) ?_
                    rintro v121 w119 ⟨hEr122, hE123⟩
                    have H124 := H47'.ext hE123
                    obtain ⟨T125, x126, rfl⟩ := hEr122.iface
                    refine sq (r_assign (v := .iface T125 (x126)) rfl) ?_
                    refine wend ?_
                    refine retAny ?_
                    refine blockRet ?_
                    refine thenRet ?_
                    refine thenRet ?_
                    refine blockRet ?_
                    refine thenRet ?_
                    refine retG (rs := [.tmp 2]) (vs := [.iface T125 (x126)]) rfl ⟨⟨rfl, rfl⟩, trivial⟩ ?_
                    exact ⟨_, rfl, .inr ⟨hEr122.mono H47'.chg.size, fun hg => by have := hg.gok i (by omega); unfold gokP at this; omega⟩, H124.chg⟩
            · skip
              refine skAny (wantedSome (d' := 48) (b := false) rfl rfl (congrArg Value.bool (decide_eq_false g49))) ?_
              refine skAny (wantedSome (d' := 48) (b := false) rfl rfl (congrArg Value.bool (decide_eq_false g49))) ?_
              refine skAny (wantedSome (d' := 48) (b := false) rfl rfl (congrArg Value.bool (decide_eq_false g49))) ?_
              refine skAny (wantedSome (d' := 48) (b := false) rfl rfl (congrArg Value.bool (decide_eq_false g49))) ?_
              refine sq (r_pickF (v := .bool (false)) (congrArg Value.bool (decide_eq_false g49)) rfl) ?_
              refine sq (r_assign (v := .bool (false)) rfl) ?_
              refine wend ?_
              refine seqAny ?_
              refine seqRegion ?_
              refine sq (r_fieldAddr (off' := 0) fld99_0 (by decide) (b := b42) (off := 0) rfl (by omega)) ?_
              refine sq (r_loadC (v := i64 (((gs).getD i g0).k)) one97 (H47'.get (k := 0) rfl) (off := 0) rfl (by rfl)) ?_
              refine wend ?_
              refine blockAny ?_
              refine seqAny ?_
              refine seqRegion ?_
              refine sq (r_eqlI (a := ((gs).getD i g0).k) (b := (1 : Int)) rfl rfl) ?_
              refine sq (r_assign (v := .bool (decide ((((gs).getD i g0).k : Int) = (1 : Int)))) rfl) ?_
              refine wend ?_
              refine condProp ((((gs).getD i g0).k : Int) = (1 : Int)) rfl (fun c56 => ?_) (fun c56 => ?_)
              · skip
                refine skipAny ?_
                refine thenNormal ?_
                refine condTrue (congrArg Value.bool (decide_eq_true c56)) ?_
                refine oneRegion ?_
                refine sq (r_move (v := .bool (false)) rfl) ?_
                refine sq (r_move (v := .bool (false)) rfl) ?_
                refine skAny (wantedSome (d' := 60) (b := false) rfl rfl rfl) ?_
                refine skAny (wantedSome (d' := 60) (b := false) rfl rfl rfl) ?_
                refine skAny (wantedSome (d' := 60) (b := false) rfl rfl rfl) ?_
                refine sq (r_pickF (v := .bool (false)) rfl rfl) ?_
                refine sq (r_move (v := .bool (false)) rfl) ?_
                refine skAny (wantedSome (d' := 65) (b := false) rfl rfl rfl) ?_
                refine skAny (wantedSome (d' := 65) (b := false) rfl rfl rfl) ?_
                refine skAny (wantedSome (d' := 65) (b := false) rfl rfl rfl) ?_
                refine skAny (wantedSome (d' := 65) (b := false) rfl rfl rfl) ?_
                refine sq (r_pickF (v := .bool (false)) rfl rfl) ?_
                refine sq (r_assign (v := .bool (false)) rfl) ?_
                refine wnil ?_
                refine blockNormal ?_
                refine thenNormal ?_
                refine seqRegion ?_
                refine sq (r_move (v := .bool (false)) rfl) ?_
                refine sq (r_notF rfl) ?_
                refine wend ?_
                refine condTrue rfl ?_
                refine seqRegion ?_
                refine sq (r_mkI und57 (xv := i64 ((90 : Int))) rfl) ?_
                refine sq (r_move (v := i64 ((i : Nat))) rfl) ?_
                have := H47'.lt (List.mem_of_getElem? (i := 0) rfl) rfl
                have := H47'.lt (List.mem_of_getElem? (i := 1) rfl) rfl
                refine c_call (vs := [.iface 57 (i64 ((90 : Int))), .string ({data := #[103, 97, 116, 101]}), i64 ((i : Nat))]) call63 rfl (wrap0_ok (90 : Int) (i : Nat) ({data := #[103, 97, 116, 101]}) w46 (Chg.gl H47'.chg (fun x => x) hG)) ?_
                rintro v129 w127 ⟨hEr130, hE131⟩
                have H132 := H47'.ext hE131
                obtain ⟨T133, x134, rfl⟩ := hEr130.iface
                refine sq (r_assign (v := .iface T133 (x134)) rfl) ?_
                refine wend ?_
                refine retAny ?_
                refine blockRet ?_
                refine thenRet ?_
                refine thenRet ?_
                refine blockRet ?_
                refine thenRet ?_
                refine retG (rs := [.tmp 2]) (vs := [.iface T133 (x134)]) rfl ⟨⟨rfl, rfl⟩, trivial⟩ ?_
                exact ⟨_, rfl, .inr ⟨hEr130.mono H47'.chg.size, fun hg => by have := hg.gok i (by omega); unfold gokP at this; omega⟩, H132.chg⟩
              · skip
                refine oneRegion ?_
                refine sq (r_eqlI (a := ((gs).getD i g0).k) (b := (2 : Int)) rfl rfl) ?_
                refine sq (r_assign (v := .bool (decide ((((gs).getD i g0).k : Int) = (2 : Int)))) rfl) ?_
                refine wnil ?_
                refine thenNormal ?_
                refine condProp ((((gs).getD i g0).k : Int) = (2 : Int)) rfl (fun c56 => ?_) (fun c56 => ?_)
                · skip
                  refine oneRegion ?_
                  refine sq (r_move (v := .bool (false)) rfl) ?_
                  refine sq (r_move (v := .bool (false)) rfl) ?_
                  refine skAny (wantedSome (d' := 60) (b := false) rfl rfl rfl) ?_
                  refine skAny (wantedSome (d' := 60) (b := false) rfl rfl rfl) ?_
                  refine skAny (wantedSome (d' := 60) (b := false) rfl rfl rfl) ?_
                  refine sq (r_pickF (v := .bool (false)) rfl rfl) ?_
                  refine sq (r_move (v := .bool (false)) rfl) ?_
                  refine skAny (wantedSome (d' := 65) (b := false) rfl rfl rfl) ?_
                  refine skAny (wantedSome (d' := 65) (b := false) rfl rfl rfl) ?_
                  refine skAny (wantedSome (d' := 65) (b := false) rfl rfl rfl) ?_
                  refine skAny (wantedSome (d' := 65) (b := false) rfl rfl rfl) ?_
                  refine sq (r_pickF (v := .bool (false)) rfl rfl) ?_
                  refine sq (r_assign (v := .bool (false)) rfl) ?_
                  refine wnil ?_
                  refine blockNormal ?_
                  refine thenNormal ?_
                  refine seqRegion ?_
                  refine sq (r_move (v := .bool (false)) rfl) ?_
                  refine sq (r_notF rfl) ?_
                  refine wend ?_
                  refine condTrue rfl ?_
                  refine seqRegion ?_
                  refine sq (r_mkI und57 (xv := i64 ((90 : Int))) rfl) ?_
                  refine sq (r_move (v := i64 ((i : Nat))) rfl) ?_
                  have := H47'.lt (List.mem_of_getElem? (i := 0) rfl) rfl
                  have := H47'.lt (List.mem_of_getElem? (i := 1) rfl) rfl
                  refine c_call (vs := [.iface 57 (i64 ((90 : Int))), .string ({data := #[103, 97, 116, 101]}), i64 ((i : Nat))]) call63 rfl (wrap0_ok (90 : Int) (i : Nat) ({data := #[103, 97, 116, 101]}) w46 (Chg.gl H47'.chg (fun x => x) hG)) ?_
                  rintro v137 w135 ⟨hEr138, hE139⟩
                  have H140 := H47'.ext hE139
                  obtain ⟨T141, x142, rfl⟩ := hEr138.iface
                  refine sq (r_assign (v := .iface T141 (x142)) rfl) ?_
                  refine wend ?_
                  refine retAny ?_
                  refine blockRet ?_
                  refine thenRet ?_
                  refine thenRet ?_
                  refine blockRet ?_
                  refine thenRet ?_
                  refine retG (rs := [.tmp 2]) (vs := [.iface T141 (x142)]) rfl ⟨⟨rfl, rfl⟩, trivial⟩ ?_
                  exact ⟨_, rfl, .inr ⟨hEr138.mono H47'.chg.size, fun hg => by have := hg.gok i (by omega); unfold gokP at this; omega⟩, H140.chg⟩
                · skip
                  refine seqRegion ?_
                  refine sq (r_eqlI (a := ((gs).getD i g0).k) (b := (3 : Int)) rfl rfl) ?_
                  refine sq (r_assign (v := .bool (decide ((((gs).getD i g0).k : Int) = (3 : Int)))) rfl) ?_
                  refine wend ?_
                  refine condProp ((((gs).getD i g0).k : Int) = (3 : Int)) rfl (fun c71 => ?_) (fun c71 => ?_)
                  · skip
                    refine oneRegion ?_
                    refine sq (r_move (v := .bool (false)) rfl) ?_
                    refine sq (r_move (v := .bool (false)) rfl) ?_
                    refine skAny (wantedSome (d' := 74) (b := false) rfl rfl rfl) ?_
                    refine skAny (wantedSome (d' := 74) (b := false) rfl rfl rfl) ?_
                    refine skAny (wantedSome (d' := 74) (b := false) rfl rfl rfl) ?_
                    refine sq (r_pickF (v := .bool (false)) rfl rfl) ?_
                    refine sq (r_assign (v := .bool (false)) rfl) ?_
                    refine wnil ?_
                    refine blockNormal ?_
                    refine thenNormal ?_
                    refine seqRegion ?_
                    refine sq (r_move (v := .bool (false)) rfl) ?_
                    refine sq (r_notF rfl) ?_
                    refine wend ?_
                    refine condTrue rfl ?_
                    refine seqRegion ?_
                    refine sq (r_mkI und57 (xv := i64 ((90 : Int))) rfl) ?_
                    refine sq (r_move (v := i64 ((i : Nat))) rfl) ?_
                    have := H47'.lt (List.mem_of_getElem? (i := 0) rfl) rfl
                    have := H47'.lt (List.mem_of_getElem? (i := 1) rfl) rfl
                    refine c_call (vs := [.iface 57 (i64 ((90 : Int))), .string ({data := #[103, 97, 116, 101]}), i64 ((i : Nat))]) call63 rfl (wrap0_ok (90 : Int) (i : Nat) ({data := #[103, 97, 116, 101]}) w46 (Chg.gl H47'.chg (fun x => x) hG)) ?_
                    rintro v145 w143 ⟨hEr146, hE147⟩
                    have H148 := H47'.ext hE147
                    obtain ⟨T149, x150, rfl⟩ := hEr146.iface
                    refine sq (r_assign (v := .iface T149 (x150)) rfl) ?_
                    refine wend ?_
                    refine retAny ?_
                    refine blockRet ?_
                    refine thenRet ?_
                    refine thenRet ?_
                    refine blockRet ?_
                    refine thenRet ?_
                    refine retG (rs := [.tmp 2]) (vs := [.iface T149 (x150)]) rfl ⟨⟨rfl, rfl⟩, trivial⟩ ?_
                    exact ⟨_, rfl, .inr ⟨hEr146.mono H47'.chg.size, fun hg => by have := hg.gok i (by omega); unfold gokP at this; omega⟩, H148.chg⟩
                  · skip
                    refine oneRegion ?_
                    refine sq (r_assign (v := .bool (false)) rfl) ?_
                    refine wnil ?_
                    refine blockNormal ?_
                    refine thenNormal ?_
                    refine seqRegion ?_
                    refine sq (r_move (v := .bool (false)) rfl) ?_
                    refine sq (r_notF rfl) ?_
                    refine wend ?_
                    refine condTrue rfl ?_
                    refine seqRegion ?_
                    refine sq (r_mkI und57 (xv := i64 ((90 : Int))) rfl) ?_
                    refine sq (r_move (v := i64 ((i : Nat))) rfl) ?_
                    have := H47'.lt (List.mem_of_getElem? (i := 0) rfl) rfl
                    have := H47'.lt (List.mem_of_getElem? (i := 1) rfl) rfl
                    refine c_call (vs := [.iface 57 (i64 ((90 : Int))), .string ({data := #[103, 97, 116, 101]}), i64 ((i : Nat))]) call63 rfl (wrap0_ok (90 : Int) (i : Nat) ({data := #[103, 97, 116, 101]}) w46 (Chg.gl H47'.chg (fun x => x) hG)) ?_
                    rintro v153 w151 ⟨hEr154, hE155⟩
                    have H156 := H47'.ext hE155
                    obtain ⟨T157, x158, rfl⟩ := hEr154.iface
                    refine sq (r_assign (v := .iface T157 (x158)) rfl) ?_
                    refine wend ?_
                    refine retAny ?_
                    refine blockRet ?_
                    refine thenRet ?_
                    refine thenRet ?_
                    refine blockRet ?_
                    refine thenRet ?_
                    refine retG (rs := [.tmp 2]) (vs := [.iface T157 (x158)]) rfl ⟨⟨rfl, rfl⟩, trivial⟩ ?_
                    exact ⟨_, rfl, .inr ⟨hEr154.mono H47'.chg.size, fun hg => by have := hg.gok i (by omega); unfold gokP at this; omega⟩, H156.chg⟩
          · skip
            refine exitAny ?_
            refine thenExit ?_
            refine thenExit ?_
            refine blockHere ?_
            refine thenNormal ?_
            refine seqAny ?_
            refine seqRegion ?_
            refine sq (r_fieldAddr (off' := 2) fld70_2 (by decide) (b := b1) (off := 0) rfl (by omega)) ?_
            refine sq (r_loadC (v := .slice oa ol.length oc) one60 (HL.get (k := 0) rfl) (off := 2) rfl (by rfl)) ?_
            refine sq (r_lenS sli60 (a := oa) (m := ol.length) (c := oc) rfl) ?_
            refine sq (r_move (v := i64 ((0 : Int))) rfl) ?_
            refine wend ?_
            refine blockAny ?_
            refine loopAny (σ := Nat) (fun q => [(1, .pointer (some ⟨b1, 0, none⟩)), (86, .slice oa ol.length oc), (87, i64 ((ol.length : Nat))), (88, i64 ((q : Nat)))]) (fun q w' => q ≤ ol.length ∧ (∀ j, j < q → 0 ≤ ol.getD j 0 ∧ ol.getD j 0 < n + (gs.length : Nat)) ∧ Hp No w w' [(some b1, .cells #[i64 (n), .slice ga gs.length gc, .slice oa ol.length oc] 70 (0, 0))]) (fun q => ol.length - q) (0) ?_ ?_ ?_
            · exact ⟨rfl, rfl, rfl, rfl, trivial⟩
            · exact ⟨by omega, fun j hj => by omega, HL⟩
            rintro q ρ w159 ⟨hq, hos, HL2⟩
            refine seqRegion ?_
            refine sq (r_lssI (a := (q : Nat)) (b := (ol.length : Nat)) rfl rfl) ?_
            refine wend ?_
            refine seqAny ?_
            refine condProp (((q : Nat) : Int) < (ol.length : Nat)) rfl (fun c89 => ?_) (fun c89 => ?_)
            · skip
              refine skipAny ?_
              refine thenNormal ?_
              refine seqAny ?_
              refine blockAny ?_
              refine seqRegion ?_
              refine sq (r_move (v := i64 ((q : Nat))) rfl) ?_
              refine sq (r_idxS (E := EI) (l := ol) (j := q) sli60 (hOl.ext HL2.chg) rfl rfl (by first | rfl | omega | (simp; omega)) (by rfl) (by omega)) ?_
              refine sq (r_ldS (E := EI) (l := ol) (j := q) (v := (ol).getD q 0) fits3 (hOl.ext HL2.chg) rfl rfl (at_getD (by omega))) ?_
              refine sq (r_assign (v := i64 ((q : Nat))) rfl) ?_
              refine sq (r_assign (v := i64 ((ol).getD q 0)) rfl) ?_
              refine wend ?_
              refine seqRegion ?_
              refine sq (r_move (v := i64 ((ol).getD q 0)) rfl) ?_
              refine sq (r_lssI (a := (ol).getD q 0) (b := (0 : Int)) rfl rfl) ?_
              refine sq (r_move (v := .bool (decide (((ol).getD q 0 : Int) < (0 : Int)))) rfl) ?_
              by_cases g161 : ((ol).getD q 0 : Int) < (0 : Int)
              · skip
                refine skAny (wantedSome (d' := 95) (b := true) rfl rfl (congrArg Value.bool (decide_eq_true g161))) ?_
                refine skAny (wantedSome (d' := 95) (b := true) rfl rfl (congrArg Value.bool (decide_eq_true g161))) ?_
                refine skAny (wantedSome (d' := 95) (b := true) rfl rfl (congrArg Value.bool (decide_eq_true g161))) ?_
                refine skAny (wantedSome (d' := 95) (b := true) rfl rfl (congrArg Value.bool (decide_eq_true g161))) ?_
                refine skAny (wantedSome (d' := 95) (b := true) rfl rfl (congrArg Value.bool (decide_eq_true g161))) ?_
                refine skAny (wantedSome (d' := 95) (b := true) rfl rfl (congrArg Value.bool (decide_eq_true g161))) ?_
                refine skAny (wantedSome (d' := 95) (b := true) rfl rfl (congrArg Value.bool (decide_eq_true g161))) ?_
                refine skAny (wantedSome (d' := 95) (b := true) rfl rfl (congrArg Value.bool (decide_eq_true g161))) ?_
                refine sq (r_pickT (u := .bool (true)) (congrArg Value.bool (decide_eq_true g161)) rfl) ?_
                refine wend ?_
                refine condTrue rfl ?_
                refine seqRegion ?_
                refine sq (r_mkI und57 (xv := i64 ((90 : Int))) rfl) ?_
                refine sq (r_move (v := i64 ((q : Nat))) rfl) ?_
                have := HL2.lt (List.mem_of_getElem? (i := 0) rfl) rfl
                refine c_call (vs := [.iface 57 (i64 ((90 : Int))), .string ({data := #[111, 117, 116]}), i64 ((q : Nat))]) call63 rfl (wrap0_ok (90 : Int) (q : Nat) ({data := #[111, 117, 116]}) w159 (Chg.gl HL2.chg (fun x => x) hG)) ?_
                rintro v164 w162 ⟨hEr165, hE166⟩
                have H167 := HL2.ext hE166
                obtain ⟨T168, x169, rfl⟩ := hEr165.iface
                refine sq (r_assign (v := .iface T168 (x169)) rfl) ?_
                refine wend ?_
                refine retAny ?_
                refine blockRet ?_
                refine thenRet ?_
                refine thenRet ?_
                refine blockRet ?_
                refine thenRet ?_
                refine retG (rs := [.tmp 2]) (vs := [.iface T168 (x169)]) rfl ⟨⟨rfl, rfl⟩, trivial⟩ ?_
                exact ⟨_, rfl, .inr ⟨hEr165.mono HL2.chg.size, fun hg => by have := hg.ook q (by omega); omega⟩, H167.chg⟩
              · skip
                refine sqAny (v := i64 ((ol).getD q 0)) (w' := w159) (wantedSome (d' := 95) (b := false) rfl rfl (congrArg Value.bool (decide_eq_false g161))) (r_move (v := i64 ((ol).getD q 0)) rfl) ?_
                refine sqAny (v := .pointer (some ⟨b1, 0, none⟩)) (w' := w159) (wantedSome (d' := 95) (b := false) rfl rfl (congrArg Value.bool (decide_eq_false g161))) (r_fieldAddr (off' := 0) fld70_0 (by decide) (b := b1) (off := 0) rfl (by omega)) ?_
                refine sqAny (v := i64 (n)) (w' := w159) (wantedSome (d' := 95) (b := false) rfl rfl (congrArg Value.bool (decide_eq_false g161))) (r_loadC (v := i64 (n)) one3 (HL2.get (k := 0) rfl) (off := 0) rfl (by rfl)) ?_
                refine sqAny (v := .pointer (some ⟨b1, 1, none⟩)) (w' := w159) (wantedSome (d' := 95) (b := false) rfl rfl (congrArg Value.bool (decide_eq_false g161))) (r_fieldAddr (off' := 1) fld70_1 (by decide) (b := b1) (off := 0) rfl (by omega)) ?_
                refine sqAny (v := .slice ga gs.length gc) (w' := w159) (wantedSome (d' := 95) (b := false) rfl rfl (congrArg Value.bool (decide_eq_false g161))) (r_loadC (v := .slice ga gs.length gc) one68 (HL2.get (k := 0) rfl) (off := 1) rfl (by rfl)) ?_
                refine sqAny (v := i64 ((gs.length : Nat))) (w' := w159) (wantedSome (d' := 95) (b := false) rfl rfl (congrArg Value.bool (decide_eq_false g161))) (r_lenS sli68 (a := ga) (m := gs.length) (c := gc) rfl) ?_
                refine sqAny (v := i64 (n + (gs.length : Nat))) (w' := w159) (wantedSome (d' := 95) (b := false) rfl rfl (congrArg Value.bool (decide_eq_false g161))) (r_addI (a := n) (b := (gs.length : Nat)) rfl rfl (by omega)) ?_
                refine sqAny (v := .bool (decide ((n + (gs.length : Nat) : Int) ≤ ((ol).getD q 0)))) (w' := w159) (wantedSome (d' := 95) (b := false) rfl rfl (congrArg Value.bool (decide_eq_false g161))) (r_geqI (a := (ol).getD q 0) (b := n + (gs.length : Nat)) rfl rfl) ?_
                refine sq (r_pickF (v := .bool (decide ((n + (gs.length : Nat) : Int) ≤ ((ol).getD q 0)))) (congrArg Value.bool (decide_eq_false g161)) rfl) ?_
                refine wend ?_
                refine condProp ((n + (gs.length : Nat) : Int) ≤ ((ol).getD q 0)) rfl (fun c104 => ?_) (fun c104 => ?_)
                · skip
                  refine seqRegion ?_
                  refine sq (r_mkI und57 (xv := i64 ((90 : Int))) rfl) ?_
                  refine sq (r_move (v := i64 ((q : Nat))) rfl) ?_
                  have := HL2.lt (List.mem_of_getElem? (i := 0) rfl) rfl
                  refine c_call (vs := [.iface 57 (i64 ((90 : Int))), .string ({data := #[111, 117, 116]}), i64 ((q : Nat))]) call63 rfl (wrap0_ok (90 : Int) (q : Nat) ({data := #[111, 117, 116]}) w159 (Chg.gl HL2.chg (fun x => x) hG)) ?_
                  rintro v172 w170 ⟨hEr173, hE174⟩
                  have H175 := HL2.ext hE174
                  obtain ⟨T176, x177, rfl⟩ := hEr173.iface
                  refine sq (r_assign (v := .iface T176 (x177)) rfl) ?_
                  refine wend ?_
                  refine retAny ?_
                  refine blockRet ?_
                  refine thenRet ?_
                  refine thenRet ?_
                  refine blockRet ?_
                  refine thenRet ?_
                  refine retG (rs := [.tmp 2]) (vs := [.iface T176 (x177)]) rfl ⟨⟨rfl, rfl⟩, trivial⟩ ?_
                  exact ⟨_, rfl, .inr ⟨hEr173.mono HL2.chg.size, fun hg => by have := hg.ook q (by omega); omega⟩, H175.chg⟩
                · skip
                  refine skipAny ?_
                  refine blockNormal ?_
                  refine thenNormal ?_
                  refine oneRegion ?_
                  refine sq (r_addI (a := (q : Nat)) (b := (1 : Int)) rfl rfl (by omega)) ?_
                  refine sq (r_move (v := i64 ((q : Nat) + (1 : Int))) rfl) ?_
                  refine wnil ?_
                  refine thenNormal ?_
                  exact ⟨q + 1, _, rfl, ⟨rfl, rfl, rfl, rfl, trivial⟩, ⟨by omega, fun j hj => if h : j < q then hos j h else by (rw [show j = q by omega]; omega), HL2⟩, by show ol.length - (q + 1) < ol.length - q; omega⟩
            · skip
              refine exitAny ?_
              refine thenExit ?_
              refine thenExit ?_
              refine blockHere ?_
              refine thenNormal ?_
              refine seqRegion ?_
              refine sq (r_assign (v := .nilIface) rfl) ?_
              refine wend ?_
              refine retAny ?_
              refine retG (rs := [.tmp 2]) (vs := [.nilIface]) rfl ⟨⟨rfl, rfl⟩, trivial⟩ ?_
              exact ⟨_, rfl, .inl ⟨rfl, ⟨by omega, by omega, by omega, by omega, fun j hj => hgs j (by omega), fun j hj => hos j (by omega)⟩⟩, HL2.chg⟩
theorem ands_ok (n : Int) (gs : List Gt) (ol : List Int) (ga oa : Option Addr) (gc oc : Nat) (w : World) (hGs : Rd EG w ga gs) (hgl : gs.length ≤ 140737488355328) : Calls Tryd.prog 32 [.agg #[i64 (n), .slice ga gs.length gc, .slice oa ol.length oc]].toArray w (Ret fun v w' => v = i64 ((andsS gs gs.length : Nat)) ∧ Ext w w') := by
  have H := Hp.start No w
  refine enter (n := 20) Tryd.func32 rfl rfl (Nat.le_of_ble_eq_true rfl) ?_
  refine seqRegion ?_
  refine q_box (v := .agg #[i64 (n), .slice ga gs.length gc, .slice oa ol.length oc]) (o := .cells #[i64 (n), .slice ga gs.length gc, .slice oa ol.length oc] 70 (0, 0)) H rfl (by rfl) ?_
  intro b1 w2 hb1 H3 hE4
  refine sq (r_assign (v := i64 ((0 : Int))) rfl) ?_
  refine wend ?_
  refine seqRegion ?_
  refine sq (r_assign (v := i64 ((0 : Int))) rfl) ?_
  refine wend ?_
  refine seqAny ?_
  refine seqRegion ?_
  refine sq (r_fieldAddr (off' := 1) fld70_1 (by decide) (b := b1) (off := 0) rfl (by omega)) ?_
  refine sq (r_loadC (v := .slice ga gs.length gc) one68 (H3.get (k := 0) rfl) (off := 1) rfl (by rfl)) ?_
  refine sq (r_lenS sli68 (a := ga) (m := gs.length) (c := gc) rfl) ?_
  refine sq (r_move (v := i64 ((0 : Int))) rfl) ?_
  refine wend ?_
  refine blockAny ?_
  refine loopAny (σ := Nat) (fun i => [(1, .pointer (some ⟨b1, 0, none⟩)), (3, i64 ((andsS gs i : Nat))), (7, .slice ga gs.length gc), (8, i64 ((gs.length : Nat))), (9, i64 ((i : Nat)))]) (fun i w' => i ≤ gs.length ∧ Hp No w w' [(some b1, .cells #[i64 (n), .slice ga gs.length gc, .slice oa ol.length oc] 70 (0, 0))]) (fun i => gs.length - i) (0) ?_ ?_ ?_
  · exact ⟨rfl, rfl, rfl, rfl, rfl, trivial⟩
  · exact ⟨by omega, H3⟩
  rintro i ρ w5 ⟨hi, HL⟩
  have hle := andsS_le gs i
  refine seqRegion ?_
  refine sq (r_lssI (a := (i : Nat)) (b := (gs.length : Nat)) rfl rfl) ?_
  refine wend ?_
  refine seqAny ?_
  refine condProp (((i : Nat) : Int) < (gs.length : Nat)) rfl (fun c10 => ?_) (fun c10 => ?_)
  · skip
    refine skipAny ?_
    refine thenNormal ?_
    refine seqAny ?_
    refine blockAny ?_
    refine seqRegion ?_
    refine sq (r_idxS (E := EG) (l := gs) (j := i) sli68 (hGs.ext HL.chg) rfl rfl (by first | rfl | omega | (simp; omega)) (by rfl) (by omega)) ?_
    refine sq ((r_ldS (E := EG) (l := gs) (j := i) (v := (gs).getD i g0) fits99 (hGs.ext HL.chg) rfl rfl (at_getD (by omega))).as (v' := .agg #[i64 (((gs).getD i g0).k), i64 (((gs).getD i g0).a), i64 (((gs).getD i g0).b)]) rfl) ?_
    refine q_alloc (o := .cells #[i64 ((0 : Int)), i64 ((0 : Int)), i64 ((0 : Int))] 99 (0, 0)) HL zer99 (by kernel_rfl) ?_
    intro b7 w8 hb7 H9 hE10
    refine d_store (k := 0) (v := .agg #[i64 (((gs).getD i g0).k), i64 (((gs).getD i g0).a), i64 (((gs).getD i g0).b)]) (cs' := #[i64 (((gs).getD i g0).k), i64 (((gs).getD i g0).a), i64 (((gs).getD i g0).b)]) H9 rfl rfl rfl siz99 (by rfl) (by intro u hu; simp [Value.cells] at hu; first | (subst hu; rfl) | (rcases hu with rfl | rfl | rfl <;> rfl)) (by exact Nat.le_of_ble_eq_true rfl) (by rfl) ?_
    intro w11 H12 hC13
    have H12' := H12.as (L' := [(some b7, .cells #[i64 (((gs).getD i g0).k), i64 (((gs).getD i g0).a), i64 (((gs).getD i g0).b)] 99 (0, 0)), (some b1, .cells #[i64 (n), .slice ga gs.length gc, .slice oa ol.length oc] 70 (0, 0))]) rfl
    clear H12
    refine wend ?_
    refine seqRegion ?_
    refine sq (r_fieldAddr (off' := 0) fld99_0 (by decide) (b := b7) (off := 0) rfl (by omega)) ?_
    refine sq (r_loadC (v := i64 (((gs).getD i g0).k)) one97 (H12'.get (k := 0) rfl) (off := 0) rfl (by rfl)) ?_
    refine sq (r_eqlI (a := ((gs).getD i g0).k) (b := (2 : Int)) rfl rfl) ?_
    refine wend ?_
    refine condProp ((((gs).getD i g0).k : Int) = (2 : Int)) rfl (fun c15 => ?_) (fun c15 => ?_)
    · skip
      refine oneRegion ?_
      refine sq (r_move (v := i64 ((andsS gs i : Nat))) rfl) ?_
      refine sq (r_addI (a := (andsS gs i : Nat)) (b := (1 : Int)) rfl rfl (by omega)) ?_
      refine sq (r_assign (v := i64 ((andsS gs i : Nat) + (1 : Int))) rfl) ?_
      refine wnil ?_
      refine blockNormal ?_
      refine thenNormal ?_
      refine oneRegion ?_
      refine sq (r_addI (a := (i : Nat)) (b := (1 : Int)) rfl rfl (by omega)) ?_
      refine sq (r_move (v := i64 ((i : Nat) + (1 : Int))) rfl) ?_
      refine wnil ?_
      refine thenNormal ?_
      exact ⟨i + 1, _, rfl, ⟨rfl, congrArg i64 (by rw [andsS, if_pos c15]; rfl), rfl, rfl, rfl, trivial⟩, ⟨by omega, (H12'.dropk 0)⟩, by show gs.length - (i + 1) < gs.length - i; omega⟩
    · skip
      refine skipAny ?_
      refine blockNormal ?_
      refine thenNormal ?_
      refine oneRegion ?_
      refine sq (r_addI (a := (i : Nat)) (b := (1 : Int)) rfl rfl (by omega)) ?_
      refine sq (r_move (v := i64 ((i : Nat) + (1 : Int))) rfl) ?_
      refine wnil ?_
      refine thenNormal ?_
      exact ⟨i + 1, _, rfl, ⟨rfl, congrArg i64 (by rw [andsS, if_neg c15]), rfl, rfl, rfl, trivial⟩, ⟨by omega, (H12'.dropk 0)⟩, by show gs.length - (i + 1) < gs.length - i; omega⟩
  · skip
    obtain rfl : i = gs.length := by omega
    refine exitAny ?_
    refine thenExit ?_
    refine thenExit ?_
    refine blockHere ?_
    refine thenNormal ?_
    refine seqRegion ?_
    refine sq (r_move (v := i64 ((andsS gs gs.length : Nat))) rfl) ?_
    refine sq (r_assign (v := i64 ((andsS gs gs.length : Nat))) rfl) ?_
    refine wend ?_
    refine retAny ?_
    refine retG (rs := [.tmp 2]) (vs := [i64 ((andsS gs gs.length : Nat))]) rfl ⟨⟨rfl, rfl⟩, trivial⟩ ?_
    exact ⟨_, rfl, rfl, HL.chg⟩
set_option maxHeartbeats 2000000 in
theorem eval_ok (n : Int) (gs : List Gt) (ol : List Int) (ga oa : Option Addr) (gc oc : Nat) (inp : List Bool) (ia : Option Addr) (ic : Nat) (w : World) (hG : Gl w) (hGs : Rd EG w ga gs) (hOl : Rd EI w oa ol) (hgl : gs.length ≤ 140737488355328) (hol : ol.length ≤ 140737488355328) (hIn : Rd EB w ia inp) : Calls Tryd.prog 37 [.agg #[i64 (n), .slice ga gs.length gc, .slice oa ol.length oc], .slice ia inp.length ic].toArray w (Ret fun v w' => ((IsC n gs ol ∧ (inp.length : Int) = n ∧ ∃ r, v = .tuple #[r, .nilIface] ∧ SlRes EB 4 (evalS gs ol inp) w r w') ∨ (∃ ev, v = .tuple #[.slice none 0 0, ev] ∧ ((¬ IsC n gs ol ∧ Er w.heap.size w' 90 1 ev) ∨ (IsC n gs ol ∧ (inp.length : Int) ≠ n ∧ Er w.heap.size w' 1 1 ev)))) ∧ Ext w w') := by
  have H := Hp.start No w
  refine enter (n := 95) Tryd.func37 rfl rfl (Nat.le_of_ble_eq_true rfl) ?_
  refine seqRegion ?_
  refine q_box (v := .agg #[i64 (n), .slice ga gs.length gc, .slice oa ol.length oc]) (o := .cells #[i64 (n), .slice ga gs.length gc, .slice oa ol.length oc] 70 (0, 0)) H rfl (by rfl) ?_
  intro b1 w2 hb1 H3 hE4
  refine sq (r_assign (v := .slice none 0 0) rfl) ?_
  refine sq (r_assign (v := .nilIface) rfl) ?_
  refine wend ?_
  refine seqAny ?_
  refine seqRegion ?_
  refine sq (r_loadA (cs' := #[i64 (n), .slice ga gs.length gc, .slice oa ol.length oc]) agg70 siz70 (H3.get (k := 0) rfl) (off := 0) rfl (by exact Nat.le_of_ble_eq_true rfl) (by rfl)) ?_
  have := H3.lt (List.mem_of_getElem? (i := 0) rfl) rfl
  refine c_call (vs := [.agg #[i64 (n), .slice ga gs.length gc, .slice oa ol.length oc]]) call31 rfl (check_ok n gs ol ga oa gc oc w2 (Chg.gl H3.chg (fun x => x) hG) (hGs.ext H3.chg) (hOl.ext H3.chg) (by omega) (by omega)) ?_
  rintro v7 w5 ⟨⟨rfl, hg10⟩ | ⟨hEr11, hg10⟩, hE8⟩
  · skip
    have H9 := H3.ext hE8
    have hlo := hg10.lo
    have hhi := hg10.hi
    have hgt := hg10.gates
    have hou := hg10.outs
    refine sq (r_assign (v := .nilIface) rfl) ?_
    refine wend ?_
    refine seqRegion ?_
    refine sq (r_move (v := .nilIface) rfl) ?_
    refine sq (r_neqNN isI27 rfl rfl) ?_
    refine wend ?_
    refine condFalse rfl ?_
    refine skipAny ?_
    refine thenNormal ?_
    refine seqAny ?_
    refine seqRegion ?_
    refine sq (r_move (v := .slice ia inp.length ic) rfl) ?_
    refine sq (r_lenS sli76 (a := ia) (m := inp.length) (c := ic) rfl) ?_
    refine sq (r_fieldAddr (off' := 0) fld70_0 (by decide) (b := b1) (off := 0) rfl (by omega)) ?_
    refine sq (r_loadC (v := i64 (n)) one3 (H9.get (k := 0) rfl) (off := 0) rfl (by rfl)) ?_
    refine sq (r_neqI (a := (inp.length : Nat)) (b := n) rfl rfl) ?_
    refine wend ?_
    refine condProp (((inp.length : Nat) : Int) ≠ n) rfl (fun c23 => ?_) (fun c23 => ?_)
    · skip
      refine seqRegion ?_
      refine sq (r_mkI und57 (xv := i64 ((1 : Int))) rfl) ?_
      refine sq (r_move (v := .slice ia inp.length ic) rfl) ?_
      refine sq (r_lenS sli76 (a := ia) (m := inp.length) (c := ic) rfl) ?_
      have := H9.lt (List.mem_of_getElem? (i := 0) rfl) rfl
      refine c_call (vs := [.iface 57 (i64 ((1 : Int))), .string ({data := #[105, 110, 112, 117, 116, 115]}), i64 ((inp.length : Nat))]) call63 rfl (wrap0_ok (1 : Int) (inp.length : Nat) ({data := #[105, 110, 112, 117, 116, 115]}) w5 (Chg.gl H9.chg (fun x => x) hG)) ?_
      rintro v16 w14 ⟨hEr17, hE18⟩
      have H19 := H9.ext hE18
      obtain ⟨T20, x21, rfl⟩ := hEr17.iface
      refine sq (r_assign (v := .slice none 0 0) rfl) ?_
      refine sq (r_assign (v := .iface T20 (x21)) rfl) ?_
      refine wend ?_
      refine retAny ?_
      refine thenRet ?_
      refine retG (rs := [.tmp 4, .tmp 5]) (vs := [.slice none 0 0, .iface T20 (x21)]) rfl ⟨⟨rfl, rfl⟩, ⟨rfl, rfl⟩, trivial⟩ ?_
      exact ⟨_, rfl, .inr ⟨_, rfl, .inr ⟨hg10, by omega, hEr17.mono H9.chg.size⟩⟩, H19.chg⟩
    · skip
      refine skipAny ?_
      refine thenNormal ?_
      refine seqRegion ?_
      refine sq (r_fieldAddr (off' := 0) fld70_0 (by decide) (b := b1) (off := 0) rfl (by omega)) ?_
      refine sq (r_loadC (v := i64 (n)) one3 (H9.get (k := 0) rfl) (off := 0) rfl (by rfl)) ?_
      refine sq (r_fieldAddr (off' := 1) fld70_1 (by decide) (b := b1) (off := 0) rfl (by omega)) ?_
      refine sq (r_loadC (v := .slice ga gs.length gc) one68 (H9.get (k := 0) rfl) (off := 1) rfl (by rfl)) ?_
      refine sq (r_lenS sli68 (a := ga) (m := gs.length) (c := gc) rfl) ?_
      refine sq (r_addI (a := n) (b := (gs.length : Nat)) rfl rfl (by omega)) ?_
      refine q_makeSlice (E := EB) (m := 0) (c := (n.toNat + gs.length)) (z0 := false) H9 sli76 zer4 rfl byt4 rfl rfl (by first | rfl | omega | (simp; omega)) (by first | rfl | omega | (simp; omega)) (by omega) (by omega) ?_
      intro b22 w24 hS23 H25 hE26
      refine sq (r_move (v := .slice ia inp.length ic) rfl) ?_
      refine q_append (E := EB) (k := 0) (l := List.replicate 0 false) (l2 := inp) H25 rfl hS23 sli76 zer4 rfl byt4 (hIn.ext H25.chg) rfl (by simp) rfl (by rfl) (by omega) ?_
      intro key27 c28 sp29 w31 hS30 hne33 H32
      have H32' := H32.as (L' := [(key27, sob EB 4 ((List.replicate 0 false) ++ inp) sp29), (some b1, .cells #[i64 (n), .slice ga gs.length gc, .slice oa ol.length oc] 70 (0, 0))]) rfl
      clear H32
      have e34 : (List.replicate 0 false) ++ inp = wS gs inp 0 := by rfl
      have hS35 := hS30
      rw [e34] at hS35
      have H36 := H32'.as (L' := [(key27, sob EB 4 (wS gs inp 0) sp29), (some b1, .cells #[i64 (n), .slice ga gs.length gc, .slice oa ol.length oc] 70 (0, 0))]) (by rw [e34])
      refine sq (r_assign (v := .slice (ownA key27) (0 + inp.length) c28) rfl) ?_
      refine wend ?_
      refine seqAny ?_
      refine seqRegion ?_
      refine sq (r_fieldAddr (off' := 1) fld70_1 (by decide) (b := b1) (off := 0) rfl (by omega)) ?_
      refine sq (r_loadC (v := .slice ga gs.length gc) one68 (H36.get (k := 1) rfl) (off := 1) rfl (by rfl)) ?_
      refine sq (r_lenS sli68 (a := ga) (m := gs.length) (c := gc) rfl) ?_
      refine sq (r_move (v := i64 ((0 : Int))) rfl) ?_
      refine wend ?_
      refine blockAny ?_
      refine loopAny (σ := Nat × Option Nat × Nat × List Value) (fun (i, key, c, sp) => [(2, .pointer (some ⟨b1, 0, none⟩)), (7, .slice (ownA key) (inp.length + i) c), (38, .slice ga gs.length gc), (39, i64 ((gs.length : Nat))), (40, i64 ((i : Nat)))]) (fun (i, key, c, sp) w' => i ≤ gs.length ∧ Sl EB key (wS gs inp i) c sp ∧ Hp No w w' [(key, sob EB 4 (wS gs inp i) sp), (some b1, .cells #[i64 (n), .slice ga gs.length gc, .slice oa ol.length oc] 70 (0, 0))]) (fun (i, key, c, sp) => gs.length - i) ((0, key27, c28, sp29)) ?_ ?_ ?_
      · exact ⟨rfl, congrArg (fun q => Value.slice _ q _) (by omega), rfl, rfl, rfl, trivial⟩
      · exact ⟨by omega, hS35, H36⟩
      rintro ⟨i, key, c, sp⟩ ρ w37 ⟨hi, hS, HL⟩
      have hl := wS_len gs inp i
      refine seqRegion ?_
      refine sq (r_lssI (a := (i : Nat)) (b := (gs.length : Nat)) rfl rfl) ?_
      refine wend ?_
      refine seqAny ?_
      refine condProp (((i : Nat) : Int) < (gs.length : Nat)) rfl (fun c41 => ?_) (fun c41 => ?_)
      · skip
        have hgi := hg10.gok i (by omega)
        unfold gokP at hgi
        refine skipAny ?_
        refine thenNormal ?_
        refine seqAny ?_
        refine blockAny ?_
        refine seqRegion ?_
        refine sq (r_idxS (E := EG) (l := gs) (j := i) sli68 (hGs.ext HL.chg) rfl rfl (by first | rfl | omega | (simp; omega)) (by rfl) (by omega)) ?_
        refine sq ((r_ldS (E := EG) (l := gs) (j := i) (v := (gs).getD i g0) fits99 (hGs.ext HL.chg) rfl rfl (at_getD (by omega))).as (v' := .agg #[i64 (((gs).getD i g0).k), i64 (((gs).getD i g0).a), i64 (((gs).getD i g0).b)]) rfl) ?_
        refine q_alloc (o := .cells #[i64 ((0 : Int)), i64 ((0 : Int)), i64 ((0 : Int))] 99 (0, 0)) HL zer99 (by kernel_rfl) ?_
        intro b39 w40 hb39 H41 hE42
        refine d_store (k := 0) (v := .agg #[i64 (((gs).getD i g0).k), i64 (((gs).getD i g0).a), i64 (((gs).getD i g0).b)]) (cs' := #[i64 (((gs).getD i g0).k), i64 (((gs).getD i g0).a), i64 (((gs).getD i g0).b)]) H41 rfl rfl rfl siz99 (by rfl) (by intro u hu; simp [Value.cells] at hu; first | (subst hu; rfl) | (rcases hu with rfl | rfl | rfl <;> rfl)) (by exact Nat.le_of_ble_eq_true rfl) (by rfl) ?_
        intro w43 H44 hC45
        have H44' := H44.as (L' := [(some b39, .cells #[i64 (((gs).getD i g0).k), i64 (((gs).getD i g0).a), i64 (((gs).getD i g0).b)] 99 (0, 0)), (key, sob EB 4 (wS gs inp i) sp), (some b1, .cells #[i64 (n), .slice ga gs.length gc, .slice oa ol.length oc] 70 (0, 0))]) rfl
        clear H44
        refine wend ?_
        refine seqRegion ?_
        refine sq (r_move (v := .slice (ownA key) (inp.length + i) c) rfl) ?_
        refine sq (r_fieldAddr (off' := 1) fld99_1 (by decide) (b := b39) (off := 0) rfl (by omega)) ?_
        refine sq (r_loadC (v := i64 (((gs).getD i g0).a)) one3 (H44'.get (k := 0) rfl) (off := 1) rfl (by rfl)) ?_
        refine sq (r_idxS (E := EB) (l := wS gs inp i) (j := ((gs.getD i g0).a).toNat) sli76 (H44'.rd (k := 1) rfl hS) rfl rfl (by omega) (by omega) (by omega)) ?_
        refine sq (r_ldS (E := EB) (l := wS gs inp i) (j := ((gs.getD i g0).a).toNat) (v := (wS gs inp i).getD (((gs.getD i g0).a).toNat) false) fits4 (H44'.rd (k := 1) rfl hS) rfl rfl (at_getD (by omega))) ?_
        refine sq (r_assign (v := .bool ((wS gs inp i).getD (((gs.getD i g0).a).toNat) false)) rfl) ?_
        refine wend ?_
        refine seqAny ?_
        refine seqRegion ?_
        refine sq (r_fieldAddr (off' := 0) fld99_0 (by decide) (b := b39) (off := 0) rfl (by omega)) ?_
        refine sq (r_loadC (v := i64 (((gs).getD i g0).k)) one97 (H44'.get (k := 0) rfl) (off := 0) rfl (by rfl)) ?_
        refine wend ?_
        refine blockAny ?_
        refine seqRegion ?_
        refine sq (r_eqlI (a := ((gs).getD i g0).k) (b := (1 : Int)) rfl rfl) ?_
        refine sq (r_assign (v := .bool (decide ((((gs).getD i g0).k : Int) = (1 : Int)))) rfl) ?_
        refine wend ?_
        refine condProp ((((gs).getD i g0).k : Int) = (1 : Int)) rfl (fun kc51 => ?_) (fun kc51 => ?_)
        · skip
          refine oneRegion ?_
          refine sq (r_move (v := .bool ((wS gs inp i).getD (((gs.getD i g0).a).toNat) false)) rfl) ?_
          refine sq (r_move (v := .slice (ownA key) (inp.length + i) c) rfl) ?_
          refine sq (r_fieldAddr (off' := 2) fld99_2 (by decide) (b := b39) (off := 0) rfl (by omega)) ?_
          refine sq (r_loadC (v := i64 (((gs).getD i g0).b)) one3 (H44'.get (k := 0) rfl) (off := 2) rfl (by rfl)) ?_
          refine sq (r_idxS (E := EB) (l := wS gs inp i) (j := ((gs.getD i g0).b).toNat) sli76 (H44'.rd (k := 1) rfl hS) rfl rfl (by omega) (by omega) (by omega)) ?_
          refine sq (r_ldS (E := EB) (l := wS gs inp i) (j := ((gs.getD i g0).b).toNat) (v := (wS gs inp i).getD (((gs.getD i g0).b).toNat) false) fits4 (H44'.rd (k := 1) rfl hS) rfl rfl (at_getD (by omega))) ?_
          refine sq (r_neqB und4 (a := (wS gs inp i).getD (((gs.getD i g0).a).toNat) false) (b := (wS gs inp i).getD (((gs.getD i g0).b).toNat) false) rfl rfl) ?_
          refine sq (r_assign (v := .bool (((wS gs inp i).getD (((gs.getD i g0).a).toNat) false) != ((wS gs inp i).getD (((gs.getD i g0).b).toNat) false))) rfl) ?_
          refine wnil ?_
          refine blockNormal ?_
          refine thenNormal ?_
          refine oneRegion ?_
          refine sq (r_move (v := .slice (ownA key) (inp.length + i) c) rfl) ?_
          refine sq (r_move (v := .bool (((wS gs inp i).getD (((gs.getD i g0).a).toNat) false) != ((wS gs inp i).getD (((gs.getD i g0).b).toNat) false))) rfl) ?_
          refine q_buildSlice (E := EB) (l := [((wS gs inp i).getD (((gs.getD i g0).a).toNat) false) != ((wS gs inp i).getD (((gs.getD i g0).b).toNat) false)]) H44' sli76 zer4 (Nat.le_of_ble_eq_true rfl) (ps := [(0, .bool (((wS gs inp i).getD (((gs.getD i g0).a).toNat) false) != ((wS gs inp i).getD (((gs.getD i g0).b).toNat) false)))]) rfl (by exact fillAll rfl rfl) rfl ?_
          intro b46 w48 hS47 H49 hE50
          refine q_append (E := EB) (k := 2) (l := wS gs inp i) (l2 := [((wS gs inp i).getD (((gs.getD i g0).a).toNat) false) != ((wS gs inp i).getD (((gs.getD i g0).b).toNat) false)]) H49 rfl hS sli76 zer4 rfl byt4 (H49.rd (k := 0) rfl hS47) rfl (by omega) rfl (by rfl) (by omega) ?_
          intro key51 c52 sp53 w55 hS54 hne57 H56
          have H56' := H56.as (L' := [((some b46), sob EB 4 ([((wS gs inp i).getD (((gs.getD i g0).a).toNat) false) != ((wS gs inp i).getD (((gs.getD i g0).b).toNat) false)]) ([])), (some b39, .cells #[i64 (((gs).getD i g0).k), i64 (((gs).getD i g0).a), i64 (((gs).getD i g0).b)] 99 (0, 0)), (key51, sob EB 4 ((wS gs inp i) ++ ([((wS gs inp i).getD (((gs.getD i g0).a).toNat) false) != ((wS gs inp i).getD (((gs.getD i g0).b).toNat) false)])) sp53), (some b1, .cells #[i64 (n), .slice ga gs.length gc, .slice oa ol.length oc] 70 (0, 0))]) rfl
          clear H56
          have e58 : (wS gs inp i) ++ ([((wS gs inp i).getD (((gs.getD i g0).a).toNat) false) != ((wS gs inp i).getD (((gs.getD i g0).b).toNat) false)]) = wS gs inp (i + 1) := by rw [wS, gval, if_pos kc51]
          have hS59 := hS54
          rw [e58] at hS59
          have H60 := H56'.as (L' := [((some b46), sob EB 4 ([((wS gs inp i).getD (((gs.getD i g0).a).toNat) false) != ((wS gs inp i).getD (((gs.getD i g0).b).toNat) false)]) ([])), (some b39, .cells #[i64 (((gs).getD i g0).k), i64 (((gs).getD i g0).a), i64 (((gs).getD i g0).b)] 99 (0, 0)), (key51, sob EB 4 (wS gs inp (i + 1)) sp53), (some b1, .cells #[i64 (n), .slice ga gs.length gc, .slice oa ol.length oc] 70 (0, 0))]) (by rw [e58])
          refine sq (r_assign (v := .slice (ownA key51) ((inp.length + i) + 1) c52) rfl) ?_
          refine wnil ?_
          refine blockNormal ?_
          refine thenNormal ?_
          refine oneRegion ?_
          refine sq (r_addI (a := (i : Nat)) (b := (1 : Int)) rfl rfl (by omega)) ?_
          refine sq (r_move (v := i64 ((i : Nat) + (1 : Int))) rfl) ?_
          refine wnil ?_
          refine thenNormal ?_
          exact ⟨(i + 1, key51, c52, sp53), _, rfl, ⟨rfl, rfl, rfl, rfl, rfl, trivial⟩, ⟨by omega, hS59, ((H60.dropk 1).dropk 0)⟩, by show gs.length - (i + 1) < gs.length - i; omega⟩
        · skip
          refine seqRegion ?_
          refine sq (r_eqlI (a := ((gs).getD i g0).k) (b := (2 : Int)) rfl rfl) ?_
          refine sq (r_assign (v := .bool (decide ((((gs).getD i g0).k : Int) = (2 : Int)))) rfl) ?_
          refine wend ?_
          refine condProp ((((gs).getD i g0).k : Int) = (2 : Int)) rfl (fun kc60 => ?_) (fun kc60 => ?_)
          · skip
            refine oneRegion ?_
            refine sq (r_move (v := .bool ((wS gs inp i).getD (((gs.getD i g0).a).toNat) false)) rfl) ?_
            refine sq (r_move (v := .bool ((wS gs inp i).getD (((gs.getD i g0).a).toNat) false)) rfl) ?_
            rcases Bool.eq_false_or_eq_true ((wS gs inp i).getD (((gs.getD i g0).a).toNat) false) with g61 | g61
            · skip
              refine sqAny (v := .slice (ownA key) (inp.length + i) c) (w' := w43) (wantedSome (d' := 63) (b := true) rfl rfl (congrArg Value.bool g61)) (r_move (v := .slice (ownA key) (inp.length + i) c) rfl) ?_
              refine sqAny (v := .pointer (some ⟨b39, 2, none⟩)) (w' := w43) (wantedSome (d' := 63) (b := true) rfl rfl (congrArg Value.bool g61)) (r_fieldAddr (off' := 2) fld99_2 (by decide) (b := b39) (off := 0) rfl (by omega)) ?_
              refine sqAny (v := i64 (((gs).getD i g0).b)) (w' := w43) (wantedSome (d' := 63) (b := true) rfl rfl (congrArg Value.bool g61)) (r_loadC (v := i64 (((gs).getD i g0).b)) one3 (H44'.get (k := 0) rfl) (off := 2) rfl (by rfl)) ?_
              refine sqAny (v := .pointer (adr (ownA key) ((((gs.getD i g0).b).toNat) * 1))) (w' := w43) (wantedSome (d' := 63) (b := true) rfl rfl (congrArg Value.bool g61)) (r_idxS (E := EB) (l := wS gs inp i) (j := ((gs.getD i g0).b).toNat) sli76 (H44'.rd (k := 1) rfl hS) rfl rfl (by omega) (by omega) (by omega)) ?_
              refine sqAny (v := .bool ((wS gs inp i).getD (((gs.getD i g0).b).toNat) false)) (w' := w43) (wantedSome (d' := 63) (b := true) rfl rfl (congrArg Value.bool g61)) (r_ldS (E := EB) (l := wS gs inp i) (j := ((gs.getD i g0).b).toNat) (v := (wS gs inp i).getD (((gs.getD i g0).b).toNat) false) fits4 (H44'.rd (k := 1) rfl hS) rfl rfl (at_getD (by omega))) ?_
              refine sq (r_pickT (u := .bool ((wS gs inp i).getD (((gs.getD i g0).b).toNat) false)) (congrArg Value.bool g61) rfl) ?_
              refine sq (r_assign (v := .bool ((wS gs inp i).getD (((gs.getD i g0).b).toNat) false)) rfl) ?_
              refine wnil ?_
              refine blockNormal ?_
              refine thenNormal ?_
              refine oneRegion ?_
              refine sq (r_move (v := .slice (ownA key) (inp.length + i) c) rfl) ?_
              refine sq (r_move (v := .bool ((wS gs inp i).getD (((gs.getD i g0).b).toNat) false)) rfl) ?_
              refine q_buildSlice (E := EB) (l := [(wS gs inp i).getD (((gs.getD i g0).b).toNat) false]) H44' sli76 zer4 (Nat.le_of_ble_eq_true rfl) (ps := [(0, .bool ((wS gs inp i).getD (((gs.getD i g0).b).toNat) false))]) rfl (by exact fillAll rfl rfl) rfl ?_
              intro b62 w64 hS63 H65 hE66
              refine q_append (E := EB) (k := 2) (l := wS gs inp i) (l2 := [(wS gs inp i).getD (((gs.getD i g0).b).toNat) false]) H65 rfl hS sli76 zer4 rfl byt4 (H65.rd (k := 0) rfl hS63) rfl (by omega) rfl (by rfl) (by omega) ?_
              intro key67 c68 sp69 w71 hS70 hne73 H72
              have H72' := H72.as (L' := [((some b62), sob EB 4 ([(wS gs inp i).getD (((gs.getD i g0).b).toNat) false]) ([])), (some b39, .cells #[i64 (((gs).getD i g0).k), i64 (((gs).getD i g0).a), i64 (((gs).getD i g0).b)] 99 (0, 0)), (key67, sob EB 4 ((wS gs inp i) ++ ([(wS gs inp i).getD (((gs.getD i g0).b).toNat) false])) sp69), (some b1, .cells #[i64 (n), .slice ga gs.length gc, .slice oa ol.length oc] 70 (0, 0))]) rfl
              clear H72
              have e74 : (wS gs inp i) ++ ([(wS gs inp i).getD (((gs.getD i g0).b).toNat) false]) = wS gs inp (i + 1) := by rw [wS, gval, if_neg kc51, if_pos kc60, g61]; rfl
              have hS75 := hS70
              rw [e74] at hS75
              have H76 := H72'.as (L' := [((some b62), sob EB 4 ([(wS gs inp i).getD (((gs.getD i g0).b).toNat) false]) ([])), (some b39, .cells #[i64 (((gs).getD i g0).k), i64 (((gs).getD i g0).a), i64 (((gs).getD i g0).b)] 99 (0, 0)), (key67, sob EB 4 (wS gs inp (i + 1)) sp69), (some b1, .cells #[i64 (n), .slice ga gs.length gc, .slice oa ol.length oc] 70 (0, 0))]) (by rw [e74])
              refine sq (r_assign (v := .slice (ownA key67) ((inp.length + i) + 1) c68) rfl) ?_
              refine wnil ?_
              refine blockNormal ?_
              refine thenNormal ?_
              refine oneRegion ?_
              refine sq (r_addI (a := (i : Nat)) (b := (1 : Int)) rfl rfl (by omega)) ?_
              refine sq (r_move (v := i64 ((i : Nat) + (1 : Int))) rfl) ?_
              refine wnil ?_
              refine thenNormal ?_
              exact ⟨(i + 1, key67, c68, sp69), _, rfl, ⟨rfl, rfl, rfl, rfl, rfl, trivial⟩, ⟨by omega, hS75, ((H76.dropk 1).dropk 0)⟩, by show gs.length - (i + 1) < gs.length - i; omega⟩
            · skip
              refine skAny (wantedSome (d' := 63) (b := false) rfl rfl (congrArg Value.bool g61)) ?_
              refine skAny (wantedSome (d' := 63) (b := false) rfl rfl (congrArg Value.bool g61)) ?_
              refine skAny (wantedSome (d' := 63) (b := false) rfl rfl (congrArg Value.bool g61)) ?_
              refine skAny (wantedSome (d' := 63) (b := false) rfl rfl (congrArg Value.bool g61)) ?_
              refine skAny (wantedSome (d' := 63) (b := false) rfl rfl (congrArg Value.bool g61)) ?_
              refine sq (r_pickF (v := .bool (false)) (congrArg Value.bool g61) rfl) ?_
              refine sq (r_assign (v := .bool (false)) rfl) ?_
              refine wnil ?_
              refine blockNormal ?_
              refine thenNormal ?_
              refine oneRegion ?_
              refine sq (r_move (v := .slice (ownA key) (inp.length + i) c) rfl) ?_
              refine sq (r_move (v := .bool (false)) rfl) ?_
              refine q_buildSlice (E := EB) (l := [false]) H44' sli76 zer4 (Nat.le_of_ble_eq_true rfl) (ps := [(0, .bool (false))]) rfl (by exact fillAll rfl rfl) rfl ?_
              intro b77 w79 hS78 H80 hE81
              refine q_append (E := EB) (k := 2) (l := wS gs inp i) (l2 := [false]) H80 rfl hS sli76 zer4 rfl byt4 (H80.rd (k := 0) rfl hS78) rfl (by omega) rfl (by rfl) (by omega) ?_
              intro key82 c83 sp84 w86 hS85 hne88 H87
              have H87' := H87.as (L' := [((some b77), sob EB 4 ([false]) ([])), (some b39, .cells #[i64 (((gs).getD i g0).k), i64 (((gs).getD i g0).a), i64 (((gs).getD i g0).b)] 99 (0, 0)), (key82, sob EB 4 ((wS gs inp i) ++ ([false])) sp84), (some b1, .cells #[i64 (n), .slice ga gs.length gc, .slice oa ol.length oc] 70 (0, 0))]) rfl
              clear H87
              have e89 : (wS gs inp i) ++ ([false]) = wS gs inp (i + 1) := by rw [wS, gval, if_neg kc51, if_pos kc60, g61]; rfl
              have hS90 := hS85
              rw [e89] at hS90
              have H91 := H87'.as (L' := [((some b77), sob EB 4 ([false]) ([])), (some b39, .cells #[i64 (((gs).getD i g0).k), i64 (((gs).getD i g0).a), i64 (((gs).getD i g0).b)] 99 (0, 0)), (key82, sob EB 4 (wS gs inp (i + 1)) sp84), (some b1, .cells #[i64 (n), .slice ga gs.length gc, .slice oa ol.length oc] 70 (0, 0))]) (by rw [e89])
              refine sq (r_assign (v := .slice (ownA key82) ((inp.length + i) + 1) c83) rfl) ?_
              refine wnil ?_
              refine blockNormal ?_
              refine thenNormal ?_
              refine oneRegion ?_
              refine sq (r_addI (a := (i : Nat)) (b := (1 : Int)) rfl rfl (by omega)) ?_
              refine sq (r_move (v := i64 ((i : Nat) + (1 : Int))) rfl) ?_
              refine wnil ?_
              refine thenNormal ?_
              exact ⟨(i + 1, key82, c83, sp84), _, rfl, ⟨rfl, rfl, rfl, rfl, rfl, trivial⟩, ⟨by omega, hS90, ((H91.dropk 1).dropk 0)⟩, by show gs.length - (i + 1) < gs.length - i; omega⟩
          · skip
            refine seqRegion ?_
            refine sq (r_eqlI (a := ((gs).getD i g0).k) (b := (3 : Int)) rfl rfl) ?_
            refine sq (r_assign (v := .bool (decide ((((gs).getD i g0).k : Int) = (3 : Int)))) rfl) ?_
            refine wend ?_
            refine condProp ((((gs).getD i g0).k : Int) = (3 : Int)) rfl (fun kc70 => ?_) (fun kc70 => ?_)
            · skip
              refine oneRegion ?_
              refine sq (r_move (v := .bool ((wS gs inp i).getD (((gs.getD i g0).a).toNat) false)) rfl) ?_
              refine sq (r_not (b := (wS gs inp i).getD (((gs.getD i g0).a).toNat) false) rfl) ?_
              refine sq (r_assign (v := .bool (!((wS gs inp i).getD (((gs.getD i g0).a).toNat) false))) rfl) ?_
              refine wnil ?_
              refine blockNormal ?_
              refine thenNormal ?_
              refine oneRegion ?_
              refine sq (r_move (v := .slice (ownA key) (inp.length + i) c) rfl) ?_
              refine sq (r_move (v := .bool (!((wS gs inp i).getD (((gs.getD i g0).a).toNat) false))) rfl) ?_
              refine q_buildSlice (E := EB) (l := [!((wS gs inp i).getD (((gs.getD i g0).a).toNat) false)]) H44' sli76 zer4 (Nat.le_of_ble_eq_true rfl) (ps := [(0, .bool (!((wS gs inp i).getD (((gs.getD i g0).a).toNat) false)))]) rfl (by exact fillAll rfl rfl) rfl ?_
              intro b92 w94 hS93 H95 hE96
              refine q_append (E := EB) (k := 2) (l := wS gs inp i) (l2 := [!((wS gs inp i).getD (((gs.getD i g0).a).toNat) false)]) H95 rfl hS sli76 zer4 rfl byt4 (H95.rd (k := 0) rfl hS93) rfl (by omega) rfl (by rfl) (by omega) ?_
              intro key97 c98 sp99 w101 hS100 hne103 H102
              have H102' := H102.as (L' := [((some b92), sob EB 4 ([!((wS gs inp i).getD (((gs.getD i g0).a).toNat) false)]) ([])), (some b39, .cells #[i64 (((gs).getD i g0).k), i64 (((gs).getD i g0).a), i64 (((gs).getD i g0).b)] 99 (0, 0)), (key97, sob EB 4 ((wS gs inp i) ++ ([!((wS gs inp i).getD (((gs.getD i g0).a).toNat) false)])) sp99), (some b1, .cells #[i64 (n), .slice ga gs.length gc, .slice oa ol.length oc] 70 (0, 0))]) rfl
              clear H102
              have e104 : (wS gs inp i) ++ ([!((wS gs inp i).getD (((gs.getD i g0).a).toNat) false)]) = wS gs inp (i + 1) := by rw [wS, gval, if_neg kc51, if_neg kc60]
              have hS105 := hS100
              rw [e104] at hS105
              have H106 := H102'.as (L' := [((some b92), sob EB 4 ([!((wS gs inp i).getD (((gs.getD i g0).a).toNat) false)]) ([])), (some b39, .cells #[i64 (((gs).getD i g0).k), i64 (((gs).getD i g0).a), i64 (((gs).getD i g0).b)] 99 (0, 0)), (key97, sob EB 4 (wS gs inp (i + 1)) sp99), (some b1, .cells #[i64 (n), .slice ga gs.length gc, .slice oa ol.length oc] 70 (0, 0))]) (by rw [e104])
              refine sq (r_assign (v := .slice (ownA key97) ((inp.length + i) + 1) c98) rfl) ?_
              refine wnil ?_
              refine blockNormal ?_
              refine thenNormal ?_
              refine oneRegion ?_
              refine sq (r_addI (a := (i : Nat)) (b := (1 : Int)) rfl rfl (by omega)) ?_
              refine sq (r_move (v := i64 ((i : Nat) + (1 : Int))) rfl) ?_
              refine wnil ?_
              refine thenNormal ?_
              exact ⟨(i + 1, key97, c98, sp99), _, rfl, ⟨rfl, rfl, rfl, rfl, rfl, trivial⟩, ⟨by omega, hS105, ((H106.dropk 1).dropk 0)⟩, by show gs.length - (i + 1) < gs.length - i; omega⟩
            · skip
              exfalso
              omega
      · skip
        obtain rfl : i = gs.length := by omega
        refine exitAny ?_
        refine thenExit ?_
        refine thenExit ?_
        refine blockHere ?_
        refine thenNormal ?_
        refine seqRegion ?_
        refine sq (r_assign (v := .slice none 0 0) rfl) ?_
        have H107 := HL.nil (sob EB 4 [] [])
        refine wend ?_
        refine seqAny ?_
        refine seqRegion ?_
        refine sq (r_fieldAddr (off' := 2) fld70_2 (by decide) (b := b1) (off := 0) rfl (by omega)) ?_
        refine sq (r_loadC (v := .slice oa ol.length oc) one60 (H107.get (k := 2) rfl) (off := 2) rfl (by rfl)) ?_
        refine sq (r_lenS sli60 (a := oa) (m := ol.length) (c := oc) rfl) ?_
        refine sq (r_move (v := i64 ((0 : Int))) rfl) ?_
        refine wend ?_
        refine blockAny ?_
        refine loopAny (σ := Nat × Option Nat × Nat × List Value) (fun (q, k2, c2, sp2) => [(2, .pointer (some ⟨b1, 0, none⟩)), (7, .slice (ownA key) (inp.length + gs.length) c), (11, .slice (ownA k2) q c2), (80, .slice oa ol.length oc), (81, i64 ((ol.length : Nat))), (82, i64 ((q : Nat)))]) (fun (q, k2, c2, sp2) w' => q ≤ ol.length ∧ Sl EB k2 (oS (wS gs inp gs.length) ol q) c2 sp2 ∧ Hp No w w' [(k2, sob EB 4 (oS (wS gs inp gs.length) ol q) sp2), (key, sob EB 4 (wS gs inp gs.length) sp), (some b1, .cells #[i64 (n), .slice ga gs.length gc, .slice oa ol.length oc] 70 (0, 0))]) (fun (q, k2, c2, sp2) => ol.length - q) ((0, none, 0, [])) ?_ ?_ ?_
        · exact ⟨rfl, rfl, rfl, rfl, rfl, rfl, trivial⟩
        · exact ⟨by omega, Sl.none, H107⟩
        rintro ⟨q, k2, c2, sp2⟩ ρ w108 ⟨hq, hS2, HL2⟩
        have hl2 := oS_len (wS gs inp gs.length) ol q
        refine seqRegion ?_
        refine sq (r_lssI (a := (q : Nat)) (b := (ol.length : Nat)) rfl rfl) ?_
        refine wend ?_
        refine seqAny ?_
        refine condProp (((q : Nat) : Int) < (ol.length : Nat)) rfl (fun c83 => ?_) (fun c83 => ?_)
        · skip
          have hoi := hg10.ook q (by omega)
          refine skipAny ?_
          refine thenNormal ?_
          refine seqAny ?_
          refine blockAny ?_
          refine seqRegion ?_
          refine sq (r_idxS (E := EI) (l := ol) (j := q) sli60 (hOl.ext HL2.chg) rfl rfl (by first | rfl | omega | (simp; omega)) (by rfl) (by omega)) ?_
          refine sq (r_ldS (E := EI) (l := ol) (j := q) (v := (ol).getD q 0) fits3 (hOl.ext HL2.chg) rfl rfl (at_getD (by omega))) ?_
          refine sq (r_assign (v := i64 ((ol).getD q 0)) rfl) ?_
          refine wend ?_
          refine oneRegion ?_
          refine sq (r_move (v := .slice (ownA k2) q c2) rfl) ?_
          refine sq (r_move (v := .slice (ownA key) (inp.length + gs.length) c) rfl) ?_
          refine sq (r_move (v := i64 ((ol).getD q 0)) rfl) ?_
          refine sq (r_idxS (E := EB) (l := wS gs inp gs.length) (j := (ol.getD q 0).toNat) sli76 (HL2.rd (k := 1) rfl hS) rfl rfl (by omega) (by omega) (by omega)) ?_
          refine sq (r_ldS (E := EB) (l := wS gs inp gs.length) (j := (ol.getD q 0).toNat) (v := (wS gs inp gs.length).getD ((ol.getD q 0).toNat) false) fits4 (HL2.rd (k := 1) rfl hS) rfl rfl (at_getD (by omega))) ?_
          refine q_buildSlice (E := EB) (l := [(wS gs inp gs.length).getD ((ol.getD q 0).toNat) false]) HL2 sli76 zer4 (Nat.le_of_ble_eq_true rfl) (ps := [(0, .bool ((wS gs inp gs.length).getD ((ol.getD q 0).toNat) false))]) rfl (by exact fillAll rfl rfl) rfl ?_
          intro b110 w112 hS111 H113 hE114
          refine q_append (E := EB) (k := 1) (l := oS (wS gs inp gs.length) ol q) (l2 := [(wS gs inp gs.length).getD ((ol.getD q 0).toNat) false]) H113 rfl hS2 sli76 zer4 rfl byt4 (H113.rd (k := 0) rfl hS111) rfl (by exact (oS_len _ _ _).symm) rfl (by rfl) (by omega) ?_
          intro key115 c116 sp117 w119 hS118 hne121 H120
          have H120' := H120.as (L' := [((some b110), sob EB 4 ([(wS gs inp gs.length).getD ((ol.getD q 0).toNat) false]) ([])), (key115, sob EB 4 ((oS (wS gs inp gs.length) ol q) ++ ([(wS gs inp gs.length).getD ((ol.getD q 0).toNat) false])) sp117), (key, sob EB 4 (wS gs inp gs.length) sp), (some b1, .cells #[i64 (n), .slice ga gs.length gc, .slice oa ol.length oc] 70 (0, 0))]) rfl
          clear H120
          have e122 : (oS (wS gs inp gs.length) ol q) ++ ([(wS gs inp gs.length).getD ((ol.getD q 0).toNat) false]) = oS (wS gs inp gs.length) ol (q + 1) := by rw [oS]
          have hS123 := hS118
          rw [e122] at hS123
          have H124 := H120'.as (L' := [((some b110), sob EB 4 ([(wS gs inp gs.length).getD ((ol.getD q 0).toNat) false]) ([])), (key115, sob EB 4 (oS (wS gs inp gs.length) ol (q + 1)) sp117), (key, sob EB 4 (wS gs inp gs.length) sp), (some b1, .cells #[i64 (n), .slice ga gs.length gc, .slice oa ol.length oc] 70 (0, 0))]) (by rw [e122])
          refine sq (r_assign (v := .slice (ownA key115) (q + 1) c116) rfl) ?_
          refine wnil ?_
          refine blockNormal ?_
          refine thenNormal ?_
          refine oneRegion ?_
          refine sq (r_addI (a := (q : Nat)) (b := (1 : Int)) rfl rfl (by omega)) ?_
          refine sq (r_move (v := i64 ((q : Nat) + (1 : Int))) rfl) ?_
          refine wnil ?_
          refine thenNormal ?_
          exact ⟨(q + 1, key115, c116, sp117), _, rfl, ⟨rfl, rfl, rfl, rfl, rfl, rfl, trivial⟩, ⟨by omega, hS123, (H124.dropk 0)⟩, by show ol.length - (q + 1) < ol.length - q; omega⟩
        · skip
          obtain rfl : q = ol.length := by omega
          refine exitAny ?_
          refine thenExit ?_
          refine thenExit ?_
          refine blockHere ?_
          refine thenNormal ?_
          refine seqRegion ?_
          refine sq (r_move (v := .slice (ownA k2) ol.length c2) rfl) ?_
          refine sq (r_assign (v := .slice (ownA k2) ol.length c2) rfl) ?_
          refine sq (r_assign (v := .nilIface) rfl) ?_
          refine wend ?_
          refine retAny ?_
          refine retG (rs := [.tmp 4, .tmp 5]) (vs := [.slice (ownA k2) ol.length c2, .nilIface]) rfl ⟨⟨rfl, rfl⟩, ⟨rfl, rfl⟩, trivial⟩ ?_
          exact ⟨_, rfl, .inl ⟨hg10, by omega, _, rfl, HL2.resN (k := 0) rfl hS2 (by rw [evalS_len])⟩, HL2.chg⟩
  · skip
    have H9 := H3.ext hE8
    obtain ⟨T12, x13, rfl⟩ := hEr11.iface
    refine sq (r_assign (v := .iface T12 (x13)) rfl) ?_
    refine wend ?_
    refine seqRegion ?_
    refine sq (r_move (v := .iface T12 (x13)) rfl) ?_
    refine sq (r_neqIN isI27 rfl rfl) ?_
    refine wend ?_
    refine condTrue rfl ?_
    refine seqRegion ?_
    refine sq (r_move (v := .iface T12 (x13)) rfl) ?_
    refine sq (r_assign (v := .slice none 0 0) rfl) ?_
    refine sq (r_assign (v := .iface T12 (x13)) rfl) ?_
    refine wend ?_
    refine retAny ?_
    refine thenRet ?_
    refine retG (rs := [.tmp 4, .tmp 5]) (vs := [.slice none 0 0, .iface T12 (x13)]) rfl ⟨⟨rfl, rfl⟩, ⟨rfl, rfl⟩, trivial⟩ ?_
    exact ⟨_, rfl, .inr ⟨_, rfl, .inl ⟨hg10, hEr11.mono H3.chg.size⟩⟩, H9.chg⟩
theorem eval_good (n : Int) (gs : List Gt) (ol : List Int) (ga oa : Option Addr) (gc oc : Nat) (inp : List Bool) (ia : Option Addr) (ic : Nat) (w : World) (hG : Gl w) (hGs : Rd EG w ga gs) (hOl : Rd EI w oa ol) (hgl : gs.length ≤ 140737488355328) (hol : ol.length ≤ 140737488355328) (hIn : Rd EB w ia inp) (hg : IsC n gs ol) (hl : (inp.length : Int) = n) : Calls Tryd.prog 37 [.agg #[i64 (n), .slice ga gs.length gc, .slice oa ol.length oc], .slice ia inp.length ic].toArray w (Ret fun v w' => (∃ r, v = .tuple #[r, .nilIface] ∧ SlRes EB 4 (evalS gs ol inp) w r w') ∧ Ext w w') :=
  (eval_ok n gs ol ga oa gc oc inp ia ic w hG hGs hOl hgl hol hIn).mono fun e w' ⟨v, he, h, hE⟩ => by
    rcases h with ⟨_, _, h⟩ | ⟨_, _, ⟨h, _⟩ | ⟨_, h, _⟩⟩
    · exact ⟨v, he, h, hE⟩
    · exact absurd hg h
    · exact absurd hl h
theorem check_bad (n : Int) (gs : List Gt) (ol : List Int) (ga oa : Option Addr) (gc oc : Nat) (w : World) (hG : Gl w) (hGs : Rd EG w ga gs) (hOl : Rd EI w oa ol) (hgl : gs.length ≤ 140737488355328) (hol : ol.length ≤ 140737488355328) (hb : ¬ IsC n gs ol) : Calls Tryd.prog 31 [.agg #[i64 (n), .slice ga gs.length gc, .slice oa ol.length oc]].toArray w (Ret fun v w' => Er w.heap.size w' 90 1 v ∧ Ext w w') :=
  (check_ok n gs ol ga oa gc oc w hG hGs hOl hgl hol).mono fun e w' ⟨v, he, h, hE⟩ => by
    rcases h with ⟨_, h⟩ | ⟨h, _⟩
    · exact absurd h hb
    · exact ⟨v, he, h, hE⟩
set_option maxHeartbeats 1000000 in
theorem cawake_ok (w : World) (hG : Gl w) : Calls Tryd.prog 28 [].toArray w (Ret fun v w' => v = .bool true ∧ Ext w w') := by
  have H := Hp.start No w
  refine enter (n := 61) Tryd.func28 rfl rfl (Nat.le_of_ble_eq_true rfl) ?_
  refine seqRegion ?_
  refine sq (r_assign (v := .bool (false)) rfl) ?_
  refine wend ?_
  refine seqRegion ?_
  refine sq (r_build (cs' := #[i64 ((2 : Int)), i64 ((0 : Int)), i64 ((1 : Int))]) (ps := [(0, i64 ((2 : Int))), (2, i64 ((1 : Int)))]) zer99 pls99 rfl (by rfl)) ?_
  refine sq (r_build (cs' := #[i64 ((3 : Int)), i64 ((2 : Int)), i64 ((0 : Int))]) (ps := [(0, i64 ((3 : Int))), (1, i64 ((2 : Int)))]) zer99 pls99 rfl (by rfl)) ?_
  refine q_buildSlice (E := EG) (l := ([⟨(2 : Int), (0 : Int), (1 : Int)⟩, ⟨(3 : Int), (2 : Int), (0 : Int)⟩] : List Gt)) H sli68 zer99 (Nat.le_of_ble_eq_true rfl) (ps := [(0, .agg #[i64 ((2 : Int)), i64 ((0 : Int)), i64 ((1 : Int))]), (1, .agg #[i64 ((3 : Int)), i64 ((2 : Int)), i64 ((0 : Int))])]) rfl (by exact fillAll rfl rfl) rfl ?_
  intro b1 w3 hS2 H4 hE5
  refine q_buildSlice (E := EI) (l := [(3 : Int)]) H4 sli60 zer3 (Nat.le_of_ble_eq_true rfl) (ps := [(0, i64 ((3 : Int)))]) rfl (by exact fillAll rfl rfl) rfl ?_
  intro b6 w8 hS7 H9 hE10
  refine sq (r_build (cs' := #[i64 ((2 : Int)), .slice (ownA (some b1)) 2 2, .slice (ownA (some b6)) 1 1]) (ps := [(0, i64 ((2 : Int))), (1, .slice (ownA (some b1)) 2 2), (2, .slice (ownA (some b6)) 1 1)]) zer70 pls70 rfl (by rfl)) ?_
  refine q_alloc (o := .cells #[i64 ((0 : Int)), .slice none 0 0, .slice none 0 0] 70 (0, 0)) H9 zer70 (by kernel_rfl) ?_
  intro b11 w12 hb11 H13 hE14
  refine d_store (k := 0) (v := .agg #[i64 ((2 : Int)), .slice (ownA (some b1)) 2 2, .slice (ownA (some b6)) 1 1]) (cs' := #[i64 ((2 : Int)), .slice (ownA (some b1)) 2 2, .slice (ownA (some b6)) 1 1]) H13 rfl rfl rfl siz70 (by rfl) (by intro u hu; simp [Value.cells] at hu; first | (subst hu; rfl) | (rcases hu with rfl | rfl | rfl <;> rfl)) (by exact Nat.le_of_ble_eq_true rfl) (by rfl) ?_
  intro w15 H16 hC17
  have H16' := H16.as (L' := [(some b11, .cells #[i64 ((2 : Int)), .slice (ownA (some b1)) 2 2, .slice (ownA (some b6)) 1 1] 70 (0, 0)), ((some b6), sob EI 3 ([(3 : Int)]) ([])), ((some b1), sob EG 99 ([⟨(2 : Int), (0 : Int), (1 : Int)⟩, ⟨(3 : Int), (2 : Int), (0 : Int)⟩] : List Gt) ([]))]) rfl
  clear H16
  refine wend ?_
  refine seqRegion ?_
  refine sq (r_loadA (cs' := #[i64 ((2 : Int)), .slice (ownA (some b1)) 2 2, .slice (ownA (some b6)) 1 1]) agg70 siz70 (H16'.get (k := 0) rfl) (off := 0) rfl (by exact Nat.le_of_ble_eq_true rfl) (by rfl)) ?_
  refine q_buildSlice (E := EB) (l := [true, true]) H16' sli76 zer4 (Nat.le_of_ble_eq_true rfl) (ps := [(0, .bool (true)), (1, .bool (true))]) rfl (by exact fillAll rfl rfl) rfl ?_
  intro b18 w20 hS19 H21 hE22
  refine c_call (vs := [.agg #[i64 ((2 : Int)), .slice (ownA (some b1)) 2 2, .slice (ownA (some b6)) 1 1], .slice (ownA (some b18)) 2 2]) call37 rfl (eval_good (2 : Int) ([⟨(2 : Int), (0 : Int), (1 : Int)⟩, ⟨(3 : Int), (2 : Int), (0 : Int)⟩] : List Gt) ([(3 : Int)]) (ownA (some b1)) (ownA (some b6)) 2 1 ([true, true]) (ownA (some b18)) 2 w20 (Chg.gl H21.chg (fun x => x) hG) (H21.rd (k := 3) rfl hS2) (H21.rd (k := 2) rfl hS7) (by exact Nat.le_of_ble_eq_true rfl) (by exact Nat.le_of_ble_eq_true rfl) (H21.rd (k := 0) rfl hS19) (awake_is) (rfl)) ?_
  rintro _ w23 ⟨⟨_, rfl, key25, c26, sp27, rfl, hS28, hk29⟩, hE30⟩
  rw [show (evalS ([⟨(2 : Int), (0 : Int), (1 : Int)⟩, ⟨(3 : Int), (2 : Int), (0 : Int)⟩] : List Gt) ([(3 : Int)]) ([true, true])).length = ([(3 : Int)]).length from evalS_len _ _ _]
  have H31 := H21.add hE30 hk29
  refine sq (r_move (v := .tuple #[.slice (ownA key25) (([(3 : Int)]).length) c26, .nilIface]) rfl) ?_
  refine sq (r_extract (vs := #[.slice (ownA key25) (([(3 : Int)]).length) c26, .nilIface]) rfl rfl) ?_
  refine sq (r_extract (vs := #[.slice (ownA key25) (([(3 : Int)]).length) c26, .nilIface]) rfl rfl) ?_
  refine sq (r_assign (v := .slice (ownA key25) (([(3 : Int)]).length) c26) rfl) ?_
  refine sq (r_assign (v := .nilIface) rfl) ?_
  refine wend ?_
  refine seqRegion ?_
  refine sq (r_loadA (cs' := #[i64 ((2 : Int)), .slice (ownA (some b1)) 2 2, .slice (ownA (some b6)) 1 1]) agg70 siz70 (H31.get (k := 2) rfl) (off := 0) rfl (by exact Nat.le_of_ble_eq_true rfl) (by rfl)) ?_
  refine q_buildSlice (E := EB) (l := [true, false]) H31 sli76 zer4 (Nat.le_of_ble_eq_true rfl) (ps := [(0, .bool (true)), (1, .bool (false))]) rfl (by exact fillAll rfl rfl) rfl ?_
  intro b32 w34 hS33 H35 hE36
  refine c_call (vs := [.agg #[i64 ((2 : Int)), .slice (ownA (some b1)) 2 2, .slice (ownA (some b6)) 1 1], .slice (ownA (some b32)) 2 2]) call37 rfl (eval_good (2 : Int) ([⟨(2 : Int), (0 : Int), (1 : Int)⟩, ⟨(3 : Int), (2 : Int), (0 : Int)⟩] : List Gt) ([(3 : Int)]) (ownA (some b1)) (ownA (some b6)) 2 1 ([true, false]) (ownA (some b32)) 2 w34 (Chg.gl H35.chg (fun x => x) hG) (H35.rd (k := 5) rfl hS2) (H35.rd (k := 4) rfl hS7) (by exact Nat.le_of_ble_eq_true rfl) (by exact Nat.le_of_ble_eq_true rfl) (H35.rd (k := 0) rfl hS33) (awake_is) (rfl)) ?_
  rintro _ w37 ⟨⟨_, rfl, key39, c40, sp41, rfl, hS42, hk43⟩, hE44⟩
  rw [show (evalS ([⟨(2 : Int), (0 : Int), (1 : Int)⟩, ⟨(3 : Int), (2 : Int), (0 : Int)⟩] : List Gt) ([(3 : Int)]) ([true, false])).length = ([(3 : Int)]).length from evalS_len _ _ _]
  have H45 := H35.add hE44 hk43
  refine sq (r_move (v := .tuple #[.slice (ownA key39) (([(3 : Int)]).length) c40, .nilIface]) rfl) ?_
  refine sq (r_extract (vs := #[.slice (ownA key39) (([(3 : Int)]).length) c40, .nilIface]) rfl rfl) ?_
  refine sq (r_extract (vs := #[.slice (ownA key39) (([(3 : Int)]).length) c40, .nilIface]) rfl rfl) ?_
  refine sq (r_assign (v := .slice (ownA key39) (([(3 : Int)]).length) c40) rfl) ?_
  refine sq (r_assign (v := .nilIface) rfl) ?_
  refine wend ?_
  refine seqRegion ?_
  refine sq (r_move (v := .nilIface) rfl) ?_
  refine sq (r_eqlNN isI27 rfl rfl) ?_
  refine sq (r_move (v := .bool (true)) rfl) ?_
  refine sqAny (v := .nilIface) (w' := w37) (wantedSome (d' := 25) (b := true) rfl rfl rfl) (r_move (v := .nilIface) rfl) ?_
  refine sqAny (v := .bool (true)) (w' := w37) (wantedSome (d' := 25) (b := true) rfl rfl rfl) (r_eqlNN isI27 rfl rfl) ?_
  refine sq (r_pickT (u := .bool (true)) rfl rfl) ?_
  refine sq (r_move (v := .bool (true)) rfl) ?_
  refine sqAny (v := .slice (ownA key25) (([(3 : Int)]).length) c26) (w' := w37) (wantedSome (d' := 29) (b := true) rfl rfl rfl) (r_move (v := .slice (ownA key25) (([(3 : Int)]).length) c26) rfl) ?_
  refine sqAny (v := i64 ((([(3 : Int)]).length : Nat))) (w' := w37) (wantedSome (d' := 29) (b := true) rfl rfl rfl) (r_lenS sli76 (a := ownA key25) (m := ([(3 : Int)]).length) (c := c26) rfl) ?_
  refine sqAny (v := .bool (true)) (w' := w37) (wantedSome (d' := 29) (b := true) rfl rfl rfl) ((r_eqlI (a := (([(3 : Int)]).length : Nat)) (b := (1 : Int)) rfl rfl).as (v' := .bool (true)) (by rfl)) ?_
  refine sq (r_pickT (u := .bool (true)) rfl rfl) ?_
  refine sq (r_move (v := .bool (true)) rfl) ?_
  refine sqAny (v := .slice (ownA key39) (([(3 : Int)]).length) c40) (w' := w37) (wantedSome (d' := 34) (b := true) rfl rfl rfl) (r_move (v := .slice (ownA key39) (([(3 : Int)]).length) c40) rfl) ?_
  refine sqAny (v := i64 ((([(3 : Int)]).length : Nat))) (w' := w37) (wantedSome (d' := 34) (b := true) rfl rfl rfl) (r_lenS sli76 (a := ownA key39) (m := ([(3 : Int)]).length) (c := c40) rfl) ?_
  refine sqAny (v := .bool (true)) (w' := w37) (wantedSome (d' := 34) (b := true) rfl rfl rfl) ((r_eqlI (a := (([(3 : Int)]).length : Nat)) (b := (1 : Int)) rfl rfl).as (v' := .bool (true)) (by rfl)) ?_
  refine sq (r_pickT (u := .bool (true)) rfl rfl) ?_
  refine sq (r_move (v := .bool (true)) rfl) ?_
  refine sqAny (v := .slice (ownA key25) (([(3 : Int)]).length) c26) (w' := w37) (wantedSome (d' := 39) (b := true) rfl rfl rfl) (r_move (v := .slice (ownA key25) (([(3 : Int)]).length) c26) rfl) ?_
  refine sqAny (v := .pointer (adr (ownA key25) (0 * 1))) (w' := w37) (wantedSome (d' := 39) (b := true) rfl rfl rfl) (r_idxS (E := EB) (l := evalS ([⟨(2 : Int), (0 : Int), (1 : Int)⟩, ⟨(3 : Int), (2 : Int), (0 : Int)⟩] : List Gt) ([(3 : Int)]) ([true, true])) (j := 0) sli76 (H45.rd (k := 2) rfl hS28) rfl rfl (by first | rfl | omega | (simp; omega)) (by exact (evalS_len _ _ _).symm) (by exact Nat.le_of_ble_eq_true rfl)) ?_
  refine sqAny (v := .bool ((evalS ([⟨(2 : Int), (0 : Int), (1 : Int)⟩, ⟨(3 : Int), (2 : Int), (0 : Int)⟩] : List Gt) ([(3 : Int)]) ([true, true])).getD 0 false)) (w' := w37) (wantedSome (d' := 39) (b := true) rfl rfl rfl) (r_ldS (E := EB) (l := evalS ([⟨(2 : Int), (0 : Int), (1 : Int)⟩, ⟨(3 : Int), (2 : Int), (0 : Int)⟩] : List Gt) ([(3 : Int)]) ([true, true])) (j := 0) (v := (evalS ([⟨(2 : Int), (0 : Int), (1 : Int)⟩, ⟨(3 : Int), (2 : Int), (0 : Int)⟩] : List Gt) ([(3 : Int)]) ([true, true])).getD 0 false) fits4 (H45.rd (k := 2) rfl hS28) rfl rfl (at_getD (by exact Nat.le_of_ble_eq_true rfl))) ?_
  refine sqAny (v := .bool (true)) (w' := w37) (wantedSome (d' := 39) (b := true) rfl rfl rfl) ((r_not (b := (evalS ([⟨(2 : Int), (0 : Int), (1 : Int)⟩, ⟨(3 : Int), (2 : Int), (0 : Int)⟩] : List Gt) ([(3 : Int)]) ([true, true])).getD 0 false) rfl).as (v' := .bool (true)) (by rfl)) ?_
  refine sq (r_pickT (u := .bool (true)) rfl rfl) ?_
  refine sq (r_move (v := .bool (true)) rfl) ?_
  refine sqAny (v := .slice (ownA key39) (([(3 : Int)]).length) c40) (w' := w37) (wantedSome (d' := 45) (b := true) rfl rfl rfl) (r_move (v := .slice (ownA key39) (([(3 : Int)]).length) c40) rfl) ?_
  refine sqAny (v := .pointer (adr (ownA key39) (0 * 1))) (w' := w37) (wantedSome (d' := 45) (b := true) rfl rfl rfl) (r_idxS (E := EB) (l := evalS ([⟨(2 : Int), (0 : Int), (1 : Int)⟩, ⟨(3 : Int), (2 : Int), (0 : Int)⟩] : List Gt) ([(3 : Int)]) ([true, false])) (j := 0) sli76 (H45.rd (k := 0) rfl hS42) rfl rfl (by first | rfl | omega | (simp; omega)) (by exact (evalS_len _ _ _).symm) (by exact Nat.le_of_ble_eq_true rfl)) ?_
  refine sqAny (v := .bool (true)) (w' := w37) (wantedSome (d' := 45) (b := true) rfl rfl rfl) ((r_ldS (E := EB) (l := evalS ([⟨(2 : Int), (0 : Int), (1 : Int)⟩, ⟨(3 : Int), (2 : Int), (0 : Int)⟩] : List Gt) ([(3 : Int)]) ([true, false])) (j := 0) (v := (evalS ([⟨(2 : Int), (0 : Int), (1 : Int)⟩, ⟨(3 : Int), (2 : Int), (0 : Int)⟩] : List Gt) ([(3 : Int)]) ([true, false])).getD 0 false) fits4 (H45.rd (k := 0) rfl hS42) rfl rfl (at_getD (by exact Nat.le_of_ble_eq_true rfl))).as (v' := .bool (true)) (by rfl)) ?_
  refine sq (r_pickT (u := .bool (true)) rfl rfl) ?_
  refine sq (r_move (v := .bool (true)) rfl) ?_
  refine sqAny (v := .agg #[i64 ((2 : Int)), .slice (ownA (some b1)) 2 2, .slice (ownA (some b6)) 1 1]) (w' := w37) (wantedSome (d' := 50) (b := true) rfl rfl rfl) (r_loadA (cs' := #[i64 ((2 : Int)), .slice (ownA (some b1)) 2 2, .slice (ownA (some b6)) 1 1]) agg70 siz70 (H45.get (k := 4) rfl) (off := 0) rfl (by exact Nat.le_of_ble_eq_true rfl) (by rfl)) ?_
  refine caAny (wantedSome (d' := 50) (b := true) rfl rfl rfl) (Enters.callL (vs := [.agg #[i64 ((2 : Int)), .slice (ownA (some b1)) 2 2, .slice (ownA (some b6)) 1 1]]) call32 rfl) (ands_ok (2 : Int) ([⟨(2 : Int), (0 : Int), (1 : Int)⟩, ⟨(3 : Int), (2 : Int), (0 : Int)⟩] : List Gt) ([(3 : Int)]) (ownA (some b1)) (ownA (some b6)) 2 1 w37 (H45.rd (k := 6) rfl hS2) (by exact Nat.le_of_ble_eq_true rfl)) ?_
  rintro _ w46 ⟨rfl, hE47⟩
  have H48 := H45.ext hE47
  refine sqAny (v := .bool (true)) (w' := w46) (wantedSome (d' := 50) (b := true) rfl rfl rfl) ((r_eqlI (a := (andsS ([⟨(2 : Int), (0 : Int), (1 : Int)⟩, ⟨(3 : Int), (2 : Int), (0 : Int)⟩] : List Gt) 2 : Nat)) (b := (1 : Int)) rfl rfl).as (v' := .bool (true)) (by rfl)) ?_
  refine sq (r_pickT (u := .bool (true)) rfl rfl) ?_
  refine sq (r_move (v := .bool (true)) rfl) ?_
  refine q_buildSliceG (E := EI) (l := [(0 : Int)]) (wantedSome (d' := 55) (b := true) rfl rfl rfl) H48 sli60 zer3 (Nat.le_of_ble_eq_true rfl) (ps := [(0, i64 ((0 : Int)))]) rfl (by exact fillAll rfl rfl) rfl ?_
  intro b49 w51 hS50 H52 hE53
  refine sqAny (v := .agg #[i64 ((0 : Int)), .slice none 0 0, .slice (ownA (some b49)) 1 1]) (w' := w51) (wantedSome (d' := 55) (b := true) rfl rfl rfl) (r_build (cs' := #[i64 ((0 : Int)), .slice none 0 0, .slice (ownA (some b49)) 1 1]) (ps := [(2, .slice (ownA (some b49)) 1 1)]) zer70 pls70 rfl (by rfl)) ?_
  have := H52.lt (List.mem_of_getElem? (i := 5) rfl) rfl
  refine caAny (wantedSome (d' := 55) (b := true) rfl rfl rfl) (Enters.callL (vs := [.agg #[i64 ((0 : Int)), .slice none 0 0, .slice (ownA (some b49)) 1 1]]) call31 rfl) (check_bad (0 : Int) ([]) ([(0 : Int)]) none (ownA (some b49)) 0 1 w51 (Chg.gl H52.chg (fun x => x) hG) Rd.nil (H52.rd (k := 0) rfl hS50) (by exact Nat.zero_le _) (by exact Nat.le_of_ble_eq_true rfl) (awake_isnt)) ?_
  rintro v56 w54 ⟨hEr59, hE57⟩
  have H58 := H52.ext hE57
  obtain ⟨T60, x61, rfl⟩ := hEr59.iface
  refine caAny (wantedSome (d' := 55) (b := true) rfl rfl rfl) (Enters.callL (vs := [.iface T60 (x61), i64 ((90 : Int))]) call24 rfl) (is_ok 90 (90 : Int) 1 (.iface T60 (x61)) w51.heap.size w54 (hEr59)) ?_
  rintro _ w62 ⟨rfl, hE63⟩
  have H64 := H58.ext hE63
  refine sq (r_pickT (u := .bool (true)) rfl rfl) ?_
  refine sq (r_assign (v := .bool (true)) rfl) ?_
  refine wend ?_
  refine retAny ?_
  refine retG (rs := [.tmp 0]) (vs := [.bool (true)]) rfl ⟨⟨rfl, rfl⟩, trivial⟩ ?_
  exact ⟨_, rfl, rfl, H64.chg⟩
theorem bits_ok (x : BitVec 64) (w : World) : Calls Tryd.prog 33 [u64 (x)].toArray w (Ret fun v w' => SlRes EB 4 (bitsS x 64) w v w' ∧ Ext w w') := by
  have H := Hp.start No w
  refine enter (n := 18) Tryd.func33 rfl rfl (Nat.le_of_ble_eq_true rfl) ?_
  refine seqRegion ?_
  refine sq (r_assign (v := .slice none 0 0) rfl) ?_
  refine wend ?_
  refine seqRegion ?_
  refine sq (r_assign (v := .slice none 0 0) rfl) ?_
  refine wend ?_
  refine seqAny ?_
  refine seqRegion ?_
  refine sq (r_move (v := i64 ((0 : Int))) rfl) ?_
  have H1 := H.nil (sob EB 4 [] [])
  refine wend ?_
  refine blockAny ?_
  refine loopAny (σ := Nat × Option Nat × Nat × List Value) (fun (i, key, c, sp) => [(0, u64 (x)), (3, .slice (ownA key) i c), (5, i64 ((i : Nat)))]) (fun (i, key, c, sp) w' => i ≤ 64 ∧ Sl EB key (bitsS x i) c sp ∧ Hp No w w' [(key, sob EB 4 (bitsS x i) sp)]) (fun (i, key, c, sp) => 64 - i) ((0, none, 0, [])) ?_ ?_ ?_
  · exact ⟨rfl, rfl, rfl, trivial⟩
  · exact ⟨by omega, Sl.none, H1⟩
  rintro ⟨i, key, c, sp⟩ ρ w2 ⟨hi, hS, HL⟩
  have hl := bitsS_len x i
  refine seqRegion ?_
  refine sq (r_lssI (a := (i : Nat)) (b := (64 : Int)) rfl rfl) ?_
  refine wend ?_
  refine seqAny ?_
  refine condProp (((i : Nat) : Int) < (64 : Int)) rfl (fun hk6 => ?_) (fun hk6 => ?_)
  · skip
    refine skipAny ?_
    refine thenNormal ?_
    refine seqAny ?_
    refine blockAny ?_
    refine seqRegion ?_
    refine sq (r_move (v := i64 ((i : Nat))) rfl) ?_
    refine sq (r_assign (v := i64 ((i : Nat))) rfl) ?_
    refine wend ?_
    refine oneRegion ?_
    refine sq (r_move (v := .slice (ownA key) i c) rfl) ?_
    refine sq (r_move (v := u64 (x)) rfl) ?_
    refine sq (r_move (v := i64 ((i : Nat))) rfl) ?_
    refine sq (r_shr64 (a := x) (c := i) rfl rfl) ?_
    refine sq (r_and64 (a := x >>> (i : Nat)) (b := 1#64) rfl rfl) ?_
    refine sq (r_eql64 (a := (x >>> (i : Nat)) &&& (1#64)) (b := 1#64) rfl rfl) ?_
    refine q_buildSlice (E := EB) (l := [decide (((x >>> (i : Nat)) &&& (1#64)) = (1#64))]) HL sli76 zer4 (Nat.le_of_ble_eq_true rfl) (ps := [(0, .bool (decide (((x >>> (i : Nat)) &&& (1#64)) = (1#64))))]) rfl (by exact fillAll rfl rfl) rfl ?_
    intro b4 w6 hS5 H7 hE8
    refine q_append (E := EB) (k := 1) (l := bitsS x i) (l2 := [decide (((x >>> (i : Nat)) &&& (1#64)) = (1#64))]) H7 rfl hS sli76 zer4 rfl byt4 (H7.rd (k := 0) rfl hS5) rfl (by exact (bitsS_len _ _).symm) rfl (by rfl) (by omega) ?_
    intro key9 c10 sp11 w13 hS12 hne15 H14
    have H14' := H14.as (L' := [((some b4), sob EB 4 ([decide (((x >>> (i : Nat)) &&& (1#64)) = (1#64))]) ([])), (key9, sob EB 4 ((bitsS x i) ++ ([decide (((x >>> (i : Nat)) &&& (1#64)) = (1#64))])) sp11)]) rfl
    clear H14
    have e16 : (bitsS x i) ++ ([decide (((x >>> (i : Nat)) &&& (1#64)) = (1#64))]) = bitsS x (i + 1) := by rw [bitsS]
    have hS17 := hS12
    rw [e16] at hS17
    have H18 := H14'.as (L' := [((some b4), sob EB 4 ([decide (((x >>> (i : Nat)) &&& (1#64)) = (1#64))]) ([])), (key9, sob EB 4 (bitsS x (i + 1)) sp11)]) (by rw [e16])
    refine sq (r_assign (v := .slice (ownA key9) (i + 1) c10) rfl) ?_
    refine wnil ?_
    refine blockNormal ?_
    refine thenNormal ?_
    refine oneRegion ?_
    refine sq (r_addI (a := (i : Nat)) (b := (1 : Int)) rfl rfl (by omega)) ?_
    refine sq (r_move (v := i64 ((i : Nat) + (1 : Int))) rfl) ?_
    refine wnil ?_
    refine thenNormal ?_
    exact ⟨(i + 1, key9, c10, sp11), _, rfl, ⟨rfl, rfl, rfl, trivial⟩, ⟨by omega, hS17, (H18.dropk 0)⟩, by show 64 - (i + 1) < 64 - i; omega⟩
  · skip
    obtain rfl : i = 64 := by omega
    refine exitAny ?_
    refine thenExit ?_
    refine thenExit ?_
    refine blockHere ?_
    refine thenNormal ?_
    refine seqRegion ?_
    refine sq (r_move (v := .slice (ownA key) 64 c) rfl) ?_
    refine sq (r_assign (v := .slice (ownA key) 64 c) rfl) ?_
    refine wend ?_
    refine retAny ?_
    refine retG (rs := [.tmp 2]) (vs := [.slice (ownA key) 64 c]) rfl ⟨⟨rfl, rfl⟩, trivial⟩ ?_
    exact ⟨_, rfl, HL.resN (k := 0) rfl hS (bitsS_len _ _).symm, HL.chg⟩
theorem cword_ok (l : List Bool) (la : Option Addr) (n0 lc : Nat) (hn0 : n0 = l.length) (w : World) (hLb : Rd EB w la l) (hl : l.length ≤ 140737488355328) : Calls Tryd.prog 39 [.slice la n0 lc].toArray w (Ret fun v w' => v = u64 (wordS l 64) ∧ Ext w w') := by
  subst hn0
  have H := Hp.start No w
  refine enter (n := 21) Tryd.func39 rfl rfl (Nat.le_of_ble_eq_true rfl) ?_
  refine seqRegion ?_
  refine sq (r_assign (v := u64 (0#64)) rfl) ?_
  refine wend ?_
  refine seqRegion ?_
  refine sq (r_assign (v := u64 (0#64)) rfl) ?_
  refine wend ?_
  refine seqAny ?_
  refine seqRegion ?_
  refine sq (r_move (v := .slice la l.length lc) rfl) ?_
  refine sq (r_lenS sli76 (a := la) (m := l.length) (c := lc) rfl) ?_
  refine sq ((r_minI (a := (l.length : Nat)) (b := (64 : Int)) rfl rfl).as (v' := i64 ((min l.length 64 : Nat))) (by exact congrArg i64 (by omega))) ?_
  refine sq (r_move (v := i64 ((0 : Int))) rfl) ?_
  refine wend ?_
  refine blockAny ?_
  refine loopAny (σ := Nat) (fun i => [(0, .slice la l.length lc), (3, u64 (wordS l i)), (7, i64 ((min l.length 64 : Nat))), (8, i64 ((i : Nat)))]) (fun i w' => i ≤ min l.length 64 ∧ Hp No w w' []) (fun i => 64 - i) (0) ?_ ?_ ?_
  · exact ⟨rfl, rfl, rfl, rfl, trivial⟩
  · exact ⟨by omega, H⟩
  rintro i ρ w1 ⟨hk, H2⟩
  refine seqRegion ?_
  refine sq (r_lssI (a := (i : Nat)) (b := (min l.length 64 : Nat)) rfl rfl) ?_
  refine wend ?_
  refine seqAny ?_
  refine condProp (((i : Nat) : Int) < (min l.length 64 : Nat)) rfl (fun hk9 => ?_) (fun hk9 => ?_)
  · skip
    refine skipAny ?_
    refine thenNormal ?_
    refine seqAny ?_
    refine blockAny ?_
    refine seqRegion ?_
    refine sq (r_move (v := i64 ((i : Nat))) rfl) ?_
    refine sq (r_assign (v := i64 ((i : Nat))) rfl) ?_
    refine wend ?_
    refine seqRegion ?_
    refine sq (r_move (v := .slice la l.length lc) rfl) ?_
    refine sq (r_move (v := i64 ((i : Nat))) rfl) ?_
    refine sq (r_idxS (E := EB) (l := l) (j := i) sli76 (hLb.ext H2.chg) rfl rfl (by first | rfl | omega | (simp; omega)) (by rfl) (by omega)) ?_
    refine sq (r_ldS (E := EB) (l := l) (j := i) (v := (l).getD i false) fits4 (hLb.ext H2.chg) rfl rfl (at_getD (by omega))) ?_
    refine wend ?_
    refine condBool ((l).getD i false) rfl (fun kc14 => ?_) (fun kc14 => ?_)
    · skip
      refine oneRegion ?_
      refine sq (r_move (v := u64 (wordS l i)) rfl) ?_
      refine sq (r_move (v := i64 ((i : Nat))) rfl) ?_
      refine sq (r_shl64 (a := 1#64) (c := i) rfl rfl) ?_
      refine sq (r_or64 (a := wordS l i) (b := (1#64) <<< (i : Nat)) rfl rfl) ?_
      refine sq (r_assign (v := u64 ((wordS l i) ||| ((1#64) <<< (i : Nat)))) rfl) ?_
      refine wnil ?_
      refine blockNormal ?_
      refine thenNormal ?_
      refine oneRegion ?_
      refine sq (r_addI (a := (i : Nat)) (b := (1 : Int)) rfl rfl (by omega)) ?_
      refine sq (r_move (v := i64 ((i : Nat) + (1 : Int))) rfl) ?_
      refine wnil ?_
      refine thenNormal ?_
      exact ⟨i + 1, _, rfl, ⟨rfl, congrArg u64 (by rw [wordS, if_pos kc14]), rfl, rfl, trivial⟩, ⟨by omega, H2⟩, by show 64 - (i + 1) < 64 - i; omega⟩
    · skip
      refine skipAny ?_
      refine blockNormal ?_
      refine thenNormal ?_
      refine oneRegion ?_
      refine sq (r_addI (a := (i : Nat)) (b := (1 : Int)) rfl rfl (by omega)) ?_
      refine sq (r_move (v := i64 ((i : Nat) + (1 : Int))) rfl) ?_
      refine wnil ?_
      refine thenNormal ?_
      exact ⟨i + 1, _, rfl, ⟨rfl, congrArg u64 (by rw [wordS, if_neg (by rw [kc14]; decide)]), rfl, rfl, trivial⟩, ⟨by omega, H2⟩, by show 64 - (i + 1) < 64 - i; omega⟩
  · skip
    refine exitAny ?_
    refine thenExit ?_
    refine thenExit ?_
    refine blockHere ?_
    refine thenNormal ?_
    refine seqRegion ?_
    refine sq (r_move (v := u64 (wordS l i)) rfl) ?_
    refine sq (r_assign (v := u64 (wordS l i)) rfl) ?_
    refine wend ?_
    refine retAny ?_
    refine retG (rs := [.tmp 2]) (vs := [u64 (wordS l i)]) rfl ⟨⟨rfl, rfl⟩, trivial⟩ ?_
    exact ⟨_, rfl, congrArg u64 (by rw [show i = min l.length 64 by omega, word_to]), H2.chg⟩
end Go.Proofs.YteofdmdpaejgaaaDoor.Er
namespace Go.Proofs.YteofdmdpaejgaaaDoor.Er
open Go Go.Proofs.YteofdmdpaejgaaaDoor.Vc Go.Proofs.YteofdmdpaejgaaaDoor.Circ
theorem byt3 : byt Tryd.prog 3 = some 8 := by kernel_rfl
theorem byt85 : byt Tryd.prog 85 = some 24 := by kernel_rfl
theorem byt99 : byt Tryd.prog 99 = some 24 := by kernel_rfl
theorem fits85 : Fits Tryd.prog 85 EG := fitsG (by kernel_rfl) (by kernel_rfl)
theorem mixed : Tryd.prog.follows .mixedOrders = true := by kernel_rfl
theorem pls85 : pls Tryd.prog 85 = some #[(0, 1), (1, 1), (2, 1)] := by kernel_rfl
theorem siz60 : siz Tryd.prog 60 = some 1 := by kernel_rfl
theorem siz68 : siz Tryd.prog 68 = some 1 := by kernel_rfl
theorem sli78 : sli Tryd.prog 78 = some (85, 3) := by kernel_rfl
theorem zer85 : zer Tryd.prog 85 = some (.agg #[.int .i64 0, .int .i64 0, .int .i64 0]) := by kernel_rfl
theorem gates_ok (n : Int) (gs : List Gt) (ol : List Int) (ga oa : Option Addr) (gc oc : Nat) (w : World) (hGs : Rd EG w ga gs) (hgl : gs.length ≤ 4200) : Calls Tryd.prog 35 [.agg #[i64 (n), .slice ga gs.length gc, .slice oa ol.length oc]].toArray w (Ret fun v w' => SlRes EG 85 gs w v w' ∧ Ext w w') := by
  have H := Hp.start No w
  refine enter (n := 25) Tryd.func35 rfl rfl (Nat.le_of_ble_eq_true rfl) ?_
  refine seqRegion ?_
  refine q_box (v := .agg #[i64 (n), .slice ga gs.length gc, .slice oa ol.length oc]) (o := .cells #[i64 (n), .slice ga gs.length gc, .slice oa ol.length oc] 70 (0, 0)) H rfl (by rfl) ?_
  intro b1 w2 hb1 H3 hE4
  refine sq (r_assign (v := .slice none 0 0) rfl) ?_
  refine wend ?_
  refine seqRegion ?_
  refine sq (r_assign (v := .slice none 0 0) rfl) ?_
  have H5 := H3.nil (sob EG 85 [] [])
  refine wend ?_
  refine seqAny ?_
  refine seqRegion ?_
  refine sq (r_fieldAddr (off' := 1) fld70_1 (by decide) (b := b1) (off := 0) rfl (by omega)) ?_
  refine sq (r_loadC (v := .slice ga gs.length gc) one68 (H5.get (k := 1) rfl) (off := 1) rfl (by rfl)) ?_
  refine sq (r_lenS sli68 (a := ga) (m := gs.length) (c := gc) rfl) ?_
  refine sq (r_move (v := i64 ((0 : Int))) rfl) ?_
  refine wend ?_
  refine blockAny ?_
  refine loopAny (σ := Nat × Option Nat × Nat × List Value) (fun (i, key, c, sp) => [(1, .pointer (some ⟨b1, 0, none⟩)), (3, .slice (ownA key) i c), (7, .slice ga gs.length gc), (8, i64 ((gs.length : Nat))), (9, i64 ((i : Nat)))]) (fun (i, key, c, sp) w' => i ≤ gs.length ∧ Sl EG key (gs.take i) c sp ∧ Hp No w w' [(key, sob EG 85 (gs.take i) sp), (some b1, .cells #[i64 (n), .slice ga gs.length gc, .slice oa ol.length oc] 70 (0, 0))]) (fun (i, key, c, sp) => gs.length - i) ((0, none, 0, [])) ?_ ?_ ?_
  · exact ⟨rfl, rfl, rfl, rfl, rfl, trivial⟩
  · exact ⟨by omega, Sl.none, H5⟩
  rintro ⟨i, key, c, sp⟩ ρ w6 ⟨hi, hS, HL⟩
  refine seqRegion ?_
  refine sq (r_lssI (a := (i : Nat)) (b := (gs.length : Nat)) rfl rfl) ?_
  refine wend ?_
  refine seqAny ?_
  refine condProp (((i : Nat) : Int) < (gs.length : Nat)) rfl (fun c10 => ?_) (fun c10 => ?_)
  · skip
    refine skipAny ?_
    refine thenNormal ?_
    refine seqAny ?_
    refine blockAny ?_
    refine seqRegion ?_
    refine sq (r_idxS (E := EG) (l := gs) (j := i) sli68 (hGs.ext HL.chg) rfl rfl (by first | rfl | omega | (simp; omega)) (by rfl) (by omega)) ?_
    refine sq ((r_ldS (E := EG) (l := gs) (j := i) (v := (gs).getD i g0) fits99 (hGs.ext HL.chg) rfl rfl (at_getD (by omega))).as (v' := .agg #[i64 (((gs).getD i g0).k), i64 (((gs).getD i g0).a), i64 (((gs).getD i g0).b)]) rfl) ?_
    refine q_alloc (o := .cells #[i64 ((0 : Int)), i64 ((0 : Int)), i64 ((0 : Int))] 99 (0, 0)) HL zer99 (by kernel_rfl) ?_
    intro b8 w9 hb8 H10 hE11
    refine d_store (k := 0) (v := .agg #[i64 (((gs).getD i g0).k), i64 (((gs).getD i g0).a), i64 (((gs).getD i g0).b)]) (cs' := #[i64 (((gs).getD i g0).k), i64 (((gs).getD i g0).a), i64 (((gs).getD i g0).b)]) H10 rfl rfl rfl siz99 (by rfl) (by intro u hu; simp [Value.cells] at hu; first | (subst hu; rfl) | (rcases hu with rfl | rfl | rfl <;> rfl)) (by exact Nat.le_of_ble_eq_true rfl) (by rfl) ?_
    intro w12 H13 hC14
    have H13' := H13.as (L' := [(some b8, .cells #[i64 (((gs).getD i g0).k), i64 (((gs).getD i g0).a), i64 (((gs).getD i g0).b)] 99 (0, 0)), (key, sob EG 85 (gs.take i) sp), (some b1, .cells #[i64 (n), .slice ga gs.length gc, .slice oa ol.length oc] 70 (0, 0))]) rfl
    clear H13
    refine wend ?_
    refine oneRegion ?_
    refine sq (r_move (v := .slice (ownA key) i c) rfl) ?_
    refine sq (r_fieldAddr (off' := 0) fld99_0 (by decide) (b := b8) (off := 0) rfl (by omega)) ?_
    refine sq (r_loadC (v := i64 (((gs).getD i g0).k)) one97 (H13'.get (k := 0) rfl) (off := 0) rfl (by rfl)) ?_
    refine sq (r_fieldAddr (off' := 1) fld99_1 (by decide) (b := b8) (off := 0) rfl (by omega)) ?_
    refine sq (r_loadC (v := i64 (((gs).getD i g0).a)) one3 (H13'.get (k := 0) rfl) (off := 1) rfl (by rfl)) ?_
    refine sq (r_fieldAddr (off' := 2) fld99_2 (by decide) (b := b8) (off := 0) rfl (by omega)) ?_
    refine sq (r_loadC (v := i64 (((gs).getD i g0).b)) one3 (H13'.get (k := 0) rfl) (off := 2) rfl (by rfl)) ?_
    refine sq (r_build (cs' := #[i64 (((gs).getD i g0).k), i64 (((gs).getD i g0).a), i64 (((gs).getD i g0).b)]) (ps := [(0, i64 (((gs).getD i g0).k)), (1, i64 (((gs).getD i g0).a)), (2, i64 (((gs).getD i g0).b))]) zer85 pls85 rfl (by rfl)) ?_
    refine q_buildSlice (E := EG) (l := ([⟨((gs).getD i g0).k, ((gs).getD i g0).a, ((gs).getD i g0).b⟩] : List Gt)) H13' sli78 zer85 (Nat.le_of_ble_eq_true rfl) (ps := [(0, .agg #[i64 (((gs).getD i g0).k), i64 (((gs).getD i g0).a), i64 (((gs).getD i g0).b)])]) rfl (by exact fillAll rfl rfl) rfl ?_
    intro b15 w17 hS16 H18 hE19
    refine q_append (E := EG) (k := 2) (l := gs.take i) (l2 := ([⟨((gs).getD i g0).k, ((gs).getD i g0).a, ((gs).getD i g0).b⟩] : List Gt)) H18 rfl hS sli78 zer85 rfl byt85 (H18.rd (k := 0) rfl hS16) rfl (by rw [List.length_take]; omega) rfl (by rfl) (by omega) ?_
    intro key20 c21 sp22 w24 hS23 hne26 H25
    have H25' := H25.as (L' := [((some b15), sob EG 85 ([⟨((gs).getD i g0).k, ((gs).getD i g0).a, ((gs).getD i g0).b⟩] : List Gt) ([])), (some b8, .cells #[i64 (((gs).getD i g0).k), i64 (((gs).getD i g0).a), i64 (((gs).getD i g0).b)] 99 (0, 0)), (key20, sob EG 85 ((gs.take i) ++ ([⟨((gs).getD i g0).k, ((gs).getD i g0).a, ((gs).getD i g0).b⟩] : List Gt)) sp22), (some b1, .cells #[i64 (n), .slice ga gs.length gc, .slice oa ol.length oc] 70 (0, 0))]) rfl
    clear H25
    have e27 : (gs.take i) ++ ([⟨((gs).getD i g0).k, ((gs).getD i g0).a, ((gs).getD i g0).b⟩] : List Gt) = gs.take (i + 1) := by exact take_snoc gs i (by omega)
    have hS28 := hS23
    rw [e27] at hS28
    have H29 := H25'.as (L' := [((some b15), sob EG 85 ([⟨((gs).getD i g0).k, ((gs).getD i g0).a, ((gs).getD i g0).b⟩] : List Gt) ([])), (some b8, .cells #[i64 (((gs).getD i g0).k), i64 (((gs).getD i g0).a), i64 (((gs).getD i g0).b)] 99 (0, 0)), (key20, sob EG 85 (gs.take (i + 1)) sp22), (some b1, .cells #[i64 (n), .slice ga gs.length gc, .slice oa ol.length oc] 70 (0, 0))]) (by rw [e27])
    refine sq (r_assign (v := .slice (ownA key20) (i + 1) c21) rfl) ?_
    refine wnil ?_
    refine blockNormal ?_
    refine thenNormal ?_
    refine oneRegion ?_
    refine sq (r_addI (a := (i : Nat)) (b := (1 : Int)) rfl rfl (by omega)) ?_
    refine sq (r_move (v := i64 ((i : Nat) + (1 : Int))) rfl) ?_
    refine wnil ?_
    refine thenNormal ?_
    exact ⟨(i + 1, key20, c21, sp22), _, rfl, ⟨rfl, rfl, rfl, rfl, rfl, trivial⟩, ⟨by omega, hS28, ((H29.dropk 1).dropk 0)⟩, by show gs.length - (i + 1) < gs.length - i; omega⟩
  · skip
    obtain rfl : i = gs.length := by omega
    refine exitAny ?_
    refine thenExit ?_
    refine thenExit ?_
    refine blockHere ?_
    refine thenNormal ?_
    refine seqRegion ?_
    refine sq (r_move (v := .slice (ownA key) gs.length c) rfl) ?_
    refine sq (r_assign (v := .slice (ownA key) gs.length c) rfl) ?_
    refine wend ?_
    refine retAny ?_
    refine retG (rs := [.tmp 2]) (vs := [.slice (ownA key) gs.length c]) rfl ⟨⟨rfl, rfl⟩, trivial⟩ ?_
    exact ⟨_, rfl, by have h := HL.resN (k := 0) (q := gs.length) rfl hS (by rw [List.length_take]; omega); rwa [List.take_length] at h, HL.chg⟩
theorem sameI (T : TypeId) (h : Tryd.prog.underlying T = some (.int .i64)) (a : Int) (w : World) : (Op.equalIn 9999 T (.int .i64 a) (.int .i64 a)).run Tryd.prog w = .ok true w := by
  have := run_equalIn_int (P := Tryd.prog) w 9998 T .i64 .i64 a a h
  simpa using this
theorem check_good (n : Int) (gs : List Gt) (ol : List Int) (ga oa : Option Addr) (gc oc : Nat) (w : World) (hG : Gl w) (hGs : Rd EG w ga gs) (hOl : Rd EI w oa ol) (hgl : gs.length ≤ 140737488355328) (hol : ol.length ≤ 140737488355328) (hb : IsC n gs ol) : Calls Tryd.prog 31 [.agg #[i64 (n), .slice ga gs.length gc, .slice oa ol.length oc]].toArray w (Ret fun v w' => v = .nilIface ∧ Ext w w') :=
  (check_ok n gs ol ga oa gc oc w hG hGs hOl hgl hol).mono fun e w' ⟨v, he, h, hE⟩ => by
    rcases h with ⟨h, _⟩ | ⟨_, h⟩
    · exact ⟨v, he, h, hE⟩
    · exact absurd hb h
end Go.Proofs.YteofdmdpaejgaaaDoor.Er
namespace Go.Proofs.YteofdmdpaejgaaaDoor.Cm
open Go Go.Proofs.YteofdmdpaejgaaaDoor.Vc Go.Proofs.YteofdmdpaejgaaaDoor.Er Go.Proofs.YteofdmdpaejgaaaDoor.Circ
set_option linter.unusedVariables false
theorem agg153 : isAgg' Tryd.prog 153 = true := by kernel_rfl
theorem arr153 : arr Tryd.prog 153 = some (64, 1) := by kernel_rfl
theorem byt99 : byt Tryd.prog 99 = some 24 := by kernel_rfl
theorem call76 : callable Tryd.prog 76 = true := by kernel_rfl
theorem fld151_0 : fld Tryd.prog 151 0 = some (0, 3, 70) := by kernel_rfl
theorem fld70_0 : fld Tryd.prog 70 0 = some (0, 1, 3) := by kernel_rfl
theorem fld70_1 : fld Tryd.prog 70 1 = some (1, 1, 68) := by kernel_rfl
theorem mixed : Tryd.prog.follows .mixedOrders = true := by kernel_rfl
theorem one3 : isOne Tryd.prog 3 = true := by kernel_rfl
theorem one68 : isOne Tryd.prog 68 = true := by kernel_rfl
theorem pls99 : pls Tryd.prog 99 = some #[(0, 1), (1, 1), (2, 1)] := by kernel_rfl
theorem siz153 : siz Tryd.prog 153 = some 64 := by kernel_rfl
theorem siz3 : siz Tryd.prog 3 = some 1 := by kernel_rfl
theorem siz68 : siz Tryd.prog 68 = some 1 := by kernel_rfl
theorem sli68 : sli Tryd.prog 68 = some (99, 3) := by kernel_rfl
theorem zer153 : zer Tryd.prog 153 = some (.agg (List.replicate 64 (.int .i64 0)).toArray) := by kernel_rfl
theorem zer99 : zer Tryd.prog 99 = some (.agg #[.int .i64 0, .int .i64 0, .int .i64 0]) := by kernel_rfl
theorem gate_ok (b n : Nat) (key : Option Nat) (c : Nat) (sp : List Value) (gs : List Gt) (hSw : Sl EG key gs c sp) (hn : n ≤ 1000) (hlen : gs.length ≤ 4000) (kd xa xb : Int) (R : List (Option Nat × Obj)) (w₀ w : World) (H : Hp No w₀ w ((some b, .cells #[i64 ((n : Nat)), .slice (ownA key) (List.length gs) c, .slice none 0 0] 151 (0, 0)) :: (key, sob EG 99 gs sp) :: R)) : Calls Tryd.prog 76 [.pointer (some ⟨b, 0, none⟩), i64 (kd), i64 (xa), i64 (xb)].toArray w (Ret fun v w' => v = i64 (wrW n gs) ∧ ∃ (key' : Option Nat) (c' : Nat) (sp' : List Value), Sl EG key' (gs ++ [(⟨kd, xa, xb⟩ : Gt)]) c' sp' ∧ Hp No w₀ w' ((some b, .cells #[i64 ((n : Nat)), .slice (ownA key') (List.length (gs ++ [(⟨kd, xa, xb⟩ : Gt)])) c', .slice none 0 0] 151 (0, 0)) :: (key', sob EG 99 (gs ++ [(⟨kd, xa, xb⟩ : Gt)]) sp') :: R)) := by
  skip
  refine enter (n := 37) Tryd.func76 rfl rfl (Nat.le_of_ble_eq_true rfl) ?_
  refine seqRegion ?_
  refine sq (r_assign (v := i64 ((0 : Int))) rfl) ?_
  refine wend ?_
  refine seqRegion ?_
  refine sq (r_move (v := .pointer (some ⟨b, 0, none⟩)) rfl) ?_
  refine sq (r_move (v := .pointer (some ⟨b, 0, none⟩)) rfl) ?_
  refine sq (r_nilCheck rfl) ?_
  refine sq (r_fieldAddr (off' := 0) fld151_0 (by decide) (b := b) (off := 0) rfl (by omega)) ?_
  refine sq (r_fieldAddr (off' := 1) fld70_1 (by decide) (b := b) (off := 0) rfl (by omega)) ?_
  refine sq (r_loadC (v := .slice (ownA key) (List.length gs) c) one68 (H.get (k := 0) rfl) (off := 1) rfl (by rfl)) ?_
  refine sq (r_move (v := i64 (kd)) rfl) ?_
  refine sq (r_move (v := i64 (xa)) rfl) ?_
  refine sq (r_move (v := i64 (xb)) rfl) ?_
  refine sq (r_build (cs' := #[i64 (kd), i64 (xa), i64 (xb)]) (ps := [(0, i64 (kd)), (1, i64 (xa)), (2, i64 (xb))]) zer99 pls99 rfl (by rfl)) ?_
  refine q_buildSlice (E := EG) (l := ([⟨kd, xa, xb⟩] : List Gt)) H sli68 zer99 (Nat.le_of_ble_eq_true rfl) (ps := [(0, .agg #[i64 (kd), i64 (xa), i64 (xb)])]) rfl (by exact fillAll rfl rfl) rfl ?_
  intro b1 w3 hS2 H4 hE5
  refine q_append (E := EG) (k := 2) (l := gs) (l2 := ([⟨kd, xa, xb⟩] : List Gt)) H4 rfl hSw sli68 zer99 rfl byt99 (H4.rd (k := 0) rfl hS2) rfl (by rfl) rfl (by rfl) (by omega) ?_
  intro key6 c7 sp8 w10 hS9 hne12 H11
  have H11' := H11.as (L' := (((some b1), sob EG 99 ([⟨kd, xa, xb⟩] : List Gt) ([])) :: (some b, .cells #[i64 ((n : Nat)), .slice (ownA key) (List.length gs) c, .slice none 0 0] 151 (0, 0)) :: (key6, sob EG 99 (gs ++ ([⟨kd, xa, xb⟩] : List Gt)) sp8) :: R)) rfl
  clear H11
  have e13 : gs ++ ([⟨kd, xa, xb⟩] : List Gt) = gs ++ [(⟨kd, xa, xb⟩ : Gt)] := by rfl
  have hS14 := hS9
  rw [e13] at hS14
  have H15 := H11'.as (L' := (((some b1), sob EG 99 ([⟨kd, xa, xb⟩] : List Gt) ([])) :: (some b, .cells #[i64 ((n : Nat)), .slice (ownA key) (List.length gs) c, .slice none 0 0] 151 (0, 0)) :: (key6, sob EG 99 (gs ++ [(⟨kd, xa, xb⟩ : Gt)]) sp8) :: R)) (by rw [e13])
  refine sq (r_nilCheck rfl) ?_
  refine sq (r_fieldAddr (off' := 0) fld151_0 (by decide) (b := b) (off := 0) rfl (by omega)) ?_
  refine sq (r_fieldAddr (off' := 1) fld70_1 (by decide) (b := b) (off := 0) rfl (by omega)) ?_
  refine d_store (k := 1) (v := .slice (ownA key6) ((List.length gs) + 1) c7) (cs' := #[i64 ((n : Nat)), .slice (ownA key6) ((List.length gs) + 1) c7, .slice none 0 0]) H15 rfl rfl rfl siz68 (by rfl) (by intro u hu; simp [Value.cells] at hu; first | (subst hu; rfl) | (rcases hu with rfl <;> rfl)) (by exact Nat.le_of_ble_eq_true rfl) (by rfl) ?_
  intro w16 H17 hC18
  have H17' := H17.as (L' := (((some b1), sob EG 99 ([⟨kd, xa, xb⟩] : List Gt) ([])) :: (some b, .cells #[i64 ((n : Nat)), .slice (ownA key6) ((List.length gs) + 1) c7, .slice none 0 0] 151 (0, 0)) :: (key6, sob EG 99 (gs ++ [(⟨kd, xa, xb⟩ : Gt)]) sp8) :: R)) rfl
  clear H17
  refine wend ?_
  refine seqAny ?_
  refine drawAny (K := [none, none, none, none, none, none, none, none, none, none, none, none, none, none]) [0, 1, 3, 7, 15, 0, 32, 96, 224, 480, 992, 2047, 4095, 8191] (fun w' => Ext w16 w') (fun w' w'' => Ext w' w'') mixed (by kernel_rfl) (Ext.drew _) (fun _ _ h h' => h.trans h') ?_ ?_
  · exact relNone (by decide)
  refine ⟨.pointer (some ⟨b, 0, none⟩), fun _ uw19 hC20 _ => Gives.run rfl (r_move (v := .pointer (some ⟨b, 0, none⟩)) rfl) ⟨rfl, Chg.refl _ _⟩, ?_⟩
  refine ⟨.pointer (some ⟨b, 0, none⟩), fun _ uw21 hC22 _ => Gives.run rfl (r_nilCheck rfl) ⟨rfl, Chg.refl _ _⟩, ?_⟩
  refine ⟨.pointer (some ⟨b, 0, none⟩), fun _ uw23 hC24 _ => Gives.run rfl (r_fieldAddr (off' := 0) fld151_0 (by decide) (b := b) (off := 0) rfl (by omega)) ⟨rfl, Chg.refl _ _⟩, ?_⟩
  refine ⟨.pointer (some ⟨b, 0, none⟩), fun _ uw25 hC26 _ => Gives.run rfl (r_fieldAddr (off' := 0) fld70_0 (by decide) (b := b) (off := 0) rfl (by omega)) ⟨rfl, Chg.refl _ _⟩, ?_⟩
  refine ⟨i64 ((n : Nat)), fun _ uw27 hC28 _ => Gives.run rfl (r_loadC (v := i64 ((n : Nat))) one3 ((H17'.ext hC28).get (k := 1) rfl) (off := 0) rfl (by rfl)) ⟨rfl, Chg.refl _ _⟩, ?_⟩
  refine ⟨.pointer (some ⟨b, 0, none⟩), fun _ uw29 hC30 _ => Gives.run rfl (r_move (v := .pointer (some ⟨b, 0, none⟩)) rfl) ⟨rfl, Chg.refl _ _⟩, ?_⟩
  refine ⟨.pointer (some ⟨b, 0, none⟩), fun _ uw31 hC32 _ => Gives.run rfl (r_nilCheck rfl) ⟨rfl, Chg.refl _ _⟩, ?_⟩
  refine ⟨.pointer (some ⟨b, 0, none⟩), fun _ uw33 hC34 _ => Gives.run rfl (r_fieldAddr (off' := 0) fld151_0 (by decide) (b := b) (off := 0) rfl (by omega)) ⟨rfl, Chg.refl _ _⟩, ?_⟩
  refine ⟨.pointer (some ⟨b, 1, none⟩), fun _ uw35 hC36 _ => Gives.run rfl (r_fieldAddr (off' := 1) fld70_1 (by decide) (b := b) (off := 0) rfl (by omega)) ⟨rfl, Chg.refl _ _⟩, ?_⟩
  refine ⟨.slice (ownA key6) ((List.length gs) + 1) c7, fun _ uw37 hC38 _ => Gives.run rfl (r_loadC (v := .slice (ownA key6) ((List.length gs) + 1) c7) one68 ((H17'.ext hC38).get (k := 1) rfl) (off := 1) rfl (by rfl)) ⟨rfl, Chg.refl _ _⟩, ?_⟩
  refine ⟨i64 (((List.length gs) + 1 : Nat)), fun _ uw39 hC40 _ => Gives.run rfl (r_lenS sli68 (a := ownA key6) (m := (List.length gs) + 1) (c := c7) rfl) ⟨rfl, Chg.refl _ _⟩, ?_⟩
  refine ⟨i64 ((n : Nat) + ((List.length gs) + 1 : Nat)), fun _ uw41 hC42 _ => Gives.run rfl (r_addI (a := (n : Nat)) (b := ((List.length gs) + 1 : Nat)) rfl rfl (by omega)) ⟨rfl, Chg.refl _ _⟩, ?_⟩
  refine ⟨i64 (wrW n gs), fun _ uw43 hC44 _ => Gives.run rfl ((r_subI (a := (n : Nat) + ((List.length gs) + 1 : Nat)) (b := (1 : Int)) rfl rfl (by omega)).as (v' := i64 (wrW n gs)) (by exact congrArg i64 (by unfold wrW; omega))) ⟨rfl, Chg.refl _ _⟩, ?_⟩
  refine ⟨i64 (wrW n gs), fun _ uw45 hC46 _ => Gives.run rfl (r_assign (v := i64 (wrW n gs)) rfl) ⟨rfl, Chg.refl _ _⟩, ?_⟩
  intro r50 w47 hE49 hF
  have H48 := H17'.ext hE49
  refine wnil ?_
  refine thenNormal ?_
  refine retAny ?_
  refine retG (rs := [.tmp 8]) (vs := [i64 (wrW n gs)]) rfl ⟨⟨rfl, rfl⟩, trivial⟩ ?_
  refine ⟨_, rfl, rfl, key6, c7, sp8, hS14, ?_⟩
  rw [show List.length (gs ++ [(⟨kd, xa, xb⟩ : Gt)]) = gs.length + 1 from by rw [List.length_append]; rfl]
  exact (H48.dropk 0)
theorem carry_ok (b n : Nat) (key : Option Nat) (c : Nat) (sp : List Value) (gs : List Gt) (hSw : Sl EG key gs c sp) (hn : n ≤ 1000) (hlen : gs.length ≤ 3900) (xa xb xc : Int) (R : List (Option Nat × Obj)) (w₀ w : World) (H : Hp No w₀ w ((some b, .cells #[i64 ((n : Nat)), .slice (ownA key) (List.length gs) c, .slice none 0 0] 151 (0, 0)) :: (key, sob EG 99 gs sp) :: R)) : Calls Tryd.prog 104 [.pointer (some ⟨b, 0, none⟩), i64 (xa), i64 (xb), i64 (xc)].toArray w (Ret fun v w' => v = i64 (caW n gs) ∧ ∃ (key' : Option Nat) (c' : Nat) (sp' : List Value), Sl EG key' (caG n gs xa xb xc) c' sp' ∧ Hp No w₀ w' ((some b, .cells #[i64 ((n : Nat)), .slice (ownA key') (List.length (caG n gs xa xb xc)) c', .slice none 0 0] 151 (0, 0)) :: (key', sob EG 99 (caG n gs xa xb xc) sp') :: R)) := by
  skip
  refine enter (n := 22) Tryd.func104 rfl rfl (Nat.le_of_ble_eq_true rfl) ?_
  refine seqRegion ?_
  refine sq (r_assign (v := i64 ((0 : Int))) rfl) ?_
  refine wend ?_
  refine seqRegion ?_
  refine sq (r_move (v := .pointer (some ⟨b, 0, none⟩)) rfl) ?_
  refine sq (r_move (v := i64 (xc)) rfl) ?_
  refine sq (r_move (v := .pointer (some ⟨b, 0, none⟩)) rfl) ?_
  refine sq (r_move (v := .pointer (some ⟨b, 0, none⟩)) rfl) ?_
  refine sq (r_move (v := i64 (xa)) rfl) ?_
  refine sq (r_move (v := i64 (xc)) rfl) ?_
  have H1 := (H).as (L' := ((some b, .cells #[i64 ((n : Nat)), .slice (ownA key) (List.length gs) c, .slice none 0 0] 151 (0, 0)) :: (key, sob EG 99 gs sp) :: (R))) rfl
  refine c_call (vs := [.pointer (some ⟨b, 0, none⟩), i64 ((1 : Int)), i64 (xa), i64 (xc)]) call76 rfl (gate_ok b n key c sp gs hSw hn (by omega) (1 : Int) xa xc (R) w₀ w H1) ?_
  rintro wv10 w2 ⟨hwv11, key4, c5, sp6, hS7, HN8⟩
  obtain ⟨wx12, hwx12⟩ : ∃ q, q = wrW n gs := ⟨_, rfl⟩
  rw [← hwx12] at hwv11
  subst hwv11
  have H9 := HN8.as (L' := ((some b, .cells #[i64 ((n : Nat)), .slice (ownA key4) (List.length (gs ++ [(⟨(1 : Int), xa, xc⟩ : Gt)])) c5, .slice none 0 0] 151 (0, 0)) :: (key4, sob EG 99 (gs ++ [(⟨(1 : Int), xa, xc⟩ : Gt)]) sp6) :: R)) rfl
  refine sq (r_move (v := .pointer (some ⟨b, 0, none⟩)) rfl) ?_
  refine sq (r_move (v := i64 (xb)) rfl) ?_
  refine sq (r_move (v := i64 (xc)) rfl) ?_
  have H13 := (H9).as (L' := ((some b, .cells #[i64 ((n : Nat)), .slice (ownA key4) (List.length (gs ++ [(⟨(1 : Int), xa, xc⟩ : Gt)])) c5, .slice none 0 0] 151 (0, 0)) :: (key4, sob EG 99 (gs ++ [(⟨(1 : Int), xa, xc⟩ : Gt)]) sp6) :: (R))) rfl
  refine c_call (vs := [.pointer (some ⟨b, 0, none⟩), i64 ((1 : Int)), i64 (xb), i64 (xc)]) call76 rfl (gate_ok b n key4 c5 sp6 (gs ++ [(⟨(1 : Int), xa, xc⟩ : Gt)]) hS7 hn (by simp only [List.length_append, List.length_cons, List.length_nil]; omega) (1 : Int) xb xc (R) w₀ w2 H13) ?_
  rintro wv22 w14 ⟨hwv23, key16, c17, sp18, hS19, HN20⟩
  obtain ⟨wx24, hwx24⟩ : ∃ q, q = wrW n (gs ++ [(⟨(1 : Int), xa, xc⟩ : Gt)]) := ⟨_, rfl⟩
  rw [← hwx24] at hwv23
  subst hwv23
  have H21 := HN20.as (L' := ((some b, .cells #[i64 ((n : Nat)), .slice (ownA key16) (List.length (gs ++ [(⟨(1 : Int), xa, xc⟩ : Gt)] ++ [(⟨(1 : Int), xb, xc⟩ : Gt)])) c17, .slice none 0 0] 151 (0, 0)) :: (key16, sob EG 99 (gs ++ [(⟨(1 : Int), xa, xc⟩ : Gt)] ++ [(⟨(1 : Int), xb, xc⟩ : Gt)]) sp18) :: R)) rfl
  have H25 := (H21).as (L' := ((some b, .cells #[i64 ((n : Nat)), .slice (ownA key16) (List.length (gs ++ [(⟨(1 : Int), xa, xc⟩ : Gt)] ++ [(⟨(1 : Int), xb, xc⟩ : Gt)])) c17, .slice none 0 0] 151 (0, 0)) :: (key16, sob EG 99 (gs ++ [(⟨(1 : Int), xa, xc⟩ : Gt)] ++ [(⟨(1 : Int), xb, xc⟩ : Gt)]) sp18) :: (R))) rfl
  refine c_call (vs := [.pointer (some ⟨b, 0, none⟩), i64 ((2 : Int)), i64 (wx12), i64 (wx24)]) call76 rfl (gate_ok b n key16 c17 sp18 (gs ++ [(⟨(1 : Int), xa, xc⟩ : Gt)] ++ [(⟨(1 : Int), xb, xc⟩ : Gt)]) hS19 hn (by simp only [List.length_append, List.length_cons, List.length_nil]; omega) (2 : Int) wx12 wx24 (R) w₀ w14 H25) ?_
  rintro wv34 w26 ⟨hwv35, key28, c29, sp30, hS31, HN32⟩
  obtain ⟨wx36, hwx36⟩ : ∃ q, q = wrW n (gs ++ [(⟨(1 : Int), xa, xc⟩ : Gt)] ++ [(⟨(1 : Int), xb, xc⟩ : Gt)]) := ⟨_, rfl⟩
  rw [← hwx36] at hwv35
  subst hwv35
  have H33 := HN32.as (L' := ((some b, .cells #[i64 ((n : Nat)), .slice (ownA key28) (List.length (gs ++ [(⟨(1 : Int), xa, xc⟩ : Gt)] ++ [(⟨(1 : Int), xb, xc⟩ : Gt)] ++ [(⟨(2 : Int), wx12, wx24⟩ : Gt)])) c29, .slice none 0 0] 151 (0, 0)) :: (key28, sob EG 99 (gs ++ [(⟨(1 : Int), xa, xc⟩ : Gt)] ++ [(⟨(1 : Int), xb, xc⟩ : Gt)] ++ [(⟨(2 : Int), wx12, wx24⟩ : Gt)]) sp30) :: R)) rfl
  have H37 := (H33).as (L' := ((some b, .cells #[i64 ((n : Nat)), .slice (ownA key28) (List.length (gs ++ [(⟨(1 : Int), xa, xc⟩ : Gt)] ++ [(⟨(1 : Int), xb, xc⟩ : Gt)] ++ [(⟨(2 : Int), wx12, wx24⟩ : Gt)])) c29, .slice none 0 0] 151 (0, 0)) :: (key28, sob EG 99 (gs ++ [(⟨(1 : Int), xa, xc⟩ : Gt)] ++ [(⟨(1 : Int), xb, xc⟩ : Gt)] ++ [(⟨(2 : Int), wx12, wx24⟩ : Gt)]) sp30) :: (R))) rfl
  refine c_call (vs := [.pointer (some ⟨b, 0, none⟩), i64 ((1 : Int)), i64 (xc), i64 (wx36)]) call76 rfl (gate_ok b n key28 c29 sp30 (gs ++ [(⟨(1 : Int), xa, xc⟩ : Gt)] ++ [(⟨(1 : Int), xb, xc⟩ : Gt)] ++ [(⟨(2 : Int), wx12, wx24⟩ : Gt)]) hS31 hn (by simp only [List.length_append, List.length_cons, List.length_nil]; omega) (1 : Int) xc wx36 (R) w₀ w26 H37) ?_
  rintro wv46 w38 ⟨hwv47, key40, c41, sp42, hS43, HN44⟩
  obtain ⟨wx48, hwx48⟩ : ∃ q, q = wrW n (gs ++ [(⟨(1 : Int), xa, xc⟩ : Gt)] ++ [(⟨(1 : Int), xb, xc⟩ : Gt)] ++ [(⟨(2 : Int), wx12, wx24⟩ : Gt)]) := ⟨_, rfl⟩
  rw [← hwx48] at hwv47
  subst hwv47
  have H45 := HN44.as (L' := ((some b, .cells #[i64 ((n : Nat)), .slice (ownA key40) (List.length (gs ++ [(⟨(1 : Int), xa, xc⟩ : Gt)] ++ [(⟨(1 : Int), xb, xc⟩ : Gt)] ++ [(⟨(2 : Int), wx12, wx24⟩ : Gt)] ++ [(⟨(1 : Int), xc, wx36⟩ : Gt)])) c41, .slice none 0 0] 151 (0, 0)) :: (key40, sob EG 99 (gs ++ [(⟨(1 : Int), xa, xc⟩ : Gt)] ++ [(⟨(1 : Int), xb, xc⟩ : Gt)] ++ [(⟨(2 : Int), wx12, wx24⟩ : Gt)] ++ [(⟨(1 : Int), xc, wx36⟩ : Gt)]) sp42) :: R)) rfl
  refine sq (r_assign (v := i64 (wx48)) rfl) ?_
  refine wend ?_
  refine retAny ?_
  refine retG (rs := [.tmp 8]) (vs := [i64 (wx48)]) rfl ⟨⟨rfl, rfl⟩, trivial⟩ ?_
  subst hwx48
  subst hwx36
  subst hwx24
  subst hwx12
  rw [show wrW n (gs ++ [⟨1, xa, xc⟩] ++ [⟨1, xb, xc⟩] ++ [⟨2, wrW n gs, wrW n (gs ++ [⟨1, xa, xc⟩])⟩]) = caW n gs from by unfold caW wrW; simp only [List.length_append, List.length_cons, List.length_nil]]
  exact ⟨_, rfl, rfl, key40, c41, sp42, hS43, H45⟩
theorem input_ok (b iw : Nat) (hiw : iw ≤ 10) (w : World) : Calls Tryd.prog 73 [.pointer (some ⟨b, 0, none⟩), i64 ((iw : Nat))].toArray w (Ret fun v w' => v = .agg (cel EI (inW (64 * iw) 64)).toArray ∧ Ext w w') := by
  have H := Hp.start No w
  refine enter (n := 18) Tryd.func73 rfl rfl (Nat.le_of_ble_eq_true rfl) ?_
  refine seqRegion ?_
  refine q_alloc (o := .cells (cel EI (List.replicate 64 0)).toArray 153 (0, 0)) H zer153 (by kernel_rfl) ?_
  intro b1 w2 hb1 H3 hE4
  refine wend ?_
  refine seqRegion ?_
  refine q_alloc (o := .cells (cel EI (List.replicate 64 0)).toArray 153 (0, 0)) H3 zer153 (by kernel_rfl) ?_
  intro b5 w6 hb5 H7 hE8
  refine wend ?_
  refine seqAny ?_
  refine seqRegion ?_
  refine sq (r_move (v := i64 ((0 : Int))) rfl) ?_
  refine wend ?_
  refine blockAny ?_
  refine loopAny (σ := Nat) (fun i => [(1, i64 ((iw : Nat))), (4, .pointer (some ⟨b1, 0, none⟩)), (5, .pointer (some ⟨b5, 0, none⟩)), (7, i64 ((i : Nat)))]) (fun i w' => i ≤ 64 ∧ Hp No w w' [(some b5, .cells (cel EI (padW (inW (64 * iw) i))).toArray 153 (0, 0)), (some b1, .cells (cel EI (List.replicate 64 0)).toArray 153 (0, 0))]) (fun i => 64 - i) (0) ?_ ?_ ?_
  · exact ⟨rfl, rfl, rfl, rfl, trivial⟩
  · exact ⟨Nat.zero_le _, H7⟩
  rintro i ρ w9 ⟨hq, HL⟩
  have hpl : (padW (inW (64 * iw) i)).length = 64 := padW_len (by rw [inW_len]; exact hq)
  refine seqRegion ?_
  refine sq (r_lssI (a := (i : Nat)) (b := (64 : Int)) rfl rfl) ?_
  refine wend ?_
  refine seqAny ?_
  refine condProp (((i : Nat) : Int) < (64 : Int)) rfl (fun c8 => ?_) (fun c8 => ?_)
  · skip
    refine skipAny ?_
    refine thenNormal ?_
    refine seqAny ?_
    refine blockAny ?_
    refine seqRegion ?_
    refine sq (r_move (v := i64 ((i : Nat))) rfl) ?_
    refine sq (r_assign (v := i64 ((i : Nat))) rfl) ?_
    refine wend ?_
    refine oneRegion ?_
    refine sq (r_move (v := i64 ((i : Nat))) rfl) ?_
    refine sq (r_move (v := i64 ((iw : Nat))) rfl) ?_
    refine sq ((r_mulI (a := (64 : Int)) (b := (iw : Nat)) rfl rfl (by omega)).as (v' := i64 (((64 * iw) : Nat))) (by exact congrArg i64 (by omega))) ?_
    refine sq (r_move (v := i64 ((i : Nat))) rfl) ?_
    refine sq ((r_addI (a := ((64 * iw) : Nat)) (b := (i : Nat)) rfl rfl (by omega)).as (v' := i64 (((64 * iw + i : Nat) : Int))) (by exact congrArg i64 (by omega))) ?_
    refine sq (r_indexA (off' := i) (j := i) arr153 (b := b5) (off := 0) rfl rfl (by first | rfl | omega | (simp; omega)) (by omega) (by omega)) ?_
    refine d_store (k := 0) (v := i64 (((64 * iw + i : Nat) : Int))) (cs' := (cel EI ((padW (inW (64 * iw) i)).set i ((64 * iw + i : Nat) : Int))).toArray) HL rfl rfl rfl siz3 (by rfl) (by exact EI.one _) (by rw [List.size_toArray, cel_length]; show _ ≤ _ * 1; first | omega | (simp only [List.length_set]; omega) | exact Nat.le_of_ble_eq_true rfl | (simp <;> omega)) (by exact put1 (E := EI) rfl _ _ _) ?_
    intro w11 H12 hC13
    have H12' := H12.as (L' := [(some b5, .cells (cel EI ((padW (inW (64 * iw) i)).set i ((64 * iw + i : Nat) : Int))).toArray 153 (0, 0)), (some b1, .cells (cel EI (List.replicate 64 0)).toArray 153 (0, 0))]) rfl
    clear H12
    refine wnil ?_
    refine blockNormal ?_
    refine thenNormal ?_
    refine oneRegion ?_
    refine sq (r_addI (a := (i : Nat)) (b := (1 : Int)) rfl rfl (by omega)) ?_
    refine sq (r_move (v := i64 ((i : Nat) + (1 : Int))) rfl) ?_
    refine wnil ?_
    refine thenNormal ?_
    rw [padW_set _ (inW_len _ _) (by omega)] at H12'
    exact ⟨i + 1, _, rfl, ⟨rfl, rfl, rfl, rfl, trivial⟩, ⟨by omega, H12'⟩, by show 64 - (i + 1) < 64 - i; omega⟩
  · skip
    have hqe : i = 64 := by omega
    have hpf := (inW_len (64 * iw) i).trans hqe
    rw [padW_full hpf] at HL
    refine exitAny ?_
    refine thenExit ?_
    refine thenExit ?_
    refine blockHere ?_
    refine thenNormal ?_
    refine seqRegion ?_
    refine sq (r_loadA (cs' := (cel EI (inW (64 * iw) i)).toArray) agg153 siz153 (HL.get (k := 0) rfl) (off := 0) rfl (by rw [List.size_toArray, cel_length]; show _ ≤ _ * 1; omega) (by exact ext_all (by rw [cel_length]; show _ * 1 = _; omega))) ?_
    refine d_store (k := 1) (v := .agg (cel EI (inW (64 * iw) i)).toArray) (cs' := (cel EI (inW (64 * iw) i)).toArray) HL rfl rfl rfl siz153 (by exact celSize (by rw [hpf]; rfl)) (by exact celOne _) (by rw [List.size_toArray, cel_length]; show _ ≤ _ * 1; first | omega | (simp only [List.length_set]; omega) | exact Nat.le_of_ble_eq_true rfl | (simp <;> omega)) (by exact putAll (by rw [List.length_replicate]; exact hpf.symm)) ?_
    intro w14 H15 hC16
    have H15' := H15.as (L' := [(some b5, .cells (cel EI (inW (64 * iw) i)).toArray 153 (0, 0)), (some b1, .cells (cel EI (inW (64 * iw) i)).toArray 153 (0, 0))]) rfl
    clear H15
    refine wend ?_
    refine retAny ?_
    refine retG (rs := [.cell 4 153]) (vs := [.agg (cel EI (inW (64 * iw) i)).toArray]) rfl ⟨r_loadA (cs' := (cel EI (inW (64 * iw) i)).toArray) agg153 siz153 (H15'.get (k := 1) rfl) (off := 0) rfl (by rw [List.size_toArray, cel_length]; show _ ≤ _ * 1; omega) (by exact ext_all (by rw [cel_length]; show _ * 1 = _; omega)), trivial⟩ ?_
    subst hqe
    exact ⟨_, rfl, rfl, H15'.chg⟩
end Go.Proofs.YteofdmdpaejgaaaDoor.Cm
namespace Go.Proofs.YteofdmdpaejgaaaDoor.Cm
open Go Go.Proofs.YteofdmdpaejgaaaDoor.Vc Go.Proofs.YteofdmdpaejgaaaDoor.Er Go.Proofs.YteofdmdpaejgaaaDoor.Circ
set_option linter.unusedVariables false
theorem fits3 : Fits Tryd.prog 3 EI := fitsI (by kernel_rfl) (by kernel_rfl)
set_option maxHeartbeats 1000000 in
theorem mxor_ok (b n : Nat) (key : Option Nat) (c : Nat) (sp : List Value) (gs : List Gt) (hSw : Sl EG key gs c sp) (hn : n ≤ 1000) (hlen : gs.length ≤ 3000) (ra rb : List Int) (hra : ra.length = 64) (hrb : rb.length = 64) (R : List (Option Nat × Obj)) (w₀ w : World) (H : Hp No w₀ w ((some b, .cells #[i64 ((n : Nat)), .slice (ownA key) (List.length gs) c, .slice none 0 0] 151 (0, 0)) :: (key, sob EG 99 gs sp) :: R)) : Calls Tryd.prog 74 [.pointer (some ⟨b, 0, none⟩), .agg (cel EI ra).toArray, .agg (cel EI rb).toArray].toArray w (Ret fun v w' => v = .agg (cel EI ((xoS n gs ra rb 64).2)).toArray ∧ ∃ (key' : Option Nat) (c' : Nat) (sp' : List Value), Sl EG key' ((xoS n gs ra rb 64).1) c' sp' ∧ Hp No w₀ w' ((some b, .cells #[i64 ((n : Nat)), .slice (ownA key') (List.length ((xoS n gs ra rb 64).1)) c', .slice none 0 0] 151 (0, 0)) :: (key', sob EG 99 ((xoS n gs ra rb 64).1) sp') :: R)) := by
  skip
  refine enter (n := 24) Tryd.func74 rfl rfl (Nat.le_of_ble_eq_true rfl) ?_
  refine seqRegion ?_
  refine q_box (v := .agg (cel EI ra).toArray) (o := .cells (cel EI ra).toArray 153 (0, 0)) H rfl (by rfl) ?_
  intro b1 w2 hb1 H3 hE4
  refine q_box (v := .agg (cel EI rb).toArray) (o := .cells (cel EI rb).toArray 153 (0, 0)) H3 rfl (by rfl) ?_
  intro b5 w6 hb5 H7 hE8
  refine q_alloc (o := .cells (cel EI (List.replicate 64 0)).toArray 153 (0, 0)) H7 zer153 (by kernel_rfl) ?_
  intro b9 w10 hb9 H11 hE12
  refine wend ?_
  refine seqRegion ?_
  refine q_alloc (o := .cells (cel EI (List.replicate 64 0)).toArray 153 (0, 0)) H11 zer153 (by kernel_rfl) ?_
  intro b13 w14 hb13 H15 hE16
  refine wend ?_
  refine seqAny ?_
  refine seqRegion ?_
  refine sq (r_move (v := i64 ((0 : Int))) rfl) ?_
  refine wend ?_
  refine blockAny ?_
  refine loopAny (σ := Nat × Option Nat × Nat × List Value) (fun (i, kz, cz, sz) => [(0, .pointer (some ⟨b, 0, none⟩)), (4, .pointer (some ⟨b1, 0, none⟩)), (5, .pointer (some ⟨b5, 0, none⟩)), (6, .pointer (some ⟨b9, 0, none⟩)), (7, .pointer (some ⟨b13, 0, none⟩)), (9, i64 ((i : Nat)))]) (fun (i, kz, cz, sz) w' => (i ≤ 64 ∧ Sl EG kz ((xoS n gs ra rb i).1) cz sz) ∧ Hp No w₀ w' ((some b, .cells #[i64 ((n : Nat)), .slice (ownA kz) (List.length ((xoS n gs ra rb i).1)) cz, .slice none 0 0] 151 (0, 0)) :: (kz, sob EG 99 ((xoS n gs ra rb i).1) sz) :: (some b13, .cells (cel EI (padW ((xoS n gs ra rb i).2))).toArray 153 (0, 0)) :: (some b1, .cells (cel EI ra).toArray 153 (0, 0)) :: (some b5, .cells (cel EI rb).toArray 153 (0, 0)) :: (some b9, .cells (cel EI (List.replicate 64 0)).toArray 153 (0, 0)) :: R)) (fun (i, kz, cz, sz) => 64 - i) ((0, key, c, sp)) ?_ ?_ ?_
  · exact ⟨rfl, rfl, rfl, rfl, rfl, rfl, trivial⟩
  · exact ⟨⟨by omega, hSw⟩, (H15.pick 6 [4, 5, 0, 3, 2, 1] (by decide) (by decide))⟩
  rintro ⟨i, kz, cz, sz⟩ ρ w17 ⟨⟨hq, hSz⟩, HL⟩
  have hxl := xoS_len n gs ra rb i
  have hpl : (padW (xoS n gs ra rb i).2).length = 64 := padW_len (by rw [hxl.2]; exact hq)
  refine seqRegion ?_
  refine sq (r_lssI (a := (i : Nat)) (b := (64 : Int)) rfl rfl) ?_
  refine wend ?_
  refine seqAny ?_
  refine condProp (((i : Nat) : Int) < (64 : Int)) rfl (fun c10 => ?_) (fun c10 => ?_)
  · skip
    refine skipAny ?_
    refine thenNormal ?_
    refine seqAny ?_
    refine blockAny ?_
    refine seqRegion ?_
    refine sq (r_move (v := i64 ((i : Nat))) rfl) ?_
    refine sq (r_assign (v := i64 ((i : Nat))) rfl) ?_
    refine wend ?_
    refine drawC (m := 11) [0, 0, 0, 4, 12, 0, 32, 96, 254, 511, 1023] [8, 10] (fun q vs w' => match q, vs with | 0, [] => Hp No w₀ w' ((some b, .cells #[i64 ((n : Nat)), .slice (ownA kz) (List.length ((xoS n gs ra rb i).1)) cz, .slice none 0 0] 151 (0, 0)) :: (kz, sob EG 99 ((xoS n gs ra rb i).1) sz) :: (some b13, .cells (cel EI (padW ((xoS n gs ra rb i).2))).toArray 153 (0, 0)) :: (some b1, .cells (cel EI ra).toArray 153 (0, 0)) :: (some b5, .cells (cel EI rb).toArray 153 (0, 0)) :: (some b9, .cells (cel EI (List.replicate 64 0)).toArray 153 (0, 0)) :: R) | 1, [v0] => ∃ (wx33 : Int) (key25 : Option Nat) (c26 : Nat) (sp27 : List Value), v0 = i64 (wx33) ∧ Sl EG key25 (((xoS n gs ra rb i).1) ++ [(⟨(1 : Int), (ra).getD i 0, (rb).getD i 0⟩ : Gt)]) c26 sp27 ∧ wx33 = wrW n ((xoS n gs ra rb i).1) ∧ Hp No w₀ w' ((some b, .cells #[i64 ((n : Nat)), .slice (ownA key25) (List.length (((xoS n gs ra rb i).1) ++ [(⟨(1 : Int), (ra).getD i 0, (rb).getD i 0⟩ : Gt)])) c26, .slice none 0 0] 151 (0, 0)) :: (key25, sob EG 99 (((xoS n gs ra rb i).1) ++ [(⟨(1 : Int), (ra).getD i 0, (rb).getD i 0⟩ : Gt)]) sp27) :: (some b13, .cells (cel EI (padW ((xoS n gs ra rb i).2))).toArray 153 (0, 0)) :: (some b1, .cells (cel EI ra).toArray 153 (0, 0)) :: (some b5, .cells (cel EI rb).toArray 153 (0, 0)) :: (some b9, .cells (cel EI (List.replicate 64 0)).toArray 153 (0, 0)) :: R) | 2, [v0, _] => ∃ (wx33 : Int) (key25 : Option Nat) (c26 : Nat) (sp27 : List Value), v0 = i64 (wx33) ∧ True ∧ Sl EG key25 (((xoS n gs ra rb i).1) ++ [(⟨(1 : Int), (ra).getD i 0, (rb).getD i 0⟩ : Gt)]) c26 sp27 ∧ wx33 = wrW n ((xoS n gs ra rb i).1) ∧ Hp No w₀ w' ((some b, .cells #[i64 ((n : Nat)), .slice (ownA key25) (List.length (((xoS n gs ra rb i).1) ++ [(⟨(1 : Int), (ra).getD i 0, (rb).getD i 0⟩ : Gt)])) c26, .slice none 0 0] 151 (0, 0)) :: (key25, sob EG 99 (((xoS n gs ra rb i).1) ++ [(⟨(1 : Int), (ra).getD i 0, (rb).getD i 0⟩ : Gt)]) sp27) :: (some b13, .cells (cel EI ((padW ((xoS n gs ra rb i).2)).set i wx33)).toArray 153 (0, 0)) :: (some b1, .cells (cel EI ra).toArray 153 (0, 0)) :: (some b5, .cells (cel EI rb).toArray 153 (0, 0)) :: (some b9, .cells (cel EI (List.replicate 64 0)).toArray 153 (0, 0)) :: R) | _, _ => False) mixed (by kernel_rfl) (by kernel_rfl) HL.drew ?_
    refine WalkC.look rfl (fun _ => i64 ((i : Nat))) (fun _ _ _ => rfl) (fun q r uw _ _ _ _ => Gives.run rfl (r_move (v := i64 ((i : Nat))) rfl) ⟨rfl, rfl⟩) ?_
    refine WalkC.look rfl (fun _ => .pointer (some ⟨b, 0, none⟩)) (fun _ _ _ => rfl) (fun q r uw _ _ _ _ => Gives.run rfl (r_move (v := .pointer (some ⟨b, 0, none⟩)) rfl) ⟨rfl, rfl⟩) ?_
    refine WalkC.look rfl (fun _ => i64 ((i : Nat))) (fun _ _ _ => rfl) (fun q r uw _ _ _ _ => Gives.run rfl (r_move (v := i64 ((i : Nat))) rfl) ⟨rfl, rfl⟩) ?_
    refine WalkC.look rfl (fun _ => .pointer (some ⟨b1, i, none⟩)) (fun _ _ _ => rfl) (fun q r uw _ _ _ _ => Gives.run rfl (r_indexA (off' := i) (j := i) arr153 (b := b1) (off := 0) rfl rfl (by first | rfl | omega | (simp; omega)) (by omega) (by omega)) ⟨rfl, rfl⟩) ?_
    refine WalkC.look rfl (fun _ => i64 ((ra).getD i 0)) (fun _ _ _ => rfl) (fun q r uw hlo hhi hle hF => ?_) ?_
    · skip
      have h1 : 0 ≤ q := Nat.zero_le _
      have h2 : q ≤ 0 := hhi 0 8 rfl rfl
      rcases (show q = 0 by omega) with rfl
      · skip
        have HH := hF
        exact Gives.run rfl (r_ld1 (E := EI) (l := ra) (j := i) (a := (ra).getD i 0) fits3 (HH.get (k := 3) rfl) (at_getD (by first | omega | (simp only [List.length_set]; omega) | exact Nat.le_of_ble_eq_true rfl | (simp <;> omega))) rfl rfl) ⟨rfl, rfl⟩
    refine WalkC.look rfl (fun _ => i64 ((i : Nat))) (fun _ _ _ => rfl) (fun q r uw _ _ _ _ => Gives.run rfl (r_move (v := i64 ((i : Nat))) rfl) ⟨rfl, rfl⟩) ?_
    refine WalkC.look rfl (fun _ => .pointer (some ⟨b5, i, none⟩)) (fun _ _ _ => rfl) (fun q r uw _ _ _ _ => Gives.run rfl (r_indexA (off' := i) (j := i) arr153 (b := b5) (off := 0) rfl rfl (by first | rfl | omega | (simp; omega)) (by omega) (by omega)) ⟨rfl, rfl⟩) ?_
    refine WalkC.look rfl (fun _ => i64 ((rb).getD i 0)) (fun _ _ _ => rfl) (fun q r uw hlo hhi hle hF => ?_) ?_
    · skip
      have h1 : 0 ≤ q := Nat.zero_le _
      have h2 : q ≤ 0 := hhi 0 8 rfl rfl
      rcases (show q = 0 by omega) with rfl
      · skip
        have HH := hF
        exact Gives.run rfl (r_ld1 (E := EI) (l := rb) (j := i) (a := (rb).getD i 0) fits3 (HH.get (k := 4) rfl) (at_getD (by first | omega | (simp only [List.length_set]; omega) | exact Nat.le_of_ble_eq_true rfl | (simp <;> omega))) rfl rfl) ⟨rfl, rfl⟩
    refine WalkC.eff 0 rfl (fun r uw19 hF21 => ?_) ?_
    · skip
      have H20 := hF21
      dsimp only [List.take, List.map, List.cons_append, List.nil_append]
      refine Gives.ofW (d := 20) rfl rfl (fun Q' hK => ?_)
      have H22 := (H20).as (L' := ((some b, .cells #[i64 ((n : Nat)), .slice (ownA kz) (List.length ((xoS n gs ra rb i).1)) cz, .slice none 0 0] 151 (0, 0)) :: (kz, sob EG 99 ((xoS n gs ra rb i).1) sz) :: ((some b13, .cells (cel EI (padW ((xoS n gs ra rb i).2))).toArray 153 (0, 0)) :: (some b1, .cells (cel EI ra).toArray 153 (0, 0)) :: (some b5, .cells (cel EI rb).toArray 153 (0, 0)) :: (some b9, .cells (cel EI (List.replicate 64 0)).toArray 153 (0, 0)) :: R))) rfl
      refine c_call (vs := [.pointer (some ⟨b, 0, none⟩), i64 ((1 : Int)), i64 ((ra).getD i 0), i64 ((rb).getD i 0)]) call76 rfl (gate_ok b n kz cz sz ((xoS n gs ra rb i).1) hSz hn (by omega) (1 : Int) ((ra).getD i 0) ((rb).getD i 0) ((some b13, .cells (cel EI (padW ((xoS n gs ra rb i).2))).toArray 153 (0, 0)) :: (some b1, .cells (cel EI ra).toArray 153 (0, 0)) :: (some b5, .cells (cel EI rb).toArray 153 (0, 0)) :: (some b9, .cells (cel EI (List.replicate 64 0)).toArray 153 (0, 0)) :: R) w₀ uw19 H22) ?_
      rintro wv31 w23 ⟨hwv32, key25, c26, sp27, hS28, HN29⟩
      obtain ⟨wx33, hwx33⟩ : ∃ q, q = wrW n ((xoS n gs ra rb i).1) := ⟨_, rfl⟩
      rw [← hwx33] at hwv32
      subst hwv32
      have H30 := HN29.as (L' := ((some b, .cells #[i64 ((n : Nat)), .slice (ownA key25) (List.length (((xoS n gs ra rb i).1) ++ [(⟨(1 : Int), (ra).getD i 0, (rb).getD i 0⟩ : Gt)])) c26, .slice none 0 0] 151 (0, 0)) :: (key25, sob EG 99 (((xoS n gs ra rb i).1) ++ [(⟨(1 : Int), (ra).getD i 0, (rb).getD i 0⟩ : Gt)]) sp27) :: (some b13, .cells (cel EI (padW ((xoS n gs ra rb i).2))).toArray 153 (0, 0)) :: (some b1, .cells (cel EI ra).toArray 153 (0, 0)) :: (some b5, .cells (cel EI rb).toArray 153 (0, 0)) :: (some b9, .cells (cel EI (List.replicate 64 0)).toArray 153 (0, 0)) :: R)) rfl
      exact hK _ _ ⟨wx33, key25, c26, sp27, rfl, hS28, hwx33, H30⟩
    refine WalkC.look rfl (fun _ => .pointer (some ⟨b13, i, none⟩)) (fun _ _ _ => rfl) (fun q r uw _ _ _ _ => Gives.run rfl (r_indexA (off' := i) (j := i) arr153 (b := b13) (off := 0) rfl rfl (by first | rfl | omega | (simp; omega)) (by omega) (by omega)) ⟨rfl, rfl⟩) ?_
    refine WalkC.eff 1 rfl (fun r uw34 hF36 => ?_) ?_
    · skip
      obtain ⟨wx33, key25, c26, sp27, e8, hS28, hwx33, H35⟩ := hF36
      dsimp only [List.take, List.map, List.cons_append, List.nil_append]
      rw [e8]
      refine Gives.ofW0 rfl (fun Q' hK => ?_)
      refine d_store (k := 2) (v := i64 (wx33)) (cs' := (cel EI ((padW ((xoS n gs ra rb i).2)).set i wx33)).toArray) H35 rfl rfl rfl siz3 (by rfl) (by exact EI.one _) (by rw [List.size_toArray, cel_length]; show _ ≤ _ * 1; first | omega | (simp only [List.length_set]; omega) | exact Nat.le_of_ble_eq_true rfl | (simp <;> omega)) (by exact put1 (E := EI) rfl _ _ _) ?_
      intro w37 H38 hC39
      have H38' := H38.as (L' := ((some b, .cells #[i64 ((n : Nat)), .slice (ownA key25) (List.length (((xoS n gs ra rb i).1) ++ [(⟨(1 : Int), (ra).getD i 0, (rb).getD i 0⟩ : Gt)])) c26, .slice none 0 0] 151 (0, 0)) :: (key25, sob EG 99 (((xoS n gs ra rb i).1) ++ [(⟨(1 : Int), (ra).getD i 0, (rb).getD i 0⟩ : Gt)]) sp27) :: (some b13, .cells (cel EI ((padW ((xoS n gs ra rb i).2)).set i wx33)).toArray 153 (0, 0)) :: (some b1, .cells (cel EI ra).toArray 153 (0, 0)) :: (some b5, .cells (cel EI rb).toArray 153 (0, 0)) :: (some b9, .cells (cel EI (List.replicate 64 0)).toArray 153 (0, 0)) :: R)) rfl
      clear H38
      exact hK _ (fun _ => ⟨wx33, key25, c26, sp27, rfl, trivial, hS28, hwx33, H38'⟩)
    refine WalkC.nil ?_
    intro r40 w41 hF43
    obtain ⟨wx33, key25, c26, sp27, e8, e10, hS28, hwx33, H42⟩ := hF43
    dsimp only
    rw [e8]
    subst hwx33
    refine wnil ?_
    refine blockNormal ?_
    refine thenNormal ?_
    refine oneRegion ?_
    refine sq (r_addI (a := (i : Nat)) (b := (1 : Int)) rfl rfl (by omega)) ?_
    refine sq (r_move (v := i64 ((i : Nat) + (1 : Int))) rfl) ?_
    refine wnil ?_
    refine thenNormal ?_
    rw [padW_set (l := (xoS n gs ra rb i).2) _ hxl.2 (by omega)] at H42
    have H42' := H42
    have H44 := H42'.as (L' := ((some b, .cells #[i64 ((n : Nat)), .slice (ownA key25) (List.length ((xoS n gs ra rb (i + 1)).1)) c26, .slice none 0 0] 151 (0, 0)) :: (key25, sob EG 99 ((xoS n gs ra rb (i + 1)).1) sp27) :: (some b13, .cells (cel EI (padW ((xoS n gs ra rb (i + 1)).2))).toArray 153 (0, 0)) :: (some b1, .cells (cel EI ra).toArray 153 (0, 0)) :: (some b5, .cells (cel EI rb).toArray 153 (0, 0)) :: (some b9, .cells (cel EI (List.replicate 64 0)).toArray 153 (0, 0)) :: R)) rfl
    exact ⟨(i + 1, key25, c26, sp27), _, rfl, ⟨rfl, rfl, rfl, rfl, rfl, rfl, trivial⟩, ⟨⟨by omega, hS28⟩, H44⟩, by show 64 - (i + 1) < 64 - i; omega⟩
  · skip
    have hie : i = 64 := by omega
    have hrl := hxl.2.trans hie
    rw [padW_full hrl] at HL
    refine exitAny ?_
    refine thenExit ?_
    refine thenExit ?_
    refine blockHere ?_
    refine thenNormal ?_
    refine seqRegion ?_
    refine sq (r_loadA (cs' := (cel EI ((xoS n gs ra rb i).2)).toArray) agg153 siz153 (HL.get (k := 2) rfl) (off := 0) rfl (by rw [List.size_toArray, cel_length]; show _ ≤ _ * 1; omega) (by exact ext_all (by rw [cel_length]; show _ * 1 = _; omega))) ?_
    refine d_store (k := 5) (v := .agg (cel EI ((xoS n gs ra rb i).2)).toArray) (cs' := (cel EI ((xoS n gs ra rb i).2)).toArray) HL rfl rfl rfl siz153 (by exact celSize (by rw [hrl]; rfl)) (by exact celOne _) (by rw [List.size_toArray, cel_length]; show _ ≤ _ * 1; first | omega | (simp only [List.length_set]; omega) | exact Nat.le_of_ble_eq_true rfl | (simp <;> omega)) (by exact putAll (by rw [List.length_replicate]; exact hrl.symm)) ?_
    intro w45 H46 hC47
    have H46' := H46.as (L' := ((some b, .cells #[i64 ((n : Nat)), .slice (ownA kz) (List.length ((xoS n gs ra rb i).1)) cz, .slice none 0 0] 151 (0, 0)) :: (kz, sob EG 99 ((xoS n gs ra rb i).1) sz) :: (some b13, .cells (cel EI ((xoS n gs ra rb i).2)).toArray 153 (0, 0)) :: (some b1, .cells (cel EI ra).toArray 153 (0, 0)) :: (some b5, .cells (cel EI rb).toArray 153 (0, 0)) :: (some b9, .cells (cel EI ((xoS n gs ra rb i).2)).toArray 153 (0, 0)) :: R)) rfl
    clear H46
    refine wend ?_
    refine retAny ?_
    refine retG (rs := [.cell 6 153]) (vs := [.agg (cel EI ((xoS n gs ra rb i).2)).toArray]) rfl ⟨r_loadA (cs' := (cel EI ((xoS n gs ra rb i).2)).toArray) agg153 siz153 (H46'.get (k := 5) rfl) (off := 0) rfl (by rw [List.size_toArray, cel_length]; show _ ≤ _ * 1; omega) (by exact ext_all (by rw [cel_length]; show _ * 1 = _; omega)), trivial⟩ ?_
    subst hie
    exact ⟨_, rfl, rfl, kz, cz, sz, hSz, ((((H46'.dropk 5).dropk 4).dropk 3).dropk 2)⟩
end Go.Proofs.YteofdmdpaejgaaaDoor.Cm
namespace Go.Proofs.YteofdmdpaejgaaaDoor.Cm
open Go Go.Proofs.YteofdmdpaejgaaaDoor.Vc Go.Proofs.YteofdmdpaejgaaaDoor.Er Go.Proofs.YteofdmdpaejgaaaDoor.Circ
set_option linter.unusedVariables false
theorem call104 : callable Tryd.prog 104 = true := by kernel_rfl
set_option maxHeartbeats 1000000 in
theorem madd_ok (b n : Nat) (key : Option Nat) (c : Nat) (sp : List Value) (gs : List Gt) (hSw : Sl EG key gs c sp) (hn : n ≤ 1000) (hlen : gs.length ≤ 3000) (ra rb : List Int) (hra : ra.length = 64) (hrb : rb.length = 64) (R : List (Option Nat × Obj)) (w₀ w : World) (H : Hp No w₀ w ((some b, .cells #[i64 ((n : Nat)), .slice (ownA key) (List.length gs) c, .slice none 0 0] 151 (0, 0)) :: (key, sob EG 99 gs sp) :: R)) : Calls Tryd.prog 75 [.pointer (some ⟨b, 0, none⟩), .agg (cel EI ra).toArray, .agg (cel EI rb).toArray].toArray w (Ret fun v w' => v = .agg (cel EI ((adS n gs ra rb 63).2.1)).toArray ∧ ∃ (key' : Option Nat) (c' : Nat) (sp' : List Value), Sl EG key' ((adS n gs ra rb 63).1) c' sp' ∧ Hp No w₀ w' ((some b, .cells #[i64 ((n : Nat)), .slice (ownA key') (List.length ((adS n gs ra rb 63).1)) c', .slice none 0 0] 151 (0, 0)) :: (key', sob EG 99 ((adS n gs ra rb 63).1) sp') :: R)) := by
  skip
  refine enter (n := 52) Tryd.func75 rfl rfl (Nat.le_of_ble_eq_true rfl) ?_
  refine seqRegion ?_
  refine q_box (v := .agg (cel EI ra).toArray) (o := .cells (cel EI ra).toArray 153 (0, 0)) H rfl (by rfl) ?_
  intro b1 w2 hb1 H3 hE4
  refine q_box (v := .agg (cel EI rb).toArray) (o := .cells (cel EI rb).toArray 153 (0, 0)) H3 rfl (by rfl) ?_
  intro b5 w6 hb5 H7 hE8
  refine q_alloc (o := .cells (cel EI (List.replicate 64 0)).toArray 153 (0, 0)) H7 zer153 (by kernel_rfl) ?_
  intro b9 w10 hb9 H11 hE12
  refine wend ?_
  refine seqRegion ?_
  refine q_alloc (o := .cells (cel EI (List.replicate 64 0)).toArray 153 (0, 0)) H11 zer153 (by kernel_rfl) ?_
  intro b13 w14 hb13 H15 hE16
  refine wend ?_
  refine seqRegion ?_
  refine sq (r_move (v := .pointer (some ⟨b, 0, none⟩)) rfl) ?_
  refine sq (r_indexA (off' := 0) (j := 0) arr153 (b := b1) (off := 0) rfl rfl (by first | rfl | omega | (simp; omega)) (by omega) (by omega)) ?_
  refine sq (r_ld1 (E := EI) (l := ra) (j := 0) (a := (ra).getD 0 0) fits3 (H15.get (k := 3) rfl) (at_getD (by first | omega | (simp only [List.length_set]; omega) | exact Nat.le_of_ble_eq_true rfl | (simp <;> omega))) rfl rfl) ?_
  refine sq (r_indexA (off' := 0) (j := 0) arr153 (b := b5) (off := 0) rfl rfl (by first | rfl | omega | (simp; omega)) (by omega) (by omega)) ?_
  refine sq (r_ld1 (E := EI) (l := rb) (j := 0) (a := (rb).getD 0 0) fits3 (H15.get (k := 2) rfl) (at_getD (by first | omega | (simp only [List.length_set]; omega) | exact Nat.le_of_ble_eq_true rfl | (simp <;> omega))) rfl rfl) ?_
  have H17 := ((H15.pick 6 [4, 5, 0, 1, 2, 3] (by decide) (by decide))).as (L' := ((some b, .cells #[i64 ((n : Nat)), .slice (ownA key) (List.length gs) c, .slice none 0 0] 151 (0, 0)) :: (key, sob EG 99 gs sp) :: ((some b13, .cells (cel EI (List.replicate 64 0)).toArray 153 (0, 0)) :: (some b9, .cells (cel EI (List.replicate 64 0)).toArray 153 (0, 0)) :: (some b5, .cells (cel EI rb).toArray 153 (0, 0)) :: (some b1, .cells (cel EI ra).toArray 153 (0, 0)) :: R))) rfl
  refine c_call (vs := [.pointer (some ⟨b, 0, none⟩), i64 ((1 : Int)), i64 ((ra).getD 0 0), i64 ((rb).getD 0 0)]) call76 rfl (gate_ok b n key c sp gs hSw hn (by omega) (1 : Int) ((ra).getD 0 0) ((rb).getD 0 0) ((some b13, .cells (cel EI (List.replicate 64 0)).toArray 153 (0, 0)) :: (some b9, .cells (cel EI (List.replicate 64 0)).toArray 153 (0, 0)) :: (some b5, .cells (cel EI rb).toArray 153 (0, 0)) :: (some b1, .cells (cel EI ra).toArray 153 (0, 0)) :: R) w₀ w14 H17) ?_
  rintro wv26 w18 ⟨hwv27, key20, c21, sp22, hS23, HN24⟩
  obtain ⟨wx28, hwx28⟩ : ∃ q, q = wrW n gs := ⟨_, rfl⟩
  rw [← hwx28] at hwv27
  subst hwv27
  have H25 := HN24.as (L' := ((some b, .cells #[i64 ((n : Nat)), .slice (ownA key20) (List.length (gs ++ [(⟨(1 : Int), (ra).getD 0 0, (rb).getD 0 0⟩ : Gt)])) c21, .slice none 0 0] 151 (0, 0)) :: (key20, sob EG 99 (gs ++ [(⟨(1 : Int), (ra).getD 0 0, (rb).getD 0 0⟩ : Gt)]) sp22) :: (some b13, .cells (cel EI (List.replicate 64 0)).toArray 153 (0, 0)) :: (some b9, .cells (cel EI (List.replicate 64 0)).toArray 153 (0, 0)) :: (some b5, .cells (cel EI rb).toArray 153 (0, 0)) :: (some b1, .cells (cel EI ra).toArray 153 (0, 0)) :: R)) rfl
  refine sq (r_indexA (off' := 0) (j := 0) arr153 (b := b13) (off := 0) rfl rfl (by first | rfl | omega | (simp; omega)) (by omega) (by omega)) ?_
  refine d_store (k := 2) (v := i64 (wx28)) (cs' := (cel EI ((List.replicate 64 0).set 0 wx28)).toArray) H25 rfl rfl rfl siz3 (by rfl) (by exact EI.one _) (by rw [List.size_toArray, cel_length]; show _ ≤ _ * 1; first | omega | (simp only [List.length_set]; omega) | exact Nat.le_of_ble_eq_true rfl | (simp <;> omega)) (by exact put1 (E := EI) rfl _ _ _) ?_
  intro w29 H30 hC31
  have H30' := H30.as (L' := ((some b, .cells #[i64 ((n : Nat)), .slice (ownA key20) (List.length (gs ++ [(⟨(1 : Int), (ra).getD 0 0, (rb).getD 0 0⟩ : Gt)])) c21, .slice none 0 0] 151 (0, 0)) :: (key20, sob EG 99 (gs ++ [(⟨(1 : Int), (ra).getD 0 0, (rb).getD 0 0⟩ : Gt)]) sp22) :: (some b13, .cells (cel EI ((List.replicate 64 0).set 0 wx28)).toArray 153 (0, 0)) :: (some b9, .cells (cel EI (List.replicate 64 0)).toArray 153 (0, 0)) :: (some b5, .cells (cel EI rb).toArray 153 (0, 0)) :: (some b1, .cells (cel EI ra).toArray 153 (0, 0)) :: R)) rfl
  clear H30
  refine wend ?_
  refine seqRegion ?_
  refine sq (r_move (v := .pointer (some ⟨b, 0, none⟩)) rfl) ?_
  refine sq (r_indexA (off' := 0) (j := 0) arr153 (b := b1) (off := 0) rfl rfl (by first | rfl | omega | (simp; omega)) (by omega) (by omega)) ?_
  refine sq (r_ld1 (E := EI) (l := ra) (j := 0) (a := (ra).getD 0 0) fits3 (H30'.get (k := 5) rfl) (at_getD (by first | omega | (simp only [List.length_set]; omega) | exact Nat.le_of_ble_eq_true rfl | (simp <;> omega))) rfl rfl) ?_
  refine sq (r_indexA (off' := 0) (j := 0) arr153 (b := b5) (off := 0) rfl rfl (by first | rfl | omega | (simp; omega)) (by omega) (by omega)) ?_
  refine sq (r_ld1 (E := EI) (l := rb) (j := 0) (a := (rb).getD 0 0) fits3 (H30'.get (k := 4) rfl) (at_getD (by first | omega | (simp only [List.length_set]; omega) | exact Nat.le_of_ble_eq_true rfl | (simp <;> omega))) rfl rfl) ?_
  have H32 := (H30').as (L' := ((some b, .cells #[i64 ((n : Nat)), .slice (ownA key20) (List.length (gs ++ [(⟨(1 : Int), (ra).getD 0 0, (rb).getD 0 0⟩ : Gt)])) c21, .slice none 0 0] 151 (0, 0)) :: (key20, sob EG 99 (gs ++ [(⟨(1 : Int), (ra).getD 0 0, (rb).getD 0 0⟩ : Gt)]) sp22) :: ((some b13, .cells (cel EI ((List.replicate 64 0).set 0 wx28)).toArray 153 (0, 0)) :: (some b9, .cells (cel EI (List.replicate 64 0)).toArray 153 (0, 0)) :: (some b5, .cells (cel EI rb).toArray 153 (0, 0)) :: (some b1, .cells (cel EI ra).toArray 153 (0, 0)) :: R))) rfl
  refine c_call (vs := [.pointer (some ⟨b, 0, none⟩), i64 ((2 : Int)), i64 ((ra).getD 0 0), i64 ((rb).getD 0 0)]) call76 rfl (gate_ok b n key20 c21 sp22 (gs ++ [(⟨(1 : Int), (ra).getD 0 0, (rb).getD 0 0⟩ : Gt)]) hS23 hn (by simp only [List.length_append, List.length_cons, List.length_nil]; omega) (2 : Int) ((ra).getD 0 0) ((rb).getD 0 0) ((some b13, .cells (cel EI ((List.replicate 64 0).set 0 wx28)).toArray 153 (0, 0)) :: (some b9, .cells (cel EI (List.replicate 64 0)).toArray 153 (0, 0)) :: (some b5, .cells (cel EI rb).toArray 153 (0, 0)) :: (some b1, .cells (cel EI ra).toArray 153 (0, 0)) :: R) w₀ w29 H32) ?_
  rintro wv41 w33 ⟨hwv42, key35, c36, sp37, hS38, HN39⟩
  obtain ⟨wx43, hwx43⟩ : ∃ q, q = wrW n (gs ++ [(⟨(1 : Int), (ra).getD 0 0, (rb).getD 0 0⟩ : Gt)]) := ⟨_, rfl⟩
  rw [← hwx43] at hwv42
  subst hwv42
  have H40 := HN39.as (L' := ((some b, .cells #[i64 ((n : Nat)), .slice (ownA key35) (List.length (gs ++ [(⟨(1 : Int), (ra).getD 0 0, (rb).getD 0 0⟩ : Gt)] ++ [(⟨(2 : Int), (ra).getD 0 0, (rb).getD 0 0⟩ : Gt)])) c36, .slice none 0 0] 151 (0, 0)) :: (key35, sob EG 99 (gs ++ [(⟨(1 : Int), (ra).getD 0 0, (rb).getD 0 0⟩ : Gt)] ++ [(⟨(2 : Int), (ra).getD 0 0, (rb).getD 0 0⟩ : Gt)]) sp37) :: (some b13, .cells (cel EI ((List.replicate 64 0).set 0 wx28)).toArray 153 (0, 0)) :: (some b9, .cells (cel EI (List.replicate 64 0)).toArray 153 (0, 0)) :: (some b5, .cells (cel EI rb).toArray 153 (0, 0)) :: (some b1, .cells (cel EI ra).toArray 153 (0, 0)) :: R)) rfl
  refine sq (r_assign (v := i64 (wx43)) rfl) ?_
  subst hwx43
  subst hwx28
  rw [padW_one] at H40
  have H44 := H40.as (L' := ((some b, .cells #[i64 ((n : Nat)), .slice (ownA key35) (List.length ((adS n gs ra rb 0).1)) c36, .slice none 0 0] 151 (0, 0)) :: (key35, sob EG 99 ((adS n gs ra rb 0).1) sp37) :: (some b13, .cells (cel EI (padW [wrW n gs])).toArray 153 (0, 0)) :: (some b9, .cells (cel EI (List.replicate 64 0)).toArray 153 (0, 0)) :: (some b5, .cells (cel EI rb).toArray 153 (0, 0)) :: (some b1, .cells (cel EI ra).toArray 153 (0, 0)) :: R)) rfl
  have H45 := H44.as (L' := ((some b, .cells #[i64 ((n : Nat)), .slice (ownA key35) (List.length ((adS n gs ra rb 0).1)) c36, .slice none 0 0] 151 (0, 0)) :: (key35, sob EG 99 ((adS n gs ra rb 0).1) sp37) :: (some b13, .cells (cel EI (padW ((adS n gs ra rb 0).2.1))).toArray 153 (0, 0)) :: (some b9, .cells (cel EI (List.replicate 64 0)).toArray 153 (0, 0)) :: (some b5, .cells (cel EI rb).toArray 153 (0, 0)) :: (some b1, .cells (cel EI ra).toArray 153 (0, 0)) :: R)) rfl
  refine wend ?_
  refine seqAny ?_
  refine seqRegion ?_
  refine sq (r_assign (v := i64 ((1 : Int))) rfl) ?_
  refine wend ?_
  refine blockAny ?_
  refine loopAny (σ := Nat × Option Nat × Nat × List Value) (fun (i, kz, cz, sz) => [(0, .pointer (some ⟨b, 0, none⟩)), (4, .pointer (some ⟨b1, 0, none⟩)), (5, .pointer (some ⟨b5, 0, none⟩)), (6, .pointer (some ⟨b9, 0, none⟩)), (7, .pointer (some ⟨b13, 0, none⟩)), (8, i64 ((adS n gs ra rb i).2.2)), (9, i64 (((i + 1) : Nat)))]) (fun (i, kz, cz, sz) w' => (i ≤ 63 ∧ Sl EG kz ((adS n gs ra rb i).1) cz sz) ∧ Hp No w₀ w' ((some b, .cells #[i64 ((n : Nat)), .slice (ownA kz) (List.length ((adS n gs ra rb i).1)) cz, .slice none 0 0] 151 (0, 0)) :: (kz, sob EG 99 ((adS n gs ra rb i).1) sz) :: (some b13, .cells (cel EI (padW ((adS n gs ra rb i).2.1))).toArray 153 (0, 0)) :: (some b1, .cells (cel EI ra).toArray 153 (0, 0)) :: (some b5, .cells (cel EI rb).toArray 153 (0, 0)) :: (some b9, .cells (cel EI (List.replicate 64 0)).toArray 153 (0, 0)) :: R)) (fun (i, kz, cz, sz) => 63 - i) ((0, key35, c36, sp37)) ?_ ?_ ?_
  · exact ⟨rfl, rfl, rfl, rfl, rfl, rfl, rfl, trivial⟩
  · exact ⟨⟨by omega, hS38⟩, (H45.pick 6 [0, 1, 2, 5, 4, 3] (by decide) (by decide))⟩
  rintro ⟨i, kz, cz, sz⟩ ρ w46 ⟨⟨hq, hSz⟩, HL⟩
  have hal := adS_len n gs ra rb i
  have hpl : (padW (adS n gs ra rb i).2.1).length = 64 := padW_len (by rw [hal.2]; omega)
  refine seqAny ?_
  refine seqRegion ?_
  refine sq (r_move (v := i64 (((i + 1) : Nat))) rfl) ?_
  refine sq (r_lssI (a := ((i + 1) : Nat)) (b := (64 : Int)) rfl rfl) ?_
  refine wend ?_
  refine condProp ((((i + 1) : Nat) : Int) < (64 : Int)) rfl (fun c24 => ?_) (fun c24 => ?_)
  · skip
    refine skipAny ?_
    refine thenNormal ?_
    refine seqAny ?_
    refine blockAny ?_
    refine seqAny ?_
    refine drawC (m := 14) [0, 0, 0, 0, 8, 24, 0, 64, 192, 508, 0, 2046, 4095, 8191] [9, 11, 13] (fun q vs w' => match q, vs with | 0, [] => Hp No w₀ w' ((some b, .cells #[i64 ((n : Nat)), .slice (ownA kz) (List.length ((adS n gs ra rb i).1)) cz, .slice none 0 0] 151 (0, 0)) :: (kz, sob EG 99 ((adS n gs ra rb i).1) sz) :: (some b13, .cells (cel EI (padW ((adS n gs ra rb i).2.1))).toArray 153 (0, 0)) :: (some b1, .cells (cel EI ra).toArray 153 (0, 0)) :: (some b5, .cells (cel EI rb).toArray 153 (0, 0)) :: (some b9, .cells (cel EI (List.replicate 64 0)).toArray 153 (0, 0)) :: R) | 1, [v0] => ∃ (wx62 : Int) (key54 : Option Nat) (c55 : Nat) (sp56 : List Value), v0 = i64 (wx62) ∧ Sl EG key54 (((adS n gs ra rb i).1) ++ [(⟨(1 : Int), (ra).getD (i + 1) 0, (rb).getD (i + 1) 0⟩ : Gt)]) c55 sp56 ∧ wx62 = wrW n ((adS n gs ra rb i).1) ∧ Hp No w₀ w' ((some b, .cells #[i64 ((n : Nat)), .slice (ownA key54) (List.length (((adS n gs ra rb i).1) ++ [(⟨(1 : Int), (ra).getD (i + 1) 0, (rb).getD (i + 1) 0⟩ : Gt)])) c55, .slice none 0 0] 151 (0, 0)) :: (key54, sob EG 99 (((adS n gs ra rb i).1) ++ [(⟨(1 : Int), (ra).getD (i + 1) 0, (rb).getD (i + 1) 0⟩ : Gt)]) sp56) :: (some b13, .cells (cel EI (padW ((adS n gs ra rb i).2.1))).toArray 153 (0, 0)) :: (some b1, .cells (cel EI ra).toArray 153 (0, 0)) :: (some b5, .cells (cel EI rb).toArray 153 (0, 0)) :: (some b9, .cells (cel EI (List.replicate 64 0)).toArray 153 (0, 0)) :: R) | 2, [v0, v1] => ∃ (wx62 : Int) (wx77 : Int) (key69 : Option Nat) (c70 : Nat) (sp71 : List Value), v0 = i64 (wx62) ∧ v1 = i64 (wx77) ∧ Sl EG key69 (((adS n gs ra rb i).1) ++ [(⟨(1 : Int), (ra).getD (i + 1) 0, (rb).getD (i + 1) 0⟩ : Gt)] ++ [(⟨(1 : Int), wx62, (adS n gs ra rb i).2.2⟩ : Gt)]) c70 sp71 ∧ wx62 = wrW n ((adS n gs ra rb i).1) ∧ wx77 = wrW n (((adS n gs ra rb i).1) ++ [(⟨(1 : Int), (ra).getD (i + 1) 0, (rb).getD (i + 1) 0⟩ : Gt)]) ∧ Hp No w₀ w' ((some b, .cells #[i64 ((n : Nat)), .slice (ownA key69) (List.length (((adS n gs ra rb i).1) ++ [(⟨(1 : Int), (ra).getD (i + 1) 0, (rb).getD (i + 1) 0⟩ : Gt)] ++ [(⟨(1 : Int), wx62, (adS n gs ra rb i).2.2⟩ : Gt)])) c70, .slice none 0 0] 151 (0, 0)) :: (key69, sob EG 99 (((adS n gs ra rb i).1) ++ [(⟨(1 : Int), (ra).getD (i + 1) 0, (rb).getD (i + 1) 0⟩ : Gt)] ++ [(⟨(1 : Int), wx62, (adS n gs ra rb i).2.2⟩ : Gt)]) sp71) :: (some b13, .cells (cel EI (padW ((adS n gs ra rb i).2.1))).toArray 153 (0, 0)) :: (some b1, .cells (cel EI ra).toArray 153 (0, 0)) :: (some b5, .cells (cel EI rb).toArray 153 (0, 0)) :: (some b9, .cells (cel EI (List.replicate 64 0)).toArray 153 (0, 0)) :: R) | 3, [v0, v1, _] => ∃ (wx62 : Int) (wx77 : Int) (key69 : Option Nat) (c70 : Nat) (sp71 : List Value), v0 = i64 (wx62) ∧ v1 = i64 (wx77) ∧ True ∧ Sl EG key69 (((adS n gs ra rb i).1) ++ [(⟨(1 : Int), (ra).getD (i + 1) 0, (rb).getD (i + 1) 0⟩ : Gt)] ++ [(⟨(1 : Int), wx62, (adS n gs ra rb i).2.2⟩ : Gt)]) c70 sp71 ∧ wx62 = wrW n ((adS n gs ra rb i).1) ∧ wx77 = wrW n (((adS n gs ra rb i).1) ++ [(⟨(1 : Int), (ra).getD (i + 1) 0, (rb).getD (i + 1) 0⟩ : Gt)]) ∧ Hp No w₀ w' ((some b, .cells #[i64 ((n : Nat)), .slice (ownA key69) (List.length (((adS n gs ra rb i).1) ++ [(⟨(1 : Int), (ra).getD (i + 1) 0, (rb).getD (i + 1) 0⟩ : Gt)] ++ [(⟨(1 : Int), wx62, (adS n gs ra rb i).2.2⟩ : Gt)])) c70, .slice none 0 0] 151 (0, 0)) :: (key69, sob EG 99 (((adS n gs ra rb i).1) ++ [(⟨(1 : Int), (ra).getD (i + 1) 0, (rb).getD (i + 1) 0⟩ : Gt)] ++ [(⟨(1 : Int), wx62, (adS n gs ra rb i).2.2⟩ : Gt)]) sp71) :: (some b13, .cells (cel EI ((padW ((adS n gs ra rb i).2.1)).set (i + 1) wx77)).toArray 153 (0, 0)) :: (some b1, .cells (cel EI ra).toArray 153 (0, 0)) :: (some b5, .cells (cel EI rb).toArray 153 (0, 0)) :: (some b9, .cells (cel EI (List.replicate 64 0)).toArray 153 (0, 0)) :: R) | _, _ => False) mixed (by kernel_rfl) (by kernel_rfl) HL.drew ?_
    refine WalkC.look rfl (fun _ => i64 (((i + 1) : Nat))) (fun _ _ _ => rfl) (fun q r uw _ _ _ _ => Gives.run rfl (r_move (v := i64 (((i + 1) : Nat))) rfl) ⟨rfl, rfl⟩) ?_
    refine WalkC.look rfl (fun _ => .pointer (some ⟨b, 0, none⟩)) (fun _ _ _ => rfl) (fun q r uw _ _ _ _ => Gives.run rfl (r_move (v := .pointer (some ⟨b, 0, none⟩)) rfl) ⟨rfl, rfl⟩) ?_
    refine WalkC.look rfl (fun _ => .pointer (some ⟨b, 0, none⟩)) (fun _ _ _ => rfl) (fun q r uw _ _ _ _ => Gives.run rfl (r_move (v := .pointer (some ⟨b, 0, none⟩)) rfl) ⟨rfl, rfl⟩) ?_
    refine WalkC.look rfl (fun _ => i64 (((i + 1) : Nat))) (fun _ _ _ => rfl) (fun q r uw _ _ _ _ => Gives.run rfl (r_move (v := i64 (((i + 1) : Nat))) rfl) ⟨rfl, rfl⟩) ?_
    refine WalkC.look rfl (fun _ => .pointer (some ⟨b1, (i + 1), none⟩)) (fun _ _ _ => rfl) (fun q r uw _ _ _ _ => Gives.run rfl (r_indexA (off' := (i + 1)) (j := (i + 1)) arr153 (b := b1) (off := 0) rfl rfl (by first | rfl | omega | (simp; omega)) (by omega) (by omega)) ⟨rfl, rfl⟩) ?_
    refine WalkC.look rfl (fun _ => i64 ((ra).getD (i + 1) 0)) (fun _ _ _ => rfl) (fun q r uw hlo hhi hle hF => ?_) ?_
    · skip
      have h1 : 0 ≤ q := Nat.zero_le _
      have h2 : q ≤ 0 := hhi 0 9 rfl rfl
      rcases (show q = 0 by omega) with rfl
      · skip
        have HH := hF
        exact Gives.run rfl (r_ld1 (E := EI) (l := ra) (j := (i + 1)) (a := (ra).getD (i + 1) 0) fits3 (HH.get (k := 3) rfl) (at_getD (by first | omega | (simp only [List.length_set]; omega) | exact Nat.le_of_ble_eq_true rfl | (simp <;> omega))) rfl rfl) ⟨rfl, rfl⟩
    refine WalkC.look rfl (fun _ => i64 (((i + 1) : Nat))) (fun _ _ _ => rfl) (fun q r uw _ _ _ _ => Gives.run rfl (r_move (v := i64 (((i + 1) : Nat))) rfl) ⟨rfl, rfl⟩) ?_
    refine WalkC.look rfl (fun _ => .pointer (some ⟨b5, (i + 1), none⟩)) (fun _ _ _ => rfl) (fun q r uw _ _ _ _ => Gives.run rfl (r_indexA (off' := (i + 1)) (j := (i + 1)) arr153 (b := b5) (off := 0) rfl rfl (by first | rfl | omega | (simp; omega)) (by omega) (by omega)) ⟨rfl, rfl⟩) ?_
    refine WalkC.look rfl (fun _ => i64 ((rb).getD (i + 1) 0)) (fun _ _ _ => rfl) (fun q r uw hlo hhi hle hF => ?_) ?_
    · skip
      have h1 : 0 ≤ q := Nat.zero_le _
      have h2 : q ≤ 0 := hhi 0 9 rfl rfl
      rcases (show q = 0 by omega) with rfl
      · skip
        have HH := hF
        exact Gives.run rfl (r_ld1 (E := EI) (l := rb) (j := (i + 1)) (a := (rb).getD (i + 1) 0) fits3 (HH.get (k := 4) rfl) (at_getD (by first | omega | (simp only [List.length_set]; omega) | exact Nat.le_of_ble_eq_true rfl | (simp <;> omega))) rfl rfl) ⟨rfl, rfl⟩
    refine WalkC.eff 0 rfl (fun r uw48 hF50 => ?_) ?_
    · skip
      have H49 := hF50
      dsimp only [List.take, List.map, List.cons_append, List.nil_append]
      refine Gives.ofW (d := 36) rfl rfl (fun Q' hK => ?_)
      have H51 := (H49).as (L' := ((some b, .cells #[i64 ((n : Nat)), .slice (ownA kz) (List.length ((adS n gs ra rb i).1)) cz, .slice none 0 0] 151 (0, 0)) :: (kz, sob EG 99 ((adS n gs ra rb i).1) sz) :: ((some b13, .cells (cel EI (padW ((adS n gs ra rb i).2.1))).toArray 153 (0, 0)) :: (some b1, .cells (cel EI ra).toArray 153 (0, 0)) :: (some b5, .cells (cel EI rb).toArray 153 (0, 0)) :: (some b9, .cells (cel EI (List.replicate 64 0)).toArray 153 (0, 0)) :: R))) rfl
      refine c_call (vs := [.pointer (some ⟨b, 0, none⟩), i64 ((1 : Int)), i64 ((ra).getD (i + 1) 0), i64 ((rb).getD (i + 1) 0)]) call76 rfl (gate_ok b n kz cz sz ((adS n gs ra rb i).1) hSz hn (by omega) (1 : Int) ((ra).getD (i + 1) 0) ((rb).getD (i + 1) 0) ((some b13, .cells (cel EI (padW ((adS n gs ra rb i).2.1))).toArray 153 (0, 0)) :: (some b1, .cells (cel EI ra).toArray 153 (0, 0)) :: (some b5, .cells (cel EI rb).toArray 153 (0, 0)) :: (some b9, .cells (cel EI (List.replicate 64 0)).toArray 153 (0, 0)) :: R) w₀ uw48 H51) ?_
      rintro wv60 w52 ⟨hwv61, key54, c55, sp56, hS57, HN58⟩
      obtain ⟨wx62, hwx62⟩ : ∃ q, q = wrW n ((adS n gs ra rb i).1) := ⟨_, rfl⟩
      rw [← hwx62] at hwv61
      subst hwv61
      have H59 := HN58.as (L' := ((some b, .cells #[i64 ((n : Nat)), .slice (ownA key54) (List.length (((adS n gs ra rb i).1) ++ [(⟨(1 : Int), (ra).getD (i + 1) 0, (rb).getD (i + 1) 0⟩ : Gt)])) c55, .slice none 0 0] 151 (0, 0)) :: (key54, sob EG 99 (((adS n gs ra rb i).1) ++ [(⟨(1 : Int), (ra).getD (i + 1) 0, (rb).getD (i + 1) 0⟩ : Gt)]) sp56) :: (some b13, .cells (cel EI (padW ((adS n gs ra rb i).2.1))).toArray 153 (0, 0)) :: (some b1, .cells (cel EI ra).toArray 153 (0, 0)) :: (some b5, .cells (cel EI rb).toArray 153 (0, 0)) :: (some b9, .cells (cel EI (List.replicate 64 0)).toArray 153 (0, 0)) :: R)) rfl
      exact hK _ _ ⟨wx62, key54, c55, sp56, rfl, hS57, hwx62, H59⟩
    refine WalkC.look rfl (fun _ => i64 ((adS n gs ra rb i).2.2)) (fun _ _ _ => rfl) (fun q r uw _ _ _ _ => Gives.run rfl (r_move (v := i64 ((adS n gs ra rb i).2.2)) rfl) ⟨rfl, rfl⟩) ?_
    refine WalkC.eff 1 rfl (fun r uw63 hF65 => ?_) ?_
    · skip
      obtain ⟨wx62, key54, c55, sp56, e9, hS57, hwx62, H64⟩ := hF65
      dsimp only [List.take, List.map, List.cons_append, List.nil_append]
      rw [e9]
      refine Gives.ofW (d := 38) rfl rfl (fun Q' hK => ?_)
      have H66 := (H64).as (L' := ((some b, .cells #[i64 ((n : Nat)), .slice (ownA key54) (List.length (((adS n gs ra rb i).1) ++ [(⟨(1 : Int), (ra).getD (i + 1) 0, (rb).getD (i + 1) 0⟩ : Gt)])) c55, .slice none 0 0] 151 (0, 0)) :: (key54, sob EG 99 (((adS n gs ra rb i).1) ++ [(⟨(1 : Int), (ra).getD (i + 1) 0, (rb).getD (i + 1) 0⟩ : Gt)]) sp56) :: ((some b13, .cells (cel EI (padW ((adS n gs ra rb i).2.1))).toArray 153 (0, 0)) :: (some b1, .cells (cel EI ra).toArray 153 (0, 0)) :: (some b5, .cells (cel EI rb).toArray 153 (0, 0)) :: (some b9, .cells (cel EI (List.replicate 64 0)).toArray 153 (0, 0)) :: R))) rfl
      refine c_call (vs := [.pointer (some ⟨b, 0, none⟩), i64 ((1 : Int)), i64 (wx62), i64 ((adS n gs ra rb i).2.2)]) call76 rfl (gate_ok b n key54 c55 sp56 (((adS n gs ra rb i).1) ++ [(⟨(1 : Int), (ra).getD (i + 1) 0, (rb).getD (i + 1) 0⟩ : Gt)]) hS57 hn (by simp only [List.length_append, List.length_cons, List.length_nil]; omega) (1 : Int) wx62 ((adS n gs ra rb i).2.2) ((some b13, .cells (cel EI (padW ((adS n gs ra rb i).2.1))).toArray 153 (0, 0)) :: (some b1, .cells (cel EI ra).toArray 153 (0, 0)) :: (some b5, .cells (cel EI rb).toArray 153 (0, 0)) :: (some b9, .cells (cel EI (List.replicate 64 0)).toArray 153 (0, 0)) :: R) w₀ uw63 H66) ?_
      rintro wv75 w67 ⟨hwv76, key69, c70, sp71, hS72, HN73⟩
      obtain ⟨wx77, hwx77⟩ : ∃ q, q = wrW n (((adS n gs ra rb i).1) ++ [(⟨(1 : Int), (ra).getD (i + 1) 0, (rb).getD (i + 1) 0⟩ : Gt)]) := ⟨_, rfl⟩
      rw [← hwx77] at hwv76
      subst hwv76
      have H74 := HN73.as (L' := ((some b, .cells #[i64 ((n : Nat)), .slice (ownA key69) (List.length (((adS n gs ra rb i).1) ++ [(⟨(1 : Int), (ra).getD (i + 1) 0, (rb).getD (i + 1) 0⟩ : Gt)] ++ [(⟨(1 : Int), wx62, (adS n gs ra rb i).2.2⟩ : Gt)])) c70, .slice none 0 0] 151 (0, 0)) :: (key69, sob EG 99 (((adS n gs ra rb i).1) ++ [(⟨(1 : Int), (ra).getD (i + 1) 0, (rb).getD (i + 1) 0⟩ : Gt)] ++ [(⟨(1 : Int), wx62, (adS n gs ra rb i).2.2⟩ : Gt)]) sp71) :: (some b13, .cells (cel EI (padW ((adS n gs ra rb i).2.1))).toArray 153 (0, 0)) :: (some b1, .cells (cel EI ra).toArray 153 (0, 0)) :: (some b5, .cells (cel EI rb).toArray 153 (0, 0)) :: (some b9, .cells (cel EI (List.replicate 64 0)).toArray 153 (0, 0)) :: R)) rfl
      exact hK _ _ ⟨wx62, wx77, key69, c70, sp71, rfl, rfl, hS72, hwx62, hwx77, H74⟩
    refine WalkC.look rfl (fun _ => .pointer (some ⟨b13, (i + 1), none⟩)) (fun _ _ _ => rfl) (fun q r uw _ _ _ _ => Gives.run rfl (r_indexA (off' := (i + 1)) (j := (i + 1)) arr153 (b := b13) (off := 0) rfl rfl (by first | rfl | omega | (simp; omega)) (by omega) (by omega)) ⟨rfl, rfl⟩) ?_
    refine WalkC.eff 2 rfl (fun r uw78 hF80 => ?_) ?_
    · skip
      obtain ⟨wx62, wx77, key69, c70, sp71, e9, e11, hS72, hwx62, hwx77, H79⟩ := hF80
      dsimp only [List.take, List.map, List.cons_append, List.nil_append]
      rw [e9, e11]
      refine Gives.ofW0 rfl (fun Q' hK => ?_)
      refine d_store (k := 2) (v := i64 (wx77)) (cs' := (cel EI ((padW ((adS n gs ra rb i).2.1)).set (i + 1) wx77)).toArray) H79 rfl rfl rfl siz3 (by rfl) (by exact EI.one _) (by rw [List.size_toArray, cel_length]; show _ ≤ _ * 1; first | omega | (simp only [List.length_set]; omega) | exact Nat.le_of_ble_eq_true rfl | (simp <;> omega)) (by exact put1 (E := EI) rfl _ _ _) ?_
      intro w81 H82 hC83
      have H82' := H82.as (L' := ((some b, .cells #[i64 ((n : Nat)), .slice (ownA key69) (List.length (((adS n gs ra rb i).1) ++ [(⟨(1 : Int), (ra).getD (i + 1) 0, (rb).getD (i + 1) 0⟩ : Gt)] ++ [(⟨(1 : Int), wx62, (adS n gs ra rb i).2.2⟩ : Gt)])) c70, .slice none 0 0] 151 (0, 0)) :: (key69, sob EG 99 (((adS n gs ra rb i).1) ++ [(⟨(1 : Int), (ra).getD (i + 1) 0, (rb).getD (i + 1) 0⟩ : Gt)] ++ [(⟨(1 : Int), wx62, (adS n gs ra rb i).2.2⟩ : Gt)]) sp71) :: (some b13, .cells (cel EI ((padW ((adS n gs ra rb i).2.1)).set (i + 1) wx77)).toArray 153 (0, 0)) :: (some b1, .cells (cel EI ra).toArray 153 (0, 0)) :: (some b5, .cells (cel EI rb).toArray 153 (0, 0)) :: (some b9, .cells (cel EI (List.replicate 64 0)).toArray 153 (0, 0)) :: R)) rfl
      clear H82
      exact hK _ (fun _ => ⟨wx62, wx77, key69, c70, sp71, rfl, rfl, trivial, hS72, hwx62, hwx77, H82'⟩)
    refine WalkC.nil ?_
    intro r84 w85 hF87
    obtain ⟨wx62, wx77, key69, c70, sp71, e9, e11, e13, hS72, hwx62, hwx77, H86⟩ := hF87
    dsimp only
    rw [e9, e11]
    subst hwx77
    subst hwx62
    have e88 : ((adS n gs ra rb i).1) ++ [(⟨(1 : Int), (ra).getD (i + 1) 0, (rb).getD (i + 1) 0⟩ : Gt)] ++ [(⟨(1 : Int), (wrW n ((adS n gs ra rb i).1)), (adS n gs ra rb i).2.2⟩ : Gt)] = adP n ((adS n gs ra rb i).1) (ra.getD (i + 1) 0) (rb.getD (i + 1) 0) (adS n gs ra rb i).2.2 := by rfl
    have hS89 := hS72
    rw [e88] at hS89
    have H90 : Hp No w₀ w85 ((some b, .cells #[i64 ((n : Nat)), .slice (ownA key69) (List.length (adP n ((adS n gs ra rb i).1) (ra.getD (i + 1) 0) (rb.getD (i + 1) 0) (adS n gs ra rb i).2.2)) c70, .slice none 0 0] 151 (0, 0)) :: (key69, sob EG 99 (adP n ((adS n gs ra rb i).1) (ra.getD (i + 1) 0) (rb.getD (i + 1) 0) (adS n gs ra rb i).2.2) sp71) :: (some b13, .cells (cel EI ((padW ((adS n gs ra rb i).2.1)).set (i + 1) (wrW n (((adS n gs ra rb i).1) ++ [(⟨(1 : Int), (ra).getD (i + 1) 0, (rb).getD (i + 1) 0⟩ : Gt)])))).toArray 153 (0, 0)) :: (some b1, .cells (cel EI ra).toArray 153 (0, 0)) :: (some b5, .cells (cel EI rb).toArray 153 (0, 0)) :: (some b9, .cells (cel EI (List.replicate 64 0)).toArray 153 (0, 0)) :: R) := by rw [← e88]; exact H86
    rw [padW_set (l := (adS n gs ra rb i).2.1) _ hal.2 (by omega)] at H90
    have H91 := H90.as (L' := ((some b, .cells #[i64 ((n : Nat)), .slice (ownA key69) (List.length (adP n ((adS n gs ra rb i).1) (ra.getD (i + 1) 0) (rb.getD (i + 1) 0) (adS n gs ra rb i).2.2)) c70, .slice none 0 0] 151 (0, 0)) :: (key69, sob EG 99 (adP n ((adS n gs ra rb i).1) (ra.getD (i + 1) 0) (rb.getD (i + 1) 0) (adS n gs ra rb i).2.2) sp71) :: (some b13, .cells (cel EI (padW ((adS n gs ra rb i).2.1 ++ [wrW n ((adS n gs ra rb i).1 ++ [(⟨1, ra.getD (i + 1) 0, rb.getD (i + 1) 0⟩ : Gt)])]))).toArray 153 (0, 0)) :: (some b1, .cells (cel EI ra).toArray 153 (0, 0)) :: (some b5, .cells (cel EI rb).toArray 153 (0, 0)) :: (some b9, .cells (cel EI (List.replicate 64 0)).toArray 153 (0, 0)) :: R)) rfl
    refine wnil ?_
    refine thenNormal ?_
    refine seqRegion ?_
    refine sq (r_move (v := i64 (((i + 1) : Nat))) rfl) ?_
    refine sq (r_lssI (a := ((i + 1) : Nat)) (b := (63 : Int)) rfl rfl) ?_
    refine wend ?_
    refine condProp ((((i + 1) : Nat) : Int) < (63 : Int)) rfl (fun c41 => ?_) (fun c41 => ?_)
    · skip
      refine drawC (m := 10) [0, 0, 2, 6, 0, 16, 48, 0, 255, 511] [8] (fun q vs w' => match q, vs with | 0, [] => Hp No w₀ w' ((some b, .cells #[i64 ((n : Nat)), .slice (ownA key69) (List.length (adP n ((adS n gs ra rb i).1) (ra.getD (i + 1) 0) (rb.getD (i + 1) 0) (adS n gs ra rb i).2.2)) c70, .slice none 0 0] 151 (0, 0)) :: (key69, sob EG 99 (adP n ((adS n gs ra rb i).1) (ra.getD (i + 1) 0) (rb.getD (i + 1) 0) (adS n gs ra rb i).2.2) sp71) :: (some b13, .cells (cel EI (padW ((adS n gs ra rb i).2.1 ++ [wrW n ((adS n gs ra rb i).1 ++ [(⟨1, ra.getD (i + 1) 0, rb.getD (i + 1) 0⟩ : Gt)])]))).toArray 153 (0, 0)) :: (some b1, .cells (cel EI ra).toArray 153 (0, 0)) :: (some b5, .cells (cel EI rb).toArray 153 (0, 0)) :: (some b9, .cells (cel EI (List.replicate 64 0)).toArray 153 (0, 0)) :: R) | 1, [v0] => ∃ (wx106 : Int) (key98 : Option Nat) (c99 : Nat) (sp100 : List Value), v0 = i64 (wx106) ∧ Sl EG key98 (caG n (adP n ((adS n gs ra rb i).1) (ra.getD (i + 1) 0) (rb.getD (i + 1) 0) (adS n gs ra rb i).2.2) ((ra).getD (i + 1) 0) ((rb).getD (i + 1) 0) ((adS n gs ra rb i).2.2)) c99 sp100 ∧ wx106 = caW n (adP n ((adS n gs ra rb i).1) (ra.getD (i + 1) 0) (rb.getD (i + 1) 0) (adS n gs ra rb i).2.2) ∧ Hp No w₀ w' ((some b, .cells #[i64 ((n : Nat)), .slice (ownA key98) (List.length (caG n (adP n ((adS n gs ra rb i).1) (ra.getD (i + 1) 0) (rb.getD (i + 1) 0) (adS n gs ra rb i).2.2) ((ra).getD (i + 1) 0) ((rb).getD (i + 1) 0) ((adS n gs ra rb i).2.2))) c99, .slice none 0 0] 151 (0, 0)) :: (key98, sob EG 99 (caG n (adP n ((adS n gs ra rb i).1) (ra.getD (i + 1) 0) (rb.getD (i + 1) 0) (adS n gs ra rb i).2.2) ((ra).getD (i + 1) 0) ((rb).getD (i + 1) 0) ((adS n gs ra rb i).2.2)) sp100) :: (some b13, .cells (cel EI (padW ((adS n gs ra rb i).2.1 ++ [wrW n ((adS n gs ra rb i).1 ++ [(⟨1, ra.getD (i + 1) 0, rb.getD (i + 1) 0⟩ : Gt)])]))).toArray 153 (0, 0)) :: (some b1, .cells (cel EI ra).toArray 153 (0, 0)) :: (some b5, .cells (cel EI rb).toArray 153 (0, 0)) :: (some b9, .cells (cel EI (List.replicate 64 0)).toArray 153 (0, 0)) :: R) | _, _ => False) mixed (by kernel_rfl) (by kernel_rfl) H91.drew ?_
      refine WalkC.look rfl (fun _ => .pointer (some ⟨b, 0, none⟩)) (fun _ _ _ => rfl) (fun q r uw _ _ _ _ => Gives.run rfl (r_move (v := .pointer (some ⟨b, 0, none⟩)) rfl) ⟨rfl, rfl⟩) ?_
      refine WalkC.look rfl (fun _ => i64 (((i + 1) : Nat))) (fun _ _ _ => rfl) (fun q r uw _ _ _ _ => Gives.run rfl (r_move (v := i64 (((i + 1) : Nat))) rfl) ⟨rfl, rfl⟩) ?_
      refine WalkC.look rfl (fun _ => .pointer (some ⟨b1, (i + 1), none⟩)) (fun _ _ _ => rfl) (fun q r uw _ _ _ _ => Gives.run rfl (r_indexA (off' := (i + 1)) (j := (i + 1)) arr153 (b := b1) (off := 0) rfl rfl (by first | rfl | omega | (simp; omega)) (by omega) (by omega)) ⟨rfl, rfl⟩) ?_
      refine WalkC.look rfl (fun _ => i64 ((ra).getD (i + 1) 0)) (fun _ _ _ => rfl) (fun q r uw hlo hhi hle hF => ?_) ?_
      · skip
        have h1 : 0 ≤ q := Nat.zero_le _
        have h2 : q ≤ 0 := hhi 0 8 rfl rfl
        rcases (show q = 0 by omega) with rfl
        · skip
          have HH := hF
          exact Gives.run rfl (r_ld1 (E := EI) (l := ra) (j := (i + 1)) (a := (ra).getD (i + 1) 0) fits3 (HH.get (k := 3) rfl) (at_getD (by first | omega | (simp only [List.length_set]; omega) | exact Nat.le_of_ble_eq_true rfl | (simp <;> omega))) rfl rfl) ⟨rfl, rfl⟩
      refine WalkC.look rfl (fun _ => i64 (((i + 1) : Nat))) (fun _ _ _ => rfl) (fun q r uw _ _ _ _ => Gives.run rfl (r_move (v := i64 (((i + 1) : Nat))) rfl) ⟨rfl, rfl⟩) ?_
      refine WalkC.look rfl (fun _ => .pointer (some ⟨b5, (i + 1), none⟩)) (fun _ _ _ => rfl) (fun q r uw _ _ _ _ => Gives.run rfl (r_indexA (off' := (i + 1)) (j := (i + 1)) arr153 (b := b5) (off := 0) rfl rfl (by first | rfl | omega | (simp; omega)) (by omega) (by omega)) ⟨rfl, rfl⟩) ?_
      refine WalkC.look rfl (fun _ => i64 ((rb).getD (i + 1) 0)) (fun _ _ _ => rfl) (fun q r uw hlo hhi hle hF => ?_) ?_
      · skip
        have h1 : 0 ≤ q := Nat.zero_le _
        have h2 : q ≤ 0 := hhi 0 8 rfl rfl
        rcases (show q = 0 by omega) with rfl
        · skip
          have HH := hF
          exact Gives.run rfl (r_ld1 (E := EI) (l := rb) (j := (i + 1)) (a := (rb).getD (i + 1) 0) fits3 (HH.get (k := 4) rfl) (at_getD (by first | omega | (simp only [List.length_set]; omega) | exact Nat.le_of_ble_eq_true rfl | (simp <;> omega))) rfl rfl) ⟨rfl, rfl⟩
      refine WalkC.look rfl (fun _ => i64 ((adS n gs ra rb i).2.2)) (fun _ _ _ => rfl) (fun q r uw _ _ _ _ => Gives.run rfl (r_move (v := i64 ((adS n gs ra rb i).2.2)) rfl) ⟨rfl, rfl⟩) ?_
      refine WalkC.eff 0 rfl (fun r uw92 hF94 => ?_) ?_
      · skip
        have H93 := hF94
        dsimp only [List.take, List.map, List.cons_append, List.nil_append]
        refine Gives.ofW (d := 50) rfl rfl (fun Q' hK => ?_)
        have H95 := (H93).as (L' := ((some b, .cells #[i64 ((n : Nat)), .slice (ownA key69) (List.length (adP n ((adS n gs ra rb i).1) (ra.getD (i + 1) 0) (rb.getD (i + 1) 0) (adS n gs ra rb i).2.2)) c70, .slice none 0 0] 151 (0, 0)) :: (key69, sob EG 99 (adP n ((adS n gs ra rb i).1) (ra.getD (i + 1) 0) (rb.getD (i + 1) 0) (adS n gs ra rb i).2.2) sp71) :: ((some b13, .cells (cel EI (padW ((adS n gs ra rb i).2.1 ++ [wrW n ((adS n gs ra rb i).1 ++ [(⟨1, ra.getD (i + 1) 0, rb.getD (i + 1) 0⟩ : Gt)])]))).toArray 153 (0, 0)) :: (some b1, .cells (cel EI ra).toArray 153 (0, 0)) :: (some b5, .cells (cel EI rb).toArray 153 (0, 0)) :: (some b9, .cells (cel EI (List.replicate 64 0)).toArray 153 (0, 0)) :: R))) rfl
        refine c_call (vs := [.pointer (some ⟨b, 0, none⟩), i64 ((ra).getD (i + 1) 0), i64 ((rb).getD (i + 1) 0), i64 ((adS n gs ra rb i).2.2)]) call104 rfl (carry_ok b n key69 c70 sp71 (adP n ((adS n gs ra rb i).1) (ra.getD (i + 1) 0) (rb.getD (i + 1) 0) (adS n gs ra rb i).2.2) hS89 hn (by simp only [adP_len]; omega) ((ra).getD (i + 1) 0) ((rb).getD (i + 1) 0) ((adS n gs ra rb i).2.2) ((some b13, .cells (cel EI (padW ((adS n gs ra rb i).2.1 ++ [wrW n ((adS n gs ra rb i).1 ++ [(⟨1, ra.getD (i + 1) 0, rb.getD (i + 1) 0⟩ : Gt)])]))).toArray 153 (0, 0)) :: (some b1, .cells (cel EI ra).toArray 153 (0, 0)) :: (some b5, .cells (cel EI rb).toArray 153 (0, 0)) :: (some b9, .cells (cel EI (List.replicate 64 0)).toArray 153 (0, 0)) :: R) w₀ uw92 H95) ?_
        rintro wv104 w96 ⟨hwv105, key98, c99, sp100, hS101, HN102⟩
        obtain ⟨wx106, hwx106⟩ : ∃ q, q = caW n (adP n ((adS n gs ra rb i).1) (ra.getD (i + 1) 0) (rb.getD (i + 1) 0) (adS n gs ra rb i).2.2) := ⟨_, rfl⟩
        rw [← hwx106] at hwv105
        subst hwv105
        have H103 := HN102.as (L' := ((some b, .cells #[i64 ((n : Nat)), .slice (ownA key98) (List.length (caG n (adP n ((adS n gs ra rb i).1) (ra.getD (i + 1) 0) (rb.getD (i + 1) 0) (adS n gs ra rb i).2.2) ((ra).getD (i + 1) 0) ((rb).getD (i + 1) 0) ((adS n gs ra rb i).2.2))) c99, .slice none 0 0] 151 (0, 0)) :: (key98, sob EG 99 (caG n (adP n ((adS n gs ra rb i).1) (ra.getD (i + 1) 0) (rb.getD (i + 1) 0) (adS n gs ra rb i).2.2) ((ra).getD (i + 1) 0) ((rb).getD (i + 1) 0) ((adS n gs ra rb i).2.2)) sp100) :: (some b13, .cells (cel EI (padW ((adS n gs ra rb i).2.1 ++ [wrW n ((adS n gs ra rb i).1 ++ [(⟨1, ra.getD (i + 1) 0, rb.getD (i + 1) 0⟩ : Gt)])]))).toArray 153 (0, 0)) :: (some b1, .cells (cel EI ra).toArray 153 (0, 0)) :: (some b5, .cells (cel EI rb).toArray 153 (0, 0)) :: (some b9, .cells (cel EI (List.replicate 64 0)).toArray 153 (0, 0)) :: R)) rfl
        exact hK _ _ ⟨wx106, key98, c99, sp100, rfl, hS101, hwx106, H103⟩
      refine WalkC.look rfl (fun r => r 8) (fun r r' h => h 8 (by decide) rfl) (fun q r uw _ _ _ _ => Gives.run rfl (r_assign rfl) ⟨rfl, rfl⟩) ?_
      refine WalkC.nil ?_
      intro r107 w108 hF110
      obtain ⟨wx106, key98, c99, sp100, e8, hS101, hwx106, H109⟩ := hF110
      dsimp only
      rw [e8]
      subst hwx106
      refine wnil ?_
      refine blockNormal ?_
      refine thenNormal ?_
      refine oneRegion ?_
      refine sq (r_move (v := i64 (((i + 1) : Nat))) rfl) ?_
      refine sq ((r_addI (a := ((i + 1) : Nat)) (b := (1 : Int)) rfl rfl (by omega)).as (v' := i64 (((i + 1 + 1) : Nat))) (by rfl)) ?_
      refine sq (r_assign (v := i64 (((i + 1 + 1) : Nat))) rfl) ?_
      refine wnil ?_
      refine thenNormal ?_
      have e111 : caG n (adP n ((adS n gs ra rb i).1) (ra.getD (i + 1) 0) (rb.getD (i + 1) 0) (adS n gs ra rb i).2.2) ((ra).getD (i + 1) 0) ((rb).getD (i + 1) 0) ((adS n gs ra rb i).2.2) = (adS n gs ra rb (i + 1)).1 := by rw [adS, if_pos (by omega)]
      have hS112 := hS101
      rw [e111] at hS112
      have H113 : Hp No w₀ w108 ((some b, .cells #[i64 ((n : Nat)), .slice (ownA key98) (List.length ((adS n gs ra rb (i + 1)).1)) c99, .slice none 0 0] 151 (0, 0)) :: (key98, sob EG 99 ((adS n gs ra rb (i + 1)).1) sp100) :: (some b13, .cells (cel EI (padW ((adS n gs ra rb i).2.1 ++ [wrW n ((adS n gs ra rb i).1 ++ [(⟨1, ra.getD (i + 1) 0, rb.getD (i + 1) 0⟩ : Gt)])]))).toArray 153 (0, 0)) :: (some b1, .cells (cel EI ra).toArray 153 (0, 0)) :: (some b5, .cells (cel EI rb).toArray 153 (0, 0)) :: (some b9, .cells (cel EI (List.replicate 64 0)).toArray 153 (0, 0)) :: R) := by rw [← e111]; exact H109
      rw [show (adS n gs ra rb i).2.1 ++ [wrW n ((adS n gs ra rb i).1 ++ [(⟨1, ra.getD (i + 1) 0, rb.getD (i + 1) 0⟩ : Gt)])] = (adS n gs ra rb (i + 1)).2.1 from by rw [adS, if_pos (by omega)]] at H113
      exact ⟨(i + 1, key98, c99, sp100), _, rfl, ⟨rfl, rfl, rfl, rfl, rfl, congrArg i64 (by rw [adS, if_pos (by omega)]), rfl, trivial⟩, ⟨⟨by omega, hS112⟩, H113⟩, by show 63 - (i + 1) < 63 - i; omega⟩
    · skip
      refine skipAny ?_
      refine blockNormal ?_
      refine thenNormal ?_
      refine oneRegion ?_
      refine sq (r_move (v := i64 (((i + 1) : Nat))) rfl) ?_
      refine sq ((r_addI (a := ((i + 1) : Nat)) (b := (1 : Int)) rfl rfl (by omega)).as (v' := i64 (((i + 1 + 1) : Nat))) (by rfl)) ?_
      refine sq (r_assign (v := i64 (((i + 1 + 1) : Nat))) rfl) ?_
      refine wnil ?_
      refine thenNormal ?_
      have e114 : adP n ((adS n gs ra rb i).1) (ra.getD (i + 1) 0) (rb.getD (i + 1) 0) (adS n gs ra rb i).2.2 = (adS n gs ra rb (i + 1)).1 := by rw [adS, if_neg (by omega)]
      have hS115 := hS89
      rw [e114] at hS115
      have H116 : Hp No w₀ w85 ((some b, .cells #[i64 ((n : Nat)), .slice (ownA key69) (List.length ((adS n gs ra rb (i + 1)).1)) c70, .slice none 0 0] 151 (0, 0)) :: (key69, sob EG 99 ((adS n gs ra rb (i + 1)).1) sp71) :: (some b13, .cells (cel EI (padW ((adS n gs ra rb i).2.1 ++ [wrW n ((adS n gs ra rb i).1 ++ [(⟨1, ra.getD (i + 1) 0, rb.getD (i + 1) 0⟩ : Gt)])]))).toArray 153 (0, 0)) :: (some b1, .cells (cel EI ra).toArray 153 (0, 0)) :: (some b5, .cells (cel EI rb).toArray 153 (0, 0)) :: (some b9, .cells (cel EI (List.replicate 64 0)).toArray 153 (0, 0)) :: R) := by rw [← e114]; exact H91
      rw [show (adS n gs ra rb i).2.1 ++ [wrW n ((adS n gs ra rb i).1 ++ [(⟨1, ra.getD (i + 1) 0, rb.getD (i + 1) 0⟩ : Gt)])] = (adS n gs ra rb (i + 1)).2.1 from by rw [adS, if_neg (by omega)]] at H116
      exact ⟨(i + 1, key69, c70, sp71), _, rfl, ⟨rfl, rfl, rfl, rfl, rfl, congrArg i64 (by rw [adS, if_neg (by omega)]), rfl, trivial⟩, ⟨⟨by omega, hS115⟩, H116⟩, by show 63 - (i + 1) < 63 - i; omega⟩
  · skip
    have hie : i = 63 := by omega
    have hrl : (adS n gs ra rb i).2.1.length = 64 := by rw [hal.2, hie]
    rw [padW_full hrl] at HL
    refine exitAny ?_
    refine thenExit ?_
    refine thenExit ?_
    refine blockHere ?_
    refine thenNormal ?_
    refine seqRegion ?_
    refine sq (r_loadA (cs' := (cel EI ((adS n gs ra rb i).2.1)).toArray) agg153 siz153 (HL.get (k := 2) rfl) (off := 0) rfl (by rw [List.size_toArray, cel_length]; show _ ≤ _ * 1; omega) (by exact ext_all (by rw [cel_length]; show _ * 1 = _; omega))) ?_
    refine d_store (k := 5) (v := .agg (cel EI ((adS n gs ra rb i).2.1)).toArray) (cs' := (cel EI ((adS n gs ra rb i).2.1)).toArray) HL rfl rfl rfl siz153 (by exact celSize (by rw [hrl]; rfl)) (by exact celOne _) (by rw [List.size_toArray, cel_length]; show _ ≤ _ * 1; first | omega | (simp only [List.length_set]; omega) | exact Nat.le_of_ble_eq_true rfl | (simp <;> omega)) (by exact putAll (by rw [List.length_replicate]; exact hrl.symm)) ?_
    intro w117 H118 hC119
    have H118' := H118.as (L' := ((some b, .cells #[i64 ((n : Nat)), .slice (ownA kz) (List.length ((adS n gs ra rb i).1)) cz, .slice none 0 0] 151 (0, 0)) :: (kz, sob EG 99 ((adS n gs ra rb i).1) sz) :: (some b13, .cells (cel EI ((adS n gs ra rb i).2.1)).toArray 153 (0, 0)) :: (some b1, .cells (cel EI ra).toArray 153 (0, 0)) :: (some b5, .cells (cel EI rb).toArray 153 (0, 0)) :: (some b9, .cells (cel EI ((adS n gs ra rb i).2.1)).toArray 153 (0, 0)) :: R)) rfl
    clear H118
    refine wend ?_
    refine retAny ?_
    refine retG (rs := [.cell 6 153]) (vs := [.agg (cel EI ((adS n gs ra rb i).2.1)).toArray]) rfl ⟨r_loadA (cs' := (cel EI ((adS n gs ra rb i).2.1)).toArray) agg153 siz153 (H118'.get (k := 5) rfl) (off := 0) rfl (by rw [List.size_toArray, cel_length]; show _ ≤ _ * 1; omega) (by exact ext_all (by rw [cel_length]; show _ * 1 = _; omega)), trivial⟩ ?_
    subst hie
    exact ⟨_, rfl, rfl, kz, cz, sz, hSz, ((((H118'.dropk 5).dropk 4).dropk 3).dropk 2)⟩
end Go.Proofs.YteofdmdpaejgaaaDoor.Cm
