/- The walks of the errors. -/
import Derived.Test.YteofdmdpaejgaaaDoorErrD
import Derived.Test.YteofdmdpaejgaaaDoorVcEq
import Derived.Test.YteofdmdpaejgaaaDoorVcAppN
import Derived.Test.YteofdmdpaejgaaaDoorProg
namespace Go.Proofs.YteofdmdpaejgaaaDoor.Er
open Go Go.Proofs.YteofdmdpaejgaaaDoor.Vc
theorem agg196 : isAgg' Tryd.prog 196 = true := by kernel_rfl
theorem call103 : callable Tryd.prog 103 = true := by kernel_rfl
theorem call146 : callable Tryd.prog 146 = true := by kernel_rfl
theorem call71 : callable Tryd.prog 71 = true := by kernel_rfl
theorem call72 : callable Tryd.prog 72 = true := by kernel_rfl
theorem call99 : callable Tryd.prog 99 = true := by kernel_rfl
theorem cmpI57 : cmpI Tryd.prog 57 = true := by kernel_rfl
theorem fld186_3 : fld Tryd.prog 186 3 = some (3, 1, 27) := by kernel_rfl
theorem hs183_226 : hasI Tryd.prog 183 226 = true := by kernel_rfl
theorem isI20 : isI Tryd.prog 20 = true := by kernel_rfl
theorem isI27 : isI Tryd.prog 27 = true := by kernel_rfl
theorem lk183_223 : lacksI Tryd.prog 183 223 = true := by kernel_rfl
theorem lk57_223 : lacksI Tryd.prog 57 223 = true := by kernel_rfl
theorem lk57_226 : lacksI Tryd.prog 57 226 = true := by kernel_rfl
theorem lk57_228 : lacksI Tryd.prog 57 228 = true := by kernel_rfl
theorem lk57_233 : lacksI Tryd.prog 57 233 = true := by kernel_rfl
theorem one190 : isOne Tryd.prog 190 = true := by kernel_rfl
theorem one27 : isOne Tryd.prog 27 = true := by kernel_rfl
theorem pls186 : pls Tryd.prog 186 = some #[(0, 1), (1, 1), (2, 1), (3, 1)] := by kernel_rfl
theorem siz196 : siz Tryd.prog 196 = some 3 := by kernel_rfl
theorem und183 : Tryd.prog.underlying 183 = some (.pointer 186) := by kernel_rfl
theorem und184 : Tryd.prog.underlying 184 = some (.pointer 183) := by kernel_rfl
theorem und57 : Tryd.prog.underlying 57 = some (.int .i64) := by kernel_rfl
theorem zer183 : zer Tryd.prog 183 = some (.pointer none) := by kernel_rfl
theorem zer186 : zer Tryd.prog 186 = some (.agg #[.string ⟨#[]⟩, .int .i64 0, .int .i64 0, .nilIface]) := by kernel_rfl
theorem zer196 : zer Tryd.prog 196 = some (.agg #[.pointer none, .pointer none, .int .u64 0]) := by kernel_rfl
theorem x_typeOf57 (v : Value) (w : World) : Xc Tryd.prog 98 [.iface 57 v] w (fun r w' => r = .iface 221 (.agg #[.pointer (some ⟨1, 57, none⟩)]) ∧ w = w') :=
  Xc.of (e := Extern.ReflectliteType.typeOf) Tryd.func98 (by kernel_rfl) (by kernel_rfl) (by kernel_rfl) (by kernel_rfl) (by kernel_rfl) ⟨rfl, rfl⟩

theorem x_typeOf183 (v : Value) (w : World) : Xc Tryd.prog 98 [.iface 183 v] w (fun r w' => r = .iface 221 (.agg #[.pointer (some ⟨1, 183, none⟩)]) ∧ w = w') :=
  Xc.of (e := Extern.ReflectliteType.typeOf) Tryd.func98 (by kernel_rfl) (by kernel_rfl) (by kernel_rfl) (by kernel_rfl) (by kernel_rfl) ⟨rfl, rfl⟩

theorem x_comparable  (w : World) : Xc Tryd.prog 152 [.agg #[.pointer (some ⟨1, 57, none⟩)]] w (fun r w' => r = .bool true ∧ w = w') :=
  Xc.of (e := (Extern.ReflectliteType.method fun t => do Extern.Rtype.noPackHeld "Comparable" t; pure (.bool (← typeInfo t).comparable))) Tryd.func152 (by kernel_rfl) (by kernel_rfl) (by kernel_rfl) (by kernel_rfl) (by kernel_rfl) ⟨rfl, rfl⟩

theorem x_assign57_183  (w : World) : Xc Tryd.prog 151 [.agg #[.pointer (some ⟨1, 57, none⟩)], .iface 221 (.agg #[.pointer (some ⟨1, 183, none⟩)])] w (fun r w' => r = .bool false ∧ w = w') :=
  Xc.of (e := (Extern.ReflectliteType.relation "AssignableTo" Extern.ReflectliteType.assignableTo)) Tryd.func151 (by kernel_rfl) (by kernel_rfl) (by kernel_rfl) (by kernel_rfl) (by kernel_rfl) ⟨rfl, rfl⟩

theorem x_assign183_183  (w : World) : Xc Tryd.prog 151 [.agg #[.pointer (some ⟨1, 183, none⟩)], .iface 221 (.agg #[.pointer (some ⟨1, 183, none⟩)])] w (fun r w' => r = .bool true ∧ w = w') :=
  Xc.of (e := (Extern.ReflectliteType.relation "AssignableTo" Extern.ReflectliteType.assignableTo)) Tryd.func151 (by kernel_rfl) (by kernel_rfl) (by kernel_rfl) (by kernel_rfl) (by kernel_rfl) ⟨rfl, rfl⟩

theorem x_assign183_57  (w : World) : Xc Tryd.prog 151 [.agg #[.pointer (some ⟨1, 183, none⟩)], .iface 221 (.agg #[.pointer (some ⟨1, 57, none⟩)])] w (fun r w' => r = .bool false ∧ w = w') :=
  Xc.of (e := (Extern.ReflectliteType.relation "AssignableTo" Extern.ReflectliteType.assignableTo)) Tryd.func151 (by kernel_rfl) (by kernel_rfl) (by kernel_rfl) (by kernel_rfl) (by kernel_rfl) ⟨rfl, rfl⟩

theorem x_assign57_57  (w : World) : Xc Tryd.prog 151 [.agg #[.pointer (some ⟨1, 57, none⟩)], .iface 221 (.agg #[.pointer (some ⟨1, 57, none⟩)])] w (fun r w' => r = .bool true ∧ w = w') :=
  Xc.of (e := (Extern.ReflectliteType.relation "AssignableTo" Extern.ReflectliteType.assignableTo)) Tryd.func151 (by kernel_rfl) (by kernel_rfl) (by kernel_rfl) (by kernel_rfl) (by kernel_rfl) ⟨rfl, rfl⟩

theorem x_valueOf184 (t : Addr) (w : World) : Xc Tryd.prog 100 [.iface 184 (.pointer (some t))] w (fun r w' => ∃ b, r = .agg #[.pointer (some ⟨1, 184, none⟩), .pointer (some ⟨b, 0, none⟩), .int .u64 150] ∧ w.heap.size ≤ b ∧ w'.heap[b]? = some (.cells #[.pointer (some t)] 184 (0, 0)) ∧ Ext w w') :=
  Xc.of (e := (fun args => Extern.ReflectliteValue.unpack (args.getD 0 (.tuple #[])))) (v := .agg #[.pointer (some ⟨1, 184, none⟩), .pointer (some ⟨w.heap.size, 0, none⟩), .int .u64 150]) (w' := w.alloc (.cells #[.pointer (some t)] 184)) Tryd.func100 (by kernel_rfl) (by kernel_rfl) (by kernel_rfl) (by kernel_rfl) (by kernel_rfl) ⟨w.heap.size, rfl, Nat.le_refl _, alloc_new _ _, Ext.alloc _ _⟩

theorem x_type184 (a : Addr) (w : World) : Xc Tryd.prog 101 [.agg #[.pointer (some ⟨1, 184, none⟩), .pointer (some a), .int .u64 150]] w (fun r w' => r = .iface 221 (.agg #[.pointer (some ⟨1, 184, none⟩)]) ∧ w = w') :=
  Xc.of (e := (Extern.ReflectliteValue.methodAny (Extern.ReflectliteValue.valueError "reflectlite.Value.Type" 0) (fun t _ _ _ => Extern.ReflectliteType.toType t))) Tryd.func101 (by kernel_rfl) (by kernel_rfl) (by kernel_rfl) (by kernel_rfl) (by kernel_rfl) ⟨rfl, rfl⟩

theorem x_kind184  (w : World) : Xc Tryd.prog 141 [.pointer (some ⟨1, 184, none⟩)] w (fun r w' => r = u8 22#8 ∧ w = w') :=
  Xc.of (e := (Extern.ReflectliteType.abiMethod fun t => do pure (.int .u8 (← Extern.Rtype.kind t)))) Tryd.func141 (by kernel_rfl) (by kernel_rfl) (by kernel_rfl) (by kernel_rfl) (by kernel_rfl) ⟨rfl, rfl⟩

theorem x_kind183  (w : World) : Xc Tryd.prog 141 [.pointer (some ⟨1, 183, none⟩)] w (fun r w' => r = u8 22#8 ∧ w = w') :=
  Xc.of (e := (Extern.ReflectliteType.abiMethod fun t => do pure (.int .u8 (← Extern.Rtype.kind t)))) Tryd.func141 (by kernel_rfl) (by kernel_rfl) (by kernel_rfl) (by kernel_rfl) (by kernel_rfl) ⟨rfl, rfl⟩

theorem rlm (z : Sem Value) (f : TypeId → Addr → Nat → Nat → Sem Value) (v : Value) : Extern.ReflectliteValue.method z f #[v] = (do match ← Extern.ReflectliteValue.parts v with | none => z | some (t, a, fl) => f t a fl (fl % 32)) := rfl

theorem parts184 (a : Addr) (w : World) : (Extern.ReflectliteValue.parts (.agg #[.pointer (some ⟨1, 184, none⟩), .pointer (some a), .int .u64 150])).run Tryd.prog w = .ok (some (184, a, 150)) w := by kernel_rfl

theorem x_isNil184 (a p : Addr) (w : World) (ha : w.cell? a = some (.pointer (some p))) : Xc Tryd.prog 102 [.agg #[.pointer (some ⟨1, 184, none⟩), .pointer (some a), .int .u64 150]] w (fun r w' => r = .bool false ∧ w = w') :=
  Xc.of (e := (Extern.ReflectliteValue.method (Extern.ReflectliteValue.valueError "reflectlite.Value.IsNil" 0) Extern.ReflectliteValue.isNil)) Tryd.func102 (by kernel_rfl) (by kernel_rfl) (by kernel_rfl) (by kernel_rfl) (by show (Extern.ReflectliteValue.method _ _ #[_]).run _ _ = _; rw [rlm]; simp only [Sem.run_bind, parts184, Result.andThen]; simp [Extern.ReflectliteValue.isNil, loadVar, isAgg, underlying, ha, Result.andThen]) ⟨rfl, rfl⟩

theorem x_elem184  (w : World) : Xc Tryd.prog 153 [.agg #[.pointer (some ⟨1, 184, none⟩)]] w (fun r w' => r = .iface 221 (.agg #[.pointer (some ⟨1, 183, none⟩)]) ∧ w = w') :=
  Xc.of (e := (Extern.ReflectliteType.method Extern.ReflectliteType.elem)) Tryd.func153 (by kernel_rfl) (by kernel_rfl) (by kernel_rfl) (by kernel_rfl) (by kernel_rfl) ⟨rfl, rfl⟩

theorem x_impl183  (w : World) : Xc Tryd.prog 154 [.agg #[.pointer (some ⟨1, 183, none⟩)], .iface 221 (.agg #[.pointer (some ⟨1, 27, none⟩)])] w (fun r w' => r = .bool true ∧ w = w') :=
  Xc.of (e := (Extern.ReflectliteType.relation "Implements" Extern.ReflectliteType.implements_)) Tryd.func154 (by kernel_rfl) (by kernel_rfl) (by kernel_rfl) (by kernel_rfl) (by kernel_rfl) ⟨rfl, rfl⟩

theorem m_Comparable (v : Value) : Mth Tryd.prog 221 "Comparable" (.agg #[v]) 152 (.agg #[v]) := fun w => by kernel_rfl

theorem m_AssignableTo (v : Value) : Mth Tryd.prog 221 "AssignableTo" (.agg #[v]) 151 (.agg #[v]) := fun w => by kernel_rfl

theorem m_Elem (v : Value) : Mth Tryd.prog 221 "Elem" (.agg #[v]) 153 (.agg #[v]) := fun w => by kernel_rfl

theorem m_Implements (v : Value) : Mth Tryd.prog 221 "Implements" (.agg #[v]) 154 (.agg #[v]) := fun w => by kernel_rfl

theorem m_Kind (v : Value) : Mth Tryd.prog 221 "Kind" (.agg #[v]) 141 v := fun w => by kernel_rfl

theorem m_Unwrap (v : Value) : Mth Tryd.prog 183 "Unwrap" v 146 v := fun w => by kernel_rfl

theorem handleErr : typeHandle Tryd.prog 27 = .pointer (some ⟨1, 27, none⟩) := by kernel_rfl

theorem unwrap_ok (b : Nat) (nm : ByteArray) (at1 d : Int) (v1 : Value) (w : World) (hb : w.heap[b]? = some (.cells #[.string nm, i64 at1, i64 d, v1] 186 (0, 0))) : Calls Tryd.prog 146 [.pointer (some ⟨b, 0, none⟩)].toArray w (Ret fun v w' => v1 = v ∧ Ext w w') := by
  have H := Hp.start No w
  refine enter (n := 7) Tryd.func146 rfl rfl (Nat.le_of_ble_eq_true rfl) ?_
  refine seqRegion ?_
  refine sq (r_assign (v := .nilIface) rfl) ?_
  refine wend ?_
  refine seqRegion ?_
  refine sq (r_move (v := .pointer (some ⟨b, 0, none⟩)) rfl) ?_
  refine sq (r_nilCheck rfl) ?_
  refine sq (r_fieldAddr (off' := 3) fld186_3 (by decide) (b := b) (off := 0) rfl (by omega)) ?_
  refine sq (r_loadC (v := v1) one27 (H.keepE hb) (off := 3) rfl (by rfl)) ?_
  refine sq (r_assign (v := v1) rfl) ?_
  refine wend ?_
  refine retAny ?_
  refine retG (rs := [.tmp 2]) (vs := [v1]) rfl ⟨⟨rfl, rfl⟩, trivial⟩ ?_
  exact ⟨_, rfl, rfl, H.chg⟩

theorem is0_ok (e e2 : Int) (k : Nat) (v : Value) (lo : Nat) (w : World) (hEr : Er lo w e k v) : Calls Tryd.prog 99 [v, .iface 57 (i64 e2), .bool true].toArray w (Ret fun r w' => r = .bool (decide (e = e2)) ∧ Ext w w') := by
  have H := Hp.start No w
  refine enter (n := 54) Tryd.func99 rfl rfl (Nat.le_of_ble_eq_true rfl) ?_
  refine seqRegion ?_
  refine sq (r_assign (v := .bool (false)) rfl) ?_
  refine wend ?_
  refine blockAny ?_
  refine loopAny (σ := Value × Nat) (fun (v, k) => [(0, v), (1, .iface 57 (i64 e2)), (2, .bool (true))]) (fun (v, k) w' => Er lo w' e k v ∧ Hp No w w' []) (fun (v, k) => k) ((v, k)) ?_ ?_ ?_
  · exact ⟨rfl, rfl, rfl, trivial⟩
  · exact ⟨hEr, H⟩
  rintro ⟨v, k⟩ ρ w1 ⟨hEr, HL⟩
  rcases k with _ | k
  · skip
    obtain rfl : v = .iface 57 (i64 e) := hEr
    refine blockAny ?_
    refine seqAny ?_
    refine seqRegion ?_
    refine sq (r_move (v := .bool (true)) rfl) ?_
    refine sq (r_move (v := .bool (true)) rfl) ?_
    refine sqAny (v := .iface 57 (i64 e)) (w' := w1) (wantedSome (d' := 15) (b := true) rfl rfl rfl) (r_move (v := .iface 57 (i64 e)) rfl) ?_
    refine sqAny (v := .iface 57 (i64 e2)) (w' := w1) (wantedSome (d' := 15) (b := true) rfl rfl rfl) (r_move (v := .iface 57 (i64 e2)) rfl) ?_
    refine sqAny (v := .bool (decide (e = e2))) (w' := w1) (wantedSome (d' := 15) (b := true) rfl rfl rfl) (r_eqlIE isI27 cmpI57 (a := e) (b := e2) rfl rfl) ?_
    refine sq (r_pickT (u := .bool (decide (e = e2))) rfl rfl) ?_
    refine wend ?_
    refine condProp (e = e2) rfl (fun c19 => ?_) (fun c19 => ?_)
    · skip
      refine seqRegion ?_
      refine sq (r_assign (v := .bool (true)) rfl) ?_
      refine wend ?_
      refine retAny ?_
      refine thenRet ?_
      refine blockRet ?_
      refine thenRet ?_
      refine blockRet ?_
      refine retG (rs := [.tmp 6]) (vs := [.bool (true)]) rfl ⟨⟨rfl, rfl⟩, trivial⟩ ?_
      exact ⟨_, rfl, by first | (rw [decide_eq_true c19]; rfl) | (rw [decide_eq_false c19]; rfl), HL.chg⟩
    · skip
      refine skipAny ?_
      refine thenNormal ?_
      refine seqAny ?_
      refine seqRegion ?_
      refine sq (r_move (v := .iface 57 (i64 e)) rfl) ?_
      refine sq (r_lacks lk57_223 rfl) ?_
      refine sq (r_move (v := .tuple #[.nilIface, .bool (false)]) rfl) ?_
      refine sq (r_extract (vs := #[.nilIface, .bool (false)]) rfl rfl) ?_
      refine sq (r_extract (vs := #[.nilIface, .bool (false)]) rfl rfl) ?_
      refine sq (r_assign (v := .nilIface) rfl) ?_
      refine sq (r_assign (v := .bool (false)) rfl) ?_
      refine wend ?_
      refine seqRegion ?_
      refine sq (r_move (v := .bool (false)) rfl) ?_
      refine sq (r_move (v := .bool (false)) rfl) ?_
      refine skAny (wantedSome (d' := 26) (b := false) rfl rfl rfl) ?_
      refine skAny (wantedSome (d' := 26) (b := false) rfl rfl rfl) ?_
      refine skAny (wantedSome (d' := 26) (b := false) rfl rfl rfl) ?_
      refine sq (r_pickF (v := .bool (false)) rfl rfl) ?_
      refine wend ?_
      refine condFalse rfl ?_
      refine skipAny ?_
      refine thenNormal ?_
      refine seqRegion ?_
      refine sq (r_move (v := .iface 57 (i64 e)) rfl) ?_
      refine wend ?_
      refine blockAny ?_
      refine seqRegion ?_
      refine sq (r_lacks lk57_226 rfl) ?_
      refine sq (r_extract (vs := #[.nilIface, .bool (false)]) rfl rfl) ?_
      refine sq (r_extract (vs := #[.nilIface, .bool (false)]) rfl rfl) ?_
      refine wend ?_
      refine condFalse rfl ?_
      refine seqRegion ?_
      refine sq (r_lacks lk57_228 rfl) ?_
      refine sq (r_extract (vs := #[.nilIface, .bool (false)]) rfl rfl) ?_
      refine sq (r_extract (vs := #[.nilIface, .bool (false)]) rfl rfl) ?_
      refine wend ?_
      refine condFalse rfl ?_
      refine seqRegion ?_
      refine sq (r_assign (v := .iface 57 (i64 e)) rfl) ?_
      refine wend ?_
      refine seqRegion ?_
      refine sq (r_assign (v := .bool (false)) rfl) ?_
      refine wend ?_
      refine retAny ?_
      refine blockRet ?_
      refine blockRet ?_
      refine thenRet ?_
      refine blockRet ?_
      refine retG (rs := [.tmp 6]) (vs := [.bool (false)]) rfl ⟨⟨rfl, rfl⟩, trivial⟩ ?_
      exact ⟨_, rfl, by first | (rw [decide_eq_true c19]; rfl) | (rw [decide_eq_false c19]; rfl), HL.chg⟩
  · skip
    obtain ⟨b, nm, at1, v1, rfl, hlo, hb, hEr1⟩ := hEr
    refine blockAny ?_
    refine seqAny ?_
    refine seqRegion ?_
    refine sq (r_move (v := .bool (true)) rfl) ?_
    refine sq (r_move (v := .bool (true)) rfl) ?_
    refine sqAny (v := .iface 183 (.pointer (some ⟨b, 0, none⟩))) (w' := w1) (wantedSome (d' := 15) (b := true) rfl rfl rfl) (r_move (v := .iface 183 (.pointer (some ⟨b, 0, none⟩))) rfl) ?_
    refine sqAny (v := .iface 57 (i64 e2)) (w' := w1) (wantedSome (d' := 15) (b := true) rfl rfl rfl) (r_move (v := .iface 57 (i64 e2)) rfl) ?_
    refine sqAny (v := .bool (false)) (w' := w1) (wantedSome (d' := 15) (b := true) rfl rfl rfl) (r_eqlII isI27 rfl rfl rfl) ?_
    refine sq (r_pickT (u := .bool (false)) rfl rfl) ?_
    refine wend ?_
    refine condFalse rfl ?_
    refine skipAny ?_
    refine thenNormal ?_
    refine seqAny ?_
    refine seqRegion ?_
    refine sq (r_move (v := .iface 183 (.pointer (some ⟨b, 0, none⟩))) rfl) ?_
    refine sq (r_lacks lk183_223 rfl) ?_
    refine sq (r_move (v := .tuple #[.nilIface, .bool (false)]) rfl) ?_
    refine sq (r_extract (vs := #[.nilIface, .bool (false)]) rfl rfl) ?_
    refine sq (r_extract (vs := #[.nilIface, .bool (false)]) rfl rfl) ?_
    refine sq (r_assign (v := .nilIface) rfl) ?_
    refine sq (r_assign (v := .bool (false)) rfl) ?_
    refine wend ?_
    refine seqRegion ?_
    refine sq (r_move (v := .bool (false)) rfl) ?_
    refine sq (r_move (v := .bool (false)) rfl) ?_
    refine skAny (wantedSome (d' := 26) (b := false) rfl rfl rfl) ?_
    refine skAny (wantedSome (d' := 26) (b := false) rfl rfl rfl) ?_
    refine skAny (wantedSome (d' := 26) (b := false) rfl rfl rfl) ?_
    refine sq (r_pickF (v := .bool (false)) rfl rfl) ?_
    refine wend ?_
    refine condFalse rfl ?_
    refine skipAny ?_
    refine thenNormal ?_
    refine seqRegion ?_
    refine sq (r_move (v := .iface 183 (.pointer (some ⟨b, 0, none⟩))) rfl) ?_
    refine wend ?_
    refine blockAny ?_
    refine seqRegion ?_
    refine sq (r_has hs183_226 rfl) ?_
    refine sq (r_extract (vs := #[.iface 183 (.pointer (some ⟨b, 0, none⟩)), .bool (true)]) rfl rfl) ?_
    refine sq (r_extract (vs := #[.iface 183 (.pointer (some ⟨b, 0, none⟩)), .bool (true)]) rfl rfl) ?_
    refine wend ?_
    refine condTrue rfl ?_
    refine seqRegion ?_
    refine sq (r_assign (v := .iface 183 (.pointer (some ⟨b, 0, none⟩))) rfl) ?_
    refine wend ?_
    refine seqRegion ?_
    refine sq (r_move (v := .iface 183 (.pointer (some ⟨b, 0, none⟩))) rfl) ?_
    refine caAny (wantedNone rfl _ _) (Enters.inv (vs := []) call146 rfl (m_Unwrap _) rfl) (unwrap_ok b nm at1 _ v1 w1 hb) ?_
    rintro _ w3 ⟨rfl, hE5⟩
    have H6 := HL.ext hE5
    refine sq (r_assign (v := v1) rfl) ?_
    have hEr2 := hEr1.ext hE5
    obtain ⟨T1, x1, rfl⟩ := hEr2.iface
    refine wend ?_
    refine seqRegion ?_
    refine sq (r_move (v := .iface T1 (x1)) rfl) ?_
    refine sq (r_eqlIN isI27 rfl rfl) ?_
    refine wend ?_
    refine condFalse rfl ?_
    refine skipAny ?_
    refine blockNormal ?_
    refine blockNormal ?_
    refine thenNormal ?_
    exact ⟨(.iface T1 x1, k), _, rfl, ⟨rfl, rfl, rfl, trivial⟩, ⟨hEr2, H6⟩, Nat.lt_succ_self k⟩

theorem is1_ok (e e2 : Int) (k : Nat) (v : Value) (lo : Nat) (w : World) (hEr : Er lo w e k v) : Calls Tryd.prog 71 [v, .iface 57 (i64 e2)].toArray w (Ret fun r w' => r = .bool (decide (e = e2)) ∧ Ext w w') := by
  obtain ⟨T0, x0, rfl⟩ := hEr.iface
  have H := Hp.start No w
  refine enter (n := 22) Tryd.func71 rfl rfl (Nat.le_of_ble_eq_true rfl) ?_
  refine seqRegion ?_
  refine sq (r_assign (v := .bool (false)) rfl) ?_
  refine wend ?_
  refine seqAny ?_
  refine seqRegion ?_
  refine sq (r_move (v := .iface T0 (x0)) rfl) ?_
  refine sq (r_eqlIN isI27 rfl rfl) ?_
  refine sq (r_move (v := .bool (false)) rfl) ?_
  refine sqAny (v := .iface 57 (i64 e2)) (w' := w) (wantedSome (d' := 8) (b := false) rfl rfl rfl) (r_move (v := .iface 57 (i64 e2)) rfl) ?_
  refine sqAny (v := .bool (false)) (w' := w) (wantedSome (d' := 8) (b := false) rfl rfl rfl) (r_eqlIN isI27 rfl rfl) ?_
  refine sq (r_pickF (v := .bool (false)) rfl rfl) ?_
  refine wend ?_
  refine condFalse rfl ?_
  refine skipAny ?_
  refine thenNormal ?_
  refine seqRegion ?_
  refine sq (r_move (v := .iface 57 (i64 e2)) rfl) ?_
  refine sqR (wantedNone rfl _ _) (r_ext (vs := [.iface 57 (i64 e2)]) rfl (x_typeOf57 (i64 e2) w)) ?_
  rintro _ _ ⟨rfl, rfl⟩
  refine sqR (wantedNone rfl _ _) (r_invX (vs := []) rfl (m_Comparable _) rfl (x_comparable w)) ?_
  rintro _ _ ⟨rfl, rfl⟩
  refine sq (r_assign (v := .bool (true)) rfl) ?_
  refine wend ?_
  refine seqRegion ?_
  refine sq (r_move (v := .iface T0 (x0)) rfl) ?_
  refine sq (r_move (v := .iface 57 (i64 e2)) rfl) ?_
  refine sq (r_move (v := .bool (true)) rfl) ?_
  refine c_call (vs := [.iface T0 (x0), .iface 57 (i64 e2), .bool (true)]) call99 rfl (is0_ok e e2 k (.iface T0 x0) lo w (hEr.ext H.chg)) ?_
  rintro _ w5 ⟨rfl, hE6⟩
  have H7 := H.ext hE6
  refine sq (r_assign (v := .bool (decide (e = e2))) rfl) ?_
  refine wend ?_
  refine retAny ?_
  refine retG (rs := [.tmp 4]) (vs := [.bool (decide (e = e2))]) rfl ⟨⟨rfl, rfl⟩, trivial⟩ ?_
  exact ⟨_, rfl, rfl, H7.chg⟩

theorem is_ok (e e2 : Int) (k : Nat) (v : Value) (lo : Nat) (w : World) (hEr : Er lo w e k v) : Calls Tryd.prog 24 [v, i64 e2].toArray w (Ret fun r w' => r = .bool (decide (e = e2)) ∧ Ext w w') := by
  obtain ⟨T0, x0, rfl⟩ := hEr.iface
  have H := Hp.start No w
  refine enter (n := 13) Tryd.func24 rfl rfl (Nat.le_of_ble_eq_true rfl) ?_
  refine seqRegion ?_
  refine sq (r_assign (v := .bool (false)) rfl) ?_
  refine wend ?_
  refine seqRegion ?_
  refine sq (r_move (v := .iface T0 (x0)) rfl) ?_
  refine sq (r_neqIN isI27 rfl rfl) ?_
  refine sq (r_move (v := .bool (true)) rfl) ?_
  refine sqAny (v := .iface T0 (x0)) (w' := w) (wantedSome (d' := 7) (b := true) rfl rfl rfl) (r_move (v := .iface T0 (x0)) rfl) ?_
  refine sqAny (v := i64 (e2)) (w' := w) (wantedSome (d' := 7) (b := true) rfl rfl rfl) (r_move (v := i64 (e2)) rfl) ?_
  refine sqAny (v := .iface 57 (i64 (e2))) (w' := w) (wantedSome (d' := 7) (b := true) rfl rfl rfl) (r_mkI und57 (xv := i64 (e2)) rfl) ?_
  refine caAny (wantedSome (d' := 7) (b := true) rfl rfl rfl) (Enters.callL (vs := [.iface T0 (x0), .iface 57 (i64 (e2))]) call71 rfl) (is1_ok e e2 k (.iface T0 x0) lo w (hEr.ext H.chg)) ?_
  rintro _ w1 ⟨rfl, hE2⟩
  have H3 := H.ext hE2
  refine sq (r_pickT (u := .bool (decide (e = e2))) rfl rfl) ?_
  refine sq (r_assign (v := .bool (decide (e = e2))) rfl) ?_
  refine wend ?_
  refine retAny ?_
  refine retG (rs := [.tmp 4]) (vs := [.bool (decide (e = e2))]) rfl ⟨⟨rfl, rfl⟩, trivial⟩ ?_
  exact ⟨_, rfl, rfl, H3.chg⟩

theorem isnil_ok (e2 : Int) (w : World) : Calls Tryd.prog 24 [.nilIface, i64 (e2)].toArray w (Ret fun v w' => v = .bool false ∧ Ext w w') := by
  have H := Hp.start No w
  refine enter (n := 13) Tryd.func24 rfl rfl (Nat.le_of_ble_eq_true rfl) ?_
  refine seqRegion ?_
  refine sq (r_assign (v := .bool (false)) rfl) ?_
  refine wend ?_
  refine seqRegion ?_
  refine sq (r_move (v := .nilIface) rfl) ?_
  refine sq (r_neqNN isI27 rfl rfl) ?_
  refine sq (r_move (v := .bool (false)) rfl) ?_
  refine skAny (wantedSome (d' := 7) (b := false) rfl rfl rfl) ?_
  refine skAny (wantedSome (d' := 7) (b := false) rfl rfl rfl) ?_
  refine skAny (wantedSome (d' := 7) (b := false) rfl rfl rfl) ?_
  refine skAny (wantedSome (d' := 7) (b := false) rfl rfl rfl) ?_
  refine sq (r_pickF (v := .bool (false)) rfl rfl) ?_
  refine sq (r_assign (v := .bool (false)) rfl) ?_
  refine wend ?_
  refine retAny ?_
  refine retG (rs := [.tmp 4]) (vs := [.bool (false)]) rfl ⟨⟨rfl, rfl⟩, trivial⟩ ?_
  exact ⟨_, rfl, rfl, H.chg⟩

theorem as0_ok (e : Int) (t b : Nat) (w : World) : Calls Tryd.prog 103 [.iface 57 (i64 e), .iface 184 (.pointer (some ⟨t, 0, none⟩)), .agg #[.pointer (some ⟨1, 184, none⟩), .pointer (some ⟨b, 0, none⟩), .int .u64 150], .iface 221 (.agg #[.pointer (some ⟨1, 183, none⟩)])].toArray w (Ret fun v w' => v = .bool false ∧ Ext w w') := by
  have H := Hp.start No w
  refine enter (n := 62) Tryd.func103 rfl rfl (Nat.le_of_ble_eq_true rfl) ?_
  refine seqRegion ?_
  refine q_box (v := .agg #[.pointer (some ⟨1, 184, none⟩), .pointer (some ⟨b, 0, none⟩), .int .u64 150]) (o := .cells #[.pointer (some ⟨1, 184, none⟩), .pointer (some ⟨b, 0, none⟩), .int .u64 150] 196 (0, 0)) H rfl (by rfl) ?_
  intro b1 w2 hb1 H3 hE4
  refine sq (r_assign (v := .bool (false)) rfl) ?_
  refine wend ?_
  refine blockAny ?_
  refine loopAny (σ := Unit) (fun _ => [(0, .iface 57 (i64 e)), (1, .iface 184 (.pointer (some ⟨t, 0, none⟩))), (3, .iface 221 (.agg #[.pointer (some ⟨1, 183, none⟩)])), (6, .pointer (some ⟨b1, 0, none⟩))]) (fun _ w' => True ∧ Hp No w w' [(some b1, .cells #[.pointer (some ⟨1, 184, none⟩), .pointer (some ⟨b, 0, none⟩), .int .u64 150] 196 (0, 0))]) (fun _ => 0) (()) ?_ ?_ ?_
  · exact ⟨rfl, rfl, rfl, rfl, trivial⟩
  · exact ⟨trivial, H3⟩
  rintro _ ρ w5 ⟨_, HL⟩
  refine blockAny ?_
  refine seqAny ?_
  refine seqRegion ?_
  refine sq (r_move (v := .iface 57 (i64 e)) rfl) ?_
  refine sqR (wantedNone rfl _ _) (r_ext (vs := [.iface 57 (i64 e)]) rfl (x_typeOf57 (i64 e) w5)) ?_
  rintro _ _ ⟨rfl, rfl⟩
  refine sq (r_move (v := .iface 221 (.agg #[.pointer (some ⟨1, 183, none⟩)])) rfl) ?_
  refine sqR (wantedNone rfl _ _) (r_invX (vs := [.iface 221 (.agg #[.pointer (some ⟨1, 183, none⟩)])]) rfl (m_AssignableTo _) rfl (x_assign57_183 w5)) ?_
  rintro _ _ ⟨rfl, rfl⟩
  refine wend ?_
  refine condFalse rfl ?_
  refine skipAny ?_
  refine thenNormal ?_
  refine seqAny ?_
  refine seqRegion ?_
  refine sq (r_move (v := .iface 57 (i64 e)) rfl) ?_
  refine sq (r_lacks lk57_233 rfl) ?_
  refine sq (r_move (v := .tuple #[.nilIface, .bool (false)]) rfl) ?_
  refine sq (r_extract (vs := #[.nilIface, .bool (false)]) rfl rfl) ?_
  refine sq (r_extract (vs := #[.nilIface, .bool (false)]) rfl rfl) ?_
  refine sq (r_assign (v := .nilIface) rfl) ?_
  refine sq (r_assign (v := .bool (false)) rfl) ?_
  refine wend ?_
  refine seqRegion ?_
  refine sq (r_move (v := .bool (false)) rfl) ?_
  refine sq (r_move (v := .bool (false)) rfl) ?_
  refine skAny (wantedSome (d' := 31) (b := false) rfl rfl rfl) ?_
  refine skAny (wantedSome (d' := 31) (b := false) rfl rfl rfl) ?_
  refine skAny (wantedSome (d' := 31) (b := false) rfl rfl rfl) ?_
  refine sq (r_pickF (v := .bool (false)) rfl rfl) ?_
  refine wend ?_
  refine condFalse rfl ?_
  refine skipAny ?_
  refine thenNormal ?_
  refine seqRegion ?_
  refine sq (r_move (v := .iface 57 (i64 e)) rfl) ?_
  refine wend ?_
  refine blockAny ?_
  refine seqRegion ?_
  refine sq (r_lacks lk57_226 rfl) ?_
  refine sq (r_extract (vs := #[.nilIface, .bool (false)]) rfl rfl) ?_
  refine sq (r_extract (vs := #[.nilIface, .bool (false)]) rfl rfl) ?_
  refine wend ?_
  refine condFalse rfl ?_
  refine seqRegion ?_
  refine sq (r_lacks lk57_228 rfl) ?_
  refine sq (r_extract (vs := #[.nilIface, .bool (false)]) rfl rfl) ?_
  refine sq (r_extract (vs := #[.nilIface, .bool (false)]) rfl rfl) ?_
  refine wend ?_
  refine condFalse rfl ?_
  refine seqRegion ?_
  refine sq (r_assign (v := .iface 57 (i64 e)) rfl) ?_
  refine wend ?_
  refine seqRegion ?_
  refine sq (r_assign (v := .bool (false)) rfl) ?_
  refine wend ?_
  refine retAny ?_
  refine blockRet ?_
  refine blockRet ?_
  refine thenRet ?_
  refine blockRet ?_
  refine retG (rs := [.tmp 8]) (vs := [.bool (false)]) rfl ⟨⟨rfl, rfl⟩, trivial⟩ ?_
  exact ⟨_, rfl, rfl, HL.chg⟩

theorem as1_ok (e : Int) (t : Nat) (w : World) (hG : Gl w) : Calls Tryd.prog 72 [.iface 57 (i64 e), .iface 184 (.pointer (some ⟨t, 0, none⟩))].toArray w (Ret fun v w' => v = .bool false ∧ Ext w w') := by
  obtain ⟨gcs, gT, gfr, hg, hgv⟩ := hG
  rw [handleErr] at hgv
  have H := Hp.start No w
  refine enter (n := 42) Tryd.func72 rfl rfl (Nat.le_of_ble_eq_true rfl) ?_
  refine seqRegion ?_
  refine sq (r_assign (v := .bool (false)) rfl) ?_
  refine wend ?_
  refine seqAny ?_
  refine seqRegion ?_
  refine sq (r_move (v := .iface 57 (i64 e)) rfl) ?_
  refine sq (r_eqlIN isI27 rfl rfl) ?_
  refine wend ?_
  refine condFalse rfl ?_
  refine skipAny ?_
  refine thenNormal ?_
  refine seqAny ?_
  refine seqRegion ?_
  refine sq (r_move (v := .iface 184 (.pointer (some ⟨t, 0, none⟩))) rfl) ?_
  refine sq (r_eqlIN isI20 rfl rfl) ?_
  refine wend ?_
  refine condFalse rfl ?_
  refine skipAny ?_
  refine thenNormal ?_
  refine seqRegion ?_
  refine sq (r_move (v := .iface 184 (.pointer (some ⟨t, 0, none⟩))) rfl) ?_
  refine sqR (wantedNone rfl _ _) (r_ext (vs := [.iface 184 (.pointer (some ⟨t, 0, none⟩))]) rfl (x_valueOf184 ⟨t, 0, none⟩ w)) ?_
  rintro _ w1 ⟨b3, rfl, hb4, ho5, hE6⟩
  have H7 := H.add1 hE6 hb4 ho5
  have H7' := H7.as (L' := [(some b3, .cells #[.pointer (some ⟨t, 0, none⟩)] 184 (0, 0))]) rfl
  refine q_alloc (o := .cells #[.pointer none, .pointer none, u64 (0#64)] 196 (0, 0)) H7' zer196 (by kernel_rfl) ?_
  intro b8 w9 hb8 H10 hE11
  refine d_store (k := 0) (v := .agg #[.pointer (some ⟨1, 184, none⟩), .pointer (some ⟨b3, 0, none⟩), .int .u64 150]) (cs' := #[.pointer (some ⟨1, 184, none⟩), .pointer (some ⟨b3, 0, none⟩), .int .u64 150]) H10 rfl rfl rfl siz196 (by rfl) (by intro u hu; simp [Value.cells] at hu; first | (subst hu; rfl) | (rcases hu with rfl | rfl | rfl <;> rfl)) (by exact Nat.le_of_ble_eq_true rfl) (by rfl) ?_
  intro w12 H13 hC14
  have H13' := H13.as (L' := [(some b8, .cells #[.pointer (some ⟨1, 184, none⟩), .pointer (some ⟨b3, 0, none⟩), .int .u64 150] 196 (0, 0)), (some b3, .cells #[.pointer (some ⟨t, 0, none⟩)] 184 (0, 0))]) rfl
  clear H13
  refine wend ?_
  refine seqRegion ?_
  refine sq (r_loadA (cs' := #[.pointer (some ⟨1, 184, none⟩), .pointer (some ⟨b3, 0, none⟩), .int .u64 150]) agg196 siz196 (H13'.get (k := 0) rfl) (off := 0) rfl (by exact Nat.le_of_ble_eq_true rfl) (by rfl)) ?_
  refine sqR (wantedNone rfl _ _) (r_ext (vs := [.agg #[.pointer (some ⟨1, 184, none⟩), .pointer (some ⟨b3, 0, none⟩), .int .u64 150]]) rfl (x_type184 ⟨b3, 0, none⟩ w12)) ?_
  rintro _ _ ⟨rfl, rfl⟩
  refine sq (r_assign (v := .iface 221 (.agg #[.pointer (some ⟨1, 184, none⟩)])) rfl) ?_
  refine wend ?_
  refine seqAny ?_
  refine seqRegion ?_
  refine sq (r_move (v := .iface 221 (.agg #[.pointer (some ⟨1, 184, none⟩)])) rfl) ?_
  refine sqR (wantedNone rfl _ _) (r_invX (vs := []) rfl (m_Kind _) rfl (x_kind184 w12)) ?_
  rintro _ _ ⟨rfl, rfl⟩
  refine sq ((r_neq8 (a := 22#8) (b := 22#8) rfl rfl).as (v' := .bool (false)) (by rfl)) ?_
  refine sq (r_move (v := .bool (false)) rfl) ?_
  refine sqAny (v := .agg #[.pointer (some ⟨1, 184, none⟩), .pointer (some ⟨b3, 0, none⟩), .int .u64 150]) (w' := w12) (wantedSome (d' := 20) (b := false) rfl rfl rfl) (r_loadA (cs' := #[.pointer (some ⟨1, 184, none⟩), .pointer (some ⟨b3, 0, none⟩), .int .u64 150]) agg196 siz196 (H13'.get (k := 0) rfl) (off := 0) rfl (by exact Nat.le_of_ble_eq_true rfl) (by rfl)) ?_
  refine sqR (wantedSome (d' := 20) (b := false) rfl rfl rfl) (r_ext (vs := [.agg #[.pointer (some ⟨1, 184, none⟩), .pointer (some ⟨b3, 0, none⟩), .int .u64 150]]) rfl (x_isNil184 ⟨b3, 0, none⟩ ⟨t, 0, none⟩ w12 (by rw [cell_eq (H13'.get (k := 1) rfl)]; rfl))) ?_
  rintro _ _ ⟨rfl, rfl⟩
  refine sq (r_pickF (v := .bool (false)) rfl rfl) ?_
  refine wend ?_
  refine condFalse rfl ?_
  refine skipAny ?_
  refine thenNormal ?_
  refine seqRegion ?_
  refine sq (r_move (v := .iface 221 (.agg #[.pointer (some ⟨1, 184, none⟩)])) rfl) ?_
  refine sqR (wantedNone rfl _ _) (r_invX (vs := []) rfl (m_Elem _) rfl (x_elem184 w12)) ?_
  rintro _ _ ⟨rfl, rfl⟩
  refine sq (r_assign (v := .iface 221 (.agg #[.pointer (some ⟨1, 183, none⟩)])) rfl) ?_
  refine wend ?_
  refine seqAny ?_
  refine seqRegion ?_
  refine sq (r_move (v := .iface 221 (.agg #[.pointer (some ⟨1, 183, none⟩)])) rfl) ?_
  refine sqR (wantedNone rfl _ _) (r_invX (vs := []) rfl (m_Kind _) rfl (x_kind183 w12)) ?_
  rintro _ _ ⟨rfl, rfl⟩
  refine sq ((r_neq8 (a := 22#8) (b := 20#8) rfl rfl).as (v' := .bool (true)) (by rfl)) ?_
  refine sq (r_move (v := .bool (true)) rfl) ?_
  refine sqAny (v := .iface 221 (.agg #[.pointer (some ⟨1, 183, none⟩)])) (w' := w12) (wantedSome (d' := 30) (b := true) rfl rfl rfl) (r_move (v := .iface 221 (.agg #[.pointer (some ⟨1, 183, none⟩)])) rfl) ?_
  refine sqAny (v := .iface 221 (.agg #[.pointer (some ⟨1, 27, none⟩)])) (w' := w12) (wantedSome (d' := 30) (b := true) rfl rfl rfl) (r_loadC (v := .iface 221 (.agg #[.pointer (some ⟨1, 27, none⟩)])) one190 (H13'.keepE hg) (off := 0) rfl (hgv)) ?_
  refine sqR (wantedSome (d' := 30) (b := true) rfl rfl rfl) (r_invX (vs := [.iface 221 (.agg #[.pointer (some ⟨1, 27, none⟩)])]) rfl (m_Implements _) rfl (x_impl183 w12)) ?_
  rintro _ _ ⟨rfl, rfl⟩
  refine sqAny (v := .bool (false)) (w' := w12) (wantedSome (d' := 30) (b := true) rfl rfl rfl) (r_notT rfl) ?_
  refine sq (r_pickT (u := .bool (false)) rfl rfl) ?_
  refine wend ?_
  refine condFalse rfl ?_
  refine skipAny ?_
  refine thenNormal ?_
  refine seqRegion ?_
  refine sq (r_move (v := .iface 57 (i64 e)) rfl) ?_
  refine sq (r_move (v := .iface 184 (.pointer (some ⟨t, 0, none⟩))) rfl) ?_
  refine sq (r_loadA (cs' := #[.pointer (some ⟨1, 184, none⟩), .pointer (some ⟨b3, 0, none⟩), .int .u64 150]) agg196 siz196 (H13'.get (k := 0) rfl) (off := 0) rfl (by exact Nat.le_of_ble_eq_true rfl) (by rfl)) ?_
  refine sq (r_move (v := .iface 221 (.agg #[.pointer (some ⟨1, 183, none⟩)])) rfl) ?_
  refine c_call (vs := [.iface 57 (i64 e), .iface 184 (.pointer (some ⟨t, 0, none⟩)), .agg #[.pointer (some ⟨1, 184, none⟩), .pointer (some ⟨b3, 0, none⟩), .int .u64 150], .iface 221 (.agg #[.pointer (some ⟨1, 183, none⟩)])]) call103 rfl (as0_ok e t b3 w12) ?_
  rintro _ w27 ⟨rfl, hE28⟩
  have H29 := H13'.ext hE28
  refine sq (r_assign (v := .bool (false)) rfl) ?_
  refine wend ?_
  refine retAny ?_
  refine retG (rs := [.tmp 4]) (vs := [.bool (false)]) rfl ⟨⟨rfl, rfl⟩, trivial⟩ ?_
  exact ⟨_, rfl, rfl, H29.chg⟩

theorem wrap0_ok (e at1 : Int) (nm : ByteArray) (w : World) (hG : Gl w) : Calls Tryd.prog 63 [.iface 57 (i64 e), .string (nm), i64 (at1)].toArray w (Ret fun v w' => Er w.heap.size w' e 1 v ∧ Ext w w') := by
  have H := Hp.start No w
  refine enter (n := 29) Tryd.func63 rfl rfl (Nat.le_of_ble_eq_true rfl) ?_
  refine seqRegion ?_
  refine sq (r_assign (v := .nilIface) rfl) ?_
  refine wend ?_
  refine seqAny ?_
  refine seqRegion ?_
  refine sq (r_move (v := .iface 57 (i64 e)) rfl) ?_
  refine sq (r_eqlIN isI27 rfl rfl) ?_
  refine wend ?_
  refine condFalse rfl ?_
  refine skipAny ?_
  refine thenNormal ?_
  refine seqRegion ?_
  refine sq (r_assign (v := i64 ((1 : Int))) rfl) ?_
  refine wend ?_
  refine seqRegion ?_
  refine q_alloc (o := .cells #[.pointer none] 183 (0, 0)) H zer183 (by kernel_rfl) ?_
  intro b1 w2 hb1 H3 hE4
  refine wend ?_
  refine seqAny ?_
  refine seqRegion ?_
  refine sq (r_move (v := .iface 57 (i64 e)) rfl) ?_
  refine sq (r_mkIP und184 (xv := .pointer (some ⟨b1, 0, none⟩)) rfl) ?_
  refine c_call (vs := [.iface 57 (i64 e), .iface 184 (.pointer (some ⟨b1, 0, none⟩))]) call72 rfl (as1_ok e b1 w2 (Chg.gl H3.chg (fun x => x) hG)) ?_
  rintro _ w5 ⟨rfl, hE6⟩
  have H7 := H3.ext hE6
  refine wend ?_
  refine condFalse rfl ?_
  refine skipAny ?_
  refine thenNormal ?_
  refine seqAny ?_
  refine seqRegion ?_
  refine sq (r_move (v := i64 ((1 : Int))) rfl) ?_
  refine sq (r_gtrI (a := (1 : Int)) (b := (64 : Int)) rfl rfl) ?_
  refine wend ?_
  refine condFalse rfl ?_
  refine skipAny ?_
  refine thenNormal ?_
  refine seqRegion ?_
  refine sq (r_move (v := .string (nm)) rfl) ?_
  refine sq (r_move (v := i64 (at1)) rfl) ?_
  refine sq (r_move (v := i64 ((1 : Int))) rfl) ?_
  refine sq (r_move (v := .iface 57 (i64 e)) rfl) ?_
  refine sq (r_build (cs' := #[.string (nm), i64 (at1), i64 ((1 : Int)), .iface 57 (i64 e)]) (ps := [(0, .string (nm)), (1, i64 (at1)), (2, i64 ((1 : Int))), (3, .iface 57 (i64 e))]) zer186 pls186 rfl (by rfl)) ?_
  refine q_box (v := .agg #[.string (nm), i64 (at1), i64 ((1 : Int)), .iface 57 (i64 e)]) (o := .cells #[.string (nm), i64 (at1), i64 ((1 : Int)), .iface 57 (i64 e)] 186 (0, 0)) H7 rfl (by rfl) ?_
  intro b8 w9 hb8 H10 hE11
  refine sq (r_mkIP und183 (xv := .pointer (some ⟨b8, 0, none⟩)) rfl) ?_
  refine sq (r_assign (v := .iface 183 (.pointer (some ⟨b8, 0, none⟩))) rfl) ?_
  refine wend ?_
  refine retAny ?_
  refine retG (rs := [.tmp 6]) (vs := [.iface 183 (.pointer (some ⟨b8, 0, none⟩))]) rfl ⟨⟨rfl, rfl⟩, trivial⟩ ?_
  exact ⟨_, rfl, ⟨b8, _, _, _, rfl, (H10.own _ (List.mem_of_getElem? (i := 0) rfl) _ rfl).resolve_left (fun h => h), H10.get (k := 0) rfl, rfl⟩, H10.chg⟩
end Go.Proofs.YteofdmdpaejgaaaDoor.Er
