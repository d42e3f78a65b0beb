/- The walks of the errors: a number that is asked for. -/
import Derived.Test.YteofdmdpaejgaaaDoorFault
import Derived.Test.YteofdmdpaejgaaaDoorProg
namespace Go.Proofs.YteofdmdpaejgaaaDoor.Er
open Go Go.Proofs.YteofdmdpaejgaaaDoor.Vc
theorem fits57 : Fits Tryd.prog 57 EI := fitsI (by kernel_rfl) (by kernel_rfl)
theorem lk183_233 : lacksI Tryd.prog 183 233 = true := by kernel_rfl
theorem one57 : isOne Tryd.prog 57 = true := by kernel_rfl
theorem siz57 : siz Tryd.prog 57 = some 1 := by kernel_rfl
theorem und148 : Tryd.prog.underlying 148 = some (.pointer 57) := by kernel_rfl
theorem zer57 : zer Tryd.prog 57 = some (.int .i64 0) := by kernel_rfl
theorem x_valueOf148 (t : Addr) (w : World) : Xc Tryd.prog 100 [.iface 148 (.pointer (some t))] w (fun r w' => ∃ b, r = .agg #[.pointer (some ⟨1, 148, none⟩), .pointer (some ⟨b, 0, none⟩), .int .u64 150] ∧ w.heap.size ≤ b ∧ w'.heap[b]? = some (.cells #[.pointer (some t)] 148 (0, 0)) ∧ Ext w w') :=
  Xc.of (e := (fun args => Extern.ReflectliteValue.unpack (args.getD 0 (.tuple #[])))) (v := .agg #[.pointer (some ⟨1, 148, none⟩), .pointer (some ⟨w.heap.size, 0, none⟩), .int .u64 150]) (w' := w.alloc (.cells #[.pointer (some t)] 148)) Tryd.func100 (by kernel_rfl) (by kernel_rfl) (by kernel_rfl) (by kernel_rfl) (by kernel_rfl) ⟨w.heap.size, rfl, Nat.le_refl _, alloc_new _ _, Ext.alloc _ _⟩

theorem x_type148 (a : Addr) (w : World) : Xc Tryd.prog 101 [.agg #[.pointer (some ⟨1, 148, none⟩), .pointer (some a), .int .u64 150]] w (fun r w' => r = .iface 221 (.agg #[.pointer (some ⟨1, 148, none⟩)]) ∧ w = w') :=
  Xc.of (e := (Extern.ReflectliteValue.methodAny (Extern.ReflectliteValue.valueError "reflectlite.Value.Type" 0) (fun t _ _ _ => Extern.ReflectliteType.toType t))) Tryd.func101 (by kernel_rfl) (by kernel_rfl) (by kernel_rfl) (by kernel_rfl) (by kernel_rfl) ⟨rfl, rfl⟩

theorem x_kind148  (w : World) : Xc Tryd.prog 141 [.pointer (some ⟨1, 148, none⟩)] w (fun r w' => r = u8 22#8 ∧ w = w') :=
  Xc.of (e := (Extern.ReflectliteType.abiMethod fun t => do pure (.int .u8 (← Extern.Rtype.kind t)))) Tryd.func141 (by kernel_rfl) (by kernel_rfl) (by kernel_rfl) (by kernel_rfl) (by kernel_rfl) ⟨rfl, rfl⟩

theorem x_kind57  (w : World) : Xc Tryd.prog 141 [.pointer (some ⟨1, 57, none⟩)] w (fun r w' => r = u8 2#8 ∧ w = w') :=
  Xc.of (e := (Extern.ReflectliteType.abiMethod fun t => do pure (.int .u8 (← Extern.Rtype.kind t)))) Tryd.func141 (by kernel_rfl) (by kernel_rfl) (by kernel_rfl) (by kernel_rfl) (by kernel_rfl) ⟨rfl, rfl⟩

theorem parts148 (a : Addr) (w : World) : (Extern.ReflectliteValue.parts (.agg #[.pointer (some ⟨1, 148, none⟩), .pointer (some a), .int .u64 150])).run Tryd.prog w = .ok (some (148, a, 150)) w := by kernel_rfl

theorem x_isNil148 (a p : Addr) (w : World) (ha : w.cell? a = some (.pointer (some p))) : Xc Tryd.prog 102 [.agg #[.pointer (some ⟨1, 148, none⟩), .pointer (some a), .int .u64 150]] w (fun r w' => r = .bool false ∧ w = w') :=
  Xc.of (e := (Extern.ReflectliteValue.method (Extern.ReflectliteValue.valueError "reflectlite.Value.IsNil" 0) Extern.ReflectliteValue.isNil)) Tryd.func102 (by kernel_rfl) (by kernel_rfl) (by kernel_rfl) (by kernel_rfl) (by show (Extern.ReflectliteValue.method _ _ #[_]).run _ _ = _; rw [rlm]; simp only [Sem.run_bind, parts148, Result.andThen]; simp [Extern.ReflectliteValue.isNil, loadVar, isAgg, underlying, ha, Result.andThen]) ⟨rfl, rfl⟩

theorem x_elem148  (w : World) : Xc Tryd.prog 153 [.agg #[.pointer (some ⟨1, 148, none⟩)]] w (fun r w' => r = .iface 221 (.agg #[.pointer (some ⟨1, 57, none⟩)]) ∧ w = w') :=
  Xc.of (e := (Extern.ReflectliteType.method Extern.ReflectliteType.elem)) Tryd.func153 (by kernel_rfl) (by kernel_rfl) (by kernel_rfl) (by kernel_rfl) (by kernel_rfl) ⟨rfl, rfl⟩

theorem x_impl57  (w : World) : Xc Tryd.prog 154 [.agg #[.pointer (some ⟨1, 57, none⟩)], .iface 221 (.agg #[.pointer (some ⟨1, 27, none⟩)])] w (fun r w' => r = .bool true ∧ w = w') :=
  Xc.of (e := (Extern.ReflectliteType.relation "Implements" Extern.ReflectliteType.implements_)) Tryd.func154 (by kernel_rfl) (by kernel_rfl) (by kernel_rfl) (by kernel_rfl) (by kernel_rfl) ⟨rfl, rfl⟩

theorem elemOf148 (w : World) : (Extern.Rtype.elem? 148).run Tryd.prog w = .ok (some 57) w := by kernel_rfl

theorem mk57 (p : Addr) (w : World) : (Extern.ReflectliteValue.mk 57 p Extern.ReflectliteValue.flagAddr).run Tryd.prog w = .ok (.agg #[.pointer (some ⟨1, 57, none⟩), .pointer (some p), .int .u64 386]) w := by kernel_rfl

theorem x_elemV (a p : Addr) (w : World) (ha : w.cell? a = some (.pointer (some p))) : Xc Tryd.prog 118 [.agg #[.pointer (some ⟨1, 148, none⟩), .pointer (some a), .int .u64 150]] w (fun r w' => r = .agg #[.pointer (some ⟨1, 57, none⟩), .pointer (some p), .int .u64 386] ∧ w = w') :=
  Xc.of (e := (Extern.ReflectliteValue.method (Extern.ReflectliteValue.valueError "reflectlite.Value.Elem" 0) Extern.ReflectliteValue.elem)) Tryd.func118 (by kernel_rfl) (by kernel_rfl) (by kernel_rfl) (by kernel_rfl) (by show (Extern.ReflectliteValue.method _ _ #[_]).run _ _ = _; rw [rlm]; simp only [Sem.run_bind, parts148, Result.andThen]; simp [Extern.ReflectliteValue.elem, loadVar, isAgg, underlying, Tryd.underlying148, ha, Result.andThen, elemOf148, mk57]) ⟨rfl, rfl⟩

theorem x_valueOf57 (e : Int) (w : World) : Xc Tryd.prog 100 [.iface 57 (i64 e)] w (fun r w' => ∃ b, r = .agg #[.pointer (some ⟨1, 57, none⟩), .pointer (some ⟨b, 0, none⟩), .int .u64 130] ∧ w.heap.size ≤ b ∧ w'.heap[b]? = some (.cells #[i64 e] 57 (0, 0)) ∧ Ext w w') :=
  Xc.of (e := (fun args => Extern.ReflectliteValue.unpack (args.getD 0 (.tuple #[])))) (v := .agg #[.pointer (some ⟨1, 57, none⟩), .pointer (some ⟨w.heap.size, 0, none⟩), .int .u64 130]) (w' := w.alloc (.cells #[i64 e] 57)) Tryd.func100 (by kernel_rfl) (by kernel_rfl) (by kernel_rfl) (by kernel_rfl) (by kernel_rfl) ⟨w.heap.size, rfl, Nat.le_refl _, alloc_new _ _, Ext.alloc _ _⟩

theorem rls (v x : Value) : Extern.ReflectliteValue.set #[v, x] = (do
    let (some (dst, a, fl), some (src, b, _)) := (← Extern.ReflectliteValue.parts v, ← Extern.ReflectliteValue.parts x)
      | unsupported (.noEntry "extern/(internal/reflectlite.Value).Set.zeroValue")
    if fl / Extern.ReflectliteValue.flagAddr % 2 == 0 then unsupported (.noEntry "extern/(internal/reflectlite.Value).Set.unaddressable")
    let val ← loadVar src b
    if ← Extern.Rtype.directlyAssignable dst src then storeVar dst a val
    else if ← Extern.Rtype.implements dst src then
      if (← Extern.Rtype.kind src) == 20 then
        match val with
        | .nilIface => unsupported (.noEntry "extern/reflectlite: a nil value of one interface type handed on as a value of another")
        | _ => storeVar dst a val
      else storeVar dst a (.iface src val)
    else panicString ("reflectlite.Set: value of type " ++ (← Extern.Rtype.spelt src) ++ " is not assignable to type " ++ (← Extern.Rtype.spelt dst))
    pure (.tuple #[])) := rfl

theorem partsA (a : Addr) (w : World) : (Extern.ReflectliteValue.parts (.agg #[.pointer (some ⟨1, 57, none⟩), .pointer (some a), .int .u64 386])).run Tryd.prog w = .ok (some (57, a, 386)) w := by kernel_rfl

theorem partsB (a : Addr) (w : World) : (Extern.ReflectliteValue.parts (.agg #[.pointer (some ⟨1, 57, none⟩), .pointer (some a), .int .u64 130])).run Tryd.prog w = .ok (some (57, a, 130)) w := by kernel_rfl

theorem direct57 (w : World) : (Extern.Rtype.directlyAssignable 57 57).run Tryd.prog w = .ok true w := by kernel_rfl

theorem x_set (t b : Nat) (e : Int) (old : Value) (X T2 : TypeId) (fr : Nat × Nat) (w : World) (hb : w.heap[b]? = some (.cells #[i64 e] X fr)) (ht : w.heap[t]? = some (.cells #[old] T2 (0, 0))) :
    Xc Tryd.prog 119 [.agg #[.pointer (some ⟨1, 57, none⟩), .pointer (some ⟨t, 0, none⟩), .int .u64 386], .agg #[.pointer (some ⟨1, 57, none⟩), .pointer (some ⟨b, 0, none⟩), .int .u64 130]] w (fun r w' => r = .tuple #[] ∧ Chg (· = t) w w' ∧ w'.heap[t]? = some (.cells #[i64 e] T2 (0, 0))) := by
  have h1 := run_load1 (P := Tryd.prog) (off := 0) one57 hb rfl
  have h2 := run_storeV (P := Tryd.prog) (off := 0) (v := i64 e) siz57 rfl (EI.one e) ht (Nat.le_refl 1)
  refine Xc.of (e := Extern.ReflectliteValue.set) (w' := setBlk w t (.cells #[i64 e] T2 (0, 0))) Tryd.func119 (by kernel_rfl) (by kernel_rfl) (by kernel_rfl) (by kernel_rfl) ?_ ⟨rfl, Chg.setBlk _ _ _, setBlk_new ht⟩
  show (Extern.ReflectliteValue.set #[_, _]).run _ _ = _
  rw [rls]
  simp only [Sem.run_bind, partsA, partsB, Result.andThen]
  simp [Extern.ReflectliteValue.flagAddr, h1, Result.andThen, direct57, h2]
  rfl

theorem asE0_ok (e o : Int) (t vb k lo : Nat) (v : Value) (w : World) (hEr : Er lo w e k v) (ht : w.heap[t]? = some (.cells #[i64 (o)] 57 (0, 0))) (hvb : w.heap[vb]? = some (.cells #[.pointer (some ⟨t, 0, none⟩)] 148 (0, 0))) (hvt : ¬ (vb = t)) : Calls Tryd.prog 103 [v, .iface 148 (.pointer (some ⟨t, 0, none⟩)), .agg #[.pointer (some ⟨1, 148, none⟩), .pointer (some ⟨vb, 0, none⟩), .int .u64 150], .iface 221 (.agg #[.pointer (some ⟨1, 57, none⟩)])].toArray w (Ret fun r w' => r = .bool true ∧ Chg (· = t) w w' ∧ w'.heap[t]? = some (.cells #[i64 (e)] 57 (0, 0))) := by
  have H := Hp.start1 (M := (· = t)) rfl ht
  refine enter (n := 62) Tryd.func103 rfl rfl (Nat.le_of_ble_eq_true rfl) ?_
  refine seqRegion ?_
  refine q_box (v := .agg #[.pointer (some ⟨1, 148, none⟩), .pointer (some ⟨vb, 0, none⟩), .int .u64 150]) (o := .cells #[.pointer (some ⟨1, 148, none⟩), .pointer (some ⟨vb, 0, none⟩), .int .u64 150] 196 (0, 0)) H rfl (by rfl) ?_
  intro b1 w2 hb1 H3 hE4
  refine sq (r_assign (v := .bool (false)) rfl) ?_
  refine wend ?_
  refine blockAny ?_
  refine loopAny (σ := Value × Nat) (fun (v, k) => [(0, v), (1, .iface 148 (.pointer (some ⟨t, 0, none⟩))), (3, .iface 221 (.agg #[.pointer (some ⟨1, 57, none⟩)])), (6, .pointer (some ⟨b1, 0, none⟩))]) (fun (v, k) w' => Er lo w' e k v ∧ Hp (· = t) w w' [(some b1, .cells #[.pointer (some ⟨1, 148, none⟩), .pointer (some ⟨vb, 0, none⟩), .int .u64 150] 196 (0, 0)), (some t, .cells #[i64 (o)] 57 (0, 0))]) (fun (v, k) => k) ((v, k)) ?_ ?_ ?_
  · exact ⟨rfl, rfl, rfl, rfl, trivial⟩
  · exact ⟨hEr.ext hE4, H3⟩
  rintro ⟨v, k⟩ ρ w5 ⟨hEr, HL⟩
  rcases k with _ | k
  · skip
    obtain rfl : v = .iface 57 (i64 e) := hEr
    refine blockAny ?_
    refine seqAny ?_
    refine seqRegion ?_
    refine sq (r_move (v := .iface 57 (i64 e)) rfl) ?_
    refine sqR (wantedNone rfl _ _) (r_ext (vs := [.iface 57 (i64 e)]) rfl (x_typeOf57 (i64 e) w5)) ?_
    rintro _ _ ⟨rfl, rfl⟩
    refine sq (r_move (v := .iface 221 (.agg #[.pointer (some ⟨1, 57, none⟩)])) rfl) ?_
    refine sqR (wantedNone rfl _ _) (r_invX (vs := [.iface 221 (.agg #[.pointer (some ⟨1, 57, none⟩)])]) rfl (m_AssignableTo _) rfl (x_assign57_57 w5)) ?_
    rintro _ _ ⟨rfl, rfl⟩
    refine wend ?_
    refine condTrue rfl ?_
    refine seqRegion ?_
    refine sq (r_loadA (cs' := #[.pointer (some ⟨1, 148, none⟩), .pointer (some ⟨vb, 0, none⟩), .int .u64 150]) agg196 siz196 (HL.get (k := 0) rfl) (off := 0) rfl (by exact Nat.le_of_ble_eq_true rfl) (by rfl)) ?_
    refine sqR (wantedNone rfl _ _) (r_ext (vs := [.agg #[.pointer (some ⟨1, 148, none⟩), .pointer (some ⟨vb, 0, none⟩), .int .u64 150]]) rfl (x_elemV ⟨vb, 0, none⟩ ⟨t, 0, none⟩ w5 (by rw [cell_eq (HL.keep hvt hvb)]; rfl))) ?_
    rintro _ _ ⟨rfl, rfl⟩
    refine sq (r_move (v := .iface 57 (i64 e)) rfl) ?_
    refine sqR (wantedNone rfl _ _) (r_ext (vs := [.iface 57 (i64 e)]) rfl (x_valueOf57 e w5)) ?_
    rintro _ w13 ⟨b15, rfl, hb16, ho17, hE18⟩
    have hvs := HL.chg.size
    have H19 := HL.add1 hE18 hb16 ho17
    have H19' := H19.as (L' := [(some b15, .cells #[i64 (e)] 57 (0, 0)), (some b1, .cells #[.pointer (some ⟨1, 148, none⟩), .pointer (some ⟨vb, 0, none⟩), .int .u64 150] 196 (0, 0)), (some t, .cells #[i64 (o)] 57 (0, 0))]) rfl
    refine sqR (wantedNone rfl _ _) (r_ext (vs := [.agg #[.pointer (some ⟨1, 57, none⟩), .pointer (some ⟨t, 0, none⟩), .int .u64 386], .agg #[.pointer (some ⟨1, 57, none⟩), .pointer (some ⟨b15, 0, none⟩), .int .u64 130]]) rfl (x_set t b15 e (i64 o) _ _ _ w13 (H19'.get (k := 0) rfl) (H19'.get (k := 2) rfl))) ?_
    rintro _ w20 ⟨rfl, hC22, hn23⟩
    have H24 := (H19'.set (k := 2) rfl hC22 hn23).as (L' := [(some b15, .cells #[i64 (e)] 57 (0, 0)), (some b1, .cells #[.pointer (some ⟨1, 148, none⟩), .pointer (some ⟨vb, 0, none⟩), .int .u64 150] 196 (0, 0)), (some t, .cells #[i64 (e)] 57 (0, 0))]) rfl
    refine wend ?_
    refine seqRegion ?_
    refine sq (r_assign (v := .bool (true)) rfl) ?_
    refine wend ?_
    refine retAny ?_
    refine thenRet ?_
    refine blockRet ?_
    refine thenRet ?_
    refine blockRet ?_
    refine retG (rs := [.tmp 8]) (vs := [.bool (true)]) rfl ⟨⟨rfl, rfl⟩, trivial⟩ ?_
    exact ⟨_, rfl, rfl, H24.chg, H24.get (k := 2) rfl⟩
  · skip
    obtain ⟨b, nm, at1, v1, rfl, hlo, hb, hEr1⟩ := hEr
    refine blockAny ?_
    refine seqAny ?_
    refine seqRegion ?_
    refine sq (r_move (v := .iface 183 (.pointer (some ⟨b, 0, none⟩))) rfl) ?_
    refine sqR (wantedNone rfl _ _) (r_ext (vs := [.iface 183 (.pointer (some ⟨b, 0, none⟩))]) rfl (x_typeOf183 (.pointer (some ⟨b, 0, none⟩)) w5)) ?_
    rintro _ _ ⟨rfl, rfl⟩
    refine sq (r_move (v := .iface 221 (.agg #[.pointer (some ⟨1, 57, none⟩)])) rfl) ?_
    refine sqR (wantedNone rfl _ _) (r_invX (vs := [.iface 221 (.agg #[.pointer (some ⟨1, 57, none⟩)])]) rfl (m_AssignableTo _) rfl (x_assign183_57 w5)) ?_
    rintro _ _ ⟨rfl, rfl⟩
    refine wend ?_
    refine condFalse rfl ?_
    refine skipAny ?_
    refine thenNormal ?_
    refine seqAny ?_
    refine seqRegion ?_
    refine sq (r_move (v := .iface 183 (.pointer (some ⟨b, 0, none⟩))) rfl) ?_
    refine sq (r_lacks lk183_233 rfl) ?_
    refine sq (r_move (v := .tuple #[.nilIface, .bool (false)]) rfl) ?_
    refine sq (r_extract (vs := #[.nilIface, .bool (false)]) rfl rfl) ?_
    refine sq (r_extract (vs := #[.nilIface, .bool (false)]) rfl rfl) ?_
    refine sq (r_assign (v := .nilIface) rfl) ?_
    refine sq (r_assign (v := .bool (false)) rfl) ?_
    refine wend ?_
    refine seqRegion ?_
    refine sq (r_move (v := .bool (false)) rfl) ?_
    refine sq (r_move (v := .bool (false)) rfl) ?_
    refine skAny (wantedSome (d' := 31) (b := false) rfl rfl rfl) ?_
    refine skAny (wantedSome (d' := 31) (b := false) rfl rfl rfl) ?_
    refine skAny (wantedSome (d' := 31) (b := false) rfl rfl rfl) ?_
    refine sq (r_pickF (v := .bool (false)) rfl rfl) ?_
    refine wend ?_
    refine condFalse rfl ?_
    refine skipAny ?_
    refine thenNormal ?_
    refine seqRegion ?_
    refine sq (r_move (v := .iface 183 (.pointer (some ⟨b, 0, none⟩))) rfl) ?_
    refine wend ?_
    refine blockAny ?_
    refine seqRegion ?_
    refine sq (r_has hs183_226 rfl) ?_
    refine sq (r_extract (vs := #[.iface 183 (.pointer (some ⟨b, 0, none⟩)), .bool (true)]) rfl rfl) ?_
    refine sq (r_extract (vs := #[.iface 183 (.pointer (some ⟨b, 0, none⟩)), .bool (true)]) rfl rfl) ?_
    refine wend ?_
    refine condTrue rfl ?_
    refine seqRegion ?_
    refine sq (r_assign (v := .iface 183 (.pointer (some ⟨b, 0, none⟩))) rfl) ?_
    refine wend ?_
    refine seqRegion ?_
    refine sq (r_move (v := .iface 183 (.pointer (some ⟨b, 0, none⟩))) rfl) ?_
    refine caAny (wantedNone rfl _ _) (Enters.inv (vs := []) call146 rfl (m_Unwrap _) rfl) (unwrap_ok b nm at1 _ v1 w5 hb) ?_
    rintro _ w29 ⟨rfl, hE31⟩
    have H32 := HL.ext hE31
    refine sq (r_assign (v := v1) rfl) ?_
    have hEr2 := hEr1.ext hE31
    obtain ⟨T1, x1, rfl⟩ := hEr2.iface
    refine wend ?_
    refine seqRegion ?_
    refine sq (r_move (v := .iface T1 (x1)) rfl) ?_
    refine sq (r_eqlIN isI27 rfl rfl) ?_
    refine wend ?_
    refine condFalse rfl ?_
    refine skipAny ?_
    refine blockNormal ?_
    refine blockNormal ?_
    refine thenNormal ?_
    exact ⟨(.iface T1 x1, k), _, rfl, ⟨rfl, rfl, rfl, rfl, trivial⟩, ⟨hEr2, H32⟩, Nat.lt_succ_self k⟩

theorem asE1_ok (e o : Int) (t k lo : Nat) (v : Value) (w : World) (hG : Gl w) (hM0 : ¬ (0 = t)) (hEr : Er lo w e k v) (ht : w.heap[t]? = some (.cells #[i64 (o)] 57 (0, 0))) : Calls Tryd.prog 72 [v, .iface 148 (.pointer (some ⟨t, 0, none⟩))].toArray w (Ret fun r w' => r = .bool true ∧ Chg (· = t) w w' ∧ w'.heap[t]? = some (.cells #[i64 (e)] 57 (0, 0))) := by
  obtain ⟨gcs, gT, gfr, hg, hgv⟩ := hG
  rw [handleErr] at hgv
  obtain ⟨T0, x0, rfl⟩ := hEr.iface
  have H := Hp.start1 (M := (· = t)) rfl ht
  refine enter (n := 42) Tryd.func72 rfl rfl (Nat.le_of_ble_eq_true rfl) ?_
  refine seqRegion ?_
  refine sq (r_assign (v := .bool (false)) rfl) ?_
  refine wend ?_
  refine seqAny ?_
  refine seqRegion ?_
  refine sq (r_move (v := .iface T0 (x0)) rfl) ?_
  refine sq (r_eqlIN isI27 rfl rfl) ?_
  refine wend ?_
  refine condFalse rfl ?_
  refine skipAny ?_
  refine thenNormal ?_
  refine seqAny ?_
  refine seqRegion ?_
  refine sq (r_move (v := .iface 148 (.pointer (some ⟨t, 0, none⟩))) rfl) ?_
  refine sq (r_eqlIN isI20 rfl rfl) ?_
  refine wend ?_
  refine condFalse rfl ?_
  refine skipAny ?_
  refine thenNormal ?_
  refine seqRegion ?_
  refine sq (r_move (v := .iface 148 (.pointer (some ⟨t, 0, none⟩))) rfl) ?_
  refine sqR (wantedNone rfl _ _) (r_ext (vs := [.iface 148 (.pointer (some ⟨t, 0, none⟩))]) rfl (x_valueOf148 ⟨t, 0, none⟩ w)) ?_
  rintro _ w1 ⟨b3, rfl, hb4, ho5, hE6⟩
  have hvs := H.chg.size
  have H7 := H.add1 hE6 hb4 ho5
  have H7' := H7.as (L' := [(some b3, .cells #[.pointer (some ⟨t, 0, none⟩)] 148 (0, 0)), (some t, .cells #[i64 (o)] 57 (0, 0))]) rfl
  refine q_alloc (o := .cells #[.pointer none, .pointer none, u64 (0#64)] 196 (0, 0)) H7' zer196 (by kernel_rfl) ?_
  intro b8 w9 hb8 H10 hE11
  refine d_store (k := 0) (v := .agg #[.pointer (some ⟨1, 148, none⟩), .pointer (some ⟨b3, 0, none⟩), .int .u64 150]) (cs' := #[.pointer (some ⟨1, 148, none⟩), .pointer (some ⟨b3, 0, none⟩), .int .u64 150]) H10 rfl rfl rfl siz196 (by rfl) (by intro u hu; simp [Value.cells] at hu; first | (subst hu; rfl) | (rcases hu with rfl | rfl | rfl <;> rfl)) (by exact Nat.le_of_ble_eq_true rfl) (by rfl) ?_
  intro w12 H13 hC14
  have H13' := H13.as (L' := [(some b8, .cells #[.pointer (some ⟨1, 148, none⟩), .pointer (some ⟨b3, 0, none⟩), .int .u64 150] 196 (0, 0)), (some b3, .cells #[.pointer (some ⟨t, 0, none⟩)] 148 (0, 0)), (some t, .cells #[i64 (o)] 57 (0, 0))]) rfl
  clear H13
  refine wend ?_
  refine seqRegion ?_
  refine sq (r_loadA (cs' := #[.pointer (some ⟨1, 148, none⟩), .pointer (some ⟨b3, 0, none⟩), .int .u64 150]) agg196 siz196 (H13'.get (k := 0) rfl) (off := 0) rfl (by exact Nat.le_of_ble_eq_true rfl) (by rfl)) ?_
  refine sqR (wantedNone rfl _ _) (r_ext (vs := [.agg #[.pointer (some ⟨1, 148, none⟩), .pointer (some ⟨b3, 0, none⟩), .int .u64 150]]) rfl (x_type148 ⟨b3, 0, none⟩ w12)) ?_
  rintro _ _ ⟨rfl, rfl⟩
  refine sq (r_assign (v := .iface 221 (.agg #[.pointer (some ⟨1, 148, none⟩)])) rfl) ?_
  refine wend ?_
  refine seqAny ?_
  refine seqRegion ?_
  refine sq (r_move (v := .iface 221 (.agg #[.pointer (some ⟨1, 148, none⟩)])) rfl) ?_
  refine sqR (wantedNone rfl _ _) (r_invX (vs := []) rfl (m_Kind _) rfl (x_kind148 w12)) ?_
  rintro _ _ ⟨rfl, rfl⟩
  refine sq ((r_neq8 (a := 22#8) (b := 22#8) rfl rfl).as (v' := .bool (false)) (by rfl)) ?_
  refine sq (r_move (v := .bool (false)) rfl) ?_
  refine sqAny (v := .agg #[.pointer (some ⟨1, 148, none⟩), .pointer (some ⟨b3, 0, none⟩), .int .u64 150]) (w' := w12) (wantedSome (d' := 20) (b := false) rfl rfl rfl) (r_loadA (cs' := #[.pointer (some ⟨1, 148, none⟩), .pointer (some ⟨b3, 0, none⟩), .int .u64 150]) agg196 siz196 (H13'.get (k := 0) rfl) (off := 0) rfl (by exact Nat.le_of_ble_eq_true rfl) (by rfl)) ?_
  refine sqR (wantedSome (d' := 20) (b := false) rfl rfl rfl) (r_ext (vs := [.agg #[.pointer (some ⟨1, 148, none⟩), .pointer (some ⟨b3, 0, none⟩), .int .u64 150]]) rfl (x_isNil148 ⟨b3, 0, none⟩ ⟨t, 0, none⟩ w12 (by rw [cell_eq (H13'.get (k := 1) rfl)]; rfl))) ?_
  rintro _ _ ⟨rfl, rfl⟩
  refine sq (r_pickF (v := .bool (false)) rfl rfl) ?_
  refine wend ?_
  refine condFalse rfl ?_
  refine skipAny ?_
  refine thenNormal ?_
  refine seqRegion ?_
  refine sq (r_move (v := .iface 221 (.agg #[.pointer (some ⟨1, 148, none⟩)])) rfl) ?_
  refine sqR (wantedNone rfl _ _) (r_invX (vs := []) rfl (m_Elem _) rfl (x_elem148 w12)) ?_
  rintro _ _ ⟨rfl, rfl⟩
  refine sq (r_assign (v := .iface 221 (.agg #[.pointer (some ⟨1, 57, none⟩)])) rfl) ?_
  refine wend ?_
  refine seqAny ?_
  refine seqRegion ?_
  refine sq (r_move (v := .iface 221 (.agg #[.pointer (some ⟨1, 57, none⟩)])) rfl) ?_
  refine sqR (wantedNone rfl _ _) (r_invX (vs := []) rfl (m_Kind _) rfl (x_kind57 w12)) ?_
  rintro _ _ ⟨rfl, rfl⟩
  refine sq ((r_neq8 (a := 2#8) (b := 20#8) rfl rfl).as (v' := .bool (true)) (by rfl)) ?_
  refine sq (r_move (v := .bool (true)) rfl) ?_
  refine sqAny (v := .iface 221 (.agg #[.pointer (some ⟨1, 57, none⟩)])) (w' := w12) (wantedSome (d' := 30) (b := true) rfl rfl rfl) (r_move (v := .iface 221 (.agg #[.pointer (some ⟨1, 57, none⟩)])) rfl) ?_
  refine sqAny (v := .iface 221 (.agg #[.pointer (some ⟨1, 27, none⟩)])) (w' := w12) (wantedSome (d' := 30) (b := true) rfl rfl rfl) (r_loadC (v := .iface 221 (.agg #[.pointer (some ⟨1, 27, none⟩)])) one190 (H13'.keep hM0 hg) (off := 0) rfl (hgv)) ?_
  refine sqR (wantedSome (d' := 30) (b := true) rfl rfl rfl) (r_invX (vs := [.iface 221 (.agg #[.pointer (some ⟨1, 27, none⟩)])]) rfl (m_Implements _) rfl (x_impl57 w12)) ?_
  rintro _ _ ⟨rfl, rfl⟩
  refine sqAny (v := .bool (false)) (w' := w12) (wantedSome (d' := 30) (b := true) rfl rfl rfl) (r_notT rfl) ?_
  refine sq (r_pickT (u := .bool (false)) rfl rfl) ?_
  refine wend ?_
  refine condFalse rfl ?_
  refine skipAny ?_
  refine thenNormal ?_
  refine seqRegion ?_
  refine sq (r_move (v := .iface T0 (x0)) rfl) ?_
  refine sq (r_move (v := .iface 148 (.pointer (some ⟨t, 0, none⟩))) rfl) ?_
  refine sq (r_loadA (cs' := #[.pointer (some ⟨1, 148, none⟩), .pointer (some ⟨b3, 0, none⟩), .int .u64 150]) agg196 siz196 (H13'.get (k := 0) rfl) (off := 0) rfl (by exact Nat.le_of_ble_eq_true rfl) (by rfl)) ?_
  refine sq (r_move (v := .iface 221 (.agg #[.pointer (some ⟨1, 57, none⟩)])) rfl) ?_
  refine c_call (vs := [.iface T0 (x0), .iface 148 (.pointer (some ⟨t, 0, none⟩)), .agg #[.pointer (some ⟨1, 148, none⟩), .pointer (some ⟨b3, 0, none⟩), .int .u64 150], .iface 221 (.agg #[.pointer (some ⟨1, 57, none⟩)])]) call103 rfl (asE0_ok e o t b3 k lo (.iface T0 x0) w12 (Er.chgs (((Ext.chg (M := fun x => x = b8) hE6).trans (Ext.chg (M := fun x => x = b8) hE11)).trans (hC14.mono (M' := fun x => x = b8) (fun _ h => by subst h; simp))) (fun x h1 h2 h3 => by have := hE6.size; have := hE11.size; have := hC14.size; rcases h3 with rfl <;> omega) hEr) (H13'.get (k := 2) rfl) (H13'.get (k := 1) rfl) (fun e2 => by have := lt_of_some ht; omega)) ?_
  rintro _ w27 ⟨rfl, hC29, hn30⟩
  have H31 := (H13'.set (k := 2) rfl hC29 hn30).as (L' := [(some b8, .cells #[.pointer (some ⟨1, 148, none⟩), .pointer (some ⟨b3, 0, none⟩), .int .u64 150] 196 (0, 0)), (some b3, .cells #[.pointer (some ⟨t, 0, none⟩)] 148 (0, 0)), (some t, .cells #[i64 (e)] 57 (0, 0))]) rfl
  refine sq (r_assign (v := .bool (true)) rfl) ?_
  refine wend ?_
  refine retAny ?_
  refine retG (rs := [.tmp 4]) (vs := [.bool (true)]) rfl ⟨⟨rfl, rfl⟩, trivial⟩ ?_
  exact ⟨_, rfl, rfl, H31.chg, H31.get (k := 2) rfl⟩

theorem code_ok (e : Int) (k lo : Nat) (v : Value) (w : World) (hG : Gl w) (hEr : Er lo w e k v) : Calls Tryd.prog 26 [v].toArray w (Ret fun r w' => r = i64 e ∧ Ext w w') := by
  obtain ⟨T0, x0, rfl⟩ := hEr.iface
  have H := Hp.start No w
  refine enter (n := 10) Tryd.func26 rfl rfl (Nat.le_of_ble_eq_true rfl) ?_
  refine seqRegion ?_
  refine sq (r_assign (v := i64 ((0 : Int))) rfl) ?_
  refine wend ?_
  refine seqAny ?_
  refine seqRegion ?_
  refine sq (r_move (v := .iface T0 (x0)) rfl) ?_
  refine sq (r_eqlIN isI27 rfl rfl) ?_
  refine wend ?_
  refine condFalse rfl ?_
  refine skipAny ?_
  refine thenNormal ?_
  refine seqRegion ?_
  refine q_alloc (o := .cells (cel EI ([0])).toArray 57 (0, 0)) H zer57 (by kernel_rfl) ?_
  intro b1 w2 hb1 H3 hE4
  refine wend ?_
  refine seqAny ?_
  refine seqRegion ?_
  refine sq (r_move (v := .iface T0 (x0)) rfl) ?_
  refine sq (r_mkIP und148 (xv := .pointer (some ⟨b1, 0, none⟩)) rfl) ?_
  refine c_call (vs := [.iface T0 (x0), .iface 148 (.pointer (some ⟨b1, 0, none⟩))]) call72 rfl (asE1_ok e 0 b1 k lo (.iface T0 x0) w2 (Chg.gl H3.chg (fun x => x) hG) (by have := hG.lt; have := (H3.own _ (List.mem_of_getElem? (i := 0) rfl) _ rfl).resolve_left (fun h => h); omega) (hEr.ext hE4) (H3.get (k := 0) rfl)) ?_
  rintro _ w5 ⟨rfl, hC7, hn8⟩
  have H9 := (H3.set (k := 0) rfl hC7 hn8).as (L' := [(some b1, .cells (cel EI ([e])).toArray 57 (0, 0))]) rfl
  refine wend ?_
  refine condTrue rfl ?_
  refine seqRegion ?_
  refine sq (r_ld1 (E := EI) (l := [e]) (j := 0) (a := e) fits57 (H9.get (k := 0) rfl) (by rfl) rfl rfl) ?_
  refine sq (r_assign (v := i64 (e)) rfl) ?_
  refine wend ?_
  refine retAny ?_
  refine thenRet ?_
  refine retG (rs := [.tmp 2]) (vs := [i64 (e)]) rfl ⟨⟨rfl, rfl⟩, trivial⟩ ?_
  exact ⟨_, rfl, rfl, H9.chg⟩

theorem codenil_ok (w : World) : Calls Tryd.prog 26 [.nilIface].toArray w (Ret fun v w' => v = i64 (0 : Int) ∧ Ext w w') := by
  have H := Hp.start No w
  refine enter (n := 10) Tryd.func26 rfl rfl (Nat.le_of_ble_eq_true rfl) ?_
  refine seqRegion ?_
  refine sq (r_assign (v := i64 ((0 : Int))) rfl) ?_
  refine wend ?_
  refine seqAny ?_
  refine seqRegion ?_
  refine sq (r_move (v := .nilIface) rfl) ?_
  refine sq (r_eqlNN isI27 rfl rfl) ?_
  refine wend ?_
  refine condTrue rfl ?_
  refine seqRegion ?_
  refine sq (r_assign (v := i64 ((0 : Int))) rfl) ?_
  refine wend ?_
  refine retAny ?_
  refine thenRet ?_
  refine retG (rs := [.tmp 2]) (vs := [i64 ((0 : Int))]) rfl ⟨⟨rfl, rfl⟩, trivial⟩ ?_
  exact ⟨_, rfl, rfl, H.chg⟩
end Go.Proofs.YteofdmdpaejgaaaDoor.Er
