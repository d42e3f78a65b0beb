/- What the claim has need of: ErrD, Fault, FaultK, Circ, Cm, Cm2, Cm3, Cm4, Cm5, Cm6, Cm7. -/
import Derived.Test.YtohngnahcgbfmaaGreatDoorJr2
import Derived.Test.YtohngnahcgbfmaaGreatDoorProg
import Derived.Laws.StructEq
namespace Go.Proofs.YtohngnahcgbfmaaGreatDoor.Vc
open Go
abbrev LbT := BitVec 64 × BitVec 64
abbrev lO (a : LbT) : Obj := .cells (cel E64 [a.1, a.2]).toArray 38 (0, 0)
abbrev lV (a : LbT) : Value := .agg (cel E64 [a.1, a.2]).toArray
abbrev pT (b : Nat) : Value := .pointer (some ⟨b, 0, none⟩)
theorem bLe {n m : Nat} (h : Nat.ble n m = true) : n ≤ m := Nat.le_of_ble_eq_true h
theorem bTF (b : Bool) : b = true ∨ b = false := Bool.eq_false_or_eq_true b
theorem mp2 {L : Nat → Bool} {i j : Nat} {a b : Bool} (h : L i = a) (h2 : L j = b) : List.map L [i, j] = [a, b] := by rw [← h, ← h2]; rfl
theorem mp3 {L : Nat → Bool} {i j k : Nat} {a b c : Bool} (h : L i = a) (h2 : L j = b) (h3 : L k = c) : List.map L [i, j, k] = [a, b, c] := by rw [← h, ← h2, ← h3]; rfl
theorem mp4 {L : Nat → Bool} {i j k m : Nat} {a b c d : Bool} (h : L i = a) (h2 : L j = b) (h3 : L k = c) (h4 : L m = d) : List.map L [i, j, k, m] = [a, b, c, d] := by rw [← h, ← h2, ← h3, ← h4]; rfl
theorem sM {P : Program} {n : Nat} {ops : Array Oper} {Q : Exit → Act → World → Prop} {ρ : Env} {w : World} {d : Option Nat} {x : Operand} {t : TypeId} {pos : String} {after : Array Edge} {rest : List Oper} (v : Value) (hx : ev n ρ x = v) (h : W P n ops Q rest (updo ρ d v) w) : W P n ops Q (⟨d, .move x, t, pos, after, none⟩ :: rest) ρ w := sq (r_move hx) h
theorem sA {P : Program} {n : Nat} {ops : Array Oper} {Q : Exit → Act → World → Prop} {ρ : Env} {w : World} {d : Option Nat} {x : Operand} {t : TypeId} {pos : String} {after : Array Edge} {rest : List Oper} (v : Value) (hx : ev n ρ x = v) (h : W P n ops Q rest (updo ρ d v) w) : W P n ops Q (⟨d, .assign x, t, pos, after, none⟩ :: rest) ρ w := sq (r_assign hx) h
theorem sR {P : Program} {n : Nat} {Q : Exit → Act → World → Prop} {ρ : Env} {w : World} {id : Nat} {l : List Oper} {y : Code} (h : W P n l.toArray (Exit.then (y.wp P Q) Q) l ρ w) : (Code.seq (.region id l.toArray false) y).wp P Q (St n ρ) w := seqRegion h
theorem rG1 {P : Program} {n : Nat} {ρ : Env} {w : World} {fn : Func} {R : Ending → World → Prop} (d : Nat) (v : Value) (hr : fn.results = #[.tmp d]) (hd : Nat.blt d n = true ∧ ρ d = v) (hR : R (.returned v) w) : bodyPost P fn R .ret (St n ρ) w := retG (rs := [.tmp d]) (vs := [v]) hr ⟨hd, trivial⟩ hR
theorem eG1 {P : Program} {n : Nat} {ρ : Env} {w : World} {fn : Func} {R : Ending → World → Prop} (d : Nat) (v : Value) (hr : fn.results = #[.tmp d]) (hd : Nat.blt d n = true ∧ ρ d = v) (hR : R (.returned v) w) : bodyPost P fn R .normal (St n ρ) w := endG (rs := [.tmp d]) (vs := [v]) hr ⟨hd, trivial⟩ hR
theorem oneL {v : Value} (h : v.cells.toList.all (·.oneCell') = true) : ∀ u ∈ v.cells.toList, u.oneCell' = true := fun u hu => List.all_eq_true.1 h u hu
abbrev iN (n : Nat) : Value := i64 (n : Int)
abbrev sN0 : Value := .slice none 0 0
abbrev rc (b : Nat) (x : Array Value) (t : TypeId) : Option Nat × Obj := (some b, .cells x t (0, 0))
abbrev re {α : Type} (b : Nat) (E : Enc α) (l : List α) (t : TypeId) : Option Nat × Obj := (some b, .cells (cel E l).toArray t (0, 0))
theorem wS {P : Program} {n : Nat} {ops : Array Oper} {Q : Exit → Act → World → Prop} {ρ : Env} {w : World} {id : Nat} {l : List Oper} {y : Code} (h : W P n l.toArray (Exit.then (y.wp P Q) Q) l ρ w) : W P n ops (Exit.then ((Code.seq (.region id l.toArray false) y).wp P Q) Q) [] ρ w := wend (seqRegion h)
end Go.Proofs.YtohngnahcgbfmaaGreatDoor.Vc
namespace Go.Proofs.YtohngnahcgbfmaaGreatDoor.Vc
open Go
/-- an error with the number e, in k places, whose blocks aren't below lo -/
def Er (lo : Nat) (w : World) (e : Int) : Nat → Value → Prop
 | 0, v => v = .iface 63 (i64 e)
 | k + 1, v => ∃ (b : Nat) (nm : ByteArray) (at' : Int) (v' : Value), v = .iface 122 (pT b) ∧ lo ≤ b ∧ w.heap[b]? = some (.cells #[.string nm, i64 at', i64 ((k + 1 : Nat) : Int), v'] 126 (0, 0)) ∧ Er lo w e k v'
theorem Er.chg {lo : Nat} {M : Nat → Prop} {w w' : World} {e : Int} (hC : Chg M w w') (hM : ∀ b, lo ≤ b → ¬ M b) : ∀ {k : Nat} {v : Value}, Er lo w e k v → Er lo w' e k v
 | 0, _, h => h
 | _ + 1, _, ⟨b, nm, at', v', h1, h2, h3, h4⟩ => ⟨b, nm, at', v', h1, h2, hC.blk _ _ (hM b h2) h3, Er.chg hC hM h4⟩
theorem Er.chgs {lo : Nat} {N : Nat → Prop} {w w' : World} {e : Int} (hC : Chg N w w') (hN : ∀ b, lo ≤ b → b < w.heap.size → ¬ N b) : ∀ {k : Nat} {v : Value}, Er lo w e k v → Er lo w' e k v
 | 0, _, h => h
 | _ + 1, _, ⟨b, nm, at', v', h1, h2, h3, h4⟩ => ⟨b, nm, at', v', h1, h2, hC.blk _ _ (hN b h2 (lt_of_some h3)) h3, Er.chgs hC hN h4⟩
theorem Er.ext {lo : Nat} {w w' : World} {e : Int} {k : Nat} {v : Value} (h : Er lo w e k v) (hE : Ext w w') : Er lo w' e k v := Er.chg hE (fun _ _ x => x) h
theorem Er.mono {lo lo' : Nat} {w : World} {e : Int} (hl : lo' ≤ lo) : ∀ {k : Nat} {v : Value}, Er lo w e k v → Er lo' w e k v
 | 0, _, h => h
 | _ + 1, _, ⟨b, nm, at', v', h1, h2, h3, h4⟩ => ⟨b, nm, at', v', h1, Nat.le_trans hl h2, h3, Er.mono hl h4⟩
theorem Er.iface {lo : Nat} {w : World} {e : Int} : ∀ {k : Nat} {v : Value}, Er lo w e k v → ∃ T x, v = .iface T x
 | 0, _, h => ⟨_, _, h⟩
 | _ + 1, _, ⟨_, _, _, _, h1, _, _, _⟩ => ⟨_, _, h1⟩
/-- what the condition tells of errors.errorType's cell -/
def Gl (w : World) : Prop := ∃ (cs : Array Value) (T : TypeId) (fr : Nat × Nat), w.heap[0]? = some (.cells cs T fr) ∧ cs[0]? = some (.iface 193 (.agg #[typeHandle Tryz.prog 31]))
theorem Chg.gl {M : Nat → Prop} {w w' : World} (h : Chg M w w') (hM : ¬ M 0) (hG : Gl w) : Gl w' := by
 obtain ⟨cs, T, fr, h1, h2⟩ := hG
 exact ⟨cs, T, fr, h.blk _ _ hM h1, h2⟩
theorem Ext.gl {w w' : World} (h : Ext w w') (hG : Gl w) : Gl w' := Chg.gl h (fun x => x) hG
theorem Gl.lt {w : World} (hG : Gl w) : 0 < w.heap.size := by
 obtain ⟨cs, T, fr, h1, _⟩ := hG
 exact lt_of_some h1
end Go.Proofs.YtohngnahcgbfmaaGreatDoor.Vc
namespace Go.Proofs.YtohngnahcgbfmaaGreatDoor.Er
open Go Go.Proofs.YtohngnahcgbfmaaGreatDoor.Vc
theorem agg163 : isAgg' Tryz.prog 163 = true := by kernel_rfl
theorem call41 : callable Tryz.prog 41 = true := by kernel_rfl
theorem call62 : callable Tryz.prog 62 = true := by kernel_rfl
theorem isI20 : isI Tryz.prog 20 = true := by kernel_rfl
theorem isI31 : isI Tryz.prog 31 = true := by kernel_rfl
theorem lk63_198 : lacksI Tryz.prog 63 198 = true := by kernel_rfl
theorem lk63_200 : lacksI Tryz.prog 63 200 = true := by kernel_rfl
theorem lk63_205 : lacksI Tryz.prog 63 205 = true := by kernel_rfl
theorem one157 : isOne Tryz.prog 157 = true := by kernel_rfl
theorem pls126 : pls Tryz.prog 126 = some #[(0, 1), (1, 1), (2, 1), (3, 1)] := by kernel_rfl
theorem siz163 : siz Tryz.prog 163 = some 3 := by kernel_rfl
theorem und122 : Tryz.prog.underlying 122 = some (.pointer 126) := by kernel_rfl
theorem und124 : Tryz.prog.underlying 124 = some (.pointer 122) := by kernel_rfl
theorem und63 : Tryz.prog.underlying 63 = some (.int .i64) := by kernel_rfl
theorem zer122 : zer Tryz.prog 122 = some (.pointer none) := by kernel_rfl
theorem zer126 : zer Tryz.prog 126 = some (.agg #[.string ⟨#[]⟩, .int .i64 0, .int .i64 0, .nilIface]) := by kernel_rfl
theorem zer163 : zer Tryz.prog 163 = some (.agg #[.pointer none, .pointer none, .int .u64 0]) := by kernel_rfl
theorem x_typeOf63 (v : Value) (w : World) : Xc Tryz.prog 57 [.iface 63 v] w (fun r w' => r = .iface 193 (.agg #[.pointer (some ⟨1, 63, none⟩)]) ∧ w = w') :=
 Xc.of (e := Extern.ReflectliteType.typeOf) Tryz.func57 (by kernel_rfl) (by kernel_rfl) (by kernel_rfl) (by kernel_rfl) (by kernel_rfl) ⟨rfl, rfl⟩
theorem x_assign63_122  (w : World) : Xc Tryz.prog 129 [.agg #[.pointer (some ⟨1, 63, none⟩)], .iface 193 (.agg #[.pointer (some ⟨1, 122, none⟩)])] w (fun r w' => r = .bool false ∧ w = w') :=
 Xc.of (e := (Extern.ReflectliteType.relation "AssignableTo" Extern.ReflectliteType.assignableTo)) Tryz.func129 (by kernel_rfl) (by kernel_rfl) (by kernel_rfl) (by kernel_rfl) (by kernel_rfl) ⟨rfl, rfl⟩
theorem x_valueOf124 (t : Addr) (w : World) : Xc Tryz.prog 59 [.iface 124 (.pointer (some t))] w (fun r w' => ∃ b, r = .agg #[.pointer (some ⟨1, 124, none⟩), pT b, .int .u64 150] ∧ w.heap.size ≤ b ∧ w'.heap[b]? = some (.cells #[.pointer (some t)] 124 (0, 0)) ∧ Ext w w') :=
 Xc.of (e := (fun args => Extern.ReflectliteValue.unpack (args.getD 0 (.tuple #[])))) (v := .agg #[.pointer (some ⟨1, 124, none⟩), .pointer (some ⟨w.heap.size, 0, none⟩), .int .u64 150]) (w' := w.alloc (.cells #[.pointer (some t)] 124)) Tryz.func59 (by kernel_rfl) (by kernel_rfl) (by kernel_rfl) (by kernel_rfl) (by kernel_rfl) ⟨w.heap.size, rfl, Nat.le_refl _, alloc_new _ _, Ext.alloc _ _⟩
theorem x_type124 (a : Addr) (w : World) : Xc Tryz.prog 60 [.agg #[.pointer (some ⟨1, 124, none⟩), .pointer (some a), .int .u64 150]] w (fun r w' => r = .iface 193 (.agg #[.pointer (some ⟨1, 124, none⟩)]) ∧ w = w') :=
 Xc.of (e := (Extern.ReflectliteValue.methodAny (Extern.ReflectliteValue.valueError "reflectlite.Value.Type" 0) (fun t _ _ _ => Extern.ReflectliteType.toType t))) Tryz.func60 (by kernel_rfl) (by kernel_rfl) (by kernel_rfl) (by kernel_rfl) (by kernel_rfl) ⟨rfl, rfl⟩
theorem x_kind124  (w : World) : Xc Tryz.prog 119 [.pointer (some ⟨1, 124, none⟩)] w (fun r w' => r = u8 22#8 ∧ w = w') :=
 Xc.of (e := (Extern.ReflectliteType.abiMethod fun t => do pure (.int .u8 (← Extern.Rtype.kind t)))) Tryz.func119 (by kernel_rfl) (by kernel_rfl) (by kernel_rfl) (by kernel_rfl) (by kernel_rfl) ⟨rfl, rfl⟩
theorem x_kind122  (w : World) : Xc Tryz.prog 119 [.pointer (some ⟨1, 122, none⟩)] w (fun r w' => r = u8 22#8 ∧ w = w') :=
 Xc.of (e := (Extern.ReflectliteType.abiMethod fun t => do pure (.int .u8 (← Extern.Rtype.kind t)))) Tryz.func119 (by kernel_rfl) (by kernel_rfl) (by kernel_rfl) (by kernel_rfl) (by kernel_rfl) ⟨rfl, rfl⟩
theorem rlm (z : Sem Value) (f : TypeId → Addr → Nat → Nat → Sem Value) (v : Value) : Extern.ReflectliteValue.method z f #[v] = (do match ← Extern.ReflectliteValue.parts v with | none => z | some (t, a, fl) => f t a fl (fl % 32)) := rfl
theorem parts124 (a : Addr) (w : World) : (Extern.ReflectliteValue.parts (.agg #[.pointer (some ⟨1, 124, none⟩), .pointer (some a), .int .u64 150])).run Tryz.prog w = .ok (some (124, a, 150)) w := by kernel_rfl
theorem x_isNil124 (a p : Addr) (w : World) (ha : w.cell? a = some (.pointer (some p))) : Xc Tryz.prog 61 [.agg #[.pointer (some ⟨1, 124, none⟩), .pointer (some a), .int .u64 150]] w (fun r w' => r = .bool false ∧ w = w') :=
 Xc.of (e := (Extern.ReflectliteValue.method (Extern.ReflectliteValue.valueError "reflectlite.Value.IsNil" 0) Extern.ReflectliteValue.isNil)) Tryz.func61 (by kernel_rfl) (by kernel_rfl) (by kernel_rfl) (by kernel_rfl) (by show (Extern.ReflectliteValue.method _ _ #[_]).run _ _ = _; rw [rlm]; simp only [Sem.run_bind, parts124, Result.andThen]; simp [Extern.ReflectliteValue.isNil, loadVar, isAgg, underlying, ha, Result.andThen]) ⟨rfl, rfl⟩
theorem x_elem124  (w : World) : Xc Tryz.prog 131 [.agg #[.pointer (some ⟨1, 124, none⟩)]] w (fun r w' => r = .iface 193 (.agg #[.pointer (some ⟨1, 122, none⟩)]) ∧ w = w') :=
 Xc.of (e := (Extern.ReflectliteType.method Extern.ReflectliteType.elem)) Tryz.func131 (by kernel_rfl) (by kernel_rfl) (by kernel_rfl) (by kernel_rfl) (by kernel_rfl) ⟨rfl, rfl⟩
theorem x_impl122  (w : World) : Xc Tryz.prog 132 [.agg #[.pointer (some ⟨1, 122, none⟩)], .iface 193 (.agg #[.pointer (some ⟨1, 31, none⟩)])] w (fun r w' => r = .bool true ∧ w = w') :=
 Xc.of (e := (Extern.ReflectliteType.relation "Implements" Extern.ReflectliteType.implements_)) Tryz.func132 (by kernel_rfl) (by kernel_rfl) (by kernel_rfl) (by kernel_rfl) (by kernel_rfl) ⟨rfl, rfl⟩
theorem m_AssignableTo (v : Value) : Mth Tryz.prog 193 "AssignableTo" (.agg #[v]) 129 (.agg #[v]) := fun w => by kernel_rfl
theorem m_Elem (v : Value) : Mth Tryz.prog 193 "Elem" (.agg #[v]) 131 (.agg #[v]) := fun w => by kernel_rfl
theorem m_Implements (v : Value) : Mth Tryz.prog 193 "Implements" (.agg #[v]) 132 (.agg #[v]) := fun w => by kernel_rfl
theorem m_Kind (v : Value) : Mth Tryz.prog 193 "Kind" (.agg #[v]) 119 v := fun w => by kernel_rfl
theorem handleErr : typeHandle Tryz.prog 31 = .pointer (some ⟨1, 31, none⟩) := by kernel_rfl
set_option maxHeartbeats 4000000 in
theorem as0_ok (e : Int) (t b : Nat) (w : World) : Calls Tryz.prog 62 [.iface 63 (i64 e), .iface 124 (pT t), .agg #[.pointer (some ⟨1, 124, none⟩), pT b, .int .u64 150], .iface 193 (.agg #[.pointer (some ⟨1, 122, none⟩)])].toArray w (Ret fun v w' => v = .bool false ∧ Ext w w') := by
 let x4 : Value := .iface 63 (i64 e)
 let x3 : Value := .agg #[.pointer (some ⟨1, 122, none⟩)]
 let x2 : Array Value := #[.pointer (some ⟨1, 124, none⟩), pT b, .int .u64 150]
 let x1 : Array Value := #[.nilIface, .bool false]
 have H := Hp.start No w
 refine enter (n := 62) Tryz.func62 rfl rfl (bLe rfl) ?_
 refine sR ?_
 refine q_box (v := .agg x2) (o := .cells x2 163 (0, 0)) H rfl (by rfl) ?_
 intro b1 w2 hb1 H3 hE4
 refine sA (.bool false) rfl ?_
 refine wend ?_
 refine blockAny ?_
 refine loopAny (σ := Unit) (fun _ => [(0, .iface 63 (i64 e)), (1, .iface 124 (pT t)), (3, .iface 193 x3), (6, pT b1)]) (fun _ w' => True ∧ Hp No w w' [(rc b1 x2 163)]) (fun _ => 0) (()) ?_ ?_ ?_
 ·exact ⟨rfl, rfl, rfl, rfl, trivial⟩
 ·exact ⟨trivial, H3⟩
 rintro _ ρ w5 ⟨_, HL⟩
 refine blockAny ?_
 refine seqAny ?_
 refine sR ?_
 refine sM x4 rfl ?_
 refine sqR (wantedNone rfl _ _) (r_ext (vs := [.iface 63 (i64 e)]) rfl (x_typeOf63 (i64 e) w5)) ?_
 rintro _ _ ⟨rfl, rfl⟩
 refine sM (.iface 193 x3) rfl ?_
 refine sqR (wantedNone rfl _ _) (r_invX (vs := [.iface 193 x3]) rfl (m_AssignableTo _) rfl (x_assign63_122 w5)) ?_
 rintro _ _ ⟨rfl, rfl⟩
 refine wend ?_
 refine condFalse rfl ?_
 refine skipAny ?_
 refine thenNormal ?_
 refine seqAny ?_
 refine sR ?_
 refine sM x4 rfl ?_
 refine sq (r_lacks lk63_205 rfl) ?_
 refine sM (.tuple x1) rfl ?_
 refine sq (r_extract (vs := x1) rfl rfl) ?_
 refine sq (r_extract (vs := x1) rfl rfl) ?_
 refine sA (.nilIface) rfl ?_
 refine sA (.bool false) rfl ?_
 refine wS ?_
 refine sM (.bool false) rfl ?_
 refine sM (.bool false) rfl ?_
 refine skAny (wantedSome (d' := 31) (b := false) rfl rfl rfl) ?_
 refine skAny (wantedSome (d' := 31) (b := false) rfl rfl rfl) ?_
 refine skAny (wantedSome (d' := 31) (b := false) rfl rfl rfl) ?_
 refine sq (r_pickF (v := .bool false) rfl rfl) ?_
 refine wend ?_
 refine condFalse rfl ?_
 refine skipAny ?_
 refine thenNormal ?_
 refine sR ?_
 refine sM x4 rfl ?_
 refine wend ?_
 refine blockAny ?_
 refine sR ?_
 refine sq (r_lacks lk63_198 rfl) ?_
 refine sq (r_extract (vs := x1) rfl rfl) ?_
 refine sq (r_extract (vs := x1) rfl rfl) ?_
 refine wend ?_
 refine condFalse rfl ?_
 refine sR ?_
 refine sq (r_lacks lk63_200 rfl) ?_
 refine sq (r_extract (vs := x1) rfl rfl) ?_
 refine sq (r_extract (vs := x1) rfl rfl) ?_
 refine wend ?_
 refine condFalse rfl ?_
 refine sR ?_
 refine sA x4 rfl ?_
 refine wS ?_
 refine sA (.bool false) rfl ?_
 refine wend ?_
 refine retAny ?_
 refine blockRet ?_
 refine blockRet ?_
 refine thenRet ?_
 refine blockRet ?_
 refine rG1 8 (.bool false) rfl ⟨rfl, rfl⟩ ?_
 exact ⟨_, rfl, rfl, HL.chg⟩
set_option maxHeartbeats 4000000 in
theorem as1_ok (e : Int) (t : Nat) (w : World) (hG : Gl w) : Calls Tryz.prog 41 [.iface 63 (i64 e), .iface 124 (pT t)].toArray w (Ret fun v w' => v = .bool false ∧ Ext w w') := by
 let x4 : Value := .agg #[.pointer (some ⟨1, 31, none⟩)]
 let x3 : Value := .iface 193 (.agg #[.pointer (some ⟨1, 124, none⟩)])
 let x2 : Value := .agg #[.pointer (some ⟨1, 122, none⟩)]
 obtain ⟨gcs, gT, gfr, hg, hgv⟩ := hG
 rw [handleErr] at hgv
 have H := Hp.start No w
 refine enter (n := 42) Tryz.func41 rfl rfl (bLe rfl) ?_
 refine sR ?_
 refine sA (.bool false) rfl ?_
 refine wend ?_
 refine seqAny ?_
 refine sR ?_
 refine sM (.iface 63 (i64 e)) rfl ?_
 refine sq (r_eqlIN isI31 rfl rfl) ?_
 refine wend ?_
 refine condFalse rfl ?_
 refine skipAny ?_
 refine thenNormal ?_
 refine seqAny ?_
 refine sR ?_
 refine sM (.iface 124 (pT t)) rfl ?_
 refine sq (r_eqlIN isI20 rfl rfl) ?_
 refine wend ?_
 refine condFalse rfl ?_
 refine skipAny ?_
 refine thenNormal ?_
 refine sR ?_
 refine sM (.iface 124 (pT t)) rfl ?_
 refine sqR (wantedNone rfl _ _) (r_ext (vs := [.iface 124 (pT t)]) rfl (x_valueOf124 ⟨t, 0, none⟩ w)) ?_
 rintro _ w1 ⟨b3, rfl, hb4, ho5, hE6⟩
 let x1 : Array Value := #[.pointer (some ⟨1, 124, none⟩), pT b3, .int .u64 150]
 have H7 := H.add1 hE6 hb4 ho5
 have H7' := H7.as (L' := [_]) rfl
 refine q_alloc (o := .cells #[.pointer none, .pointer none, u64 0#64] 163 (0, 0)) H7' zer163 (by kernel_rfl) ?_
 intro b8 w9 hb8 H10 hE11
 refine d_store (k := 0) (v := .agg x1) (cs' := x1) H10 rfl rfl rfl siz163 (by rfl) (oneL rfl) (by exact bLe rfl) (by rfl) ?_
 intro w12 H13 hC14
 have H13' := H13.as (L' := [_, _]) rfl
 clear H13
 refine wS ?_
 refine sq (r_loadA (cs' := x1) agg163 siz163 (H13'.get (k := 0) rfl) (off := 0) rfl (by exact bLe rfl) (by rfl)) ?_
 refine sqR (wantedNone rfl _ _) (r_ext (vs := [.agg x1]) rfl (x_type124 ⟨b3, 0, none⟩ w12)) ?_
 rintro _ _ ⟨rfl, rfl⟩
 refine sA x3 rfl ?_
 refine wend ?_
 refine seqAny ?_
 refine sR ?_
 refine sM x3 rfl ?_
 refine sqR (wantedNone rfl _ _) (r_invX (vs := []) rfl (m_Kind _) rfl (x_kind124 w12)) ?_
 rintro _ _ ⟨rfl, rfl⟩
 refine sq ((r_neq8 (a := 22#8) (b := 22#8) rfl rfl).as (v' := .bool false) (by rfl)) ?_
 refine sM (.bool false) rfl ?_
 refine sqAny (v := .agg x1) (w' := w12) (wantedSome (d' := 20) (b := false) rfl rfl rfl) (r_loadA (cs' := x1) agg163 siz163 (H13'.get (k := 0) rfl) (off := 0) rfl (by exact bLe rfl) (by rfl)) ?_
 refine sqR (wantedSome (d' := 20) (b := false) rfl rfl rfl) (r_ext (vs := [.agg x1]) rfl (x_isNil124 ⟨b3, 0, none⟩ ⟨t, 0, none⟩ w12 (by rw [cell_eq (H13'.get (k := 1) rfl)]; rfl))) ?_
 rintro _ _ ⟨rfl, rfl⟩
 refine sq (r_pickF (v := .bool false) rfl rfl) ?_
 refine wend ?_
 refine condFalse rfl ?_
 refine skipAny ?_
 refine thenNormal ?_
 refine sR ?_
 refine sM x3 rfl ?_
 refine sqR (wantedNone rfl _ _) (r_invX (vs := []) rfl (m_Elem _) rfl (x_elem124 w12)) ?_
 rintro _ _ ⟨rfl, rfl⟩
 refine sA (.iface 193 x2) rfl ?_
 refine wend ?_
 refine seqAny ?_
 refine sR ?_
 refine sM (.iface 193 x2) rfl ?_
 refine sqR (wantedNone rfl _ _) (r_invX (vs := []) rfl (m_Kind _) rfl (x_kind122 w12)) ?_
 rintro _ _ ⟨rfl, rfl⟩
 refine sq ((r_neq8 (a := 22#8) (b := 20#8) rfl rfl).as (v' := .bool true) (by rfl)) ?_
 refine sM (.bool true) rfl ?_
 refine sqAny (v := .iface 193 x2) (w' := w12) (wantedSome (d' := 30) (b := true) rfl rfl rfl) (r_move (v := .iface 193 x2) rfl) ?_
 refine sqAny (v := .iface 193 x4) (w' := w12) (wantedSome (d' := 30) (b := true) rfl rfl rfl) (r_loadC (v := .iface 193 x4) one157 (H13'.keepE hg) (off := 0) rfl hgv) ?_
 refine sqR (wantedSome (d' := 30) (b := true) rfl rfl rfl) (r_invX (vs := [.iface 193 x4]) rfl (m_Implements _) rfl (x_impl122 w12)) ?_
 rintro _ _ ⟨rfl, rfl⟩
 refine sqAny (v := .bool false) (w' := w12) (wantedSome (d' := 30) (b := true) rfl rfl rfl) (r_notT rfl) ?_
 refine sq (r_pickT (u := .bool false) rfl rfl) ?_
 refine wend ?_
 refine condFalse rfl ?_
 refine skipAny ?_
 refine thenNormal ?_
 refine sR ?_
 refine sM (.iface 63 (i64 e)) rfl ?_
 refine sM (.iface 124 (pT t)) rfl ?_
 refine sq (r_loadA (cs' := x1) agg163 siz163 (H13'.get (k := 0) rfl) (off := 0) rfl (by exact bLe rfl) (by rfl)) ?_
 refine sM (.iface 193 x2) rfl ?_
 refine c_call (vs := [.iface 63 (i64 e), .iface 124 (pT t), .agg x1, .iface 193 x2]) call62 rfl (as0_ok e t b3 w12) ?_
 rintro _ w27 ⟨rfl, hE28⟩
 have H29 := H13'.ext hE28
 refine sA (.bool false) rfl ?_
 refine wend ?_
 refine retAny ?_
 refine rG1 4 (.bool false) rfl ⟨rfl, rfl⟩ ?_
 exact ⟨_, rfl, rfl, H29.chg⟩
theorem wrap0_ok (e at1 : Int) (nm : ByteArray) (w : World) (hG : Gl w) : Calls Tryz.prog 22 [.iface 63 (i64 e), .string nm, i64 at1].toArray w (Ret fun v w' => Er w.heap.size w' e 1 v ∧ Ext w w') := by
 have H := Hp.start No w
 refine enter (n := 29) Tryz.func22 rfl rfl (bLe rfl) ?_
 refine sR ?_
 refine sA (.nilIface) rfl ?_
 refine wend ?_
 refine seqAny ?_
 refine sR ?_
 refine sM (.iface 63 (i64 e)) rfl ?_
 refine sq (r_eqlIN isI31 rfl rfl) ?_
 refine wend ?_
 refine condFalse rfl ?_
 refine skipAny ?_
 refine thenNormal ?_
 refine sR ?_
 refine sA (i64 1) rfl ?_
 refine wS ?_
 refine q_alloc (o := .cells #[.pointer none] 122 (0, 0)) H zer122 (by kernel_rfl) ?_
 intro b1 w2 hb1 H3 hE4
 refine wend ?_
 refine seqAny ?_
 refine sR ?_
 refine sM (.iface 63 (i64 e)) rfl ?_
 refine sq (r_mkIP und124 (xv := pT b1) rfl) ?_
 refine c_call (vs := [.iface 63 (i64 e), .iface 124 (pT b1)]) call41 rfl (as1_ok e b1 w2 (Chg.gl H3.chg (fun x => x) hG)) ?_
 rintro _ w5 ⟨rfl, hE6⟩
 have H7 := H3.ext hE6
 refine wend ?_
 refine condFalse rfl ?_
 refine skipAny ?_
 refine thenNormal ?_
 refine seqAny ?_
 refine sR ?_
 refine sM (i64 1) rfl ?_
 refine sq (r_gtrI (a := (1 : Int)) (b := (64 : Int)) rfl rfl) ?_
 refine wend ?_
 refine condFalse rfl ?_
 refine skipAny ?_
 refine thenNormal ?_
 refine sR ?_
 refine sM (.string nm) rfl ?_
 refine sM (i64 at1) rfl ?_
 refine sM (i64 1) rfl ?_
 refine sM (.iface 63 (i64 e)) rfl ?_
 refine sq (r_build (cs' := #[.string nm, i64 at1, i64 1, .iface 63 (i64 e)]) (ps := [(0, .string nm), (1, i64 at1), (2, i64 1), (3, .iface 63 (i64 e))]) zer126 pls126 rfl (by rfl)) ?_
 refine q_box (v := .agg #[.string nm, i64 at1, i64 1, .iface 63 (i64 e)]) (o := .cells #[.string nm, i64 at1, i64 1, .iface 63 (i64 e)] 126 (0, 0)) H7 rfl (by rfl) ?_
 intro b8 w9 hb8 H10 hE11
 refine sq (r_mkIP und122 (xv := pT b8) rfl) ?_
 refine sA (.iface 122 (pT b8)) rfl ?_
 refine wend ?_
 refine retAny ?_
 refine rG1 6 (.iface 122 (pT b8)) rfl ⟨rfl, rfl⟩ ?_
 exact ⟨_, rfl, ⟨b8, _, _, _, rfl, (H10.own _ (List.mem_of_getElem? (i := 0) rfl) _ rfl).resolve_left (fun h => h), H10.get (k := 0) rfl, rfl⟩, H10.chg⟩
end Go.Proofs.YtohngnahcgbfmaaGreatDoor.Er
namespace Go.Proofs.YtohngnahcgbfmaaGreatDoor.Ek
open Go Go.Proofs.YtohngnahcgbfmaaGreatDoor.Vc Go.Proofs.YtohngnahcgbfmaaGreatDoor.Er
theorem agg163 : isAgg' Tryz.prog 163 = true := by kernel_rfl
theorem call41 : callable Tryz.prog 41 = true := by kernel_rfl
theorem call62 : callable Tryz.prog 62 = true := by kernel_rfl
theorem isI20 : isI Tryz.prog 20 = true := by kernel_rfl
theorem isI31 : isI Tryz.prog 31 = true := by kernel_rfl
theorem one157 : isOne Tryz.prog 157 = true := by kernel_rfl
theorem one3 : isOne Tryz.prog 3 = true := by kernel_rfl
theorem pls126 : pls Tryz.prog 126 = some #[(0, 1), (1, 1), (2, 1), (3, 1)] := by kernel_rfl
theorem siz163 : siz Tryz.prog 163 = some 3 := by kernel_rfl
theorem und122 : Tryz.prog.underlying 122 = some (.pointer 126) := by kernel_rfl
theorem und124 : Tryz.prog.underlying 124 = some (.pointer 122) := by kernel_rfl
theorem zer122 : zer Tryz.prog 122 = some (.pointer none) := by kernel_rfl
theorem zer126 : zer Tryz.prog 126 = some (.agg #[.string ⟨#[]⟩, .int .i64 0, .int .i64 0, .nilIface]) := by kernel_rfl
theorem zer163 : zer Tryz.prog 163 = some (.agg #[.pointer none, .pointer none, .int .u64 0]) := by kernel_rfl
end Go.Proofs.YtohngnahcgbfmaaGreatDoor.Ek
namespace Go.Proofs.YtohngnahcgbfmaaGreatDoor.Er
open Go Go.Proofs.YtohngnahcgbfmaaGreatDoor.Vc Go.Proofs.YtohngnahcgbfmaaGreatDoor.Circ
theorem call22 : callable Tryz.prog 22 = true := by kernel_rfl
theorem fits154 : Fits Tryz.prog 154 EG := fitsG (by kernel_rfl) (by kernel_rfl)
theorem fits3 : Fits Tryz.prog 3 EI := fitsI (by kernel_rfl) (by kernel_rfl)
theorem fld104_0 : fld Tryz.prog 104 0 = some (0, 1, 3) := by kernel_rfl
theorem fld104_1 : fld Tryz.prog 104 1 = some (1, 1, 102) := by kernel_rfl
theorem fld104_2 : fld Tryz.prog 104 2 = some (2, 1, 100) := by kernel_rfl
theorem fld154_0 : fld Tryz.prog 154 0 = some (0, 1, 150) := by kernel_rfl
theorem one102 : isOne Tryz.prog 102 = true := by kernel_rfl
theorem one150 : isOne Tryz.prog 150 = true := by kernel_rfl
theorem one3 : isOne Tryz.prog 3 = true := by kernel_rfl
theorem siz154 : siz Tryz.prog 154 = some 3 := by kernel_rfl
theorem sli100 : sli Tryz.prog 100 = some (3, 1) := by kernel_rfl
theorem sli102 : sli Tryz.prog 102 = some (154, 3) := by kernel_rfl
theorem zer154 : zer Tryz.prog 154 = some (.agg #[.int .i64 0, .int .i64 0, .int .i64 0]) := by kernel_rfl
set_option maxHeartbeats 4000000 in
theorem ands_ok (n : Int) (gs : List Gt) (ol : List Int) (ga oa : Option Addr) (gc oc : Nat) (w : World) (hGs : Rd EG w ga gs) (hgl : gs.length ≤ 140737488355328) : Calls Tryz.prog 37 [.agg #[i64 n, .slice ga gs.length gc, .slice oa ol.length oc]].toArray w (Ret fun v w' => v = iN (andsS gs gs.length) ∧ Ext w w') := by
 let x2 : Array Value := #[i64 n, .slice ga gs.length gc, .slice oa ol.length oc]
 have H := Hp.start No w
 refine enter (n := 20) Tryz.func37 rfl rfl (bLe rfl) ?_
 refine sR ?_
 refine q_box (v := .agg x2) (o := .cells x2 104 (0, 0)) H rfl (by rfl) ?_
 intro b1 w2 hb1 H3 hE4
 refine sA (i64 0) rfl ?_
 refine wS ?_
 refine sA (i64 0) rfl ?_
 refine wend ?_
 refine seqAny ?_
 refine sR ?_
 refine sq (r_fieldAddr (off' := 1) fld104_1 (by decide) (b := b1) (off := 0) rfl (by omega)) ?_
 refine sq (r_loadC (v := .slice ga gs.length gc) one102 (H3.get (k := 0) rfl) (off := 1) rfl (by rfl)) ?_
 refine sq (r_lenS sli102 (a := ga) (m := gs.length) (c := gc) rfl) ?_
 refine sM (i64 0) rfl ?_
 refine wend ?_
 refine blockAny ?_
 refine loopAny (σ := Nat) (fun i => [(1, pT b1), (3, iN (andsS gs i)), (7, .slice ga gs.length gc), (8, iN gs.length), (9, iN i)]) (fun i w' => i ≤ gs.length ∧ Hp No w w' [(rc b1 x2 104)]) (fun i => gs.length - i) (0) ?_ ?_ ?_
 ·exact ⟨rfl, rfl, rfl, rfl, rfl, trivial⟩
 ·exact ⟨by omega, H3⟩
 rintro i ρ w5 ⟨hi, HL⟩
 let x1 : Array Value := #[i64 ((gs.getD i g0).k), i64 ((gs.getD i g0).a), i64 ((gs.getD i g0).b)]
 have hle := andsS_le gs i
 refine sR ?_
 refine sq (r_lssI (a := (i : Nat)) (b := (gs.length : Nat)) rfl rfl) ?_
 refine wend ?_
 refine seqAny ?_
 refine condProp (((i : Nat) : Int) < (gs.length : Nat)) rfl (fun c10 => ?_) (fun c10 => ?_)
 ·refine skipAny ?_
  refine thenNormal ?_
  refine seqAny ?_
  refine blockAny ?_
  refine sR ?_
  refine sq (r_idxS (E := EG) (l := gs) (j := i) sli102 (hGs.ext HL.chg) rfl rfl (by first | rfl | omega | (simp; omega)) (by rfl) (by omega)) ?_
  refine sq ((r_ldS (E := EG) (l := gs) (j := i) (v := gs.getD i g0) fits154 (hGs.ext HL.chg) rfl rfl (at_getD (by omega))).as (v' := .agg x1) rfl) ?_
  refine q_alloc (o := .cells #[i64 0, i64 0, i64 0] 154 (0, 0)) HL zer154 (by kernel_rfl) ?_
  intro b7 w8 hb7 H9 hE10
  refine d_store (k := 0) (v := .agg x1) (cs' := x1) H9 rfl rfl rfl siz154 (by rfl) (oneL rfl) (by exact bLe rfl) (by rfl) ?_
  intro w11 H12 hC13
  have H12' := H12.as (L' := [_, _]) rfl
  clear H12
  refine wS ?_
  refine sq (r_fieldAddr (off' := 0) fld154_0 (by decide) (b := b7) (off := 0) rfl (by omega)) ?_
  refine sq (r_loadC (v := i64 ((gs.getD i g0).k)) one150 (H12'.get (k := 0) rfl) (off := 0) rfl (by rfl)) ?_
  refine sq (r_eqlI (a := (gs.getD i g0).k) (b := (2 : Int)) rfl rfl) ?_
  refine wend ?_
  refine condProp (((gs.getD i g0).k : Int) = (2 : Int)) rfl (fun c15 => ?_) (fun c15 => ?_)
  ·refine oneRegion ?_
   refine sM (iN (andsS gs i)) rfl ?_
   refine sq (r_addI (a := (andsS gs i : Nat)) (b := (1 : Int)) rfl rfl (by omega)) ?_
   refine sA (i64 ((andsS gs i : Nat) + (1 : Int))) rfl ?_
   refine wnil ?_
   refine blockNormal ?_
   refine thenNormal ?_
   refine oneRegion ?_
   refine sq (r_addI (a := (i : Nat)) (b := (1 : Int)) rfl rfl (by omega)) ?_
   refine sM (i64 ((i : Nat) + (1 : Int))) rfl ?_
   refine wnil ?_
   refine thenNormal ?_
   exact ⟨i + 1, _, rfl, ⟨rfl, congrArg i64 (by rw [andsS, if_pos c15]; rfl), rfl, rfl, rfl, trivial⟩, ⟨by omega, (H12'.dropk 0)⟩, by show gs.length - (i + 1) < gs.length - i; omega⟩
  ·refine skipAny ?_
   refine blockNormal ?_
   refine thenNormal ?_
   refine oneRegion ?_
   refine sq (r_addI (a := (i : Nat)) (b := (1 : Int)) rfl rfl (by omega)) ?_
   refine sM (i64 ((i : Nat) + (1 : Int))) rfl ?_
   refine wnil ?_
   refine thenNormal ?_
   exact ⟨i + 1, _, rfl, ⟨rfl, congrArg i64 (by rw [andsS, if_neg c15]), rfl, rfl, rfl, trivial⟩, ⟨by omega, (H12'.dropk 0)⟩, by show gs.length - (i + 1) < gs.length - i; omega⟩
 ·obtain rfl : i = gs.length := by omega
  refine exitAny ?_
  refine thenExit ?_
  refine thenExit ?_
  refine blockHere ?_
  refine thenNormal ?_
  refine sR ?_
  refine sM (iN (andsS gs gs.length)) rfl ?_
  refine sA (iN (andsS gs gs.length)) rfl ?_
  refine wend ?_
  refine retAny ?_
  refine rG1 2 (iN (andsS gs gs.length)) rfl ⟨rfl, rfl⟩ ?_
  exact ⟨_, rfl, rfl, HL.chg⟩
end Go.Proofs.YtohngnahcgbfmaaGreatDoor.Er
namespace Go.Proofs.YtohngnahcgbfmaaGreatDoor.Cm
open Go Go.Proofs.YtohngnahcgbfmaaGreatDoor.Vc Go.Proofs.YtohngnahcgbfmaaGreatDoor.Er Go.Proofs.YtohngnahcgbfmaaGreatDoor.Circ
set_option linter.unusedVariables false
theorem agg145 : isAgg' Tryz.prog 145 = true := by kernel_rfl
theorem arr145 : arr Tryz.prog 145 = some (64, 1) := by kernel_rfl
theorem byt154 : byt Tryz.prog 154 = some 24 := by kernel_rfl
theorem call54 : callable Tryz.prog 54 = true := by kernel_rfl
theorem fld104_0 : fld Tryz.prog 104 0 = some (0, 1, 3) := by kernel_rfl
theorem fld104_1 : fld Tryz.prog 104 1 = some (1, 1, 102) := by kernel_rfl
theorem fld143_0 : fld Tryz.prog 143 0 = some (0, 3, 104) := by kernel_rfl
theorem mixed : Tryz.prog.follows .mixedOrders = true := by kernel_rfl
theorem one102 : isOne Tryz.prog 102 = true := by kernel_rfl
theorem one3 : isOne Tryz.prog 3 = true := by kernel_rfl
theorem pls154 : pls Tryz.prog 154 = some #[(0, 1), (1, 1), (2, 1)] := by kernel_rfl
theorem siz102 : siz Tryz.prog 102 = some 1 := by kernel_rfl
theorem siz145 : siz Tryz.prog 145 = some 64 := by kernel_rfl
theorem siz3 : siz Tryz.prog 3 = some 1 := by kernel_rfl
theorem sli102 : sli Tryz.prog 102 = some (154, 3) := by kernel_rfl
theorem zer145 : zer Tryz.prog 145 = some (.agg (List.replicate 64 (.int .i64 0)).toArray) := by kernel_rfl
theorem zer154 : zer Tryz.prog 154 = some (.agg #[.int .i64 0, .int .i64 0, .int .i64 0]) := by kernel_rfl
theorem gate_ok (b n : Nat) (key : Option Nat) (c : Nat) (sp : List Value) (gs : List Gt) (hSw : Sl EG key gs c sp) (hn : n ≤ 1000) (hlen : gs.length ≤ 4000) (kd xa xb : Int) (R : List (Option Nat × Obj)) (w₀ w : World) (H : Hp No w₀ w ((rc b #[iN n, .slice (ownA key) (List.length gs) c, sN0] 143) :: (key, sob EG 154 gs sp) :: R)) : Calls Tryz.prog 54 [pT b, i64 kd, i64 xa, i64 xb].toArray w (Ret fun v w' => v = i64 (wrW n gs) ∧ ∃ (key' : Option Nat) (c' : Nat) (sp' : List Value), Sl EG key' (gs ++ [(⟨kd, xa, xb⟩ : Gt)]) c' sp' ∧ Hp No w₀ w' ((rc b #[iN n, .slice (ownA key') (List.length (gs ++ [(⟨kd, xa, xb⟩ : Gt)])) c', sN0] 143) :: (key', sob EG 154 (gs ++ [(⟨kd, xa, xb⟩ : Gt)]) sp') :: R)) := by
 skip
 refine enter (n := 37) Tryz.func54 rfl rfl (bLe rfl) ?_
 refine sR ?_
 refine sA (i64 0) rfl ?_
 refine wS ?_
 refine sM (pT b) rfl ?_
 refine sM (pT b) rfl ?_
 refine sq (r_nilCheck rfl) ?_
 refine sq (r_fieldAddr (off' := 0) fld143_0 (by decide) (b := b) (off := 0) rfl (by omega)) ?_
 refine sq (r_fieldAddr (off' := 1) fld104_1 (by decide) (b := b) (off := 0) rfl (by omega)) ?_
 refine sq (r_loadC (v := .slice (ownA key) (List.length gs) c) one102 (H.get (k := 0) rfl) (off := 1) rfl (by rfl)) ?_
 refine sM (i64 kd) rfl ?_
 refine sM (i64 xa) rfl ?_
 refine sM (i64 xb) rfl ?_
 refine sq (r_build (cs' := #[i64 kd, i64 xa, i64 xb]) (ps := [(0, i64 kd), (1, i64 xa), (2, i64 xb)]) zer154 pls154 rfl (by rfl)) ?_
 refine q_buildSlice (E := EG) (l := ([⟨kd, xa, xb⟩] : List Gt)) H sli102 zer154 (bLe rfl) (ps := [(0, .agg #[i64 kd, i64 xa, i64 xb])]) rfl (by exact fillAll rfl rfl) rfl ?_
 intro b1 w3 hS2 H4 hE5
 refine q_append (E := EG) (k := 2) (l := gs) (l2 := ([⟨kd, xa, xb⟩] : List Gt)) H4 rfl hSw sli102 zer154 rfl byt154 (H4.rd (k := 0) rfl hS2) rfl (by rfl) rfl (by rfl) (by omega) ?_
 intro key6 c7 sp8 w10 hS9 hne12 H11
 have H11' := H11.as (L' := (_ :: _ :: _ :: R)) rfl
 clear H11
 have e13 : gs ++ ([⟨kd, xa, xb⟩] : List Gt) = gs ++ [(⟨kd, xa, xb⟩ : Gt)] := by rfl
 have hS14 := hS9
 rw [e13] at hS14
 have H15 := H11'.as (L' := (((some b1), sob EG 154 ([⟨kd, xa, xb⟩] : List Gt) ([])) :: (rc b #[iN n, .slice (ownA key) (List.length gs) c, sN0] 143) :: (key6, sob EG 154 (gs ++ [(⟨kd, xa, xb⟩ : Gt)]) sp8) :: R)) (by rw [e13])
 refine sq (r_nilCheck rfl) ?_
 refine sq (r_fieldAddr (off' := 0) fld143_0 (by decide) (b := b) (off := 0) rfl (by omega)) ?_
 refine sq (r_fieldAddr (off' := 1) fld104_1 (by decide) (b := b) (off := 0) rfl (by omega)) ?_
 refine d_store (k := 1) (v := .slice (ownA key6) ((List.length gs) + 1) c7) (cs' := #[iN n, .slice (ownA key6) ((List.length gs) + 1) c7, sN0]) H15 rfl rfl rfl siz102 (by rfl) (oneL rfl) (by exact bLe rfl) (by rfl) ?_
 intro w16 H17 hC18
 have H17' := H17.as (L' := (_ :: _ :: _ :: R)) rfl
 clear H17
 refine wend ?_
 refine seqAny ?_
 refine drawAny (K := [none, none, none, none, none, none, none, none, none, none, none, none, none, none]) [0, 1, 3, 7, 15, 0, 32, 96, 224, 480, 992, 2047, 4095, 8191] (fun w' => Ext w16 w') (fun w' w'' => Ext w' w'') mixed (by kernel_rfl) (Ext.drew _) (fun _ _ h h' => h.trans h') ?_ ?_
 ·exact relNone (by decide)
 refine ⟨pT b, fun _ uw19 hC20 _ => Gives.run rfl (r_move (v := pT b) rfl) ⟨rfl, Chg.refl _ _⟩, ?_⟩
 refine ⟨pT b, fun _ uw21 hC22 _ => Gives.run rfl (r_nilCheck rfl) ⟨rfl, Chg.refl _ _⟩, ?_⟩
 refine ⟨pT b, fun _ uw23 hC24 _ => Gives.run rfl (r_fieldAddr (off' := 0) fld143_0 (by decide) (b := b) (off := 0) rfl (by omega)) ⟨rfl, Chg.refl _ _⟩, ?_⟩
 refine ⟨pT b, fun _ uw25 hC26 _ => Gives.run rfl (r_fieldAddr (off' := 0) fld104_0 (by decide) (b := b) (off := 0) rfl (by omega)) ⟨rfl, Chg.refl _ _⟩, ?_⟩
 refine ⟨iN n, fun _ uw27 hC28 _ => Gives.run rfl (r_loadC (v := iN n) one3 ((H17'.ext hC28).get (k := 1) rfl) (off := 0) rfl (by rfl)) ⟨rfl, Chg.refl _ _⟩, ?_⟩
 refine ⟨pT b, fun _ uw29 hC30 _ => Gives.run rfl (r_move (v := pT b) rfl) ⟨rfl, Chg.refl _ _⟩, ?_⟩
 refine ⟨pT b, fun _ uw31 hC32 _ => Gives.run rfl (r_nilCheck rfl) ⟨rfl, Chg.refl _ _⟩, ?_⟩
 refine ⟨pT b, fun _ uw33 hC34 _ => Gives.run rfl (r_fieldAddr (off' := 0) fld143_0 (by decide) (b := b) (off := 0) rfl (by omega)) ⟨rfl, Chg.refl _ _⟩, ?_⟩
 refine ⟨.pointer (some ⟨b, 1, none⟩), fun _ uw35 hC36 _ => Gives.run rfl (r_fieldAddr (off' := 1) fld104_1 (by decide) (b := b) (off := 0) rfl (by omega)) ⟨rfl, Chg.refl _ _⟩, ?_⟩
 refine ⟨.slice (ownA key6) ((List.length gs) + 1) c7, fun _ uw37 hC38 _ => Gives.run rfl (r_loadC (v := .slice (ownA key6) ((List.length gs) + 1) c7) one102 ((H17'.ext hC38).get (k := 1) rfl) (off := 1) rfl (by rfl)) ⟨rfl, Chg.refl _ _⟩, ?_⟩
 refine ⟨iN ((List.length gs) + 1), fun _ uw39 hC40 _ => Gives.run rfl (r_lenS sli102 (a := ownA key6) (m := (List.length gs) + 1) (c := c7) rfl) ⟨rfl, Chg.refl _ _⟩, ?_⟩
 refine ⟨i64 ((n : Nat) + ((List.length gs) + 1 : Nat)), fun _ uw41 hC42 _ => Gives.run rfl (r_addI (a := (n : Nat)) (b := ((List.length gs) + 1 : Nat)) rfl rfl (by omega)) ⟨rfl, Chg.refl _ _⟩, ?_⟩
 refine ⟨i64 (wrW n gs), fun _ uw43 hC44 _ => Gives.run rfl ((r_subI (a := (n : Nat) + ((List.length gs) + 1 : Nat)) (b := (1 : Int)) rfl rfl (by omega)).as (v' := i64 (wrW n gs)) (by exact congrArg i64 (by unfold wrW; omega))) ⟨rfl, Chg.refl _ _⟩, ?_⟩
 refine ⟨i64 (wrW n gs), fun _ uw45 hC46 _ => Gives.run rfl (r_assign (v := i64 (wrW n gs)) rfl) ⟨rfl, Chg.refl _ _⟩, ?_⟩
 intro r50 w47 hE49 hF
 have H48 := H17'.ext hE49
 refine wnil ?_
 refine thenNormal ?_
 refine retAny ?_
 refine rG1 8 (i64 (wrW n gs)) rfl ⟨rfl, rfl⟩ ?_
 refine ⟨_, rfl, rfl, key6, c7, sp8, hS14, ?_⟩
 rw [show List.length (gs ++ [(⟨kd, xa, xb⟩ : Gt)]) = gs.length + 1 from by rw [List.length_append]; rfl]
 exact (H48.dropk 0)
theorem carry_ok (b n : Nat) (key : Option Nat) (c : Nat) (sp : List Value) (gs : List Gt) (hSw : Sl EG key gs c sp) (hn : n ≤ 1000) (hlen : gs.length ≤ 3900) (xa xb xc : Int) (R : List (Option Nat × Obj)) (w₀ w : World) (H : Hp No w₀ w ((rc b #[iN n, .slice (ownA key) (List.length gs) c, sN0] 143) :: (key, sob EG 154 gs sp) :: R)) : Calls Tryz.prog 78 [pT b, i64 xa, i64 xb, i64 xc].toArray w (Ret fun v w' => v = i64 (caW n gs) ∧ ∃ (key' : Option Nat) (c' : Nat) (sp' : List Value), Sl EG key' (caG n gs xa xb xc) c' sp' ∧ Hp No w₀ w' ((rc b #[iN n, .slice (ownA key') (List.length (caG n gs xa xb xc)) c', sN0] 143) :: (key', sob EG 154 (caG n gs xa xb xc) sp') :: R)) := by
 skip
 refine enter (n := 22) Tryz.func78 rfl rfl (bLe rfl) ?_
 refine sR ?_
 refine sA (i64 0) rfl ?_
 refine wS ?_
 refine sM (pT b) rfl ?_
 refine sM (i64 xc) rfl ?_
 refine sM (pT b) rfl ?_
 refine sM (pT b) rfl ?_
 refine sM (i64 xa) rfl ?_
 refine sM (i64 xc) rfl ?_
 have H1 := H.as (L' := (_ :: _ :: R)) rfl
 refine c_call (vs := [pT b, i64 1, i64 xa, i64 xc]) call54 rfl (gate_ok b n key c sp gs hSw hn (by omega) (1 : Int) xa xc R w₀ w H1) ?_
 rintro wv10 w2 ⟨hwv11, key4, c5, sp6, hS7, HN8⟩
 obtain ⟨wx12, hwx12⟩ : ∃ q, q = wrW n gs := ⟨_, rfl⟩
 rw [← hwx12] at hwv11
 subst hwv11
 have H9 := HN8.as (L' := (_ :: _ :: R)) rfl
 refine sM (pT b) rfl ?_
 refine sM (i64 xb) rfl ?_
 refine sM (i64 xc) rfl ?_
 have H13 := H9.as (L' := (_ :: _ :: R)) rfl
 refine c_call (vs := [pT b, i64 1, i64 xb, i64 xc]) call54 rfl (gate_ok b n key4 c5 sp6 (gs ++ [(⟨(1 : Int), xa, xc⟩ : Gt)]) hS7 hn (by simp only [List.length_append, List.length_cons, List.length_nil]; omega) (1 : Int) xb xc R w₀ w2 H13) ?_
 rintro wv22 w14 ⟨hwv23, key16, c17, sp18, hS19, HN20⟩
 obtain ⟨wx24, hwx24⟩ : ∃ q, q = wrW n (gs ++ [(⟨(1 : Int), xa, xc⟩ : Gt)]) := ⟨_, rfl⟩
 rw [← hwx24] at hwv23
 subst hwv23
 have H21 := HN20.as (L' := (_ :: _ :: R)) rfl
 have H25 := H21.as (L' := (_ :: _ :: R)) rfl
 refine c_call (vs := [pT b, i64 2, i64 wx12, i64 wx24]) call54 rfl (gate_ok b n key16 c17 sp18 (gs ++ [(⟨(1 : Int), xa, xc⟩ : Gt)] ++ [(⟨(1 : Int), xb, xc⟩ : Gt)]) hS19 hn (by simp only [List.length_append, List.length_cons, List.length_nil]; omega) (2 : Int) wx12 wx24 R w₀ w14 H25) ?_
 rintro wv34 w26 ⟨hwv35, key28, c29, sp30, hS31, HN32⟩
 obtain ⟨wx36, hwx36⟩ : ∃ q, q = wrW n (gs ++ [(⟨(1 : Int), xa, xc⟩ : Gt)] ++ [(⟨(1 : Int), xb, xc⟩ : Gt)]) := ⟨_, rfl⟩
 rw [← hwx36] at hwv35
 subst hwv35
 have H33 := HN32.as (L' := (_ :: _ :: R)) rfl
 have H37 := H33.as (L' := (_ :: _ :: R)) rfl
 refine c_call (vs := [pT b, i64 1, i64 xc, i64 wx36]) call54 rfl (gate_ok b n key28 c29 sp30 (gs ++ [(⟨(1 : Int), xa, xc⟩ : Gt)] ++ [(⟨(1 : Int), xb, xc⟩ : Gt)] ++ [(⟨(2 : Int), wx12, wx24⟩ : Gt)]) hS31 hn (by simp only [List.length_append, List.length_cons, List.length_nil]; omega) (1 : Int) xc wx36 R w₀ w26 H37) ?_
 rintro wv46 w38 ⟨hwv47, key40, c41, sp42, hS43, HN44⟩
 obtain ⟨wx48, hwx48⟩ : ∃ q, q = wrW n (gs ++ [(⟨(1 : Int), xa, xc⟩ : Gt)] ++ [(⟨(1 : Int), xb, xc⟩ : Gt)] ++ [(⟨(2 : Int), wx12, wx24⟩ : Gt)]) := ⟨_, rfl⟩
 rw [← hwx48] at hwv47
 subst hwv47
 have H45 := HN44.as (L' := (_ :: _ :: R)) rfl
 refine sA (i64 wx48) rfl ?_
 refine wend ?_
 refine retAny ?_
 refine rG1 8 (i64 wx48) rfl ⟨rfl, rfl⟩ ?_
 subst hwx48
 subst hwx36
 subst hwx24
 subst hwx12
 rw [show wrW n (gs ++ [⟨1, xa, xc⟩] ++ [⟨1, xb, xc⟩] ++ [⟨2, wrW n gs, wrW n (gs ++ [⟨1, xa, xc⟩])⟩]) = caW n gs from by unfold caW wrW; simp only [List.length_append, List.length_cons, List.length_nil]]
 exact ⟨_, rfl, rfl, key40, c41, sp42, hS43, H45⟩
theorem input_ok (b iw : Nat) (hiw : iw ≤ 10) (w : World) : Calls Tryz.prog 51 [pT b, iN iw].toArray w (Ret fun v w' => v = .agg (cel EI (inW (64 * iw) 64)).toArray ∧ Ext w w') := by
 have H := Hp.start No w
 refine enter (n := 18) Tryz.func51 rfl rfl (bLe rfl) ?_
 refine sR ?_
 refine q_alloc (o := .cells (cel EI (List.replicate 64 0)).toArray 145 (0, 0)) H zer145 (by kernel_rfl) ?_
 intro b1 w2 hb1 H3 hE4
 refine wS ?_
 refine q_alloc (o := .cells (cel EI (List.replicate 64 0)).toArray 145 (0, 0)) H3 zer145 (by kernel_rfl) ?_
 intro b5 w6 hb5 H7 hE8
 refine wend ?_
 refine seqAny ?_
 refine sR ?_
 refine sM (i64 0) rfl ?_
 refine wend ?_
 refine blockAny ?_
 refine loopAny (σ := Nat) (fun i => [(1, iN iw), (4, pT b1), (5, pT b5), (7, iN i)]) (fun i w' => i ≤ 64 ∧ Hp No w w' [(re b5 EI (padW (inW (64 * iw) i)) 145), (re b1 EI (List.replicate 64 0) 145)]) (fun i => 64 - i) (0) ?_ ?_ ?_
 ·exact ⟨rfl, rfl, rfl, rfl, trivial⟩
 ·exact ⟨Nat.zero_le _, H7⟩
 rintro i ρ w9 ⟨hq, HL⟩
 have hpl : (padW (inW (64 * iw) i)).length = 64 := padW_len (by rw [inW_len]; exact hq)
 refine sR ?_
 refine sq (r_lssI (a := (i : Nat)) (b := (64 : Int)) rfl rfl) ?_
 refine wend ?_
 refine seqAny ?_
 refine condProp (((i : Nat) : Int) < (64 : Int)) rfl (fun c8 => ?_) (fun c8 => ?_)
 ·refine skipAny ?_
  refine thenNormal ?_
  refine seqAny ?_
  refine blockAny ?_
  refine sR ?_
  refine sM (iN i) rfl ?_
  refine sA (iN i) rfl ?_
  refine wend ?_
  refine oneRegion ?_
  refine sM (iN i) rfl ?_
  refine sM (iN iw) rfl ?_
  refine sq ((r_mulI (a := (64 : Int)) (b := (iw : Nat)) rfl rfl (by omega)).as (v' := iN (64 * iw)) (by exact congrArg i64 (by omega))) ?_
  refine sM (iN i) rfl ?_
  refine sq ((r_addI (a := ((64 * iw) : Nat)) (b := (i : Nat)) rfl rfl (by omega)).as (v' := i64 (((64 * iw + i : Nat) : Int))) (by exact congrArg i64 (by omega))) ?_
  refine sq (r_indexA (off' := i) (j := i) arr145 (b := b5) (off := 0) rfl rfl (by first | rfl | omega | (simp; omega)) (by omega) (by omega)) ?_
  refine d_store (k := 0) (v := i64 (((64 * iw + i : Nat) : Int))) (cs' := (cel EI ((padW (inW (64 * iw) i)).set i ((64 * iw + i : Nat) : Int))).toArray) HL rfl rfl rfl siz3 (by rfl) (by exact EI.one _) (by rw [List.size_toArray, cel_length]; show _ ≤ _ * 1; first | omega | (simp only [List.length_set]; omega) | exact bLe rfl | (simp <;> omega)) (by exact put1 (E := EI) rfl _ _ _) ?_
  intro w11 H12 hC13
  have H12' := H12.as (L' := [_, _]) rfl
  clear H12
  refine wnil ?_
  refine blockNormal ?_
  refine thenNormal ?_
  refine oneRegion ?_
  refine sq (r_addI (a := (i : Nat)) (b := (1 : Int)) rfl rfl (by omega)) ?_
  refine sM (i64 ((i : Nat) + (1 : Int))) rfl ?_
  refine wnil ?_
  refine thenNormal ?_
  rw [padW_set _ (inW_len _ _) (by omega)] at H12'
  exact ⟨i + 1, _, rfl, ⟨rfl, rfl, rfl, rfl, trivial⟩, ⟨by omega, H12'⟩, by show 64 - (i + 1) < 64 - i; omega⟩
 ·have hqe : i = 64 := by omega
  have hpf := (inW_len (64 * iw) i).trans hqe
  rw [padW_full hpf] at HL
  refine exitAny ?_
  refine thenExit ?_
  refine thenExit ?_
  refine blockHere ?_
  refine thenNormal ?_
  refine sR ?_
  refine sq (r_loadA (cs' := (cel EI (inW (64 * iw) i)).toArray) agg145 siz145 (HL.get (k := 0) rfl) (off := 0) rfl (by rw [List.size_toArray, cel_length]; show _ ≤ _ * 1; omega) (by exact ext_all (by rw [cel_length]; show _ * 1 = _; omega))) ?_
  refine d_store (k := 1) (v := .agg (cel EI (inW (64 * iw) i)).toArray) (cs' := (cel EI (inW (64 * iw) i)).toArray) HL rfl rfl rfl siz145 (by exact celSize (by rw [hpf]; rfl)) (by exact celOne _) (by rw [List.size_toArray, cel_length]; show _ ≤ _ * 1; first | omega | (simp only [List.length_set]; omega) | exact bLe rfl | (simp <;> omega)) (by exact putAll (by rw [List.length_replicate]; exact hpf.symm)) ?_
  intro w14 H15 hC16
  have H15' := H15.as (L' := [_, _]) rfl
  clear H15
  refine wend ?_
  refine retAny ?_
  refine retG (rs := [.cell 4 145]) (vs := [.agg (cel EI (inW (64 * iw) i)).toArray]) rfl ⟨r_loadA (cs' := (cel EI (inW (64 * iw) i)).toArray) agg145 siz145 (H15'.get (k := 1) rfl) (off := 0) rfl (by rw [List.size_toArray, cel_length]; show _ ≤ _ * 1; omega) (by exact ext_all (by rw [cel_length]; show _ * 1 = _; omega)), trivial⟩ ?_
  subst hqe
  exact ⟨_, rfl, rfl, H15'.chg⟩
end Go.Proofs.YtohngnahcgbfmaaGreatDoor.Cm
namespace Go.Proofs.YtohngnahcgbfmaaGreatDoor.Cm
open Go Go.Proofs.YtohngnahcgbfmaaGreatDoor.Vc Go.Proofs.YtohngnahcgbfmaaGreatDoor.Er Go.Proofs.YtohngnahcgbfmaaGreatDoor.Circ
set_option linter.unusedVariables false
theorem fits3 : Fits Tryz.prog 3 EI := fitsI (by kernel_rfl) (by kernel_rfl)
set_option maxHeartbeats 4000000 in
theorem mxor_ok (b n : Nat) (key : Option Nat) (c : Nat) (sp : List Value) (gs : List Gt) (hSw : Sl EG key gs c sp) (hn : n ≤ 1000) (hlen : gs.length ≤ 3000) (ra rb : List Int) (hra : ra.length = 64) (hrb : rb.length = 64) (R : List (Option Nat × Obj)) (w₀ w : World) (H : Hp No w₀ w ((rc b #[iN n, .slice (ownA key) (List.length gs) c, sN0] 143) :: (key, sob EG 154 gs sp) :: R)) : Calls Tryz.prog 52 [pT b, .agg (cel EI ra).toArray, .agg (cel EI rb).toArray].toArray w (Ret fun v w' => v = .agg (cel EI ((xoS n gs ra rb 64).2)).toArray ∧ ∃ (key' : Option Nat) (c' : Nat) (sp' : List Value), Sl EG key' ((xoS n gs ra rb 64).1) c' sp' ∧ Hp No w₀ w' ((rc b #[iN n, .slice (ownA key') (List.length ((xoS n gs ra rb 64).1)) c', sN0] 143) :: (key', sob EG 154 ((xoS n gs ra rb 64).1) sp') :: R)) := by
 skip
 refine enter (n := 24) Tryz.func52 rfl rfl (bLe rfl) ?_
 refine sR ?_
 refine q_box (v := .agg (cel EI ra).toArray) (o := .cells (cel EI ra).toArray 145 (0, 0)) H rfl (by rfl) ?_
 intro b1 w2 hb1 H3 hE4
 let x2 := re b1 EI ra 145
 refine q_box (v := .agg (cel EI rb).toArray) (o := .cells (cel EI rb).toArray 145 (0, 0)) H3 rfl (by rfl) ?_
 intro b5 w6 hb5 H7 hE8
 let x3 := re b5 EI rb 145
 refine q_alloc (o := .cells (cel EI (List.replicate 64 0)).toArray 145 (0, 0)) H7 zer145 (by kernel_rfl) ?_
 intro b9 w10 hb9 H11 hE12
 refine wS ?_
 refine q_alloc (o := .cells (cel EI (List.replicate 64 0)).toArray 145 (0, 0)) H11 zer145 (by kernel_rfl) ?_
 intro b13 w14 hb13 H15 hE16
 refine wend ?_
 refine seqAny ?_
 refine sR ?_
 refine sM (i64 0) rfl ?_
 refine wend ?_
 refine blockAny ?_
 refine loopAny (σ := Nat × Option Nat × Nat × List Value) (fun (i, kz, cz, sz) => [(0, pT b), (4, pT b1), (5, pT b5), (6, pT b9), (7, pT b13), (9, iN i)]) (fun (i, kz, cz, sz) w' => (i ≤ 64 ∧ Sl EG kz ((xoS n gs ra rb i).1) cz sz) ∧ Hp No w₀ w' ((rc b #[iN n, .slice (ownA kz) (List.length ((xoS n gs ra rb i).1)) cz, sN0] 143) :: (kz, sob EG 154 ((xoS n gs ra rb i).1) sz) :: (re b13 EI (padW ((xoS n gs ra rb i).2)) 145) :: x2 :: x3 :: (re b9 EI (List.replicate 64 0) 145) :: R)) (fun (i, kz, cz, sz) => 64 - i) ((0, key, c, sp)) ?_ ?_ ?_
 ·exact ⟨rfl, rfl, rfl, rfl, rfl, rfl, trivial⟩
 ·exact ⟨⟨by omega, hSw⟩, (H15.pick 6 [4, 5, 0, 3, 2, 1] (by decide) (by decide))⟩
 rintro ⟨i, kz, cz, sz⟩ ρ w17 ⟨⟨hq, hSz⟩, HL⟩
 let x1 := re b13 EI (padW ((xoS n gs ra rb i).2)) 145
 have hxl := xoS_len n gs ra rb i
 have hpl : (padW (xoS n gs ra rb i).2).length = 64 := padW_len (by rw [hxl.2]; exact hq)
 refine sR ?_
 refine sq (r_lssI (a := (i : Nat)) (b := (64 : Int)) rfl rfl) ?_
 refine wend ?_
 refine seqAny ?_
 refine condProp (((i : Nat) : Int) < (64 : Int)) rfl (fun c10 => ?_) (fun c10 => ?_)
 ·refine skipAny ?_
  refine thenNormal ?_
  refine seqAny ?_
  refine blockAny ?_
  refine sR ?_
  refine sM (iN i) rfl ?_
  refine sA (iN i) rfl ?_
  refine wend ?_
  refine drawC (m := 11) [0, 0, 0, 4, 12, 0, 32, 96, 254, 511, 1023] [8, 10] (fun q vs w' => match q, vs with | 0, [] => Hp No w₀ w' ((rc b #[iN n, .slice (ownA kz) (List.length ((xoS n gs ra rb i).1)) cz, sN0] 143) :: (kz, sob EG 154 ((xoS n gs ra rb i).1) sz) :: x1 :: x2 :: x3 :: (re b9 EI (List.replicate 64 0) 145) :: R) | 1, [v0] => ∃ (wx33 : Int) (key25 : Option Nat) (c26 : Nat) (sp27 : List Value), v0 = i64 wx33 ∧ Sl EG key25 (((xoS n gs ra rb i).1) ++ [(⟨(1 : Int), ra.getD i 0, rb.getD i 0⟩ : Gt)]) c26 sp27 ∧ wx33 = wrW n ((xoS n gs ra rb i).1) ∧ Hp No w₀ w' ((rc b #[iN n, .slice (ownA key25) (List.length (((xoS n gs ra rb i).1) ++ [(⟨(1 : Int), ra.getD i 0, rb.getD i 0⟩ : Gt)])) c26, sN0] 143) :: (key25, sob EG 154 (((xoS n gs ra rb i).1) ++ [(⟨(1 : Int), ra.getD i 0, rb.getD i 0⟩ : Gt)]) sp27) :: x1 :: x2 :: x3 :: (re b9 EI (List.replicate 64 0) 145) :: R) | 2, [v0, _] => ∃ (wx33 : Int) (key25 : Option Nat) (c26 : Nat) (sp27 : List Value), v0 = i64 wx33 ∧ True ∧ Sl EG key25 (((xoS n gs ra rb i).1) ++ [(⟨(1 : Int), ra.getD i 0, rb.getD i 0⟩ : Gt)]) c26 sp27 ∧ wx33 = wrW n ((xoS n gs ra rb i).1) ∧ Hp No w₀ w' ((rc b #[iN n, .slice (ownA key25) (List.length (((xoS n gs ra rb i).1) ++ [(⟨(1 : Int), ra.getD i 0, rb.getD i 0⟩ : Gt)])) c26, sN0] 143) :: (key25, sob EG 154 (((xoS n gs ra rb i).1) ++ [(⟨(1 : Int), ra.getD i 0, rb.getD i 0⟩ : Gt)]) sp27) :: (re b13 EI ((padW ((xoS n gs ra rb i).2)).set i wx33) 145) :: x2 :: x3 :: (re b9 EI (List.replicate 64 0) 145) :: R) | _, _ => False) mixed (by kernel_rfl) (by kernel_rfl) HL.drew ?_
  refine WalkC.look rfl (fun _ => iN i) (fun _ _ _ => rfl) (fun q r uw _ _ _ _ => Gives.run rfl (r_move (v := iN i) rfl) ⟨rfl, rfl⟩) ?_
  refine WalkC.look rfl (fun _ => pT b) (fun _ _ _ => rfl) (fun q r uw _ _ _ _ => Gives.run rfl (r_move (v := pT b) rfl) ⟨rfl, rfl⟩) ?_
  refine WalkC.look rfl (fun _ => iN i) (fun _ _ _ => rfl) (fun q r uw _ _ _ _ => Gives.run rfl (r_move (v := iN i) rfl) ⟨rfl, rfl⟩) ?_
  refine WalkC.look rfl (fun _ => .pointer (some ⟨b1, i, none⟩)) (fun _ _ _ => rfl) (fun q r uw _ _ _ _ => Gives.run rfl (r_indexA (off' := i) (j := i) arr145 (b := b1) (off := 0) rfl rfl (by first | rfl | omega | (simp; omega)) (by omega) (by omega)) ⟨rfl, rfl⟩) ?_
  refine WalkC.look rfl (fun _ => i64 (ra.getD i 0)) (fun _ _ _ => rfl) (fun q r uw hlo hhi hle hF => ?_) ?_
  ·have h1 : 0 ≤ q := Nat.zero_le _
   have h2 : q ≤ 0 := hhi 0 8 rfl rfl
   rcases (show q = 0 by omega) with rfl
   ·have HH := hF
    exact Gives.run rfl (r_ld1 (E := EI) (l := ra) (j := i) (a := ra.getD i 0) fits3 (HH.get (k := 3) rfl) (at_getD (by first | omega | (simp only [List.length_set]; omega) | exact bLe rfl | (simp <;> omega))) rfl rfl) ⟨rfl, rfl⟩
  refine WalkC.look rfl (fun _ => iN i) (fun _ _ _ => rfl) (fun q r uw _ _ _ _ => Gives.run rfl (r_move (v := iN i) rfl) ⟨rfl, rfl⟩) ?_
  refine WalkC.look rfl (fun _ => .pointer (some ⟨b5, i, none⟩)) (fun _ _ _ => rfl) (fun q r uw _ _ _ _ => Gives.run rfl (r_indexA (off' := i) (j := i) arr145 (b := b5) (off := 0) rfl rfl (by first | rfl | omega | (simp; omega)) (by omega) (by omega)) ⟨rfl, rfl⟩) ?_
  refine WalkC.look rfl (fun _ => i64 (rb.getD i 0)) (fun _ _ _ => rfl) (fun q r uw hlo hhi hle hF => ?_) ?_
  ·have h1 : 0 ≤ q := Nat.zero_le _
   have h2 : q ≤ 0 := hhi 0 8 rfl rfl
   rcases (show q = 0 by omega) with rfl
   ·have HH := hF
    exact Gives.run rfl (r_ld1 (E := EI) (l := rb) (j := i) (a := rb.getD i 0) fits3 (HH.get (k := 4) rfl) (at_getD (by first | omega | (simp only [List.length_set]; omega) | exact bLe rfl | (simp <;> omega))) rfl rfl) ⟨rfl, rfl⟩
  refine WalkC.eff 0 rfl (fun r uw19 hF21 => ?_) ?_
  ·have H20 := hF21
   dsimp only [List.take, List.map, List.cons_append, List.nil_append]
   refine Gives.ofW (d := 20) rfl rfl (fun Q' hK => ?_)
   have H22 := H20.as (L' := (_ :: _ :: _)) rfl
   refine c_call (vs := [pT b, i64 1, i64 (ra.getD i 0), i64 (rb.getD i 0)]) call54 rfl (gate_ok b n kz cz sz ((xoS n gs ra rb i).1) hSz hn (by omega) (1 : Int) (ra.getD i 0) (rb.getD i 0) (x1 :: x2 :: x3 :: (re b9 EI (List.replicate 64 0) 145) :: R) w₀ uw19 H22) ?_
   rintro wv31 w23 ⟨hwv32, key25, c26, sp27, hS28, HN29⟩
   obtain ⟨wx33, hwx33⟩ : ∃ q, q = wrW n ((xoS n gs ra rb i).1) := ⟨_, rfl⟩
   rw [← hwx33] at hwv32
   subst hwv32
   have H30 := HN29.as (L' := (_ :: _ :: _ :: _ :: _ :: _ :: R)) rfl
   exact hK _ _ ⟨wx33, key25, c26, sp27, rfl, hS28, hwx33, H30⟩
  refine WalkC.look rfl (fun _ => .pointer (some ⟨b13, i, none⟩)) (fun _ _ _ => rfl) (fun q r uw _ _ _ _ => Gives.run rfl (r_indexA (off' := i) (j := i) arr145 (b := b13) (off := 0) rfl rfl (by first | rfl | omega | (simp; omega)) (by omega) (by omega)) ⟨rfl, rfl⟩) ?_
  refine WalkC.eff 1 rfl (fun r uw34 hF36 => ?_) ?_
  ·obtain ⟨wx33, key25, c26, sp27, e8, hS28, hwx33, H35⟩ := hF36
   dsimp only [List.take, List.map, List.cons_append, List.nil_append]
   rw [e8]
   refine Gives.ofW0 rfl (fun Q' hK => ?_)
   refine d_store (k := 2) (v := i64 wx33) (cs' := (cel EI ((padW ((xoS n gs ra rb i).2)).set i wx33)).toArray) H35 rfl rfl rfl siz3 (by rfl) (by exact EI.one _) (by rw [List.size_toArray, cel_length]; show _ ≤ _ * 1; first | omega | (simp only [List.length_set]; omega) | exact bLe rfl | (simp <;> omega)) (by exact put1 (E := EI) rfl _ _ _) ?_
   intro w37 H38 hC39
   have H38' := H38.as (L' := (_ :: _ :: _ :: _ :: _ :: _ :: R)) rfl
   clear H38
   exact hK _ (fun _ => ⟨wx33, key25, c26, sp27, rfl, trivial, hS28, hwx33, H38'⟩)
  refine WalkC.nil ?_
  intro r40 w41 hF43
  obtain ⟨wx33, key25, c26, sp27, e8, e10, hS28, hwx33, H42⟩ := hF43
  dsimp only
  rw [e8]
  subst hwx33
  refine wnil ?_
  refine blockNormal ?_
  refine thenNormal ?_
  refine oneRegion ?_
  refine sq (r_addI (a := (i : Nat)) (b := (1 : Int)) rfl rfl (by omega)) ?_
  refine sM (i64 ((i : Nat) + (1 : Int))) rfl ?_
  refine wnil ?_
  refine thenNormal ?_
  rw [padW_set (l := (xoS n gs ra rb i).2) _ hxl.2 (by omega)] at H42
  have H42' := H42
  have H44 := H42'.as (L' := (_ :: _ :: _ :: _ :: _ :: _ :: R)) rfl
  exact ⟨(i + 1, key25, c26, sp27), _, rfl, ⟨rfl, rfl, rfl, rfl, rfl, rfl, trivial⟩, ⟨⟨by omega, hS28⟩, H44⟩, by show 64 - (i + 1) < 64 - i; omega⟩
 ·have hie : i = 64 := by omega
  have hrl := hxl.2.trans hie
  rw [padW_full hrl] at HL
  refine exitAny ?_
  refine thenExit ?_
  refine thenExit ?_
  refine blockHere ?_
  refine thenNormal ?_
  refine sR ?_
  refine sq (r_loadA (cs' := (cel EI ((xoS n gs ra rb i).2)).toArray) agg145 siz145 (HL.get (k := 2) rfl) (off := 0) rfl (by rw [List.size_toArray, cel_length]; show _ ≤ _ * 1; omega) (by exact ext_all (by rw [cel_length]; show _ * 1 = _; omega))) ?_
  refine d_store (k := 5) (v := .agg (cel EI ((xoS n gs ra rb i).2)).toArray) (cs' := (cel EI ((xoS n gs ra rb i).2)).toArray) HL rfl rfl rfl siz145 (by exact celSize (by rw [hrl]; rfl)) (by exact celOne _) (by rw [List.size_toArray, cel_length]; show _ ≤ _ * 1; first | omega | (simp only [List.length_set]; omega) | exact bLe rfl | (simp <;> omega)) (by exact putAll (by rw [List.length_replicate]; exact hrl.symm)) ?_
  intro w45 H46 hC47
  have H46' := H46.as (L' := (_ :: _ :: _ :: _ :: _ :: _ :: R)) rfl
  clear H46
  refine wend ?_
  refine retAny ?_
  refine retG (rs := [.cell 6 145]) (vs := [.agg (cel EI ((xoS n gs ra rb i).2)).toArray]) rfl ⟨r_loadA (cs' := (cel EI ((xoS n gs ra rb i).2)).toArray) agg145 siz145 (H46'.get (k := 5) rfl) (off := 0) rfl (by rw [List.size_toArray, cel_length]; show _ ≤ _ * 1; omega) (by exact ext_all (by rw [cel_length]; show _ * 1 = _; omega)), trivial⟩ ?_
  subst hie
  exact ⟨_, rfl, rfl, kz, cz, sz, hSz, ((((H46'.dropk 5).dropk 4).dropk 3).dropk 2)⟩
end Go.Proofs.YtohngnahcgbfmaaGreatDoor.Cm
namespace Go.Proofs.YtohngnahcgbfmaaGreatDoor.Cm
open Go Go.Proofs.YtohngnahcgbfmaaGreatDoor.Vc Go.Proofs.YtohngnahcgbfmaaGreatDoor.Er Go.Proofs.YtohngnahcgbfmaaGreatDoor.Circ
set_option linter.unusedVariables false
theorem call78 : callable Tryz.prog 78 = true := by kernel_rfl
set_option maxHeartbeats 4000000 in
theorem madd_ok (b n : Nat) (key : Option Nat) (c : Nat) (sp : List Value) (gs : List Gt) (hSw : Sl EG key gs c sp) (hn : n ≤ 1000) (hlen : gs.length ≤ 3000) (ra rb : List Int) (hra : ra.length = 64) (hrb : rb.length = 64) (R : List (Option Nat × Obj)) (w₀ w : World) (H : Hp No w₀ w ((rc b #[iN n, .slice (ownA key) (List.length gs) c, sN0] 143) :: (key, sob EG 154 gs sp) :: R)) : Calls Tryz.prog 53 [pT b, .agg (cel EI ra).toArray, .agg (cel EI rb).toArray].toArray w (Ret fun v w' => v = .agg (cel EI ((adS n gs ra rb 63).2.1)).toArray ∧ ∃ (key' : Option Nat) (c' : Nat) (sp' : List Value), Sl EG key' ((adS n gs ra rb 63).1) c' sp' ∧ Hp No w₀ w' ((rc b #[iN n, .slice (ownA key') (List.length ((adS n gs ra rb 63).1)) c', sN0] 143) :: (key', sob EG 154 ((adS n gs ra rb 63).1) sp') :: R)) := by
 skip
 refine enter (n := 52) Tryz.func53 rfl rfl (bLe rfl) ?_
 refine sR ?_
 refine q_box (v := .agg (cel EI ra).toArray) (o := .cells (cel EI ra).toArray 145 (0, 0)) H rfl (by rfl) ?_
 intro b1 w2 hb1 H3 hE4
 refine q_box (v := .agg (cel EI rb).toArray) (o := .cells (cel EI rb).toArray 145 (0, 0)) H3 rfl (by rfl) ?_
 intro b5 w6 hb5 H7 hE8
 refine q_alloc (o := .cells (cel EI (List.replicate 64 0)).toArray 145 (0, 0)) H7 zer145 (by kernel_rfl) ?_
 intro b9 w10 hb9 H11 hE12
 refine wS ?_
 refine q_alloc (o := .cells (cel EI (List.replicate 64 0)).toArray 145 (0, 0)) H11 zer145 (by kernel_rfl) ?_
 intro b13 w14 hb13 H15 hE16
 refine wS ?_
 refine sM (pT b) rfl ?_
 refine sq (r_indexA (off' := 0) (j := 0) arr145 (b := b1) (off := 0) rfl rfl (by first | rfl | omega | (simp; omega)) (by omega) (by omega)) ?_
 refine sq (r_ld1 (E := EI) (l := ra) (j := 0) (a := ra.getD 0 0) fits3 (H15.get (k := 3) rfl) (at_getD (by first | omega | (simp only [List.length_set]; omega) | exact bLe rfl | (simp <;> omega))) rfl rfl) ?_
 refine sq (r_indexA (off' := 0) (j := 0) arr145 (b := b5) (off := 0) rfl rfl (by first | rfl | omega | (simp; omega)) (by omega) (by omega)) ?_
 refine sq (r_ld1 (E := EI) (l := rb) (j := 0) (a := rb.getD 0 0) fits3 (H15.get (k := 2) rfl) (at_getD (by first | omega | (simp only [List.length_set]; omega) | exact bLe rfl | (simp <;> omega))) rfl rfl) ?_
 have H17 := ((H15.pick 6 [4, 5, 0, 1, 2, 3] (by decide) (by decide))).as (L' := (_ :: _ :: _)) rfl
 refine c_call (vs := [pT b, i64 1, i64 (ra.getD 0 0), i64 (rb.getD 0 0)]) call54 rfl (gate_ok b n key c sp gs hSw hn (by omega) (1 : Int) (ra.getD 0 0) (rb.getD 0 0) ((re b13 EI (List.replicate 64 0) 145) :: (re b9 EI (List.replicate 64 0) 145) :: (re b5 EI rb 145) :: (re b1 EI ra 145) :: R) w₀ w14 H17) ?_
 rintro wv26 w18 ⟨hwv27, key20, c21, sp22, hS23, HN24⟩
 obtain ⟨wx28, hwx28⟩ : ∃ q, q = wrW n gs := ⟨_, rfl⟩
 rw [← hwx28] at hwv27
 subst hwv27
 have H25 := HN24.as (L' := (_ :: _ :: _ :: _ :: _ :: _ :: R)) rfl
 refine sq (r_indexA (off' := 0) (j := 0) arr145 (b := b13) (off := 0) rfl rfl (by first | rfl | omega | (simp; omega)) (by omega) (by omega)) ?_
 refine d_store (k := 2) (v := i64 wx28) (cs' := (cel EI ((List.replicate 64 0).set 0 wx28)).toArray) H25 rfl rfl rfl siz3 (by rfl) (by exact EI.one _) (by rw [List.size_toArray, cel_length]; show _ ≤ _ * 1; first | omega | (simp only [List.length_set]; omega) | exact bLe rfl | (simp <;> omega)) (by exact put1 (E := EI) rfl _ _ _) ?_
 intro w29 H30 hC31
 have H30' := H30.as (L' := (_ :: _ :: _ :: _ :: _ :: _ :: R)) rfl
 clear H30
 refine wS ?_
 refine sM (pT b) rfl ?_
 refine sq (r_indexA (off' := 0) (j := 0) arr145 (b := b1) (off := 0) rfl rfl (by first | rfl | omega | (simp; omega)) (by omega) (by omega)) ?_
 refine sq (r_ld1 (E := EI) (l := ra) (j := 0) (a := ra.getD 0 0) fits3 (H30'.get (k := 5) rfl) (at_getD (by first | omega | (simp only [List.length_set]; omega) | exact bLe rfl | (simp <;> omega))) rfl rfl) ?_
 refine sq (r_indexA (off' := 0) (j := 0) arr145 (b := b5) (off := 0) rfl rfl (by first | rfl | omega | (simp; omega)) (by omega) (by omega)) ?_
 refine sq (r_ld1 (E := EI) (l := rb) (j := 0) (a := rb.getD 0 0) fits3 (H30'.get (k := 4) rfl) (at_getD (by first | omega | (simp only [List.length_set]; omega) | exact bLe rfl | (simp <;> omega))) rfl rfl) ?_
 have H32 := H30'.as (L' := (_ :: _ :: _)) rfl
 refine c_call (vs := [pT b, i64 2, i64 (ra.getD 0 0), i64 (rb.getD 0 0)]) call54 rfl (gate_ok b n key20 c21 sp22 (gs ++ [(⟨(1 : Int), ra.getD 0 0, rb.getD 0 0⟩ : Gt)]) hS23 hn (by simp only [List.length_append, List.length_cons, List.length_nil]; omega) (2 : Int) (ra.getD 0 0) (rb.getD 0 0) ((re b13 EI ((List.replicate 64 0).set 0 wx28) 145) :: (re b9 EI (List.replicate 64 0) 145) :: (re b5 EI rb 145) :: (re b1 EI ra 145) :: R) w₀ w29 H32) ?_
 rintro wv41 w33 ⟨hwv42, key35, c36, sp37, hS38, HN39⟩
 obtain ⟨wx43, hwx43⟩ : ∃ q, q = wrW n (gs ++ [(⟨(1 : Int), ra.getD 0 0, rb.getD 0 0⟩ : Gt)]) := ⟨_, rfl⟩
 let x4 := re b5 EI rb 145
 let x1 := re b1 EI ra 145
 rw [← hwx43] at hwv42
 subst hwv42
 have H40 := HN39.as (L' := (_ :: _ :: _ :: _ :: _ :: _ :: R)) rfl
 refine sA (i64 wx43) rfl ?_
 subst hwx43
 subst hwx28
 rw [padW_one] at H40
 have H44 := H40.as (L' := (_ :: _ :: _ :: _ :: _ :: _ :: R)) rfl
 have H45 := H44.as (L' := (_ :: _ :: _ :: _ :: _ :: _ :: R)) rfl
 refine wend ?_
 refine seqAny ?_
 refine sR ?_
 refine sA (i64 1) rfl ?_
 refine wend ?_
 refine blockAny ?_
 refine loopAny (σ := Nat × Option Nat × Nat × List Value) (fun (i, kz, cz, sz) => [(0, pT b), (4, pT b1), (5, pT b5), (6, pT b9), (7, pT b13), (8, i64 ((adS n gs ra rb i).2.2)), (9, iN (i + 1))]) (fun (i, kz, cz, sz) w' => (i ≤ 63 ∧ Sl EG kz ((adS n gs ra rb i).1) cz sz) ∧ Hp No w₀ w' ((rc b #[iN n, .slice (ownA kz) (List.length ((adS n gs ra rb i).1)) cz, sN0] 143) :: (kz, sob EG 154 ((adS n gs ra rb i).1) sz) :: (re b13 EI (padW ((adS n gs ra rb i).2.1)) 145) :: x1 :: x4 :: (re b9 EI (List.replicate 64 0) 145) :: R)) (fun (i, kz, cz, sz) => 63 - i) ((0, key35, c36, sp37)) ?_ ?_ ?_
 ·exact ⟨rfl, rfl, rfl, rfl, rfl, rfl, rfl, trivial⟩
 ·exact ⟨⟨by omega, hS38⟩, (H45.pick 6 [0, 1, 2, 5, 4, 3] (by decide) (by decide))⟩
 rintro ⟨i, kz, cz, sz⟩ ρ w46 ⟨⟨hq, hSz⟩, HL⟩
 let x2 := re b13 EI (padW ((adS n gs ra rb i).2.1)) 145
 have hal := adS_len n gs ra rb i
 have hpl : (padW (adS n gs ra rb i).2.1).length = 64 := padW_len (by rw [hal.2]; omega)
 refine seqAny ?_
 refine sR ?_
 refine sM (iN (i + 1)) rfl ?_
 refine sq (r_lssI (a := ((i + 1) : Nat)) (b := (64 : Int)) rfl rfl) ?_
 refine wend ?_
 refine condProp ((((i + 1) : Nat) : Int) < (64 : Int)) rfl (fun c24 => ?_) (fun c24 => ?_)
 ·refine skipAny ?_
  refine thenNormal ?_
  refine seqAny ?_
  refine blockAny ?_
  refine seqAny ?_
  refine drawC (m := 14) [0, 0, 0, 0, 8, 24, 0, 64, 192, 508, 0, 2046, 4095, 8191] [9, 11, 13] (fun q vs w' => match q, vs with | 0, [] => Hp No w₀ w' ((rc b #[iN n, .slice (ownA kz) (List.length ((adS n gs ra rb i).1)) cz, sN0] 143) :: (kz, sob EG 154 ((adS n gs ra rb i).1) sz) :: x2 :: x1 :: x4 :: (re b9 EI (List.replicate 64 0) 145) :: R) | 1, [v0] => ∃ (wx62 : Int) (key54 : Option Nat) (c55 : Nat) (sp56 : List Value), v0 = i64 wx62 ∧ Sl EG key54 (((adS n gs ra rb i).1) ++ [(⟨(1 : Int), ra.getD (i + 1) 0, rb.getD (i + 1) 0⟩ : Gt)]) c55 sp56 ∧ wx62 = wrW n ((adS n gs ra rb i).1) ∧ Hp No w₀ w' ((rc b #[iN n, .slice (ownA key54) (List.length (((adS n gs ra rb i).1) ++ [(⟨(1 : Int), ra.getD (i + 1) 0, rb.getD (i + 1) 0⟩ : Gt)])) c55, sN0] 143) :: (key54, sob EG 154 (((adS n gs ra rb i).1) ++ [(⟨(1 : Int), ra.getD (i + 1) 0, rb.getD (i + 1) 0⟩ : Gt)]) sp56) :: x2 :: x1 :: x4 :: (re b9 EI (List.replicate 64 0) 145) :: R) | 2, [v0, v1] => ∃ (wx62 : Int) (wx77 : Int) (key69 : Option Nat) (c70 : Nat) (sp71 : List Value), v0 = i64 wx62 ∧ v1 = i64 wx77 ∧ Sl EG key69 (((adS n gs ra rb i).1) ++ [(⟨(1 : Int), ra.getD (i + 1) 0, rb.getD (i + 1) 0⟩ : Gt)] ++ [(⟨(1 : Int), wx62, (adS n gs ra rb i).2.2⟩ : Gt)]) c70 sp71 ∧ wx62 = wrW n ((adS n gs ra rb i).1) ∧ wx77 = wrW n (((adS n gs ra rb i).1) ++ [(⟨(1 : Int), ra.getD (i + 1) 0, rb.getD (i + 1) 0⟩ : Gt)]) ∧ Hp No w₀ w' ((rc b #[iN n, .slice (ownA key69) (List.length (((adS n gs ra rb i).1) ++ [(⟨(1 : Int), ra.getD (i + 1) 0, rb.getD (i + 1) 0⟩ : Gt)] ++ [(⟨(1 : Int), wx62, (adS n gs ra rb i).2.2⟩ : Gt)])) c70, sN0] 143) :: (key69, sob EG 154 (((adS n gs ra rb i).1) ++ [(⟨(1 : Int), ra.getD (i + 1) 0, rb.getD (i + 1) 0⟩ : Gt)] ++ [(⟨(1 : Int), wx62, (adS n gs ra rb i).2.2⟩ : Gt)]) sp71) :: x2 :: x1 :: x4 :: (re b9 EI (List.replicate 64 0) 145) :: R) | 3, [v0, v1, _] => ∃ (wx62 : Int) (wx77 : Int) (key69 : Option Nat) (c70 : Nat) (sp71 : List Value), v0 = i64 wx62 ∧ v1 = i64 wx77 ∧ True ∧ Sl EG key69 (((adS n gs ra rb i).1) ++ [(⟨(1 : Int), ra.getD (i + 1) 0, rb.getD (i + 1) 0⟩ : Gt)] ++ [(⟨(1 : Int), wx62, (adS n gs ra rb i).2.2⟩ : Gt)]) c70 sp71 ∧ wx62 = wrW n ((adS n gs ra rb i).1) ∧ wx77 = wrW n (((adS n gs ra rb i).1) ++ [(⟨(1 : Int), ra.getD (i + 1) 0, rb.getD (i + 1) 0⟩ : Gt)]) ∧ Hp No w₀ w' ((rc b #[iN n, .slice (ownA key69) (List.length (((adS n gs ra rb i).1) ++ [(⟨(1 : Int), ra.getD (i + 1) 0, rb.getD (i + 1) 0⟩ : Gt)] ++ [(⟨(1 : Int), wx62, (adS n gs ra rb i).2.2⟩ : Gt)])) c70, sN0] 143) :: (key69, sob EG 154 (((adS n gs ra rb i).1) ++ [(⟨(1 : Int), ra.getD (i + 1) 0, rb.getD (i + 1) 0⟩ : Gt)] ++ [(⟨(1 : Int), wx62, (adS n gs ra rb i).2.2⟩ : Gt)]) sp71) :: (re b13 EI ((padW ((adS n gs ra rb i).2.1)).set (i + 1) wx77) 145) :: x1 :: x4 :: (re b9 EI (List.replicate 64 0) 145) :: R) | _, _ => False) mixed (by kernel_rfl) (by kernel_rfl) HL.drew ?_
  refine WalkC.look rfl (fun _ => iN (i + 1)) (fun _ _ _ => rfl) (fun q r uw _ _ _ _ => Gives.run rfl (r_move (v := iN (i + 1)) rfl) ⟨rfl, rfl⟩) ?_
  refine WalkC.look rfl (fun _ => pT b) (fun _ _ _ => rfl) (fun q r uw _ _ _ _ => Gives.run rfl (r_move (v := pT b) rfl) ⟨rfl, rfl⟩) ?_
  refine WalkC.look rfl (fun _ => pT b) (fun _ _ _ => rfl) (fun q r uw _ _ _ _ => Gives.run rfl (r_move (v := pT b) rfl) ⟨rfl, rfl⟩) ?_
  refine WalkC.look rfl (fun _ => iN (i + 1)) (fun _ _ _ => rfl) (fun q r uw _ _ _ _ => Gives.run rfl (r_move (v := iN (i + 1)) rfl) ⟨rfl, rfl⟩) ?_
  refine WalkC.look rfl (fun _ => .pointer (some ⟨b1, (i + 1), none⟩)) (fun _ _ _ => rfl) (fun q r uw _ _ _ _ => Gives.run rfl (r_indexA (off' := (i + 1)) (j := (i + 1)) arr145 (b := b1) (off := 0) rfl rfl (by first | rfl | omega | (simp; omega)) (by omega) (by omega)) ⟨rfl, rfl⟩) ?_
  refine WalkC.look rfl (fun _ => i64 (ra.getD (i + 1) 0)) (fun _ _ _ => rfl) (fun q r uw hlo hhi hle hF => ?_) ?_
  ·have h1 : 0 ≤ q := Nat.zero_le _
   have h2 : q ≤ 0 := hhi 0 9 rfl rfl
   rcases (show q = 0 by omega) with rfl
   ·have HH := hF
    exact Gives.run rfl (r_ld1 (E := EI) (l := ra) (j := (i + 1)) (a := ra.getD (i + 1) 0) fits3 (HH.get (k := 3) rfl) (at_getD (by first | omega | (simp only [List.length_set]; omega) | exact bLe rfl | (simp <;> omega))) rfl rfl) ⟨rfl, rfl⟩
  refine WalkC.look rfl (fun _ => iN (i + 1)) (fun _ _ _ => rfl) (fun q r uw _ _ _ _ => Gives.run rfl (r_move (v := iN (i + 1)) rfl) ⟨rfl, rfl⟩) ?_
  refine WalkC.look rfl (fun _ => .pointer (some ⟨b5, (i + 1), none⟩)) (fun _ _ _ => rfl) (fun q r uw _ _ _ _ => Gives.run rfl (r_indexA (off' := (i + 1)) (j := (i + 1)) arr145 (b := b5) (off := 0) rfl rfl (by first | rfl | omega | (simp; omega)) (by omega) (by omega)) ⟨rfl, rfl⟩) ?_
  refine WalkC.look rfl (fun _ => i64 (rb.getD (i + 1) 0)) (fun _ _ _ => rfl) (fun q r uw hlo hhi hle hF => ?_) ?_
  ·have h1 : 0 ≤ q := Nat.zero_le _
   have h2 : q ≤ 0 := hhi 0 9 rfl rfl
   rcases (show q = 0 by omega) with rfl
   ·have HH := hF
    exact Gives.run rfl (r_ld1 (E := EI) (l := rb) (j := (i + 1)) (a := rb.getD (i + 1) 0) fits3 (HH.get (k := 4) rfl) (at_getD (by first | omega | (simp only [List.length_set]; omega) | exact bLe rfl | (simp <;> omega))) rfl rfl) ⟨rfl, rfl⟩
  refine WalkC.eff 0 rfl (fun r uw48 hF50 => ?_) ?_
  ·have H49 := hF50
   dsimp only [List.take, List.map, List.cons_append, List.nil_append]
   refine Gives.ofW (d := 36) rfl rfl (fun Q' hK => ?_)
   have H51 := H49.as (L' := (_ :: _ :: _)) rfl
   refine c_call (vs := [pT b, i64 1, i64 (ra.getD (i + 1) 0), i64 (rb.getD (i + 1) 0)]) call54 rfl (gate_ok b n kz cz sz ((adS n gs ra rb i).1) hSz hn (by omega) (1 : Int) (ra.getD (i + 1) 0) (rb.getD (i + 1) 0) (x2 :: x1 :: x4 :: (re b9 EI (List.replicate 64 0) 145) :: R) w₀ uw48 H51) ?_
   rintro wv60 w52 ⟨hwv61, key54, c55, sp56, hS57, HN58⟩
   obtain ⟨wx62, hwx62⟩ : ∃ q, q = wrW n ((adS n gs ra rb i).1) := ⟨_, rfl⟩
   rw [← hwx62] at hwv61
   subst hwv61
   have H59 := HN58.as (L' := (_ :: _ :: _ :: _ :: _ :: _ :: R)) rfl
   exact hK _ _ ⟨wx62, key54, c55, sp56, rfl, hS57, hwx62, H59⟩
  refine WalkC.look rfl (fun _ => i64 ((adS n gs ra rb i).2.2)) (fun _ _ _ => rfl) (fun q r uw _ _ _ _ => Gives.run rfl (r_move (v := i64 ((adS n gs ra rb i).2.2)) rfl) ⟨rfl, rfl⟩) ?_
  refine WalkC.eff 1 rfl (fun r uw63 hF65 => ?_) ?_
  ·obtain ⟨wx62, key54, c55, sp56, e9, hS57, hwx62, H64⟩ := hF65
   dsimp only [List.take, List.map, List.cons_append, List.nil_append]
   rw [e9]
   refine Gives.ofW (d := 38) rfl rfl (fun Q' hK => ?_)
   have H66 := H64.as (L' := (_ :: _ :: _)) rfl
   refine c_call (vs := [pT b, i64 1, i64 wx62, i64 ((adS n gs ra rb i).2.2)]) call54 rfl (gate_ok b n key54 c55 sp56 (((adS n gs ra rb i).1) ++ [(⟨(1 : Int), ra.getD (i + 1) 0, rb.getD (i + 1) 0⟩ : Gt)]) hS57 hn (by simp only [List.length_append, List.length_cons, List.length_nil]; omega) (1 : Int) wx62 ((adS n gs ra rb i).2.2) (x2 :: x1 :: x4 :: (re b9 EI (List.replicate 64 0) 145) :: R) w₀ uw63 H66) ?_
   rintro wv75 w67 ⟨hwv76, key69, c70, sp71, hS72, HN73⟩
   obtain ⟨wx77, hwx77⟩ : ∃ q, q = wrW n (((adS n gs ra rb i).1) ++ [(⟨(1 : Int), ra.getD (i + 1) 0, rb.getD (i + 1) 0⟩ : Gt)]) := ⟨_, rfl⟩
   rw [← hwx77] at hwv76
   subst hwv76
   have H74 := HN73.as (L' := (_ :: _ :: _ :: _ :: _ :: _ :: R)) rfl
   exact hK _ _ ⟨wx62, wx77, key69, c70, sp71, rfl, rfl, hS72, hwx62, hwx77, H74⟩
  refine WalkC.look rfl (fun _ => .pointer (some ⟨b13, (i + 1), none⟩)) (fun _ _ _ => rfl) (fun q r uw _ _ _ _ => Gives.run rfl (r_indexA (off' := (i + 1)) (j := (i + 1)) arr145 (b := b13) (off := 0) rfl rfl (by first | rfl | omega | (simp; omega)) (by omega) (by omega)) ⟨rfl, rfl⟩) ?_
  refine WalkC.eff 2 rfl (fun r uw78 hF80 => ?_) ?_
  ·obtain ⟨wx62, wx77, key69, c70, sp71, e9, e11, hS72, hwx62, hwx77, H79⟩ := hF80
   dsimp only [List.take, List.map, List.cons_append, List.nil_append]
   rw [e9, e11]
   refine Gives.ofW0 rfl (fun Q' hK => ?_)
   refine d_store (k := 2) (v := i64 wx77) (cs' := (cel EI ((padW ((adS n gs ra rb i).2.1)).set (i + 1) wx77)).toArray) H79 rfl rfl rfl siz3 (by rfl) (by exact EI.one _) (by rw [List.size_toArray, cel_length]; show _ ≤ _ * 1; first | omega | (simp only [List.length_set]; omega) | exact bLe rfl | (simp <;> omega)) (by exact put1 (E := EI) rfl _ _ _) ?_
   intro w81 H82 hC83
   have H82' := H82.as (L' := (_ :: _ :: _ :: _ :: _ :: _ :: R)) rfl
   clear H82
   exact hK _ (fun _ => ⟨wx62, wx77, key69, c70, sp71, rfl, rfl, trivial, hS72, hwx62, hwx77, H82'⟩)
  refine WalkC.nil ?_
  intro r84 w85 hF87
  obtain ⟨wx62, wx77, key69, c70, sp71, e9, e11, e13, hS72, hwx62, hwx77, H86⟩ := hF87
  let x3 : Option Nat × Obj := (key69, sob EG 154 (adP n ((adS n gs ra rb i).1) (ra.getD (i + 1) 0) (rb.getD (i + 1) 0) (adS n gs ra rb i).2.2) sp71)
  dsimp only
  rw [e9, e11]
  subst hwx77
  subst hwx62
  have e88 : ((adS n gs ra rb i).1) ++ [(⟨(1 : Int), ra.getD (i + 1) 0, rb.getD (i + 1) 0⟩ : Gt)] ++ [(⟨(1 : Int), (wrW n ((adS n gs ra rb i).1)), (adS n gs ra rb i).2.2⟩ : Gt)] = adP n ((adS n gs ra rb i).1) (ra.getD (i + 1) 0) (rb.getD (i + 1) 0) (adS n gs ra rb i).2.2 := by rfl
  have hS89 := hS72
  rw [e88] at hS89
  have H90 : Hp No w₀ w85 ((rc b #[iN n, .slice (ownA key69) (List.length (adP n ((adS n gs ra rb i).1) (ra.getD (i + 1) 0) (rb.getD (i + 1) 0) (adS n gs ra rb i).2.2)) c70, sN0] 143) :: x3 :: (re b13 EI ((padW ((adS n gs ra rb i).2.1)).set (i + 1) (wrW n (((adS n gs ra rb i).1) ++ [(⟨(1 : Int), ra.getD (i + 1) 0, rb.getD (i + 1) 0⟩ : Gt)]))) 145) :: x1 :: x4 :: (re b9 EI (List.replicate 64 0) 145) :: R) := by rw [← e88]; exact H86
  rw [padW_set (l := (adS n gs ra rb i).2.1) _ hal.2 (by omega)] at H90
  have H91 := H90.as (L' := (_ :: _ :: _ :: _ :: _ :: _ :: R)) rfl
  refine wnil ?_
  refine thenNormal ?_
  refine sR ?_
  refine sM (iN (i + 1)) rfl ?_
  refine sq (r_lssI (a := ((i + 1) : Nat)) (b := (63 : Int)) rfl rfl) ?_
  refine wend ?_
  refine condProp ((((i + 1) : Nat) : Int) < (63 : Int)) rfl (fun c41 => ?_) (fun c41 => ?_)
  ·refine drawC (m := 10) [0, 0, 2, 6, 0, 16, 48, 0, 255, 511] [8] (fun q vs w' => match q, vs with | 0, [] => Hp No w₀ w' ((rc b #[iN n, .slice (ownA key69) (List.length (adP n ((adS n gs ra rb i).1) (ra.getD (i + 1) 0) (rb.getD (i + 1) 0) (adS n gs ra rb i).2.2)) c70, sN0] 143) :: x3 :: (re b13 EI (padW ((adS n gs ra rb i).2.1 ++ [wrW n ((adS n gs ra rb i).1 ++ [(⟨1, ra.getD (i + 1) 0, rb.getD (i + 1) 0⟩ : Gt)])])) 145) :: x1 :: x4 :: (re b9 EI (List.replicate 64 0) 145) :: R) | 1, [v0] => ∃ (wx106 : Int) (key98 : Option Nat) (c99 : Nat) (sp100 : List Value), v0 = i64 wx106 ∧ Sl EG key98 (caG n (adP n ((adS n gs ra rb i).1) (ra.getD (i + 1) 0) (rb.getD (i + 1) 0) (adS n gs ra rb i).2.2) (ra.getD (i + 1) 0) (rb.getD (i + 1) 0) ((adS n gs ra rb i).2.2)) c99 sp100 ∧ wx106 = caW n (adP n ((adS n gs ra rb i).1) (ra.getD (i + 1) 0) (rb.getD (i + 1) 0) (adS n gs ra rb i).2.2) ∧ Hp No w₀ w' ((rc b #[iN n, .slice (ownA key98) (List.length (caG n (adP n ((adS n gs ra rb i).1) (ra.getD (i + 1) 0) (rb.getD (i + 1) 0) (adS n gs ra rb i).2.2) (ra.getD (i + 1) 0) (rb.getD (i + 1) 0) ((adS n gs ra rb i).2.2))) c99, sN0] 143) :: (key98, sob EG 154 (caG n (adP n ((adS n gs ra rb i).1) (ra.getD (i + 1) 0) (rb.getD (i + 1) 0) (adS n gs ra rb i).2.2) (ra.getD (i + 1) 0) (rb.getD (i + 1) 0) ((adS n gs ra rb i).2.2)) sp100) :: (re b13 EI (padW ((adS n gs ra rb i).2.1 ++ [wrW n ((adS n gs ra rb i).1 ++ [(⟨1, ra.getD (i + 1) 0, rb.getD (i + 1) 0⟩ : Gt)])])) 145) :: x1 :: x4 :: (re b9 EI (List.replicate 64 0) 145) :: R) | _, _ => False) mixed (by kernel_rfl) (by kernel_rfl) H91.drew ?_
   refine WalkC.look rfl (fun _ => pT b) (fun _ _ _ => rfl) (fun q r uw _ _ _ _ => Gives.run rfl (r_move (v := pT b) rfl) ⟨rfl, rfl⟩) ?_
   refine WalkC.look rfl (fun _ => iN (i + 1)) (fun _ _ _ => rfl) (fun q r uw _ _ _ _ => Gives.run rfl (r_move (v := iN (i + 1)) rfl) ⟨rfl, rfl⟩) ?_
   refine WalkC.look rfl (fun _ => .pointer (some ⟨b1, (i + 1), none⟩)) (fun _ _ _ => rfl) (fun q r uw _ _ _ _ => Gives.run rfl (r_indexA (off' := (i + 1)) (j := (i + 1)) arr145 (b := b1) (off := 0) rfl rfl (by first | rfl | omega | (simp; omega)) (by omega) (by omega)) ⟨rfl, rfl⟩) ?_
   refine WalkC.look rfl (fun _ => i64 (ra.getD (i + 1) 0)) (fun _ _ _ => rfl) (fun q r uw hlo hhi hle hF => ?_) ?_
   ·have h1 : 0 ≤ q := Nat.zero_le _
    have h2 : q ≤ 0 := hhi 0 8 rfl rfl
    rcases (show q = 0 by omega) with rfl
    ·have HH := hF
     exact Gives.run rfl (r_ld1 (E := EI) (l := ra) (j := (i + 1)) (a := ra.getD (i + 1) 0) fits3 (HH.get (k := 3) rfl) (at_getD (by first | omega | (simp only [List.length_set]; omega) | exact bLe rfl | (simp <;> omega))) rfl rfl) ⟨rfl, rfl⟩
   refine WalkC.look rfl (fun _ => iN (i + 1)) (fun _ _ _ => rfl) (fun q r uw _ _ _ _ => Gives.run rfl (r_move (v := iN (i + 1)) rfl) ⟨rfl, rfl⟩) ?_
   refine WalkC.look rfl (fun _ => .pointer (some ⟨b5, (i + 1), none⟩)) (fun _ _ _ => rfl) (fun q r uw _ _ _ _ => Gives.run rfl (r_indexA (off' := (i + 1)) (j := (i + 1)) arr145 (b := b5) (off := 0) rfl rfl (by first | rfl | omega | (simp; omega)) (by omega) (by omega)) ⟨rfl, rfl⟩) ?_
   refine WalkC.look rfl (fun _ => i64 (rb.getD (i + 1) 0)) (fun _ _ _ => rfl) (fun q r uw hlo hhi hle hF => ?_) ?_
   ·have h1 : 0 ≤ q := Nat.zero_le _
    have h2 : q ≤ 0 := hhi 0 8 rfl rfl
    rcases (show q = 0 by omega) with rfl
    ·have HH := hF
     exact Gives.run rfl (r_ld1 (E := EI) (l := rb) (j := (i + 1)) (a := rb.getD (i + 1) 0) fits3 (HH.get (k := 4) rfl) (at_getD (by first | omega | (simp only [List.length_set]; omega) | exact bLe rfl | (simp <;> omega))) rfl rfl) ⟨rfl, rfl⟩
   refine WalkC.look rfl (fun _ => i64 ((adS n gs ra rb i).2.2)) (fun _ _ _ => rfl) (fun q r uw _ _ _ _ => Gives.run rfl (r_move (v := i64 ((adS n gs ra rb i).2.2)) rfl) ⟨rfl, rfl⟩) ?_
   refine WalkC.eff 0 rfl (fun r uw92 hF94 => ?_) ?_
   ·have H93 := hF94
    dsimp only [List.take, List.map, List.cons_append, List.nil_append]
    refine Gives.ofW (d := 50) rfl rfl (fun Q' hK => ?_)
    have H95 := H93.as (L' := (_ :: _ :: ((re b13 EI (padW ((adS n gs ra rb i).2.1 ++ [wrW n ((adS n gs ra rb i).1 ++ [(⟨1, ra.getD (i + 1) 0, rb.getD (i + 1) 0⟩ : Gt)])])) 145) :: x1 :: x4 :: (re b9 EI (List.replicate 64 0) 145) :: R))) rfl
    refine c_call (vs := [pT b, i64 (ra.getD (i + 1) 0), i64 (rb.getD (i + 1) 0), i64 ((adS n gs ra rb i).2.2)]) call78 rfl (carry_ok b n key69 c70 sp71 (adP n ((adS n gs ra rb i).1) (ra.getD (i + 1) 0) (rb.getD (i + 1) 0) (adS n gs ra rb i).2.2) hS89 hn (by simp only [adP_len]; omega) (ra.getD (i + 1) 0) (rb.getD (i + 1) 0) ((adS n gs ra rb i).2.2) ((re b13 EI (padW ((adS n gs ra rb i).2.1 ++ [wrW n ((adS n gs ra rb i).1 ++ [(⟨1, ra.getD (i + 1) 0, rb.getD (i + 1) 0⟩ : Gt)])])) 145) :: x1 :: x4 :: (re b9 EI (List.replicate 64 0) 145) :: R) w₀ uw92 H95) ?_
    rintro wv104 w96 ⟨hwv105, key98, c99, sp100, hS101, HN102⟩
    obtain ⟨wx106, hwx106⟩ : ∃ q, q = caW n (adP n ((adS n gs ra rb i).1) (ra.getD (i + 1) 0) (rb.getD (i + 1) 0) (adS n gs ra rb i).2.2) := ⟨_, rfl⟩
    rw [← hwx106] at hwv105
    subst hwv105
    have H103 := HN102.as (L' := (_ :: _ :: _ :: _ :: _ :: _ :: R)) rfl
    exact hK _ _ ⟨wx106, key98, c99, sp100, rfl, hS101, hwx106, H103⟩
   refine WalkC.look rfl (fun r => r 8) (fun r r' h => h 8 (by decide) rfl) (fun q r uw _ _ _ _ => Gives.run rfl (r_assign rfl) ⟨rfl, rfl⟩) ?_
   refine WalkC.nil ?_
   intro r107 w108 hF110
   obtain ⟨wx106, key98, c99, sp100, e8, hS101, hwx106, H109⟩ := hF110
   dsimp only
   rw [e8]
   subst hwx106
   refine wnil ?_
   refine blockNormal ?_
   refine thenNormal ?_
   refine oneRegion ?_
   refine sM (iN (i + 1)) rfl ?_
   refine sq ((r_addI (a := ((i + 1) : Nat)) (b := (1 : Int)) rfl rfl (by omega)).as (v' := iN (i + 1 + 1)) (by rfl)) ?_
   refine sA (iN (i + 1 + 1)) rfl ?_
   refine wnil ?_
   refine thenNormal ?_
   have e111 : caG n (adP n ((adS n gs ra rb i).1) (ra.getD (i + 1) 0) (rb.getD (i + 1) 0) (adS n gs ra rb i).2.2) (ra.getD (i + 1) 0) (rb.getD (i + 1) 0) ((adS n gs ra rb i).2.2) = (adS n gs ra rb (i + 1)).1 := by rw [adS, if_pos (by omega)]
   have hS112 := hS101
   rw [e111] at hS112
   have H113 : Hp No w₀ w108 ((rc b #[iN n, .slice (ownA key98) (List.length ((adS n gs ra rb (i + 1)).1)) c99, sN0] 143) :: (key98, sob EG 154 ((adS n gs ra rb (i + 1)).1) sp100) :: (re b13 EI (padW ((adS n gs ra rb i).2.1 ++ [wrW n ((adS n gs ra rb i).1 ++ [(⟨1, ra.getD (i + 1) 0, rb.getD (i + 1) 0⟩ : Gt)])])) 145) :: x1 :: x4 :: (re b9 EI (List.replicate 64 0) 145) :: R) := by rw [← e111]; exact H109
   rw [show (adS n gs ra rb i).2.1 ++ [wrW n ((adS n gs ra rb i).1 ++ [(⟨1, ra.getD (i + 1) 0, rb.getD (i + 1) 0⟩ : Gt)])] = (adS n gs ra rb (i + 1)).2.1 from by rw [adS, if_pos (by omega)]] at H113
   exact ⟨(i + 1, key98, c99, sp100), _, rfl, ⟨rfl, rfl, rfl, rfl, rfl, congrArg i64 (by rw [adS, if_pos (by omega)]), rfl, trivial⟩, ⟨⟨by omega, hS112⟩, H113⟩, by show 63 - (i + 1) < 63 - i; omega⟩
  ·refine skipAny ?_
   refine blockNormal ?_
   refine thenNormal ?_
   refine oneRegion ?_
   refine sM (iN (i + 1)) rfl ?_
   refine sq ((r_addI (a := ((i + 1) : Nat)) (b := (1 : Int)) rfl rfl (by omega)).as (v' := iN (i + 1 + 1)) (by rfl)) ?_
   refine sA (iN (i + 1 + 1)) rfl ?_
   refine wnil ?_
   refine thenNormal ?_
   have e114 : adP n ((adS n gs ra rb i).1) (ra.getD (i + 1) 0) (rb.getD (i + 1) 0) (adS n gs ra rb i).2.2 = (adS n gs ra rb (i + 1)).1 := by rw [adS, if_neg (by omega)]
   have hS115 := hS89
   rw [e114] at hS115
   have H116 : Hp No w₀ w85 ((rc b #[iN n, .slice (ownA key69) (List.length ((adS n gs ra rb (i + 1)).1)) c70, sN0] 143) :: (key69, sob EG 154 ((adS n gs ra rb (i + 1)).1) sp71) :: (re b13 EI (padW ((adS n gs ra rb i).2.1 ++ [wrW n ((adS n gs ra rb i).1 ++ [(⟨1, ra.getD (i + 1) 0, rb.getD (i + 1) 0⟩ : Gt)])])) 145) :: x1 :: x4 :: (re b9 EI (List.replicate 64 0) 145) :: R) := by rw [← e114]; exact H91
   rw [show (adS n gs ra rb i).2.1 ++ [wrW n ((adS n gs ra rb i).1 ++ [(⟨1, ra.getD (i + 1) 0, rb.getD (i + 1) 0⟩ : Gt)])] = (adS n gs ra rb (i + 1)).2.1 from by rw [adS, if_neg (by omega)]] at H116
   exact ⟨(i + 1, key69, c70, sp71), _, rfl, ⟨rfl, rfl, rfl, rfl, rfl, congrArg i64 (by rw [adS, if_neg (by omega)]), rfl, trivial⟩, ⟨⟨by omega, hS115⟩, H116⟩, by show 63 - (i + 1) < 63 - i; omega⟩
 ·have hie : i = 63 := by omega
  have hrl : (adS n gs ra rb i).2.1.length = 64 := by rw [hal.2, hie]
  rw [padW_full hrl] at HL
  refine exitAny ?_
  refine thenExit ?_
  refine thenExit ?_
  refine blockHere ?_
  refine thenNormal ?_
  refine sR ?_
  refine sq (r_loadA (cs' := (cel EI ((adS n gs ra rb i).2.1)).toArray) agg145 siz145 (HL.get (k := 2) rfl) (off := 0) rfl (by rw [List.size_toArray, cel_length]; show _ ≤ _ * 1; omega) (by exact ext_all (by rw [cel_length]; show _ * 1 = _; omega))) ?_
  refine d_store (k := 5) (v := .agg (cel EI ((adS n gs ra rb i).2.1)).toArray) (cs' := (cel EI ((adS n gs ra rb i).2.1)).toArray) HL rfl rfl rfl siz145 (by exact celSize (by rw [hrl]; rfl)) (by exact celOne _) (by rw [List.size_toArray, cel_length]; show _ ≤ _ * 1; first | omega | (simp only [List.length_set]; omega) | exact bLe rfl | (simp <;> omega)) (by exact putAll (by rw [List.length_replicate]; exact hrl.symm)) ?_
  intro w117 H118 hC119
  have H118' := H118.as (L' := (_ :: _ :: _ :: _ :: _ :: _ :: R)) rfl
  clear H118
  refine wend ?_
  refine retAny ?_
  refine retG (rs := [.cell 6 145]) (vs := [.agg (cel EI ((adS n gs ra rb i).2.1)).toArray]) rfl ⟨r_loadA (cs' := (cel EI ((adS n gs ra rb i).2.1)).toArray) agg145 siz145 (H118'.get (k := 5) rfl) (off := 0) rfl (by rw [List.size_toArray, cel_length]; show _ ≤ _ * 1; omega) (by exact ext_all (by rw [cel_length]; show _ * 1 = _; omega)), trivial⟩ ?_
  subst hie
  exact ⟨_, rfl, rfl, kz, cz, sz, hSz, ((((H118'.dropk 5).dropk 4).dropk 3).dropk 2)⟩
end Go.Proofs.YtohngnahcgbfmaaGreatDoor.Cm
namespace Go.Proofs.YtohngnahcgbfmaaGreatDoor.Cm
open Go Go.Proofs.YtohngnahcgbfmaaGreatDoor.Vc Go.Proofs.YtohngnahcgbfmaaGreatDoor.Er Go.Proofs.YtohngnahcgbfmaaGreatDoor.Circ
set_option linter.unusedVariables false
set_option maxHeartbeats 4000000 in
theorem mless_ok (b n : Nat) (key : Option Nat) (c : Nat) (sp : List Value) (gs : List Gt) (hSw : Sl EG key gs c sp) (hn : n ≤ 1000) (hlen : gs.length ≤ 3000) (ra rb : List Int) (hra : ra.length = 64) (hrb : rb.length = 64) (R : List (Option Nat × Obj)) (w₀ w : World) (H : Hp No w₀ w ((rc b #[iN n, .slice (ownA key) (List.length gs) c, sN0] 143) :: (key, sob EG 154 gs sp) :: R)) : Calls Tryz.prog 55 [pT b, .agg (cel EI ra).toArray, .agg (cel EI rb).toArray].toArray w (Ret fun v w' => v = i64 (leG n gs ra rb).2 ∧ ∃ (key' : Option Nat) (c' : Nat) (sp' : List Value), Sl EG key' ((leG n gs ra rb).1) c' sp' ∧ Hp No w₀ w' ((rc b #[iN n, .slice (ownA key') (List.length ((leG n gs ra rb).1)) c', sN0] 143) :: (key', sob EG 154 ((leG n gs ra rb).1) sp') :: R)) := by
 skip
 refine enter (n := 41) Tryz.func55 rfl rfl (bLe rfl) ?_
 refine sR ?_
 refine q_box (v := .agg (cel EI ra).toArray) (o := .cells (cel EI ra).toArray 145 (0, 0)) H rfl (by rfl) ?_
 intro b1 w2 hb1 H3 hE4
 let x2 := re b1 EI ra 145
 refine q_box (v := .agg (cel EI rb).toArray) (o := .cells (cel EI rb).toArray 145 (0, 0)) H3 rfl (by rfl) ?_
 intro b5 w6 hb5 H7 hE8
 let x1 := re b5 EI rb 145
 refine sA (i64 0) rfl ?_
 refine wend ?_
 refine seqAny ?_
 refine drawC (m := 9) [0, 0, 0, 4, 14, 0, 32, 127, 255] [4, 7] (fun q vs w' => match q, vs with | 0, [] => Hp No w₀ w' (x1 :: x2 :: (rc b #[iN n, .slice (ownA key) (List.length gs) c, sN0] 143) :: (key, sob EG 154 gs sp) :: R) | 1, [v0] => ∃ (wx23 : Int) (key15 : Option Nat) (c16 : Nat) (sp17 : List Value), v0 = i64 wx23 ∧ Sl EG key15 (gs ++ [(⟨(3 : Int), ra.getD 0 0, (0 : Int)⟩ : Gt)]) c16 sp17 ∧ wx23 = wrW n gs ∧ Hp No w₀ w' ((rc b #[iN n, .slice (ownA key15) (List.length (gs ++ [(⟨(3 : Int), ra.getD 0 0, (0 : Int)⟩ : Gt)])) c16, sN0] 143) :: (key15, sob EG 154 (gs ++ [(⟨(3 : Int), ra.getD 0 0, (0 : Int)⟩ : Gt)]) sp17) :: x1 :: x2 :: R) | 2, [v0, v1] => ∃ (wx23 : Int) (wx38 : Int) (key30 : Option Nat) (c31 : Nat) (sp32 : List Value), v0 = i64 wx23 ∧ v1 = i64 wx38 ∧ Sl EG key30 (gs ++ [(⟨(3 : Int), ra.getD 0 0, (0 : Int)⟩ : Gt)] ++ [(⟨(2 : Int), wx23, rb.getD 0 0⟩ : Gt)]) c31 sp32 ∧ wx23 = wrW n gs ∧ wx38 = wrW n (gs ++ [(⟨(3 : Int), ra.getD 0 0, (0 : Int)⟩ : Gt)]) ∧ Hp No w₀ w' ((rc b #[iN n, .slice (ownA key30) (List.length (gs ++ [(⟨(3 : Int), ra.getD 0 0, (0 : Int)⟩ : Gt)] ++ [(⟨(2 : Int), wx23, rb.getD 0 0⟩ : Gt)])) c31, sN0] 143) :: (key30, sob EG 154 (gs ++ [(⟨(3 : Int), ra.getD 0 0, (0 : Int)⟩ : Gt)] ++ [(⟨(2 : Int), wx23, rb.getD 0 0⟩ : Gt)]) sp32) :: x1 :: x2 :: R) | _, _ => False) mixed (by kernel_rfl) (by kernel_rfl) H7.drew ?_
 refine WalkC.look rfl (fun _ => pT b) (fun _ _ _ => rfl) (fun q r uw _ _ _ _ => Gives.run rfl (r_move (v := pT b) rfl) ⟨rfl, rfl⟩) ?_
 refine WalkC.look rfl (fun _ => pT b) (fun _ _ _ => rfl) (fun q r uw _ _ _ _ => Gives.run rfl (r_move (v := pT b) rfl) ⟨rfl, rfl⟩) ?_
 refine WalkC.look rfl (fun _ => pT b1) (fun _ _ _ => rfl) (fun q r uw _ _ _ _ => Gives.run rfl (r_indexA (off' := 0) (j := 0) arr145 (b := b1) (off := 0) rfl rfl (by first | rfl | omega | (simp; omega)) (by omega) (by omega)) ⟨rfl, rfl⟩) ?_
 refine WalkC.look rfl (fun _ => i64 (ra.getD 0 0)) (fun _ _ _ => rfl) (fun q r uw hlo hhi hle hF => ?_) ?_
 ·have h1 : 0 ≤ q := Nat.zero_le _
  have h2 : q ≤ 0 := hhi 0 4 rfl rfl
  rcases (show q = 0 by omega) with rfl
  ·have HH := hF
   exact Gives.run rfl (r_ld1 (E := EI) (l := ra) (j := 0) (a := ra.getD 0 0) fits3 (HH.get (k := 1) rfl) (at_getD (by first | omega | (simp only [List.length_set]; omega) | exact bLe rfl | (simp <;> omega))) rfl rfl) ⟨rfl, rfl⟩
 refine WalkC.eff 0 rfl (fun r uw9 hF11 => ?_) ?_
 ·have H10 := hF11
  dsimp only [List.take, List.map, List.cons_append, List.nil_append]
  refine Gives.ofW (d := 13) rfl rfl (fun Q' hK => ?_)
  have H12 := ((H10.pick 4 [2, 3, 0, 1] (by decide) (by decide))).as (L' := (_ :: _ :: _)) rfl
  refine c_call (vs := [pT b, i64 3, i64 (ra.getD 0 0), i64 0]) call54 rfl (gate_ok b n key c sp gs hSw hn (by omega) (3 : Int) (ra.getD 0 0) (0 : Int) (x1 :: x2 :: R) w₀ uw9 H12) ?_
  rintro wv21 w13 ⟨hwv22, key15, c16, sp17, hS18, HN19⟩
  obtain ⟨wx23, hwx23⟩ : ∃ q, q = wrW n gs := ⟨_, rfl⟩
  rw [← hwx23] at hwv22
  subst hwv22
  have H20 := HN19.as (L' := (_ :: _ :: _ :: _ :: R)) rfl
  exact hK _ _ ⟨wx23, key15, c16, sp17, rfl, hS18, hwx23, H20⟩
 refine WalkC.look rfl (fun _ => pT b5) (fun _ _ _ => rfl) (fun q r uw _ _ _ _ => Gives.run rfl (r_indexA (off' := 0) (j := 0) arr145 (b := b5) (off := 0) rfl rfl (by first | rfl | omega | (simp; omega)) (by omega) (by omega)) ⟨rfl, rfl⟩) ?_
 refine WalkC.look rfl (fun _ => i64 (rb.getD 0 0)) (fun _ _ _ => rfl) (fun q r uw hlo hhi hle hF => ?_) ?_
 ·have h1 : 0 ≤ q := Nat.zero_le _
  have h2 : q ≤ 1 := hhi 1 7 rfl rfl
  rcases (show q = 0 ∨ q = 1 by omega) with rfl | rfl
  ·have HH := hF
   exact Gives.run rfl (r_ld1 (E := EI) (l := rb) (j := 0) (a := rb.getD 0 0) fits3 (HH.get (k := 0) rfl) (at_getD (by first | omega | (simp only [List.length_set]; omega) | exact bLe rfl | (simp <;> omega))) rfl rfl) ⟨rfl, rfl⟩
  ·obtain ⟨wx23, key15, c16, sp17, e4, hS18, hwx23, HH⟩ := hF
   exact Gives.run rfl (r_ld1 (E := EI) (l := rb) (j := 0) (a := rb.getD 0 0) fits3 (HH.get (k := 2) rfl) (at_getD (by first | omega | (simp only [List.length_set]; omega) | exact bLe rfl | (simp <;> omega))) rfl rfl) ⟨rfl, rfl⟩
 refine WalkC.eff 1 rfl (fun r uw24 hF26 => ?_) ?_
 ·obtain ⟨wx23, key15, c16, sp17, e4, hS18, hwx23, H25⟩ := hF26
  dsimp only [List.take, List.map, List.cons_append, List.nil_append]
  rw [e4]
  refine Gives.ofW (d := 16) rfl rfl (fun Q' hK => ?_)
  have H27 := H25.as (L' := (_ :: _ :: _)) rfl
  refine c_call (vs := [pT b, i64 2, i64 wx23, i64 (rb.getD 0 0)]) call54 rfl (gate_ok b n key15 c16 sp17 (gs ++ [(⟨(3 : Int), ra.getD 0 0, (0 : Int)⟩ : Gt)]) hS18 hn (by simp only [List.length_append, List.length_cons, List.length_nil]; omega) (2 : Int) wx23 (rb.getD 0 0) (x1 :: x2 :: R) w₀ uw24 H27) ?_
  rintro wv36 w28 ⟨hwv37, key30, c31, sp32, hS33, HN34⟩
  obtain ⟨wx38, hwx38⟩ : ∃ q, q = wrW n (gs ++ [(⟨(3 : Int), ra.getD 0 0, (0 : Int)⟩ : Gt)]) := ⟨_, rfl⟩
  rw [← hwx38] at hwv37
  subst hwv37
  have H35 := HN34.as (L' := (_ :: _ :: _ :: _ :: R)) rfl
  exact hK _ _ ⟨wx23, wx38, key30, c31, sp32, rfl, rfl, hS33, hwx23, hwx38, H35⟩
 refine WalkC.look rfl (fun r => r 7) (fun r r' h => h 7 (by decide) rfl) (fun q r uw _ _ _ _ => Gives.run rfl (r_assign rfl) ⟨rfl, rfl⟩) ?_
 refine WalkC.nil ?_
 intro r39 w40 hF42
 obtain ⟨wx23, wx38, key30, c31, sp32, e4, e7, hS33, hwx23, hwx38, H41⟩ := hF42
 dsimp only
 rw [e4, e7]
 subst hwx38
 subst hwx23
 have e43 : gs ++ [(⟨(3 : Int), ra.getD 0 0, (0 : Int)⟩ : Gt)] ++ [(⟨(2 : Int), (wrW n gs), rb.getD 0 0⟩ : Gt)] = (leS n gs ra rb 0).1 := by rfl
 have hS44 := hS33
 rw [e43] at hS44
 have H45 : Hp No w₀ w40 ((rc b #[iN n, .slice (ownA key30) (List.length ((leS n gs ra rb 0).1)) c31, sN0] 143) :: (key30, sob EG 154 ((leS n gs ra rb 0).1) sp32) :: x1 :: x2 :: R) := by rw [← e43]; exact H41
 refine wnil ?_
 refine thenNormal ?_
 refine seqAny ?_
 refine sR ?_
 refine sA (i64 1) rfl ?_
 refine wend ?_
 refine blockAny ?_
 refine loopAny (σ := Nat × Option Nat × Nat × List Value) (fun (i, kz, cz, sz) => [(0, pT b), (4, pT b1), (5, pT b5), (7, i64 ((leS n gs ra rb i).2)), (8, iN (i + 1))]) (fun (i, kz, cz, sz) w' => (i ≤ 62 ∧ Sl EG kz (leS n gs ra rb i).1 cz sz) ∧ Hp No w₀ w' ((rc b #[iN n, .slice (ownA kz) (List.length ((leS n gs ra rb i).1)) cz, sN0] 143) :: (kz, sob EG 154 ((leS n gs ra rb i).1) sz) :: x2 :: x1 :: R)) (fun (i, kz, cz, sz) => 62 - i) ((0, key30, c31, sp32)) ?_ ?_ ?_
 ·exact ⟨rfl, rfl, rfl, rfl, rfl, trivial⟩
 ·exact ⟨⟨by omega, hS44⟩, (H45.pick 4 [0, 1, 3, 2] (by decide) (by decide))⟩
 rintro ⟨i, kz, cz, sz⟩ ρ w46 ⟨⟨hq, hSz⟩, HL⟩
 have hll := leS_len n gs ra rb i
 refine seqAny ?_
 refine sR ?_
 refine sM (iN (i + 1)) rfl ?_
 refine sq (r_lssI (a := ((i + 1) : Nat)) (b := (63 : Int)) rfl rfl) ?_
 refine wend ?_
 refine condProp ((((i + 1) : Nat) : Int) < (63 : Int)) rfl (fun c18 => ?_) (fun c18 => ?_)
 ·refine skipAny ?_
  refine thenNormal ?_
  refine seqAny ?_
  refine blockAny ?_
  refine drawC (m := 12) [0, 0, 0, 4, 12, 30, 0, 64, 192, 0, 1023, 2047] [5, 10] (fun q vs w' => match q, vs with | 0, [] => Hp No w₀ w' ((rc b #[iN n, .slice (ownA kz) (List.length ((leS n gs ra rb i).1)) cz, sN0] 143) :: (kz, sob EG 154 ((leS n gs ra rb i).1) sz) :: x2 :: x1 :: R) | 1, [v0] => ∃ (wx62 : Int) (key54 : Option Nat) (c55 : Nat) (sp56 : List Value), v0 = i64 wx62 ∧ Sl EG key54 (((leS n gs ra rb i).1) ++ [(⟨(3 : Int), ra.getD (i + 1) 0, (0 : Int)⟩ : Gt)]) c55 sp56 ∧ wx62 = wrW n ((leS n gs ra rb i).1) ∧ Hp No w₀ w' ((rc b #[iN n, .slice (ownA key54) (List.length (((leS n gs ra rb i).1) ++ [(⟨(3 : Int), ra.getD (i + 1) 0, (0 : Int)⟩ : Gt)])) c55, sN0] 143) :: (key54, sob EG 154 (((leS n gs ra rb i).1) ++ [(⟨(3 : Int), ra.getD (i + 1) 0, (0 : Int)⟩ : Gt)]) sp56) :: x2 :: x1 :: R) | 2, [v0, v1] => ∃ (wx62 : Int) (wx77 : Int) (key69 : Option Nat) (c70 : Nat) (sp71 : List Value), v0 = i64 wx62 ∧ v1 = i64 wx77 ∧ Sl EG key69 (caG n (((leS n gs ra rb i).1) ++ [(⟨(3 : Int), ra.getD (i + 1) 0, (0 : Int)⟩ : Gt)]) wx62 (rb.getD (i + 1) 0) ((leS n gs ra rb i).2)) c70 sp71 ∧ wx62 = wrW n ((leS n gs ra rb i).1) ∧ wx77 = caW n (((leS n gs ra rb i).1) ++ [(⟨(3 : Int), ra.getD (i + 1) 0, (0 : Int)⟩ : Gt)]) ∧ Hp No w₀ w' ((rc b #[iN n, .slice (ownA key69) (List.length (caG n (((leS n gs ra rb i).1) ++ [(⟨(3 : Int), ra.getD (i + 1) 0, (0 : Int)⟩ : Gt)]) wx62 (rb.getD (i + 1) 0) ((leS n gs ra rb i).2))) c70, sN0] 143) :: (key69, sob EG 154 (caG n (((leS n gs ra rb i).1) ++ [(⟨(3 : Int), ra.getD (i + 1) 0, (0 : Int)⟩ : Gt)]) wx62 (rb.getD (i + 1) 0) ((leS n gs ra rb i).2)) sp71) :: x2 :: x1 :: R) | _, _ => False) mixed (by kernel_rfl) (by kernel_rfl) HL.drew ?_
  refine WalkC.look rfl (fun _ => pT b) (fun _ _ _ => rfl) (fun q r uw _ _ _ _ => Gives.run rfl (r_move (v := pT b) rfl) ⟨rfl, rfl⟩) ?_
  refine WalkC.look rfl (fun _ => pT b) (fun _ _ _ => rfl) (fun q r uw _ _ _ _ => Gives.run rfl (r_move (v := pT b) rfl) ⟨rfl, rfl⟩) ?_
  refine WalkC.look rfl (fun _ => iN (i + 1)) (fun _ _ _ => rfl) (fun q r uw _ _ _ _ => Gives.run rfl (r_move (v := iN (i + 1)) rfl) ⟨rfl, rfl⟩) ?_
  refine WalkC.look rfl (fun _ => .pointer (some ⟨b1, (i + 1), none⟩)) (fun _ _ _ => rfl) (fun q r uw _ _ _ _ => Gives.run rfl (r_indexA (off' := (i + 1)) (j := (i + 1)) arr145 (b := b1) (off := 0) rfl rfl (by first | rfl | omega | (simp; omega)) (by omega) (by omega)) ⟨rfl, rfl⟩) ?_
  refine WalkC.look rfl (fun _ => i64 (ra.getD (i + 1) 0)) (fun _ _ _ => rfl) (fun q r uw hlo hhi hle hF => ?_) ?_
  ·have h1 : 0 ≤ q := Nat.zero_le _
   have h2 : q ≤ 0 := hhi 0 5 rfl rfl
   rcases (show q = 0 by omega) with rfl
   ·have HH := hF
    exact Gives.run rfl (r_ld1 (E := EI) (l := ra) (j := (i + 1)) (a := ra.getD (i + 1) 0) fits3 (HH.get (k := 2) rfl) (at_getD (by first | omega | (simp only [List.length_set]; omega) | exact bLe rfl | (simp <;> omega))) rfl rfl) ⟨rfl, rfl⟩
  refine WalkC.eff 0 rfl (fun r uw48 hF50 => ?_) ?_
  ·have H49 := hF50
   dsimp only [List.take, List.map, List.cons_append, List.nil_append]
   refine Gives.ofW (d := 26) rfl rfl (fun Q' hK => ?_)
   have H51 := H49.as (L' := (_ :: _ :: _)) rfl
   refine c_call (vs := [pT b, i64 3, i64 (ra.getD (i + 1) 0), i64 0]) call54 rfl (gate_ok b n kz cz sz ((leS n gs ra rb i).1) hSz hn (by omega) (3 : Int) (ra.getD (i + 1) 0) (0 : Int) (x2 :: x1 :: R) w₀ uw48 H51) ?_
   rintro wv60 w52 ⟨hwv61, key54, c55, sp56, hS57, HN58⟩
   obtain ⟨wx62, hwx62⟩ : ∃ q, q = wrW n ((leS n gs ra rb i).1) := ⟨_, rfl⟩
   rw [← hwx62] at hwv61
   subst hwv61
   have H59 := HN58.as (L' := (_ :: _ :: _ :: _ :: R)) rfl
   exact hK _ _ ⟨wx62, key54, c55, sp56, rfl, hS57, hwx62, H59⟩
  refine WalkC.look rfl (fun _ => iN (i + 1)) (fun _ _ _ => rfl) (fun q r uw _ _ _ _ => Gives.run rfl (r_move (v := iN (i + 1)) rfl) ⟨rfl, rfl⟩) ?_
  refine WalkC.look rfl (fun _ => .pointer (some ⟨b5, (i + 1), none⟩)) (fun _ _ _ => rfl) (fun q r uw _ _ _ _ => Gives.run rfl (r_indexA (off' := (i + 1)) (j := (i + 1)) arr145 (b := b5) (off := 0) rfl rfl (by first | rfl | omega | (simp; omega)) (by omega) (by omega)) ⟨rfl, rfl⟩) ?_
  refine WalkC.look rfl (fun _ => i64 (rb.getD (i + 1) 0)) (fun _ _ _ => rfl) (fun q r uw hlo hhi hle hF => ?_) ?_
  ·have h1 : 0 ≤ q := Nat.zero_le _
   have h2 : q ≤ 1 := hhi 1 10 rfl rfl
   rcases (show q = 0 ∨ q = 1 by omega) with rfl | rfl
   ·have HH := hF
    exact Gives.run rfl (r_ld1 (E := EI) (l := rb) (j := (i + 1)) (a := rb.getD (i + 1) 0) fits3 (HH.get (k := 3) rfl) (at_getD (by first | omega | (simp only [List.length_set]; omega) | exact bLe rfl | (simp <;> omega))) rfl rfl) ⟨rfl, rfl⟩
   ·obtain ⟨wx62, key54, c55, sp56, e5, hS57, hwx62, HH⟩ := hF
    exact Gives.run rfl (r_ld1 (E := EI) (l := rb) (j := (i + 1)) (a := rb.getD (i + 1) 0) fits3 (HH.get (k := 3) rfl) (at_getD (by first | omega | (simp only [List.length_set]; omega) | exact bLe rfl | (simp <;> omega))) rfl rfl) ⟨rfl, rfl⟩
  refine WalkC.look rfl (fun _ => i64 ((leS n gs ra rb i).2)) (fun _ _ _ => rfl) (fun q r uw _ _ _ _ => Gives.run rfl (r_move (v := i64 ((leS n gs ra rb i).2)) rfl) ⟨rfl, rfl⟩) ?_
  refine WalkC.eff 1 rfl (fun r uw63 hF65 => ?_) ?_
  ·obtain ⟨wx62, key54, c55, sp56, e5, hS57, hwx62, H64⟩ := hF65
   dsimp only [List.take, List.map, List.cons_append, List.nil_append]
   rw [e5]
   refine Gives.ofW (d := 31) rfl rfl (fun Q' hK => ?_)
   have H66 := H64.as (L' := (_ :: _ :: _)) rfl
   refine c_call (vs := [pT b, i64 wx62, i64 (rb.getD (i + 1) 0), i64 ((leS n gs ra rb i).2)]) call78 rfl (carry_ok b n key54 c55 sp56 (((leS n gs ra rb i).1) ++ [(⟨(3 : Int), ra.getD (i + 1) 0, (0 : Int)⟩ : Gt)]) hS57 hn (by simp only [List.length_append, List.length_cons, List.length_nil]; omega) wx62 (rb.getD (i + 1) 0) ((leS n gs ra rb i).2) (x2 :: x1 :: R) w₀ uw63 H66) ?_
   rintro wv75 w67 ⟨hwv76, key69, c70, sp71, hS72, HN73⟩
   obtain ⟨wx77, hwx77⟩ : ∃ q, q = caW n (((leS n gs ra rb i).1) ++ [(⟨(3 : Int), ra.getD (i + 1) 0, (0 : Int)⟩ : Gt)]) := ⟨_, rfl⟩
   rw [← hwx77] at hwv76
   subst hwv76
   have H74 := HN73.as (L' := (_ :: _ :: _ :: _ :: R)) rfl
   exact hK _ _ ⟨wx62, wx77, key69, c70, sp71, rfl, rfl, hS72, hwx62, hwx77, H74⟩
  refine WalkC.look rfl (fun r => r 10) (fun r r' h => h 10 (by decide) rfl) (fun q r uw _ _ _ _ => Gives.run rfl (r_assign rfl) ⟨rfl, rfl⟩) ?_
  refine WalkC.nil ?_
  intro r78 w79 hF81
  obtain ⟨wx62, wx77, key69, c70, sp71, e5, e10, hS72, hwx62, hwx77, H80⟩ := hF81
  dsimp only
  rw [e5, e10]
  subst hwx77
  subst hwx62
  refine wnil ?_
  refine blockNormal ?_
  refine thenNormal ?_
  refine oneRegion ?_
  refine sM (iN (i + 1)) rfl ?_
  refine sq ((r_addI (a := ((i + 1) : Nat)) (b := (1 : Int)) rfl rfl (by omega)).as (v' := iN (i + 1 + 1)) (by rfl)) ?_
  refine sA (iN (i + 1 + 1)) rfl ?_
  refine wnil ?_
  refine thenNormal ?_
  have e82 : caG n (((leS n gs ra rb i).1) ++ [(⟨(3 : Int), ra.getD (i + 1) 0, (0 : Int)⟩ : Gt)]) (wrW n ((leS n gs ra rb i).1)) (rb.getD (i + 1) 0) ((leS n gs ra rb i).2) = (leS n gs ra rb (i + 1)).1 := by rfl
  have hS83 := hS72
  rw [e82] at hS83
  have H84 : Hp No w₀ w79 ((rc b #[iN n, .slice (ownA key69) (List.length ((leS n gs ra rb (i + 1)).1)) c70, sN0] 143) :: (key69, sob EG 154 ((leS n gs ra rb (i + 1)).1) sp71) :: x2 :: x1 :: R) := by rw [← e82]; exact H80
  exact ⟨(i + 1, key69, c70, sp71), _, rfl, ⟨rfl, rfl, rfl, rfl, rfl, trivial⟩, ⟨⟨by omega, hS83⟩, H84⟩, by show 62 - (i + 1) < 62 - i; omega⟩
 ·have hie : i = 62 := by omega
  refine exitAny ?_
  refine thenExit ?_
  refine thenExit ?_
  refine blockHere ?_
  refine thenNormal ?_
  refine seqAny ?_
  refine drawC (m := 10) [0, 0, 2, 0, 0, 16, 56, 0, 255, 511] [6, 8] (fun q vs w' => match q, vs with | 0, [] => Hp No w₀ w' ((rc b #[iN n, .slice (ownA kz) (List.length ((leS n gs ra rb i).1)) cz, sN0] 143) :: (kz, sob EG 154 ((leS n gs ra rb i).1) sz) :: x2 :: x1 :: R) | 1, [v0] => ∃ (wx99 : Int) (key91 : Option Nat) (c92 : Nat) (sp93 : List Value), v0 = i64 wx99 ∧ Sl EG key91 (((leS n gs ra rb i).1) ++ [(⟨(3 : Int), rb.getD 63 0, (0 : Int)⟩ : Gt)]) c92 sp93 ∧ wx99 = wrW n ((leS n gs ra rb i).1) ∧ Hp No w₀ w' ((rc b #[iN n, .slice (ownA key91) (List.length (((leS n gs ra rb i).1) ++ [(⟨(3 : Int), rb.getD 63 0, (0 : Int)⟩ : Gt)])) c92, sN0] 143) :: (key91, sob EG 154 (((leS n gs ra rb i).1) ++ [(⟨(3 : Int), rb.getD 63 0, (0 : Int)⟩ : Gt)]) sp93) :: x2 :: x1 :: R) | 2, [v0, v1] => ∃ (wx99 : Int) (wx114 : Int) (key106 : Option Nat) (c107 : Nat) (sp108 : List Value), v0 = i64 wx99 ∧ v1 = i64 wx114 ∧ Sl EG key106 (caG n (((leS n gs ra rb i).1) ++ [(⟨(3 : Int), rb.getD 63 0, (0 : Int)⟩ : Gt)]) (ra.getD 63 0) wx99 ((leS n gs ra rb i).2)) c107 sp108 ∧ wx99 = wrW n ((leS n gs ra rb i).1) ∧ wx114 = caW n (((leS n gs ra rb i).1) ++ [(⟨(3 : Int), rb.getD 63 0, (0 : Int)⟩ : Gt)]) ∧ Hp No w₀ w' ((rc b #[iN n, .slice (ownA key106) (List.length (caG n (((leS n gs ra rb i).1) ++ [(⟨(3 : Int), rb.getD 63 0, (0 : Int)⟩ : Gt)]) (ra.getD 63 0) wx99 ((leS n gs ra rb i).2))) c107, sN0] 143) :: (key106, sob EG 154 (caG n (((leS n gs ra rb i).1) ++ [(⟨(3 : Int), rb.getD 63 0, (0 : Int)⟩ : Gt)]) (ra.getD 63 0) wx99 ((leS n gs ra rb i).2)) sp108) :: x2 :: x1 :: R) | _, _ => False) mixed (by kernel_rfl) (by kernel_rfl) HL.drew ?_
  refine WalkC.look rfl (fun _ => pT b) (fun _ _ _ => rfl) (fun q r uw _ _ _ _ => Gives.run rfl (r_move (v := pT b) rfl) ⟨rfl, rfl⟩) ?_
  refine WalkC.look rfl (fun _ => .pointer (some ⟨b1, 63, none⟩)) (fun _ _ _ => rfl) (fun q r uw _ _ _ _ => Gives.run rfl (r_indexA (off' := 63) (j := 63) arr145 (b := b1) (off := 0) rfl rfl (by first | rfl | omega | (simp; omega)) (by omega) (by omega)) ⟨rfl, rfl⟩) ?_
  refine WalkC.look rfl (fun _ => i64 (ra.getD 63 0)) (fun _ _ _ => rfl) (fun q r uw hlo hhi hle hF => ?_) ?_
  ·have h1 : 0 ≤ q := Nat.zero_le _
   have h2 : q ≤ 1 := hhi 1 8 rfl rfl
   rcases (show q = 0 ∨ q = 1 by omega) with rfl | rfl
   ·have HH := hF
    exact Gives.run rfl (r_ld1 (E := EI) (l := ra) (j := 63) (a := ra.getD 63 0) fits3 (HH.get (k := 2) rfl) (at_getD (by first | omega | (simp only [List.length_set]; omega) | exact bLe rfl | (simp <;> omega))) rfl rfl) ⟨rfl, rfl⟩
   ·obtain ⟨wx99, key91, c92, sp93, e6, hS94, hwx99, HH⟩ := hF
    exact Gives.run rfl (r_ld1 (E := EI) (l := ra) (j := 63) (a := ra.getD 63 0) fits3 (HH.get (k := 2) rfl) (at_getD (by first | omega | (simp only [List.length_set]; omega) | exact bLe rfl | (simp <;> omega))) rfl rfl) ⟨rfl, rfl⟩
  refine WalkC.look rfl (fun _ => pT b) (fun _ _ _ => rfl) (fun q r uw _ _ _ _ => Gives.run rfl (r_move (v := pT b) rfl) ⟨rfl, rfl⟩) ?_
  refine WalkC.look rfl (fun _ => .pointer (some ⟨b5, 63, none⟩)) (fun _ _ _ => rfl) (fun q r uw _ _ _ _ => Gives.run rfl (r_indexA (off' := 63) (j := 63) arr145 (b := b5) (off := 0) rfl rfl (by first | rfl | omega | (simp; omega)) (by omega) (by omega)) ⟨rfl, rfl⟩) ?_
  refine WalkC.look rfl (fun _ => i64 (rb.getD 63 0)) (fun _ _ _ => rfl) (fun q r uw hlo hhi hle hF => ?_) ?_
  ·have h1 : 0 ≤ q := Nat.zero_le _
   have h2 : q ≤ 0 := hhi 0 6 rfl rfl
   rcases (show q = 0 by omega) with rfl
   ·have HH := hF
    exact Gives.run rfl (r_ld1 (E := EI) (l := rb) (j := 63) (a := rb.getD 63 0) fits3 (HH.get (k := 3) rfl) (at_getD (by first | omega | (simp only [List.length_set]; omega) | exact bLe rfl | (simp <;> omega))) rfl rfl) ⟨rfl, rfl⟩
  refine WalkC.eff 0 rfl (fun r uw85 hF87 => ?_) ?_
  ·have H86 := hF87
   dsimp only [List.take, List.map, List.cons_append, List.nil_append]
   refine Gives.ofW (d := 38) rfl rfl (fun Q' hK => ?_)
   have H88 := H86.as (L' := (_ :: _ :: _)) rfl
   refine c_call (vs := [pT b, i64 3, i64 (rb.getD 63 0), i64 0]) call54 rfl (gate_ok b n kz cz sz ((leS n gs ra rb i).1) hSz hn (by omega) (3 : Int) (rb.getD 63 0) (0 : Int) (x2 :: x1 :: R) w₀ uw85 H88) ?_
   rintro wv97 w89 ⟨hwv98, key91, c92, sp93, hS94, HN95⟩
   obtain ⟨wx99, hwx99⟩ : ∃ q, q = wrW n ((leS n gs ra rb i).1) := ⟨_, rfl⟩
   rw [← hwx99] at hwv98
   subst hwv98
   have H96 := HN95.as (L' := (_ :: _ :: _ :: _ :: R)) rfl
   exact hK _ _ ⟨wx99, key91, c92, sp93, rfl, hS94, hwx99, H96⟩
  refine WalkC.look rfl (fun _ => i64 ((leS n gs ra rb i).2)) (fun _ _ _ => rfl) (fun q r uw _ _ _ _ => Gives.run rfl (r_move (v := i64 ((leS n gs ra rb i).2)) rfl) ⟨rfl, rfl⟩) ?_
  refine WalkC.eff 1 rfl (fun r uw100 hF102 => ?_) ?_
  ·obtain ⟨wx99, key91, c92, sp93, e6, hS94, hwx99, H101⟩ := hF102
   dsimp only [List.take, List.map, List.cons_append, List.nil_append]
   rw [e6]
   refine Gives.ofW (d := 40) rfl rfl (fun Q' hK => ?_)
   have H103 := H101.as (L' := (_ :: _ :: _)) rfl
   refine c_call (vs := [pT b, i64 (ra.getD 63 0), i64 wx99, i64 ((leS n gs ra rb i).2)]) call78 rfl (carry_ok b n key91 c92 sp93 (((leS n gs ra rb i).1) ++ [(⟨(3 : Int), rb.getD 63 0, (0 : Int)⟩ : Gt)]) hS94 hn (by simp only [List.length_append, List.length_cons, List.length_nil]; omega) (ra.getD 63 0) wx99 ((leS n gs ra rb i).2) (x2 :: x1 :: R) w₀ uw100 H103) ?_
   rintro wv112 w104 ⟨hwv113, key106, c107, sp108, hS109, HN110⟩
   obtain ⟨wx114, hwx114⟩ : ∃ q, q = caW n (((leS n gs ra rb i).1) ++ [(⟨(3 : Int), rb.getD 63 0, (0 : Int)⟩ : Gt)]) := ⟨_, rfl⟩
   rw [← hwx114] at hwv113
   subst hwv113
   have H111 := HN110.as (L' := (_ :: _ :: _ :: _ :: R)) rfl
   exact hK _ _ ⟨wx99, wx114, key106, c107, sp108, rfl, rfl, hS109, hwx99, hwx114, H111⟩
  refine WalkC.look rfl (fun r => r 8) (fun r r' h => h 8 (by decide) rfl) (fun q r uw _ _ _ _ => Gives.run rfl (r_assign rfl) ⟨rfl, rfl⟩) ?_
  refine WalkC.nil ?_
  intro r115 w116 hF118
  obtain ⟨wx99, wx114, key106, c107, sp108, e6, e8, hS109, hwx99, hwx114, H117⟩ := hF118
  dsimp only
  rw [e6, e8]
  subst hwx114
  subst hwx99
  refine wnil ?_
  refine thenNormal ?_
  refine retAny ?_
  refine rG1 6 (i64 ((caW n (((leS n gs ra rb i).1) ++ [(⟨(3 : Int), rb.getD 63 0, (0 : Int)⟩ : Gt)])))) rfl ⟨rfl, rfl⟩ ?_
  have e119 : caG n (((leS n gs ra rb i).1) ++ [(⟨(3 : Int), rb.getD 63 0, (0 : Int)⟩ : Gt)]) (ra.getD 63 0) (wrW n ((leS n gs ra rb i).1)) ((leS n gs ra rb i).2) = (leG n gs ra rb).1 := by rw [leG_eq hie]
  have hS120 := hS109
  rw [e119] at hS120
  have H121 : Hp No w₀ w116 ((rc b #[iN n, .slice (ownA key106) (List.length ((leG n gs ra rb).1)) c107, sN0] 143) :: (key106, sob EG 154 ((leG n gs ra rb).1) sp108) :: x2 :: x1 :: R) := by rw [← e119]; exact H117
  exact ⟨_, rfl, congrArg i64 (by rw [leG_eq hie]), key106, c107, sp108, hS120, ((H121.dropk 3).dropk 2)⟩
end Go.Proofs.YtohngnahcgbfmaaGreatDoor.Cm
namespace Go.Proofs.YtohngnahcgbfmaaGreatDoor.Cm
open Go Go.Proofs.YtohngnahcgbfmaaGreatDoor.Vc Go.Proofs.YtohngnahcgbfmaaGreatDoor.Er Go.Proofs.YtohngnahcgbfmaaGreatDoor.Circ
set_option linter.unusedVariables false
set_option maxHeartbeats 4000000 in
theorem mpick_ok (b n : Nat) (key : Option Nat) (c : Nat) (sp : List Value) (gs : List Gt) (hSw : Sl EG key gs c sp) (hn : n ≤ 1000) (hlen : gs.length ≤ 3000) (ws : Int) (ra rb : List Int) (hra : ra.length = 64) (hrb : rb.length = 64) (R : List (Option Nat × Obj)) (w₀ w : World) (H : Hp No w₀ w ((rc b #[iN n, .slice (ownA key) (List.length gs) c, sN0] 143) :: (key, sob EG 154 gs sp) :: R)) : Calls Tryz.prog 56 [pT b, i64 ws, .agg (cel EI ra).toArray, .agg (cel EI rb).toArray].toArray w (Ret fun v w' => v = .agg (cel EI ((piS n gs ws ra rb 64).2)).toArray ∧ ∃ (key' : Option Nat) (c' : Nat) (sp' : List Value), Sl EG key' ((piS n gs ws ra rb 64).1) c' sp' ∧ Hp No w₀ w' ((rc b #[iN n, .slice (ownA key') (List.length ((piS n gs ws ra rb 64).1)) c', sN0] 143) :: (key', sob EG 154 ((piS n gs ws ra rb 64).1) sp') :: R)) := by
 skip
 refine enter (n := 34) Tryz.func56 rfl rfl (bLe rfl) ?_
 refine sR ?_
 refine q_box (v := .agg (cel EI ra).toArray) (o := .cells (cel EI ra).toArray 145 (0, 0)) H rfl (by rfl) ?_
 intro b1 w2 hb1 H3 hE4
 let x2 := re b1 EI ra 145
 refine q_box (v := .agg (cel EI rb).toArray) (o := .cells (cel EI rb).toArray 145 (0, 0)) H3 rfl (by rfl) ?_
 intro b5 w6 hb5 H7 hE8
 let x3 := re b5 EI rb 145
 refine q_alloc (o := .cells (cel EI (List.replicate 64 0)).toArray 145 (0, 0)) H7 zer145 (by kernel_rfl) ?_
 intro b9 w10 hb9 H11 hE12
 refine wS ?_
 refine q_alloc (o := .cells (cel EI (List.replicate 64 0)).toArray 145 (0, 0)) H11 zer145 (by kernel_rfl) ?_
 intro b13 w14 hb13 H15 hE16
 refine wend ?_
 refine seqAny ?_
 refine sR ?_
 refine sM (i64 0) rfl ?_
 refine wend ?_
 refine blockAny ?_
 refine loopAny (σ := Nat × Option Nat × Nat × List Value) (fun (i, kz, cz, sz) => [(0, pT b), (1, i64 ws), (6, pT b1), (7, pT b5), (8, pT b9), (9, pT b13), (11, iN i)]) (fun (i, kz, cz, sz) w' => (i ≤ 64 ∧ Sl EG kz ((piS n gs ws ra rb i).1) cz sz) ∧ Hp No w₀ w' ((rc b #[iN n, .slice (ownA kz) (List.length ((piS n gs ws ra rb i).1)) cz, sN0] 143) :: (kz, sob EG 154 ((piS n gs ws ra rb i).1) sz) :: (re b13 EI (padW ((piS n gs ws ra rb i).2)) 145) :: x2 :: x3 :: (re b9 EI (List.replicate 64 0) 145) :: R)) (fun (i, kz, cz, sz) => 64 - i) ((0, key, c, sp)) ?_ ?_ ?_
 ·exact ⟨rfl, rfl, rfl, rfl, rfl, rfl, rfl, trivial⟩
 ·exact ⟨⟨by omega, hSw⟩, (H15.pick 6 [4, 5, 0, 3, 2, 1] (by decide) (by decide))⟩
 rintro ⟨i, kz, cz, sz⟩ ρ w17 ⟨⟨hq, hSz⟩, HL⟩
 let x1 := re b13 EI (padW ((piS n gs ws ra rb i).2)) 145
 have hpi := piS_len n gs ws ra rb i
 have hpl : (padW (piS n gs ws ra rb i).2).length = 64 := padW_len (by rw [hpi.2]; exact hq)
 refine sR ?_
 refine sq (r_lssI (a := (i : Nat)) (b := (64 : Int)) rfl rfl) ?_
 refine wend ?_
 refine seqAny ?_
 refine condProp (((i : Nat) : Int) < (64 : Int)) rfl (fun c12 => ?_) (fun c12 => ?_)
 ·refine skipAny ?_
  refine thenNormal ?_
  refine seqAny ?_
  refine blockAny ?_
  refine sR ?_
  refine sM (iN i) rfl ?_
  refine sA (iN i) rfl ?_
  refine wend ?_
  refine drawC (m := 19) [0, 0, 0, 4, 12, 0, 0, 0, 0, 256, 768, 0, 2048, 6144, 16256, 32736, 65534, 131071, 262143] [14, 15, 16, 18] (fun q vs w' => match q, vs with | 0, [] => Hp No w₀ w' ((rc b #[iN n, .slice (ownA kz) (List.length ((piS n gs ws ra rb i).1)) cz, sN0] 143) :: (kz, sob EG 154 ((piS n gs ws ra rb i).1) sz) :: x1 :: x2 :: x3 :: (re b9 EI (List.replicate 64 0) 145) :: R) | 1, [v0] => ∃ (wx33 : Int) (key25 : Option Nat) (c26 : Nat) (sp27 : List Value), v0 = i64 wx33 ∧ Sl EG key25 (((piS n gs ws ra rb i).1) ++ [(⟨(1 : Int), ra.getD i 0, rb.getD i 0⟩ : Gt)]) c26 sp27 ∧ wx33 = wrW n ((piS n gs ws ra rb i).1) ∧ Hp No w₀ w' ((rc b #[iN n, .slice (ownA key25) (List.length (((piS n gs ws ra rb i).1) ++ [(⟨(1 : Int), ra.getD i 0, rb.getD i 0⟩ : Gt)])) c26, sN0] 143) :: (key25, sob EG 154 (((piS n gs ws ra rb i).1) ++ [(⟨(1 : Int), ra.getD i 0, rb.getD i 0⟩ : Gt)]) sp27) :: x1 :: x2 :: x3 :: (re b9 EI (List.replicate 64 0) 145) :: R) | 2, [v0, v1] => ∃ (wx33 : Int) (wx48 : Int) (key40 : Option Nat) (c41 : Nat) (sp42 : List Value), v0 = i64 wx33 ∧ v1 = i64 wx48 ∧ Sl EG key40 (((piS n gs ws ra rb i).1) ++ [(⟨(1 : Int), ra.getD i 0, rb.getD i 0⟩ : Gt)] ++ [(⟨(2 : Int), ws, wx33⟩ : Gt)]) c41 sp42 ∧ wx33 = wrW n ((piS n gs ws ra rb i).1) ∧ wx48 = wrW n (((piS n gs ws ra rb i).1) ++ [(⟨(1 : Int), ra.getD i 0, rb.getD i 0⟩ : Gt)]) ∧ Hp No w₀ w' ((rc b #[iN n, .slice (ownA key40) (List.length (((piS n gs ws ra rb i).1) ++ [(⟨(1 : Int), ra.getD i 0, rb.getD i 0⟩ : Gt)] ++ [(⟨(2 : Int), ws, wx33⟩ : Gt)])) c41, sN0] 143) :: (key40, sob EG 154 (((piS n gs ws ra rb i).1) ++ [(⟨(1 : Int), ra.getD i 0, rb.getD i 0⟩ : Gt)] ++ [(⟨(2 : Int), ws, wx33⟩ : Gt)]) sp42) :: x1 :: x2 :: x3 :: (re b9 EI (List.replicate 64 0) 145) :: R) | 3, [v0, v1, v2] => ∃ (wx33 : Int) (wx48 : Int) (wx63 : Int) (key55 : Option Nat) (c56 : Nat) (sp57 : List Value), v0 = i64 wx33 ∧ v1 = i64 wx48 ∧ v2 = i64 wx63 ∧ Sl EG key55 (((piS n gs ws ra rb i).1) ++ [(⟨(1 : Int), ra.getD i 0, rb.getD i 0⟩ : Gt)] ++ [(⟨(2 : Int), ws, wx33⟩ : Gt)] ++ [(⟨(1 : Int), rb.getD i 0, wx48⟩ : Gt)]) c56 sp57 ∧ wx33 = wrW n ((piS n gs ws ra rb i).1) ∧ wx48 = wrW n (((piS n gs ws ra rb i).1) ++ [(⟨(1 : Int), ra.getD i 0, rb.getD i 0⟩ : Gt)]) ∧ wx63 = wrW n (((piS n gs ws ra rb i).1) ++ [(⟨(1 : Int), ra.getD i 0, rb.getD i 0⟩ : Gt)] ++ [(⟨(2 : Int), ws, wx33⟩ : Gt)]) ∧ Hp No w₀ w' ((rc b #[iN n, .slice (ownA key55) (List.length (((piS n gs ws ra rb i).1) ++ [(⟨(1 : Int), ra.getD i 0, rb.getD i 0⟩ : Gt)] ++ [(⟨(2 : Int), ws, wx33⟩ : Gt)] ++ [(⟨(1 : Int), rb.getD i 0, wx48⟩ : Gt)])) c56, sN0] 143) :: (key55, sob EG 154 (((piS n gs ws ra rb i).1) ++ [(⟨(1 : Int), ra.getD i 0, rb.getD i 0⟩ : Gt)] ++ [(⟨(2 : Int), ws, wx33⟩ : Gt)] ++ [(⟨(1 : Int), rb.getD i 0, wx48⟩ : Gt)]) sp57) :: x1 :: x2 :: x3 :: (re b9 EI (List.replicate 64 0) 145) :: R) | 4, [v0, v1, v2, _] => ∃ (wx33 : Int) (wx48 : Int) (wx63 : Int) (key55 : Option Nat) (c56 : Nat) (sp57 : List Value), v0 = i64 wx33 ∧ v1 = i64 wx48 ∧ v2 = i64 wx63 ∧ True ∧ Sl EG key55 (((piS n gs ws ra rb i).1) ++ [(⟨(1 : Int), ra.getD i 0, rb.getD i 0⟩ : Gt)] ++ [(⟨(2 : Int), ws, wx33⟩ : Gt)] ++ [(⟨(1 : Int), rb.getD i 0, wx48⟩ : Gt)]) c56 sp57 ∧ wx33 = wrW n ((piS n gs ws ra rb i).1) ∧ wx48 = wrW n (((piS n gs ws ra rb i).1) ++ [(⟨(1 : Int), ra.getD i 0, rb.getD i 0⟩ : Gt)]) ∧ wx63 = wrW n (((piS n gs ws ra rb i).1) ++ [(⟨(1 : Int), ra.getD i 0, rb.getD i 0⟩ : Gt)] ++ [(⟨(2 : Int), ws, wx33⟩ : Gt)]) ∧ Hp No w₀ w' ((rc b #[iN n, .slice (ownA key55) (List.length (((piS n gs ws ra rb i).1) ++ [(⟨(1 : Int), ra.getD i 0, rb.getD i 0⟩ : Gt)] ++ [(⟨(2 : Int), ws, wx33⟩ : Gt)] ++ [(⟨(1 : Int), rb.getD i 0, wx48⟩ : Gt)])) c56, sN0] 143) :: (key55, sob EG 154 (((piS n gs ws ra rb i).1) ++ [(⟨(1 : Int), ra.getD i 0, rb.getD i 0⟩ : Gt)] ++ [(⟨(2 : Int), ws, wx33⟩ : Gt)] ++ [(⟨(1 : Int), rb.getD i 0, wx48⟩ : Gt)]) sp57) :: (re b13 EI ((padW ((piS n gs ws ra rb i).2)).set i wx63) 145) :: x2 :: x3 :: (re b9 EI (List.replicate 64 0) 145) :: R) | _, _ => False) mixed (by kernel_rfl) (by kernel_rfl) HL.drew ?_
  refine WalkC.look rfl (fun _ => iN i) (fun _ _ _ => rfl) (fun q r uw _ _ _ _ => Gives.run rfl (r_move (v := iN i) rfl) ⟨rfl, rfl⟩) ?_
  refine WalkC.look rfl (fun _ => pT b) (fun _ _ _ => rfl) (fun q r uw _ _ _ _ => Gives.run rfl (r_move (v := pT b) rfl) ⟨rfl, rfl⟩) ?_
  refine WalkC.look rfl (fun _ => iN i) (fun _ _ _ => rfl) (fun q r uw _ _ _ _ => Gives.run rfl (r_move (v := iN i) rfl) ⟨rfl, rfl⟩) ?_
  refine WalkC.look rfl (fun _ => .pointer (some ⟨b5, i, none⟩)) (fun _ _ _ => rfl) (fun q r uw _ _ _ _ => Gives.run rfl (r_indexA (off' := i) (j := i) arr145 (b := b5) (off := 0) rfl rfl (by first | rfl | omega | (simp; omega)) (by omega) (by omega)) ⟨rfl, rfl⟩) ?_
  refine WalkC.look rfl (fun _ => i64 (rb.getD i 0)) (fun _ _ _ => rfl) (fun q r uw hlo hhi hle hF => ?_) ?_
  ·have h1 : 0 ≤ q := Nat.zero_le _
   have h2 : q ≤ 2 := hhi 2 16 rfl rfl
   rcases (show q = 0 ∨ q = 1 ∨ q = 2 by omega) with rfl | rfl | rfl
   ·have HH := hF
    exact Gives.run rfl (r_ld1 (E := EI) (l := rb) (j := i) (a := rb.getD i 0) fits3 (HH.get (k := 4) rfl) (at_getD (by first | omega | (simp only [List.length_set]; omega) | exact bLe rfl | (simp <;> omega))) rfl rfl) ⟨rfl, rfl⟩
   ·obtain ⟨wx33, key25, c26, sp27, e14, hS28, hwx33, HH⟩ := hF
    exact Gives.run rfl (r_ld1 (E := EI) (l := rb) (j := i) (a := rb.getD i 0) fits3 (HH.get (k := 4) rfl) (at_getD (by first | omega | (simp only [List.length_set]; omega) | exact bLe rfl | (simp <;> omega))) rfl rfl) ⟨rfl, rfl⟩
   ·obtain ⟨wx33, wx48, key40, c41, sp42, e14, e15, hS43, hwx33, hwx48, HH⟩ := hF
    exact Gives.run rfl (r_ld1 (E := EI) (l := rb) (j := i) (a := rb.getD i 0) fits3 (HH.get (k := 4) rfl) (at_getD (by first | omega | (simp only [List.length_set]; omega) | exact bLe rfl | (simp <;> omega))) rfl rfl) ⟨rfl, rfl⟩
  refine WalkC.look rfl (fun _ => pT b) (fun _ _ _ => rfl) (fun q r uw _ _ _ _ => Gives.run rfl (r_move (v := pT b) rfl) ⟨rfl, rfl⟩) ?_
  refine WalkC.look rfl (fun _ => i64 ws) (fun _ _ _ => rfl) (fun q r uw _ _ _ _ => Gives.run rfl (r_move (v := i64 ws) rfl) ⟨rfl, rfl⟩) ?_
  refine WalkC.look rfl (fun _ => pT b) (fun _ _ _ => rfl) (fun q r uw _ _ _ _ => Gives.run rfl (r_move (v := pT b) rfl) ⟨rfl, rfl⟩) ?_
  refine WalkC.look rfl (fun _ => iN i) (fun _ _ _ => rfl) (fun q r uw _ _ _ _ => Gives.run rfl (r_move (v := iN i) rfl) ⟨rfl, rfl⟩) ?_
  refine WalkC.look rfl (fun _ => .pointer (some ⟨b1, i, none⟩)) (fun _ _ _ => rfl) (fun q r uw _ _ _ _ => Gives.run rfl (r_indexA (off' := i) (j := i) arr145 (b := b1) (off := 0) rfl rfl (by first | rfl | omega | (simp; omega)) (by omega) (by omega)) ⟨rfl, rfl⟩) ?_
  refine WalkC.look rfl (fun _ => i64 (ra.getD i 0)) (fun _ _ _ => rfl) (fun q r uw hlo hhi hle hF => ?_) ?_
  ·have h1 : 0 ≤ q := Nat.zero_le _
   have h2 : q ≤ 0 := hhi 0 14 rfl rfl
   rcases (show q = 0 by omega) with rfl
   ·have HH := hF
    exact Gives.run rfl (r_ld1 (E := EI) (l := ra) (j := i) (a := ra.getD i 0) fits3 (HH.get (k := 3) rfl) (at_getD (by first | omega | (simp only [List.length_set]; omega) | exact bLe rfl | (simp <;> omega))) rfl rfl) ⟨rfl, rfl⟩
  refine WalkC.look rfl (fun _ => iN i) (fun _ _ _ => rfl) (fun q r uw _ _ _ _ => Gives.run rfl (r_move (v := iN i) rfl) ⟨rfl, rfl⟩) ?_
  refine WalkC.look rfl (fun _ => .pointer (some ⟨b5, i, none⟩)) (fun _ _ _ => rfl) (fun q r uw _ _ _ _ => Gives.run rfl (r_indexA (off' := i) (j := i) arr145 (b := b5) (off := 0) rfl rfl (by first | rfl | omega | (simp; omega)) (by omega) (by omega)) ⟨rfl, rfl⟩) ?_
  refine WalkC.look rfl (fun _ => i64 (rb.getD i 0)) (fun _ _ _ => rfl) (fun q r uw hlo hhi hle hF => ?_) ?_
  ·have h1 : 0 ≤ q := Nat.zero_le _
   have h2 : q ≤ 0 := hhi 0 14 rfl rfl
   rcases (show q = 0 by omega) with rfl
   ·have HH := hF
    exact Gives.run rfl (r_ld1 (E := EI) (l := rb) (j := i) (a := rb.getD i 0) fits3 (HH.get (k := 4) rfl) (at_getD (by first | omega | (simp only [List.length_set]; omega) | exact bLe rfl | (simp <;> omega))) rfl rfl) ⟨rfl, rfl⟩
  refine WalkC.eff 0 rfl (fun r uw19 hF21 => ?_) ?_
  ·have H20 := hF21
   dsimp only [List.take, List.map, List.cons_append, List.nil_append]
   refine Gives.ofW (d := 28) rfl rfl (fun Q' hK => ?_)
   have H22 := H20.as (L' := (_ :: _ :: _)) rfl
   refine c_call (vs := [pT b, i64 1, i64 (ra.getD i 0), i64 (rb.getD i 0)]) call54 rfl (gate_ok b n kz cz sz ((piS n gs ws ra rb i).1) hSz hn (by omega) (1 : Int) (ra.getD i 0) (rb.getD i 0) (x1 :: x2 :: x3 :: (re b9 EI (List.replicate 64 0) 145) :: R) w₀ uw19 H22) ?_
   rintro wv31 w23 ⟨hwv32, key25, c26, sp27, hS28, HN29⟩
   obtain ⟨wx33, hwx33⟩ : ∃ q, q = wrW n ((piS n gs ws ra rb i).1) := ⟨_, rfl⟩
   rw [← hwx33] at hwv32
   subst hwv32
   have H30 := HN29.as (L' := (_ :: _ :: _ :: _ :: _ :: _ :: R)) rfl
   exact hK _ _ ⟨wx33, key25, c26, sp27, rfl, hS28, hwx33, H30⟩
  refine WalkC.eff 1 rfl (fun r uw34 hF36 => ?_) ?_
  ·obtain ⟨wx33, key25, c26, sp27, e14, hS28, hwx33, H35⟩ := hF36
   dsimp only [List.take, List.map, List.cons_append, List.nil_append]
   rw [e14]
   refine Gives.ofW (d := 29) rfl rfl (fun Q' hK => ?_)
   have H37 := H35.as (L' := (_ :: _ :: _)) rfl
   refine c_call (vs := [pT b, i64 2, i64 ws, i64 wx33]) call54 rfl (gate_ok b n key25 c26 sp27 (((piS n gs ws ra rb i).1) ++ [(⟨(1 : Int), ra.getD i 0, rb.getD i 0⟩ : Gt)]) hS28 hn (by simp only [List.length_append, List.length_cons, List.length_nil]; omega) (2 : Int) ws wx33 (x1 :: x2 :: x3 :: (re b9 EI (List.replicate 64 0) 145) :: R) w₀ uw34 H37) ?_
   rintro wv46 w38 ⟨hwv47, key40, c41, sp42, hS43, HN44⟩
   obtain ⟨wx48, hwx48⟩ : ∃ q, q = wrW n (((piS n gs ws ra rb i).1) ++ [(⟨(1 : Int), ra.getD i 0, rb.getD i 0⟩ : Gt)]) := ⟨_, rfl⟩
   rw [← hwx48] at hwv47
   subst hwv47
   have H45 := HN44.as (L' := (_ :: _ :: _ :: _ :: _ :: _ :: R)) rfl
   exact hK _ _ ⟨wx33, wx48, key40, c41, sp42, rfl, rfl, hS43, hwx33, hwx48, H45⟩
  refine WalkC.eff 2 rfl (fun r uw49 hF51 => ?_) ?_
  ·obtain ⟨wx33, wx48, key40, c41, sp42, e14, e15, hS43, hwx33, hwx48, H50⟩ := hF51
   dsimp only [List.take, List.map, List.cons_append, List.nil_append]
   rw [e14, e15]
   refine Gives.ofW (d := 30) rfl rfl (fun Q' hK => ?_)
   have H52 := H50.as (L' := (_ :: _ :: _)) rfl
   refine c_call (vs := [pT b, i64 1, i64 (rb.getD i 0), i64 wx48]) call54 rfl (gate_ok b n key40 c41 sp42 (((piS n gs ws ra rb i).1) ++ [(⟨(1 : Int), ra.getD i 0, rb.getD i 0⟩ : Gt)] ++ [(⟨(2 : Int), ws, wx33⟩ : Gt)]) hS43 hn (by simp only [List.length_append, List.length_cons, List.length_nil]; omega) (1 : Int) (rb.getD i 0) wx48 (x1 :: x2 :: x3 :: (re b9 EI (List.replicate 64 0) 145) :: R) w₀ uw49 H52) ?_
   rintro wv61 w53 ⟨hwv62, key55, c56, sp57, hS58, HN59⟩
   obtain ⟨wx63, hwx63⟩ : ∃ q, q = wrW n (((piS n gs ws ra rb i).1) ++ [(⟨(1 : Int), ra.getD i 0, rb.getD i 0⟩ : Gt)] ++ [(⟨(2 : Int), ws, wx33⟩ : Gt)]) := ⟨_, rfl⟩
   rw [← hwx63] at hwv62
   subst hwv62
   have H60 := HN59.as (L' := (_ :: _ :: _ :: _ :: _ :: _ :: R)) rfl
   exact hK _ _ ⟨wx33, wx48, wx63, key55, c56, sp57, rfl, rfl, rfl, hS58, hwx33, hwx48, hwx63, H60⟩
  refine WalkC.look rfl (fun _ => .pointer (some ⟨b13, i, none⟩)) (fun _ _ _ => rfl) (fun q r uw _ _ _ _ => Gives.run rfl (r_indexA (off' := i) (j := i) arr145 (b := b13) (off := 0) rfl rfl (by first | rfl | omega | (simp; omega)) (by omega) (by omega)) ⟨rfl, rfl⟩) ?_
  refine WalkC.eff 3 rfl (fun r uw64 hF66 => ?_) ?_
  ·obtain ⟨wx33, wx48, wx63, key55, c56, sp57, e14, e15, e16, hS58, hwx33, hwx48, hwx63, H65⟩ := hF66
   dsimp only [List.take, List.map, List.cons_append, List.nil_append]
   rw [e14, e15, e16]
   refine Gives.ofW0 rfl (fun Q' hK => ?_)
   refine d_store (k := 2) (v := i64 wx63) (cs' := (cel EI ((padW ((piS n gs ws ra rb i).2)).set i wx63)).toArray) H65 rfl rfl rfl siz3 (by rfl) (by exact EI.one _) (by rw [List.size_toArray, cel_length]; show _ ≤ _ * 1; first | omega | (simp only [List.length_set]; omega) | exact bLe rfl | (simp <;> omega)) (by exact put1 (E := EI) rfl _ _ _) ?_
   intro w67 H68 hC69
   have H68' := H68.as (L' := (_ :: _ :: _ :: _ :: _ :: _ :: R)) rfl
   clear H68
   exact hK _ (fun _ => ⟨wx33, wx48, wx63, key55, c56, sp57, rfl, rfl, rfl, trivial, hS58, hwx33, hwx48, hwx63, H68'⟩)
  refine WalkC.nil ?_
  intro r70 w71 hF73
  obtain ⟨wx33, wx48, wx63, key55, c56, sp57, e14, e15, e16, e18, hS58, hwx33, hwx48, hwx63, H72⟩ := hF73
  dsimp only
  rw [e14, e15, e16]
  subst hwx63
  subst hwx48
  subst hwx33
  have e74 : ((piS n gs ws ra rb i).1) ++ [(⟨(1 : Int), ra.getD i 0, rb.getD i 0⟩ : Gt)] ++ [(⟨(2 : Int), ws, (wrW n ((piS n gs ws ra rb i).1))⟩ : Gt)] ++ [(⟨(1 : Int), rb.getD i 0, (wrW n (((piS n gs ws ra rb i).1) ++ [(⟨(1 : Int), ra.getD i 0, rb.getD i 0⟩ : Gt)]))⟩ : Gt)] = (piS n gs ws ra rb (i + 1)).1 := by rfl
  have hS75 := hS58
  rw [e74] at hS75
  have H76 : Hp No w₀ w71 ((rc b #[iN n, .slice (ownA key55) (List.length ((piS n gs ws ra rb (i + 1)).1)) c56, sN0] 143) :: (key55, sob EG 154 ((piS n gs ws ra rb (i + 1)).1) sp57) :: (re b13 EI ((padW ((piS n gs ws ra rb i).2)).set i (wrW n (((piS n gs ws ra rb i).1) ++ [(⟨(1 : Int), ra.getD i 0, rb.getD i 0⟩ : Gt)] ++ [(⟨(2 : Int), ws, (wrW n ((piS n gs ws ra rb i).1))⟩ : Gt)]))) 145) :: x2 :: x3 :: (re b9 EI (List.replicate 64 0) 145) :: R) := by rw [← e74]; exact H72
  rw [padW_set (l := (piS n gs ws ra rb i).2) _ hpi.2 (by omega)] at H76
  have H77 := H76.as (L' := (_ :: _ :: _ :: _ :: _ :: _ :: R)) rfl
  refine wnil ?_
  refine blockNormal ?_
  refine thenNormal ?_
  refine oneRegion ?_
  refine sq (r_addI (a := (i : Nat)) (b := (1 : Int)) rfl rfl (by omega)) ?_
  refine sM (i64 ((i : Nat) + (1 : Int))) rfl ?_
  refine wnil ?_
  refine thenNormal ?_
  exact ⟨(i + 1, key55, c56, sp57), _, rfl, ⟨rfl, rfl, rfl, rfl, rfl, rfl, rfl, trivial⟩, ⟨⟨by omega, hS75⟩, H77⟩, by show 64 - (i + 1) < 64 - i; omega⟩
 ·have hie : i = 64 := by omega
  have hrl := hpi.2.trans hie
  rw [padW_full hrl] at HL
  refine exitAny ?_
  refine thenExit ?_
  refine thenExit ?_
  refine blockHere ?_
  refine thenNormal ?_
  refine sR ?_
  refine sq (r_loadA (cs' := (cel EI ((piS n gs ws ra rb i).2)).toArray) agg145 siz145 (HL.get (k := 2) rfl) (off := 0) rfl (by rw [List.size_toArray, cel_length]; show _ ≤ _ * 1; omega) (by exact ext_all (by rw [cel_length]; show _ * 1 = _; omega))) ?_
  refine d_store (k := 5) (v := .agg (cel EI ((piS n gs ws ra rb i).2)).toArray) (cs' := (cel EI ((piS n gs ws ra rb i).2)).toArray) HL rfl rfl rfl siz145 (by exact celSize (by rw [hrl]; rfl)) (by exact celOne _) (by rw [List.size_toArray, cel_length]; show _ ≤ _ * 1; first | omega | (simp only [List.length_set]; omega) | exact bLe rfl | (simp <;> omega)) (by exact putAll (by rw [List.length_replicate]; exact hrl.symm)) ?_
  intro w78 H79 hC80
  have H79' := H79.as (L' := (_ :: _ :: _ :: _ :: _ :: _ :: R)) rfl
  clear H79
  refine wend ?_
  refine retAny ?_
  refine retG (rs := [.cell 8 145]) (vs := [.agg (cel EI ((piS n gs ws ra rb i).2)).toArray]) rfl ⟨r_loadA (cs' := (cel EI ((piS n gs ws ra rb i).2)).toArray) agg145 siz145 (H79'.get (k := 5) rfl) (off := 0) rfl (by rw [List.size_toArray, cel_length]; show _ ≤ _ * 1; omega) (by exact ext_all (by rw [cel_length]; show _ * 1 = _; omega)), trivial⟩ ?_
  subst hie
  exact ⟨_, rfl, rfl, kz, cz, sz, hSz, ((((H79'.dropk 5).dropk 4).dropk 3).dropk 2)⟩
end Go.Proofs.YtohngnahcgbfmaaGreatDoor.Cm
namespace Go.Proofs.YtohngnahcgbfmaaGreatDoor.Cm
open Go Go.Proofs.YtohngnahcgbfmaaGreatDoor.Vc Go.Proofs.YtohngnahcgbfmaaGreatDoor.Er Go.Proofs.YtohngnahcgbfmaaGreatDoor.Circ
set_option linter.unusedVariables false
theorem agg104 : isAgg' Tryz.prog 104 = true := by kernel_rfl
theorem arr146 : arr Tryz.prog 146 = some (2, 64) := by kernel_rfl
theorem call22 : callable Tryz.prog 22 = true := by kernel_rfl
theorem call51 : callable Tryz.prog 51 = true := by kernel_rfl
theorem call52 : callable Tryz.prog 52 = true := by kernel_rfl
theorem call53 : callable Tryz.prog 53 = true := by kernel_rfl
theorem fld104_2 : fld Tryz.prog 104 2 = some (2, 1, 100) := by kernel_rfl
theorem pls104 : pls Tryz.prog 104 = some #[(0, 1), (1, 1), (2, 1)] := by kernel_rfl
theorem pls143 : pls Tryz.prog 143 = some #[(0, 3)] := by kernel_rfl
theorem siz100 : siz Tryz.prog 100 = some 1 := by kernel_rfl
theorem siz104 : siz Tryz.prog 104 = some 3 := by kernel_rfl
theorem und63 : Tryz.prog.underlying 63 = some (.int .i64) := by kernel_rfl
theorem zer104 : zer Tryz.prog 104 = some (.agg #[.int .i64 0, sN0, sN0]) := by kernel_rfl
theorem zer143 : zer Tryz.prog 143 = some (.agg #[.int .i64 0, sN0, sN0]) := by kernel_rfl
theorem zer146 : zer Tryz.prog 146 = some (.agg (List.replicate 128 (.int .i64 0)).toArray) := by kernel_rfl
set_option maxHeartbeats 4000000 in
theorem make_bad (kd : Int) (fm : BitVec 64) (w : World) (hG : Gl w) (hb : ¬ (kd = 1 ∧ fm < 2#64) ∧ ¬ ((kd = 2 ∨ kd = 3) ∧ fm < 4#64)) : Calls Tryz.prog 35 [i64 kd, u64 fm].toArray w (Ret fun v w' => (∃ ev, v = .tuple #[.agg #[i64 (0 : Int), sN0, sN0], ev] ∧ Er w.heap.size w' 1 1 ev) ∧ Ext w w') := by
 let y2 : Array Value := #[.int .i64 0, sN0, sN0]
 let y1 : Array Value := #[i64 0, sN0, sN0]
 have H := Hp.start No w
 refine enter (n := 131) Tryz.func35 rfl rfl (bLe rfl) ?_
 refine sR ?_
 refine q_alloc (o := .cells y1 104 (0, 0)) H zer104 (by kernel_rfl) ?_
 intro b1 w2 hb1 H3 hE4
 refine sA (.nilIface) rfl ?_
 refine wS ?_
 refine sA (i64 2) rfl ?_
 refine wend ?_
 refine seqAny ?_
 refine sR ?_
 refine sM (i64 kd) rfl ?_
 refine wend ?_
 refine blockAny ?_
 refine seqAny ?_
 refine blockAny ?_
 refine seqAny ?_
 refine blockAny ?_
 refine seqAny ?_
 refine blockAny ?_
 refine seqAny ?_
 refine seqAny ?_
 refine sR ?_
 refine sq (r_eqlI (a := kd) (b := (1 : Int)) rfl rfl) ?_
 refine sA (.bool (decide ((kd : Int) = (1 : Int)))) rfl ?_
 refine wend ?_
 refine condProp ((kd : Int) = (1 : Int)) rfl (fun c18 => ?_) (fun c18 => ?_)
 ·refine exitAny ?_
  refine thenExit ?_
  refine thenExit ?_
  refine blockHere ?_
  refine thenNormal ?_
  refine oneRegion ?_
  refine sA (i64 1) rfl ?_
  refine wnil ?_
  refine blockNormal ?_
  refine thenNormal ?_
  refine sR ?_
  refine sM (u64 fm) rfl ?_
  refine sM (i64 1) rfl ?_
  refine sq (r_shl64 (a := 1#64) (c := 1) rfl rfl) ?_
  refine sq (r_lss64 (a := fm) (b := (1#64) <<< (1 : Nat)) rfl rfl) ?_
  refine wend ?_
  refine condProp (fm.toNat < ((1#64) <<< (1 : Nat)).toNat) rfl (fun c26 => ?_) (fun c26 => ?_)
  ·exfalso
   first | exact hb.1 ⟨c18, c26⟩ | exact hb.2 ⟨.inl c20, c26⟩ | exact hb.2 ⟨.inr c20, c26⟩
  ·refine skipAny ?_
   refine blockNormal ?_
   refine thenNormal ?_
   refine seqAny ?_
   refine sR ?_
   refine sq (r_build (cs' := y2) (ps := []) zer104 pls104 rfl (by rfl)) ?_
   refine sq (r_mkI und63 (xv := i64 1) rfl) ?_
   refine sM (i64 kd) rfl ?_
   have := H3.lt (List.mem_of_getElem? (i := 0) rfl) rfl
   refine c_call (vs := [.iface 63 (i64 1), .string ({data := #[109, 97, 107, 101]}), i64 kd]) call22 rfl (wrap0_ok (1 : Int) kd ({data := #[109, 97, 107, 101]}) w2 (Chg.gl H3.chg (fun x => x) hG)) ?_
   rintro v7 w5 ⟨hEr8, hE9⟩
   have H10 := H3.ext hE9
   obtain ⟨T11, x12, rfl⟩ := hEr8.iface
   refine d_store (k := 0) (v := .agg y2) (cs' := y1) H10 rfl rfl rfl siz104 (by rfl) (oneL rfl) (by exact bLe rfl) (by rfl) ?_
   intro w13 H14 hC15
   have H14' := H14.as (L' := [_]) rfl
   clear H14
   refine sA (.iface T11 x12) rfl ?_
   refine wend ?_
   refine retAny ?_
   refine thenRet ?_
   refine blockRet ?_
   refine thenRet ?_
   refine retG (rs := [.cell 4 104, .tmp 5]) (vs := [.agg y1, .iface T11 x12]) rfl ⟨r_loadA (cs' := y1) agg104 siz104 (H14'.get (k := 0) rfl) (off := 0) rfl (by exact bLe rfl) (by rfl), ⟨rfl, rfl⟩, trivial⟩ ?_
   exact ⟨_, rfl, ⟨_, rfl, (Er.chgs (hC15.mono (M' := fun x => x = b1) (fun _ h => by subst h; simp)) (fun x h1 h2 h3 => by have := hC15.size; rcases h3 with rfl <;> omega) hEr8).mono H3.chg.size⟩, H14'.chg⟩
 ·refine skipAny ?_
  refine thenNormal ?_
  refine seqAny ?_
  refine sR ?_
  refine sq (r_eqlI (a := kd) (b := (2 : Int)) rfl rfl) ?_
  refine sA (.bool (decide ((kd : Int) = (2 : Int)))) rfl ?_
  refine wend ?_
  refine condProp ((kd : Int) = (2 : Int)) rfl (fun c20 => ?_) (fun c20 => ?_)
  ·refine skipAny ?_
   refine thenNormal ?_
   refine condTrue (congrArg Value.bool (decide_eq_true c20)) ?_
   refine exitAny ?_
   refine thenExit ?_
   refine blockOut rfl ?_
   refine thenExit ?_
   refine blockHere ?_
   refine thenNormal ?_
   refine sR ?_
   refine sM (u64 fm) rfl ?_
   refine sM (i64 2) rfl ?_
   refine sq (r_shl64 (a := 1#64) (c := 2) rfl rfl) ?_
   refine sq (r_lss64 (a := fm) (b := (1#64) <<< (2 : Nat)) rfl rfl) ?_
   refine wend ?_
   refine condProp (fm.toNat < ((1#64) <<< (2 : Nat)).toNat) rfl (fun c26 => ?_) (fun c26 => ?_)
   ·exfalso
    first | exact hb.1 ⟨c18, c26⟩ | exact hb.2 ⟨.inl c20, c26⟩ | exact hb.2 ⟨.inr c20, c26⟩
   ·refine skipAny ?_
    refine blockNormal ?_
    refine thenNormal ?_
    refine seqAny ?_
    refine sR ?_
    refine sq (r_build (cs' := y2) (ps := []) zer104 pls104 rfl (by rfl)) ?_
    refine sq (r_mkI und63 (xv := i64 1) rfl) ?_
    refine sM (i64 kd) rfl ?_
    have := H3.lt (List.mem_of_getElem? (i := 0) rfl) rfl
    refine c_call (vs := [.iface 63 (i64 1), .string ({data := #[109, 97, 107, 101]}), i64 kd]) call22 rfl (wrap0_ok (1 : Int) kd ({data := #[109, 97, 107, 101]}) w2 (Chg.gl H3.chg (fun x => x) hG)) ?_
    rintro v18 w16 ⟨hEr19, hE20⟩
    have H21 := H3.ext hE20
    obtain ⟨T22, x23, rfl⟩ := hEr19.iface
    refine d_store (k := 0) (v := .agg y2) (cs' := y1) H21 rfl rfl rfl siz104 (by rfl) (oneL rfl) (by exact bLe rfl) (by rfl) ?_
    intro w24 H25 hC26
    have H25' := H25.as (L' := [_]) rfl
    clear H25
    refine sA (.iface T22 x23) rfl ?_
    refine wend ?_
    refine retAny ?_
    refine thenRet ?_
    refine blockRet ?_
    refine thenRet ?_
    refine retG (rs := [.cell 4 104, .tmp 5]) (vs := [.agg y1, .iface T22 x23]) rfl ⟨r_loadA (cs' := y1) agg104 siz104 (H25'.get (k := 0) rfl) (off := 0) rfl (by exact bLe rfl) (by rfl), ⟨rfl, rfl⟩, trivial⟩ ?_
    exact ⟨_, rfl, ⟨_, rfl, (Er.chgs (hC26.mono (M' := fun x => x = b1) (fun _ h => by subst h; simp)) (fun x h1 h2 h3 => by have := hC26.size; rcases h3 with rfl <;> omega) hEr19).mono H3.chg.size⟩, H25'.chg⟩
  ·refine oneRegion ?_
   refine sq (r_eqlI (a := kd) (b := (3 : Int)) rfl rfl) ?_
   refine sA (.bool (decide ((kd : Int) = (3 : Int)))) rfl ?_
   refine wnil ?_
   refine thenNormal ?_
   refine condProp ((kd : Int) = (3 : Int)) rfl (fun c20 => ?_) (fun c20 => ?_)
   ·refine exitAny ?_
    refine thenExit ?_
    refine blockOut rfl ?_
    refine thenExit ?_
    refine blockHere ?_
    refine thenNormal ?_
    refine sR ?_
    refine sM (u64 fm) rfl ?_
    refine sM (i64 2) rfl ?_
    refine sq (r_shl64 (a := 1#64) (c := 2) rfl rfl) ?_
    refine sq (r_lss64 (a := fm) (b := (1#64) <<< (2 : Nat)) rfl rfl) ?_
    refine wend ?_
    refine condProp (fm.toNat < ((1#64) <<< (2 : Nat)).toNat) rfl (fun c26 => ?_) (fun c26 => ?_)
    ·exfalso
     first | exact hb.1 ⟨c18, c26⟩ | exact hb.2 ⟨.inl c20, c26⟩ | exact hb.2 ⟨.inr c20, c26⟩
    ·refine skipAny ?_
     refine blockNormal ?_
     refine thenNormal ?_
     refine seqAny ?_
     refine sR ?_
     refine sq (r_build (cs' := y2) (ps := []) zer104 pls104 rfl (by rfl)) ?_
     refine sq (r_mkI und63 (xv := i64 1) rfl) ?_
     refine sM (i64 kd) rfl ?_
     have := H3.lt (List.mem_of_getElem? (i := 0) rfl) rfl
     refine c_call (vs := [.iface 63 (i64 1), .string ({data := #[109, 97, 107, 101]}), i64 kd]) call22 rfl (wrap0_ok (1 : Int) kd ({data := #[109, 97, 107, 101]}) w2 (Chg.gl H3.chg (fun x => x) hG)) ?_
     rintro v29 w27 ⟨hEr30, hE31⟩
     have H32 := H3.ext hE31
     obtain ⟨T33, x34, rfl⟩ := hEr30.iface
     refine d_store (k := 0) (v := .agg y2) (cs' := y1) H32 rfl rfl rfl siz104 (by rfl) (oneL rfl) (by exact bLe rfl) (by rfl) ?_
     intro w35 H36 hC37
     have H36' := H36.as (L' := [_]) rfl
     clear H36
     refine sA (.iface T33 x34) rfl ?_
     refine wend ?_
     refine retAny ?_
     refine thenRet ?_
     refine blockRet ?_
     refine thenRet ?_
     refine retG (rs := [.cell 4 104, .tmp 5]) (vs := [.agg y1, .iface T33 x34]) rfl ⟨r_loadA (cs' := y1) agg104 siz104 (H36'.get (k := 0) rfl) (off := 0) rfl (by exact bLe rfl) (by rfl), ⟨rfl, rfl⟩, trivial⟩ ?_
     exact ⟨_, rfl, ⟨_, rfl, (Er.chgs (hC37.mono (M' := fun x => x = b1) (fun _ h => by subst h; simp)) (fun x h1 h2 h3 => by have := hC37.size; rcases h3 with rfl <;> omega) hEr30).mono H3.chg.size⟩, H36'.chg⟩
   ·refine skipAny ?_
    refine thenNormal ?_
    refine exitAny ?_
    refine blockOut rfl ?_
    refine thenExit ?_
    refine blockOut rfl ?_
    refine thenExit ?_
    refine blockHere ?_
    refine thenNormal ?_
    refine seqAny ?_
    refine sR ?_
    refine sq (r_build (cs' := y2) (ps := []) zer104 pls104 rfl (by rfl)) ?_
    refine sq (r_mkI und63 (xv := i64 1) rfl) ?_
    refine sM (i64 kd) rfl ?_
    have := H3.lt (List.mem_of_getElem? (i := 0) rfl) rfl
    refine c_call (vs := [.iface 63 (i64 1), .string ({data := #[109, 97, 107, 101]}), i64 kd]) call22 rfl (wrap0_ok (1 : Int) kd ({data := #[109, 97, 107, 101]}) w2 (Chg.gl H3.chg (fun x => x) hG)) ?_
    rintro v40 w38 ⟨hEr41, hE42⟩
    have H43 := H3.ext hE42
    obtain ⟨T44, x45, rfl⟩ := hEr41.iface
    refine d_store (k := 0) (v := .agg y2) (cs' := y1) H43 rfl rfl rfl siz104 (by rfl) (oneL rfl) (by exact bLe rfl) (by rfl) ?_
    intro w46 H47 hC48
    have H47' := H47.as (L' := [_]) rfl
    clear H47
    refine sA (.iface T44 x45) rfl ?_
    refine wend ?_
    refine retAny ?_
    refine thenRet ?_
    refine blockRet ?_
    refine thenRet ?_
    refine retG (rs := [.cell 4 104, .tmp 5]) (vs := [.agg y1, .iface T44 x45]) rfl ⟨r_loadA (cs' := y1) agg104 siz104 (H47'.get (k := 0) rfl) (off := 0) rfl (by exact bLe rfl) (by rfl), ⟨rfl, rfl⟩, trivial⟩ ?_
    exact ⟨_, rfl, ⟨_, rfl, (Er.chgs (hC48.mono (M' := fun x => x = b1) (fun _ h => by subst h; simp)) (fun x h1 h2 h3 => by have := hC48.size; rcases h3 with rfl <;> omega) hEr41).mono H3.chg.size⟩, H47'.chg⟩
set_option maxHeartbeats 8000000 in
theorem make_k1 (fm : BitVec 64) (hf : fm < 2#64) (w : World) : Calls Tryz.prog 35 [i64 (1 : Int), u64 fm].toArray w (Ret fun v w' => ∃ (key : Option Nat) (c : Nat) (sp : List Value) (b : Nat), v = .tuple #[.agg #[i64 ((128 : Nat) : Int), .slice (ownA key) (mk1 (fbS fm 0)).1.length c, .slice (some ⟨b, 0, none⟩) 64 64], .nilIface] ∧ Sl EG key (mk1 (fbS fm 0)).1 c sp ∧ Hp No w w' [(key, sob EG 154 (mk1 (fbS fm 0)).1 sp), (re b EI (mk1 (fbS fm 0)).2 145)]) := by
 let x6 : Array Value := #[iN 128, sN0, sN0]
 have H := Hp.start No w
 refine enter (n := 131) Tryz.func35 rfl rfl (bLe rfl) ?_
 refine sR ?_
 refine q_alloc (o := .cells #[i64 0, sN0, sN0] 104 (0, 0)) H zer104 (by kernel_rfl) ?_
 intro b1 w2 hb1 H3 hE4
 let x1 := rc b1 #[i64 0, sN0, sN0] 104
 refine sA (.nilIface) rfl ?_
 refine wS ?_
 refine sA (i64 2) rfl ?_
 refine wend ?_
 refine seqAny ?_
 refine sR ?_
 refine sM (i64 1) rfl ?_
 refine wend ?_
 refine blockAny ?_
 refine seqAny ?_
 refine blockAny ?_
 refine seqAny ?_
 refine blockAny ?_
 refine seqAny ?_
 refine blockAny ?_
 refine seqAny ?_
 refine seqAny ?_
 refine sR ?_
 refine sq ((r_eqlI (a := (1 : Int)) (b := (1 : Int)) rfl rfl).as (v' := .bool true) (by rfl)) ?_
 refine sA (.bool true) rfl ?_
 refine wend ?_
 refine condTrue rfl ?_
 refine exitAny ?_
 refine thenExit ?_
 refine thenExit ?_
 refine blockHere ?_
 refine thenNormal ?_
 refine oneRegion ?_
 refine sA (i64 1) rfl ?_
 refine wnil ?_
 refine blockNormal ?_
 refine thenNormal ?_
 refine sR ?_
 refine sM (u64 fm) rfl ?_
 refine sM (i64 1) rfl ?_
 refine sq (r_shl64 (a := 1#64) (c := 1) rfl rfl) ?_
 refine sq ((r_lss64 (a := fm) (b := (1#64) <<< (1 : Nat)) rfl rfl).as (v' := .bool true) (by exact congrArg Value.bool (decide_eq_true hf))) ?_
 refine wend ?_
 refine condTrue rfl ?_
 refine exitAny ?_
 refine blockOut rfl ?_
 refine thenExit ?_
 refine blockHere ?_
 refine thenNormal ?_
 refine sR ?_
 refine sM (i64 1) rfl ?_
 refine sq ((r_mulI (a := (128 : Int)) (b := (1 : Int)) rfl rfl (by omega)).as (v' := iN 128) (by rfl)) ?_
 refine sq (r_build (cs' := x6) (ps := [(0, iN 128)]) zer104 pls104 rfl (by rfl)) ?_
 refine sq (r_build (cs' := x6) (ps := [(0, .agg x6)]) zer143 pls143 rfl (by rfl)) ?_
 refine q_box (v := .agg x6) (o := .cells x6 143 (0, 0)) H3 rfl (by rfl) ?_
 intro b5 w6 hb5 H7 hE8
 refine sA (pT b5) rfl ?_
 have H9 := H7.nil (sob EG 154 [] [])
 have H10 := H9.as (L' := [_, _, _]) rfl
 refine wS ?_
 refine q_alloc (o := .cells (cel EI (List.replicate 128 0)).toArray 146 (0, 0)) H10 zer146 (by kernel_rfl) ?_
 intro b11 w12 hb11 H13 hE14
 rw [padX_nil] at H13
 refine wend ?_
 refine seqAny ?_
 refine sR ?_
 refine sM (i64 1) rfl ?_
 refine sM (i64 0) rfl ?_
 refine wend ?_
 refine blockAny ?_
 refine loopAny (σ := Nat × Option Nat × Nat × List Value) (fun (i, kz, cz, sz) => [(0, i64 1), (1, u64 fm), (4, pT b1), (7, pT b5), (8, pT b11), (36, i64 1), (37, iN i)]) (fun (i, kz, cz, sz) w' => (i ≤ 1 ∧ Sl EG kz (opsS 128 fm i).1 cz sz) ∧ Hp No w w' [(rc b5 #[iN 128, .slice (ownA kz) (List.length ((opsS 128 fm i).1)) cz, sN0] 143), (kz, sob EG 154 ((opsS 128 fm i).1) sz), (re b11 EI (padX ((opsS 128 fm i).2)) 146), x1]) (fun (i, kz, cz, sz) => 1 - i) ((0, none, 0, [])) ?_ ?_ ?_
 ·exact ⟨rfl, rfl, rfl, rfl, rfl, rfl, rfl, trivial⟩
 ·exact ⟨⟨by omega, Sl.none⟩, (H13.pick 4 [2, 1, 0, 3] (by decide) (by decide))⟩
 rintro ⟨i, kz, cz, sz⟩ ρ w15 ⟨⟨hq, hSz⟩, HL⟩
 let x5 : List Value := [pT b5, .agg (cel EI (inW (64 * (2 * i)) 64)).toArray, .agg (cel EI (inW (64 * (2 * i + 1)) 64)).toArray]
 have hol := opsS_len 128 fm i
 have hi1 := inW_len (64 * (2 * i)) 64
 have hi2 := inW_len (64 * (2 * i + 1)) 64
 have hpx : (padX (opsS 128 fm i).2).length = 128 := padX_len (by rw [hol.2]; omega)
 refine sR ?_
 refine sq (r_lssI (a := (i : Nat)) (b := (1 : Int)) rfl rfl) ?_
 refine wend ?_
 refine seqAny ?_
 refine condProp (((i : Nat) : Int) < (1 : Int)) rfl (fun c38 => ?_) (fun c38 => ?_)
 ·refine skipAny ?_
  refine thenNormal ?_
  refine seqAny ?_
  refine blockAny ?_
  refine sR ?_
  refine sM (iN i) rfl ?_
  refine sA (iN i) rfl ?_
  refine wS ?_
  refine sM (pT b5) rfl ?_
  refine sM (iN i) rfl ?_
  refine sq ((r_mulI (a := (2 : Int)) (b := (i : Nat)) rfl rfl (by omega)).as (v' := iN (2 * i)) (by exact congrArg i64 (by omega))) ?_
  refine c_call (vs := [pT b5, iN (2 * i)]) call51 rfl (input_ok b5 (2 * i) (by omega) w15) ?_
  rintro _ w17 ⟨rfl, hE18⟩
  have H19 := HL.ext hE18
  refine sM (pT b5) rfl ?_
  refine sM (iN i) rfl ?_
  refine sq ((r_mulI (a := (2 : Int)) (b := (i : Nat)) rfl rfl (by omega)).as (v' := iN (2 * i)) (by exact congrArg i64 (by omega))) ?_
  refine sq ((r_addI (a := ((2 * i) : Nat)) (b := (1 : Int)) rfl rfl (by omega)).as (v' := iN (2 * i + 1)) (by exact congrArg i64 (by omega))) ?_
  refine c_call (vs := [pT b5, iN (2 * i + 1)]) call51 rfl (input_ok b5 (2 * i + 1) (by omega) w17) ?_
  rintro _ w20 ⟨rfl, hE21⟩
  have H22 := H19.ext hE21
  refine q_alloc (o := .cells (cel EI (List.replicate 64 0)).toArray 145 (0, 0)) H22 zer145 (by kernel_rfl) ?_
  intro b23 w24 hb23 H25 hE26
  let x4 := re b23 EI (inW (64 * (2 * i)) 64) 145
  refine q_alloc (o := .cells (cel EI (List.replicate 64 0)).toArray 145 (0, 0)) H25 zer145 (by kernel_rfl) ?_
  intro b27 w28 hb27 H29 hE30
  let x2 := re b27 EI (inW (64 * (2 * i + 1)) 64) 145
  refine d_store (k := 1) (v := .agg (cel EI (inW (64 * (2 * i)) 64)).toArray) (cs' := (cel EI (inW (64 * (2 * i)) 64)).toArray) H29 rfl rfl rfl siz145 (by exact celSize (by rw [hi1]; rfl)) (by exact celOne _) (by rw [List.size_toArray, cel_length]; show _ ≤ _ * 1; first | omega | (simp only [List.length_set]; omega) | exact bLe rfl | (simp <;> omega)) (by exact putAll (by rw [List.length_replicate]; exact hi1.symm)) ?_
  intro w31 H32 hC33
  have H32' := H32.as (L' := [_, _, _, _, _, _]) rfl
  clear H32
  refine d_store (k := 0) (v := .agg (cel EI (inW (64 * (2 * i + 1)) 64)).toArray) (cs' := (cel EI (inW (64 * (2 * i + 1)) 64)).toArray) H32' rfl rfl rfl siz145 (by exact celSize (by rw [hi2]; rfl)) (by exact celOne _) (by rw [List.size_toArray, cel_length]; show _ ≤ _ * 1; first | omega | (simp only [List.length_set]; omega) | exact bLe rfl | (simp <;> omega)) (by exact putAll (by rw [List.length_replicate]; exact hi2.symm)) ?_
  intro w34 H35 hC36
  have H35' := H35.as (L' := [_, _, _, _, _, _]) rfl
  clear H35
  refine wS ?_
  refine sM (u64 fm) rfl ?_
  refine sM (iN i) rfl ?_
  refine sq (r_shr64 (a := fm) (c := i) rfl rfl) ?_
  refine sq (r_and64 (a := fm >>> (i : Nat)) (b := 1#64) rfl rfl) ?_
  refine sq (r_eql64 (a := (fm >>> (i : Nat)) &&& (1#64)) (b := 1#64) rfl rfl) ?_
  refine wend ?_
  refine condProp (((fm >>> (i : Nat)) &&& (1#64)) = (1#64)) rfl (fun c53 => ?_) (fun c53 => ?_)
  ·refine oneRegion ?_
   refine sM (iN i) rfl ?_
   refine sM (pT b5) rfl ?_
   refine sq (r_loadA (cs' := (cel EI (inW (64 * (2 * i)) 64)).toArray) agg145 siz145 (H35'.get (k := 1) rfl) (off := 0) rfl (by rw [List.size_toArray, cel_length]; show _ ≤ _ * 1; omega) (by exact ext_all (by rw [cel_length]; show _ * 1 = _; omega))) ?_
   refine sq (r_loadA (cs' := (cel EI (inW (64 * (2 * i + 1)) 64)).toArray) agg145 siz145 (H35'.get (k := 0) rfl) (off := 0) rfl (by rw [List.size_toArray, cel_length]; show _ ≤ _ * 1; omega) (by exact ext_all (by rw [cel_length]; show _ * 1 = _; omega))) ?_
   have H37 := ((H35'.pick 6 [2, 3, 0, 1, 4, 5] (by decide) (by decide))).as (L' := (_ :: _ :: _)) rfl
   refine c_call (vs := x5) call52 rfl (mxor_ok b5 128 kz cz sz ((opsS 128 fm i).1) hSz (by omega) (by omega) (inW (64 * (2 * i)) 64) (inW (64 * (2 * i + 1)) 64) (by omega) (by omega) [x2, x4, (re b11 EI (padX ((opsS 128 fm i).2)) 146), x1] w w34 H37) ?_
   rintro _ w38 ⟨rfl, key40, c41, sp42, hS43, HN44⟩
   have H45 := HN44.as (L' := [_, _, _, _, _, _]) rfl
   have hnr : (xoS 128 ((opsS 128 fm i).1) (inW (64 * (2 * i)) 64) (inW (64 * (2 * i + 1)) 64) 64).2.length = 64 := (xoS_len 128 ((opsS 128 fm i).1) (inW (64 * (2 * i)) 64) (inW (64 * (2 * i + 1)) 64) 64).2
   refine sq (r_indexA (off' := i * 64) (j := i) arr146 (b := b11) (off := 0) rfl rfl (by first | rfl | omega | (simp; omega)) (by omega) (by omega)) ?_
   refine d_store (k := 4) (v := .agg (cel EI ((xoS 128 ((opsS 128 fm i).1) (inW (64 * (2 * i)) 64) (inW (64 * (2 * i + 1)) 64) 64).2)).toArray) (cs' := (cel EI (padX ((opsS 128 fm i).2 ++ (xoS 128 ((opsS 128 fm i).1) (inW (64 * (2 * i)) 64) (inW (64 * (2 * i + 1)) 64) 64).2))).toArray) H45 rfl rfl rfl siz145 (by exact celSize (by rw [hnr]; rfl)) (by exact celOne _) (by rw [List.size_toArray, cel_length, padX_len (by rw [hol.2]; omega)]; show _ ≤ _ * 1; omega) (by exact padX_put (by rw [hol.2]; omega) (by rw [hol.2]; omega) (by first | exact hnr)) ?_
   intro w46 H47 hC48
   have H47' := H47.as (L' := [_, _, _, _, _, _]) rfl
   clear H47
   refine wnil ?_
   refine blockNormal ?_
   refine thenNormal ?_
   refine oneRegion ?_
   refine sq (r_addI (a := (i : Nat)) (b := (1 : Int)) rfl rfl (by omega)) ?_
   refine sM (i64 ((i : Nat) + (1 : Int))) rfl ?_
   refine wnil ?_
   refine thenNormal ?_
   have e49 : (xoS 128 ((opsS 128 fm i).1) (inW (64 * (2 * i)) 64) (inW (64 * (2 * i + 1)) 64) 64).1 = (opsS 128 fm (i + 1)).1 := by rw [opsS, opS_t c53]
   have hS50 := hS43
   rw [e49] at hS50
   have H51 : Hp No w w46 [(rc b5 #[iN 128, .slice (ownA key40) (List.length ((opsS 128 fm (i + 1)).1)) c41, sN0] 143), (key40, sob EG 154 ((opsS 128 fm (i + 1)).1) sp42), x2, x4, (re b11 EI (padX ((opsS 128 fm i).2 ++ (xoS 128 ((opsS 128 fm i).1) (inW (64 * (2 * i)) 64) (inW (64 * (2 * i + 1)) 64) 64).2)) 146), x1] := by rw [← e49]; exact H47'
   rw [show (opsS 128 fm i).2 ++ (xoS 128 ((opsS 128 fm i).1) (inW (64 * (2 * i)) 64) (inW (64 * (2 * i + 1)) 64) 64).2 = (opsS 128 fm (i + 1)).2 from by rw [opsS, opS_t c53]] at H51
   exact ⟨(i + 1, key40, c41, sp42), _, rfl, ⟨rfl, rfl, rfl, rfl, rfl, rfl, rfl, trivial⟩, ⟨⟨by omega, hS50⟩, ((H51.dropk 3).dropk 2)⟩, by show 1 - (i + 1) < 1 - i; omega⟩
  ·refine oneRegion ?_
   refine sM (iN i) rfl ?_
   refine sM (pT b5) rfl ?_
   refine sq (r_loadA (cs' := (cel EI (inW (64 * (2 * i)) 64)).toArray) agg145 siz145 (H35'.get (k := 1) rfl) (off := 0) rfl (by rw [List.size_toArray, cel_length]; show _ ≤ _ * 1; omega) (by exact ext_all (by rw [cel_length]; show _ * 1 = _; omega))) ?_
   refine sq (r_loadA (cs' := (cel EI (inW (64 * (2 * i + 1)) 64)).toArray) agg145 siz145 (H35'.get (k := 0) rfl) (off := 0) rfl (by rw [List.size_toArray, cel_length]; show _ ≤ _ * 1; omega) (by exact ext_all (by rw [cel_length]; show _ * 1 = _; omega))) ?_
   have H52 := ((H35'.pick 6 [2, 3, 0, 1, 4, 5] (by decide) (by decide))).as (L' := (_ :: _ :: _)) rfl
   refine c_call (vs := x5) call53 rfl (madd_ok b5 128 kz cz sz ((opsS 128 fm i).1) hSz (by omega) (by omega) (inW (64 * (2 * i)) 64) (inW (64 * (2 * i + 1)) 64) (by omega) (by omega) [x2, x4, (re b11 EI (padX ((opsS 128 fm i).2)) 146), x1] w w34 H52) ?_
   rintro _ w53 ⟨rfl, key55, c56, sp57, hS58, HN59⟩
   have H60 := HN59.as (L' := [_, _, _, _, _, _]) rfl
   have hnr : (adS 128 ((opsS 128 fm i).1) (inW (64 * (2 * i)) 64) (inW (64 * (2 * i + 1)) 64) 63).2.1.length = 64 := (adS_len 128 ((opsS 128 fm i).1) (inW (64 * (2 * i)) 64) (inW (64 * (2 * i + 1)) 64) 63).2
   refine sq (r_indexA (off' := i * 64) (j := i) arr146 (b := b11) (off := 0) rfl rfl (by first | rfl | omega | (simp; omega)) (by omega) (by omega)) ?_
   refine d_store (k := 4) (v := .agg (cel EI ((adS 128 ((opsS 128 fm i).1) (inW (64 * (2 * i)) 64) (inW (64 * (2 * i + 1)) 64) 63).2.1)).toArray) (cs' := (cel EI (padX ((opsS 128 fm i).2 ++ (adS 128 ((opsS 128 fm i).1) (inW (64 * (2 * i)) 64) (inW (64 * (2 * i + 1)) 64) 63).2.1))).toArray) H60 rfl rfl rfl siz145 (by exact celSize (by rw [hnr]; rfl)) (by exact celOne _) (by rw [List.size_toArray, cel_length, padX_len (by rw [hol.2]; omega)]; show _ ≤ _ * 1; omega) (by exact padX_put (by rw [hol.2]; omega) (by rw [hol.2]; omega) (by first | exact hnr)) ?_
   intro w61 H62 hC63
   have H62' := H62.as (L' := [_, _, _, _, _, _]) rfl
   clear H62
   refine wnil ?_
   refine blockNormal ?_
   refine thenNormal ?_
   refine oneRegion ?_
   refine sq (r_addI (a := (i : Nat)) (b := (1 : Int)) rfl rfl (by omega)) ?_
   refine sM (i64 ((i : Nat) + (1 : Int))) rfl ?_
   refine wnil ?_
   refine thenNormal ?_
   have e64 : (adS 128 ((opsS 128 fm i).1) (inW (64 * (2 * i)) 64) (inW (64 * (2 * i + 1)) 64) 63).1 = (opsS 128 fm (i + 1)).1 := by rw [opsS, opS_f c53]
   have hS65 := hS58
   rw [e64] at hS65
   have H66 : Hp No w w61 [(rc b5 #[iN 128, .slice (ownA key55) (List.length ((opsS 128 fm (i + 1)).1)) c56, sN0] 143), (key55, sob EG 154 ((opsS 128 fm (i + 1)).1) sp57), x2, x4, (re b11 EI (padX ((opsS 128 fm i).2 ++ (adS 128 ((opsS 128 fm i).1) (inW (64 * (2 * i)) 64) (inW (64 * (2 * i + 1)) 64) 63).2.1)) 146), x1] := by rw [← e64]; exact H62'
   rw [show (opsS 128 fm i).2 ++ (adS 128 ((opsS 128 fm i).1) (inW (64 * (2 * i)) 64) (inW (64 * (2 * i + 1)) 64) 63).2.1 = (opsS 128 fm (i + 1)).2 from by rw [opsS, opS_f c53]] at H66
   exact ⟨(i + 1, key55, c56, sp57), _, rfl, ⟨rfl, rfl, rfl, rfl, rfl, rfl, rfl, trivial⟩, ⟨⟨by omega, hS65⟩, ((H66.dropk 3).dropk 2)⟩, by show 1 - (i + 1) < 1 - i; omega⟩
 ·have hie : i = 1 := by omega
  rw [hie, opsS_one] at HL hSz hol
  obtain ⟨o1, ho1⟩ : ∃ q, q = opS 128 [] 0 64 (fbS fm 0) := ⟨_, rfl⟩
  rw [← ho1] at HL hSz hol
  have hl1 := opS_len 128 [] 0 64 (fbS fm 0)
  rw [← ho1] at hl1
  simp only [List.length_nil] at hl1
  have H67 := HL.as (L' := [_, _, _, _]) rfl
  have hpx : (padX o1.2).length = 128 := padX_len (by omega)
  refine exitAny ?_
  refine thenExit ?_
  refine thenExit ?_
  refine blockHere ?_
  refine thenNormal ?_
  refine sR ?_
  refine q_alloc (o := .cells (cel EI (List.replicate 64 0)).toArray 145 (0, 0)) H67 zer145 (by kernel_rfl) ?_
  intro b68 w69 hb68 H70 hE71
  let x3 : Option Addr := some ⟨b68, 0, none⟩
  refine wend ?_
  refine seqAny ?_
  refine sR ?_
  refine sM (pT b5) rfl ?_
  have H72 := ((H70.pick 5 [1, 2, 0, 3, 4] (by decide) (by decide))).as (L' := (_ :: _ :: _)) rfl
  refine c_call (vs := [pT b5, i64 1, i64 0, i64 0]) call54 rfl (gate_ok b5 128 kz cz sz o1.1 hSz (by omega) (by omega) (1 : Int) (0 : Int) (0 : Int) [(re b68 EI (List.replicate 64 0) 145), (re b11 EI (padX o1.2) 146), x1] w w69 H72) ?_
  rintro wv81 w73 ⟨hwv82, key75, c76, sp77, hS78, HN79⟩
  obtain ⟨wx83, hwx83⟩ : ∃ q, q = wrW 128 o1.1 := ⟨_, rfl⟩
  rw [← hwx83] at hwv82
  subst hwv82
  have H80 := HN79.as (L' := [_, _, _, _, _]) rfl
  refine sA (i64 wx83) rfl ?_
  subst hwx83
  have e84 : o1.1 ++ [(⟨(1 : Int), (0 : Int), (0 : Int)⟩ : Gt)] = ze o1.1 := by rfl
  have hS85 := hS78
  rw [e84] at hS85
  have H86 : Hp No w w73 [(rc b5 #[iN 128, .slice (ownA key75) (List.length (ze o1.1)) c76, sN0] 143), (key75, sob EG 154 (ze o1.1) sp77), (re b68 EI (List.replicate 64 0) 145), (re b11 EI (padX o1.2) 146), x1] := by rw [← e84]; exact H80
  have hzl : (ze o1.1).length = o1.1.length + 1 := by simp [ze]
  refine wS ?_
  refine sM (i64 1) rfl ?_
  refine wend ?_
  refine blockAny ?_
  refine sR ?_
  refine sq ((r_eqlI (a := (1 : Int)) (b := (1 : Int)) rfl rfl).as (v' := .bool true) (by rfl)) ?_
  refine sA (.bool true) rfl ?_
  refine wend ?_
  refine condTrue rfl ?_
  refine sR ?_
  refine sM (pT b5) rfl ?_
  refine sq (r_indexA (off' := 0) (j := 0) arr146 (b := b11) (off := 0) rfl rfl (by first | rfl | omega | (simp; omega)) (by omega) (by omega)) ?_
  refine sq (r_indexA (off' := 63) (j := 63) arr145 (b := b11) (off := 0) rfl rfl (by first | rfl | omega | (simp; omega)) (by omega) (by omega)) ?_
  refine sq ((r_ld1 (E := EI) (l := padX o1.2) (j := 63) (a := (padX o1.2).getD 63 0) fits3 (H86.get (k := 3) rfl) (at_getD (by omega)) rfl rfl).as (v' := i64 (o1.2.getD 63 0)) (by exact congrArg i64 (padX_at (by omega)))) ?_
  have H87 := H86.as (L' := (_ :: _ :: _)) rfl
  refine c_call (vs := [pT b5, i64 3, i64 (o1.2.getD 63 0), i64 0]) call54 rfl (gate_ok b5 128 key75 c76 sp77 (ze o1.1) hS85 (by omega) (by omega) (3 : Int) (o1.2.getD 63 0) (0 : Int) [(re b68 EI (List.replicate 64 0) 145), (re b11 EI (padX o1.2) 146), x1] w w73 H87) ?_
  rintro wv96 w88 ⟨hwv97, key90, c91, sp92, hS93, HN94⟩
  obtain ⟨wx98, hwx98⟩ : ∃ q, q = wrW 128 (ze o1.1) := ⟨_, rfl⟩
  let x7 := re b11 EI (padX o1.2) 146
  rw [← hwx98] at hwv97
  subst hwv97
  have H95 := HN94.as (L' := [_, _, _, _, _]) rfl
  refine sA (i64 wx98) rfl ?_
  subst hwx98
  refine wend ?_
  refine seqAny ?_
  refine sR ?_
  refine sM (i64 0) rfl ?_
  refine wend ?_
  refine blockAny ?_
  refine loopAny (σ := Nat × Option Nat × Nat × List Value) (fun (i, ky, cy, sy) => [(4, pT b1), (7, pT b5), (8, pT b11), (12, pT b68), (13, i64 ((wrW 128 o1.1))), (14, i64 ((wrW 128 (ze o1.1)))), (77, iN i)]) (fun (i, ky, cy, sy) w' => (i ≤ 63 ∧ Sl EG ky (reS 128 (ze o1.1 ++ [(⟨3, o1.2.getD 63 0, 0⟩ : Gt)]) (wrW 128 (ze o1.1)) o1.2 i).1 cy sy) ∧ Hp No w w' [(rc b5 #[iN 128, .slice (ownA ky) (List.length ((reS 128 (ze o1.1 ++ [(⟨3, o1.2.getD 63 0, 0⟩ : Gt)]) (wrW 128 (ze o1.1)) o1.2 i).1)) cy, sN0] 143), (ky, sob EG 154 ((reS 128 (ze o1.1 ++ [(⟨3, o1.2.getD 63 0, 0⟩ : Gt)]) (wrW 128 (ze o1.1)) o1.2 i).1) sy), (re b68 EI (padW ((reS 128 (ze o1.1 ++ [(⟨3, o1.2.getD 63 0, 0⟩ : Gt)]) (wrW 128 (ze o1.1)) o1.2 i).2)) 145), x7, x1]) (fun (i, ky, cy, sy) => 63 - i) ((0, key90, c91, sp92)) ?_ ?_ ?_
  ·exact ⟨rfl, rfl, rfl, rfl, rfl, rfl, rfl, trivial⟩
  ·exact ⟨⟨by omega, hS93⟩, H95⟩
  rintro ⟨i, ky, cy, sy⟩ ρ w99 ⟨⟨hq2, hSy⟩, HL2⟩
  have hre := reS_len 128 (ze o1.1 ++ [(⟨3, o1.2.getD 63 0, 0⟩ : Gt)]) (wrW 128 (ze o1.1)) o1.2 i
  have hgl : (ze o1.1 ++ [(⟨3, o1.2.getD 63 0, 0⟩ : Gt)]).length = o1.1.length + 2 := by rw [List.length_append, hzl]; rfl
  have hpl : (padW (reS 128 (ze o1.1 ++ [(⟨3, o1.2.getD 63 0, 0⟩ : Gt)]) (wrW 128 (ze o1.1)) o1.2 i).2).length = 64 := padW_len (by rw [hre.2]; omega)
  refine sR ?_
  refine sq (r_lssI (a := (i : Nat)) (b := (63 : Int)) rfl rfl) ?_
  refine wend ?_
  refine seqAny ?_
  refine condProp (((i : Nat) : Int) < (63 : Int)) rfl (fun c78 => ?_) (fun c78 => ?_)
  ·refine skipAny ?_
   refine thenNormal ?_
   refine seqAny ?_
   refine blockAny ?_
   refine sR ?_
   refine sM (iN i) rfl ?_
   refine sA (iN i) rfl ?_
   refine wend ?_
   refine oneRegion ?_
   refine sM (iN i) rfl ?_
   refine sM (pT b5) rfl ?_
   refine sM (i64 ((wrW 128 (ze o1.1)))) rfl ?_
   refine sM (iN i) rfl ?_
   refine sq (r_indexA (off' := 0) (j := 0) arr146 (b := b11) (off := 0) rfl rfl (by first | rfl | omega | (simp; omega)) (by omega) (by omega)) ?_
   refine sq (r_indexA (off' := i) (j := i) arr145 (b := b11) (off := 0) rfl rfl (by first | rfl | omega | (simp; omega)) (by omega) (by omega)) ?_
   refine sq ((r_ld1 (E := EI) (l := padX o1.2) (j := i) (a := (padX o1.2).getD i 0) fits3 (HL2.get (k := 3) rfl) (at_getD (by omega)) rfl rfl).as (v' := i64 (o1.2.getD i 0)) (by exact congrArg i64 (padX_at (by omega)))) ?_
   have H101 := HL2.as (L' := (_ :: _ :: [(re b68 EI (padW ((reS 128 (ze o1.1 ++ [(⟨3, o1.2.getD 63 0, 0⟩ : Gt)]) (wrW 128 (ze o1.1)) o1.2 i).2)) 145), x7, x1])) rfl
   refine c_call (vs := [pT b5, i64 2, i64 ((wrW 128 (ze o1.1))), i64 (o1.2.getD i 0)]) call54 rfl (gate_ok b5 128 ky cy sy ((reS 128 (ze o1.1 ++ [(⟨3, o1.2.getD 63 0, 0⟩ : Gt)]) (wrW 128 (ze o1.1)) o1.2 i).1) hSy (by omega) (by omega) (2 : Int) (wrW 128 (ze o1.1)) (o1.2.getD i 0) [(re b68 EI (padW ((reS 128 (ze o1.1 ++ [(⟨3, o1.2.getD 63 0, 0⟩ : Gt)]) (wrW 128 (ze o1.1)) o1.2 i).2)) 145), x7, x1] w w99 H101) ?_
   rintro wv110 w102 ⟨hwv111, key104, c105, sp106, hS107, HN108⟩
   obtain ⟨wx112, hwx112⟩ : ∃ q, q = wrW 128 ((reS 128 (ze o1.1 ++ [(⟨3, o1.2.getD 63 0, 0⟩ : Gt)]) (wrW 128 (ze o1.1)) o1.2 i).1) := ⟨_, rfl⟩
   rw [← hwx112] at hwv111
   subst hwv111
   have H109 := HN108.as (L' := [_, _, _, _, _]) rfl
   refine sq (r_indexA (off' := i) (j := i) arr145 (b := b68) (off := 0) rfl rfl (by first | rfl | omega | (simp; omega)) (by omega) (by omega)) ?_
   refine d_store (k := 2) (v := i64 wx112) (cs' := (cel EI ((padW ((reS 128 (ze o1.1 ++ [(⟨3, o1.2.getD 63 0, 0⟩ : Gt)]) (wrW 128 (ze o1.1)) o1.2 i).2)).set i wx112)).toArray) H109 rfl rfl rfl siz3 (by rfl) (by exact EI.one _) (by rw [List.size_toArray, cel_length]; show _ ≤ _ * 1; first | omega | (simp only [List.length_set]; omega) | exact bLe rfl | (simp <;> omega)) (by exact put1 (E := EI) rfl _ _ _) ?_
   intro w113 H114 hC115
   have H114' := H114.as (L' := [_, _, _, _, _]) rfl
   clear H114
   refine wnil ?_
   refine blockNormal ?_
   refine thenNormal ?_
   refine oneRegion ?_
   refine sq (r_addI (a := (i : Nat)) (b := (1 : Int)) rfl rfl (by omega)) ?_
   refine sM (i64 ((i : Nat) + (1 : Int))) rfl ?_
   refine wnil ?_
   refine thenNormal ?_
   subst hwx112
   have e116 : (reS 128 (ze o1.1 ++ [(⟨3, o1.2.getD 63 0, 0⟩ : Gt)]) (wrW 128 (ze o1.1)) o1.2 i).1 ++ [(⟨(2 : Int), (wrW 128 (ze o1.1)), o1.2.getD i 0⟩ : Gt)] = (reS 128 (ze o1.1 ++ [(⟨3, o1.2.getD 63 0, 0⟩ : Gt)]) (wrW 128 (ze o1.1)) o1.2 (i + 1)).1 := by rfl
   have hS117 := hS107
   rw [e116] at hS117
   have H118 : Hp No w w113 [(rc b5 #[iN 128, .slice (ownA key104) (List.length ((reS 128 (ze o1.1 ++ [(⟨3, o1.2.getD 63 0, 0⟩ : Gt)]) (wrW 128 (ze o1.1)) o1.2 (i + 1)).1)) c105, sN0] 143), (key104, sob EG 154 ((reS 128 (ze o1.1 ++ [(⟨3, o1.2.getD 63 0, 0⟩ : Gt)]) (wrW 128 (ze o1.1)) o1.2 (i + 1)).1) sp106), (re b68 EI ((padW ((reS 128 (ze o1.1 ++ [(⟨3, o1.2.getD 63 0, 0⟩ : Gt)]) (wrW 128 (ze o1.1)) o1.2 i).2)).set i (wrW 128 ((reS 128 (ze o1.1 ++ [(⟨3, o1.2.getD 63 0, 0⟩ : Gt)]) (wrW 128 (ze o1.1)) o1.2 i).1))) 145), (re b11 EI (padX o1.2) 146), x1] := by rw [← e116]; exact H114'
   rw [padW_set (l := (reS 128 (ze o1.1 ++ [(⟨3, o1.2.getD 63 0, 0⟩ : Gt)]) (wrW 128 (ze o1.1)) o1.2 i).2) _ hre.2 (by omega)] at H118
   have H119 := H118.as (L' := [_, _, _, _, _]) rfl
   exact ⟨(i + 1, key104, c105, sp106), _, rfl, ⟨rfl, rfl, rfl, rfl, rfl, rfl, rfl, trivial⟩, ⟨⟨by omega, hS117⟩, H119⟩, by show 63 - (i + 1) < 63 - i; omega⟩
  ·have hj : i = 63 := by omega
   refine exitAny ?_
   refine thenExit ?_
   refine thenExit ?_
   refine blockHere ?_
   refine thenNormal ?_
   refine oneRegion ?_
   refine sM (i64 ((wrW 128 o1.1))) rfl ?_
   refine sq (r_indexA (off' := 63) (j := 63) arr145 (b := b68) (off := 0) rfl rfl (by first | rfl | omega | (simp; omega)) (by omega) (by omega)) ?_
   refine d_store (k := 2) (v := i64 ((wrW 128 o1.1))) (cs' := (cel EI ((padW ((reS 128 (ze o1.1 ++ [(⟨3, o1.2.getD 63 0, 0⟩ : Gt)]) (wrW 128 (ze o1.1)) o1.2 i).2)).set 63 (wrW 128 o1.1))).toArray) HL2 rfl rfl rfl siz3 (by rfl) (by exact EI.one _) (by rw [List.size_toArray, cel_length]; show _ ≤ _ * 1; first | omega | (simp only [List.length_set]; omega) | exact bLe rfl | (simp <;> omega)) (by exact put1 (E := EI) rfl _ _ _) ?_
   intro w120 H121 hC122
   have H121' := H121.as (L' := [_, _, _, _, _]) rfl
   clear H121
   rw [padW_last (hre.2.trans hj)] at H121'
   have hrl : ((reS 128 (ze o1.1 ++ [(⟨3, o1.2.getD 63 0, 0⟩ : Gt)]) (wrW 128 (ze o1.1)) o1.2 i).2 ++ [wrW 128 o1.1]).length = 64 := by rw [List.length_append, hre.2, hj]; rfl
   refine wnil ?_
   refine blockNormal ?_
   refine thenNormal ?_
   refine sR ?_
   refine sM (pT b5) rfl ?_
   refine sq (r_sliceA0 arr145 (b := b68) (off := 0) rfl (bLe rfl)) ?_
   refine sq (r_nilCheck rfl) ?_
   refine sq (r_fieldAddr (off' := 0) fld143_0 (by decide) (b := b5) (off := 0) rfl (by omega)) ?_
   refine sq (r_fieldAddr (off' := 2) fld104_2 (by decide) (b := b5) (off := 0) rfl (by omega)) ?_
   refine d_store (k := 0) (v := .slice x3 64 64) (cs' := #[iN 128, .slice (ownA ky) (List.length ((reS 128 (ze o1.1 ++ [(⟨3, o1.2.getD 63 0, 0⟩ : Gt)]) (wrW 128 (ze o1.1)) o1.2 i).1)) cy, .slice x3 64 64]) H121' rfl rfl rfl siz100 (by rfl) (oneL rfl) (by exact bLe rfl) (by rfl) ?_
   intro w123 H124 hC125
   have H124' := H124.as (L' := [_, _, _, _, _]) rfl
   clear H124
   refine wS ?_
   refine sM (pT b5) rfl ?_
   refine sq (r_nilCheck rfl) ?_
   refine sq (r_fieldAddr (off' := 0) fld143_0 (by decide) (b := b5) (off := 0) rfl (by omega)) ?_
   refine sq (r_loadA (cs' := #[iN 128, .slice (ownA ky) (List.length ((reS 128 (ze o1.1 ++ [(⟨3, o1.2.getD 63 0, 0⟩ : Gt)]) (wrW 128 (ze o1.1)) o1.2 i).1)) cy, .slice x3 64 64]) agg104 siz104 (H124'.get (k := 0) rfl) (off := 0) rfl (by exact bLe rfl) (by rfl)) ?_
   refine d_store (k := 4) (v := .agg #[iN 128, .slice (ownA ky) (List.length ((reS 128 (ze o1.1 ++ [(⟨3, o1.2.getD 63 0, 0⟩ : Gt)]) (wrW 128 (ze o1.1)) o1.2 i).1)) cy, .slice x3 64 64]) (cs' := #[iN 128, .slice (ownA ky) (List.length ((reS 128 (ze o1.1 ++ [(⟨3, o1.2.getD 63 0, 0⟩ : Gt)]) (wrW 128 (ze o1.1)) o1.2 i).1)) cy, .slice x3 64 64]) H124' rfl rfl rfl siz104 (by rfl) (oneL rfl) (by exact bLe rfl) (by rfl) ?_
   intro w126 H127 hC128
   have H127' := H127.as (L' := [_, _, _, _, _]) rfl
   clear H127
   refine sA (.nilIface) rfl ?_
   refine wend ?_
   refine retAny ?_
   refine retG (rs := [.cell 4 104, .tmp 5]) (vs := [.agg #[iN 128, .slice (ownA ky) (List.length ((reS 128 (ze o1.1 ++ [(⟨3, o1.2.getD 63 0, 0⟩ : Gt)]) (wrW 128 (ze o1.1)) o1.2 i).1)) cy, .slice x3 64 64], .nilIface]) rfl ⟨r_loadA (cs' := #[iN 128, .slice (ownA ky) (List.length ((reS 128 (ze o1.1 ++ [(⟨3, o1.2.getD 63 0, 0⟩ : Gt)]) (wrW 128 (ze o1.1)) o1.2 i).1)) cy, .slice x3 64 64]) agg104 siz104 (H127'.get (k := 4) rfl) (off := 0) rfl (by exact bLe rfl) (by rfl), ⟨rfl, rfl⟩, trivial⟩ ?_
   subst hj
   rw [show (mk1 (fbS fm 0)) = _ from mk1_eq _, ← ho1]
   exact ⟨_, rfl, ky, cy, sy, b68, rfl, hSy, (((H127'.dropk 4).dropk 3).dropk 0)⟩
end Go.Proofs.YtohngnahcgbfmaaGreatDoor.Cm
namespace Go.Proofs.YtohngnahcgbfmaaGreatDoor.Cm
open Go Go.Proofs.YtohngnahcgbfmaaGreatDoor.Vc Go.Proofs.YtohngnahcgbfmaaGreatDoor.Er Go.Proofs.YtohngnahcgbfmaaGreatDoor.Circ
set_option linter.unusedVariables false
theorem call55 : callable Tryz.prog 55 = true := by kernel_rfl
theorem call56 : callable Tryz.prog 56 = true := by kernel_rfl
set_option maxHeartbeats 8000000 in
theorem make_k2 (fm : BitVec 64) (hf : fm < 4#64) (w : World) : Calls Tryz.prog 35 [i64 (2 : Int), u64 fm].toArray w (Ret fun v w' => ∃ (key : Option Nat) (c : Nat) (sp : List Value) (b : Nat), v = .tuple #[.agg #[i64 ((256 : Nat) : Int), .slice (ownA key) (mk2 (fbS fm 0) (fbS fm 1)).1.length c, .slice (some ⟨b, 0, none⟩) 64 64], .nilIface] ∧ Sl EG key (mk2 (fbS fm 0) (fbS fm 1)).1 c sp ∧ Hp No w w' [(key, sob EG 154 (mk2 (fbS fm 0) (fbS fm 1)).1 sp), (re b EI (mk2 (fbS fm 0) (fbS fm 1)).2 145)]) := by
 let x7 : Array Value := #[iN 256, sN0, sN0]
 have H := Hp.start No w
 refine enter (n := 131) Tryz.func35 rfl rfl (bLe rfl) ?_
 refine sR ?_
 refine q_alloc (o := .cells #[i64 0, sN0, sN0] 104 (0, 0)) H zer104 (by kernel_rfl) ?_
 intro b1 w2 hb1 H3 hE4
 let x1 := rc b1 #[i64 0, sN0, sN0] 104
 refine sA (.nilIface) rfl ?_
 refine wS ?_
 refine sA (i64 2) rfl ?_
 refine wend ?_
 refine seqAny ?_
 refine sR ?_
 refine sM (i64 2) rfl ?_
 refine wend ?_
 refine blockAny ?_
 refine seqAny ?_
 refine blockAny ?_
 refine seqAny ?_
 refine blockAny ?_
 refine seqAny ?_
 refine blockAny ?_
 refine seqAny ?_
 refine seqAny ?_
 refine sR ?_
 refine sq ((r_eqlI (a := (2 : Int)) (b := (1 : Int)) rfl rfl).as (v' := .bool false) (by rfl)) ?_
 refine sA (.bool false) rfl ?_
 refine wend ?_
 refine condFalse rfl ?_
 refine skipAny ?_
 refine thenNormal ?_
 refine seqAny ?_
 refine sR ?_
 refine sq ((r_eqlI (a := (2 : Int)) (b := (2 : Int)) rfl rfl).as (v' := .bool true) (by rfl)) ?_
 refine sA (.bool true) rfl ?_
 refine wend ?_
 refine condTrue rfl ?_
 refine skipAny ?_
 refine thenNormal ?_
 refine condTrue rfl ?_
 refine exitAny ?_
 refine thenExit ?_
 refine blockOut rfl ?_
 refine thenExit ?_
 refine blockHere ?_
 refine thenNormal ?_
 refine sR ?_
 refine sM (u64 fm) rfl ?_
 refine sM (i64 2) rfl ?_
 refine sq (r_shl64 (a := 1#64) (c := 2) rfl rfl) ?_
 refine sq ((r_lss64 (a := fm) (b := (1#64) <<< (2 : Nat)) rfl rfl).as (v' := .bool true) (by exact congrArg Value.bool (decide_eq_true hf))) ?_
 refine wend ?_
 refine condTrue rfl ?_
 refine exitAny ?_
 refine blockOut rfl ?_
 refine thenExit ?_
 refine blockHere ?_
 refine thenNormal ?_
 refine sR ?_
 refine sM (i64 2) rfl ?_
 refine sq ((r_mulI (a := (128 : Int)) (b := (2 : Int)) rfl rfl (by omega)).as (v' := iN 256) (by rfl)) ?_
 refine sq (r_build (cs' := x7) (ps := [(0, iN 256)]) zer104 pls104 rfl (by rfl)) ?_
 refine sq (r_build (cs' := x7) (ps := [(0, .agg x7)]) zer143 pls143 rfl (by rfl)) ?_
 refine q_box (v := .agg x7) (o := .cells x7 143 (0, 0)) H3 rfl (by rfl) ?_
 intro b5 w6 hb5 H7 hE8
 refine sA (pT b5) rfl ?_
 have H9 := H7.nil (sob EG 154 [] [])
 have H10 := H9.as (L' := [_, _, _]) rfl
 refine wS ?_
 refine q_alloc (o := .cells (cel EI (List.replicate 128 0)).toArray 146 (0, 0)) H10 zer146 (by kernel_rfl) ?_
 intro b11 w12 hb11 H13 hE14
 rw [padX_nil] at H13
 refine wend ?_
 refine seqAny ?_
 refine sR ?_
 refine sM (i64 2) rfl ?_
 refine sM (i64 0) rfl ?_
 refine wend ?_
 refine blockAny ?_
 refine loopAny (σ := Nat × Option Nat × Nat × List Value) (fun (i, kz, cz, sz) => [(0, i64 2), (1, u64 fm), (4, pT b1), (7, pT b5), (8, pT b11), (36, i64 2), (37, iN i)]) (fun (i, kz, cz, sz) w' => (i ≤ 2 ∧ Sl EG kz (opsS 256 fm i).1 cz sz) ∧ Hp No w w' [(rc b5 #[iN 256, .slice (ownA kz) (List.length ((opsS 256 fm i).1)) cz, sN0] 143), (kz, sob EG 154 ((opsS 256 fm i).1) sz), (re b11 EI (padX ((opsS 256 fm i).2)) 146), x1]) (fun (i, kz, cz, sz) => 2 - i) ((0, none, 0, [])) ?_ ?_ ?_
 ·exact ⟨rfl, rfl, rfl, rfl, rfl, rfl, rfl, trivial⟩
 ·exact ⟨⟨by omega, Sl.none⟩, (H13.pick 4 [2, 1, 0, 3] (by decide) (by decide))⟩
 rintro ⟨i, kz, cz, sz⟩ ρ w15 ⟨⟨hq, hSz⟩, HL⟩
 let x5 : List Value := [pT b5, .agg (cel EI (inW (64 * (2 * i)) 64)).toArray, .agg (cel EI (inW (64 * (2 * i + 1)) 64)).toArray]
 have hol := opsS_len 256 fm i
 have hi1 := inW_len (64 * (2 * i)) 64
 have hi2 := inW_len (64 * (2 * i + 1)) 64
 have hpx : (padX (opsS 256 fm i).2).length = 128 := padX_len (by rw [hol.2]; omega)
 refine sR ?_
 refine sq (r_lssI (a := (i : Nat)) (b := (2 : Int)) rfl rfl) ?_
 refine wend ?_
 refine seqAny ?_
 refine condProp (((i : Nat) : Int) < (2 : Int)) rfl (fun c38 => ?_) (fun c38 => ?_)
 ·refine skipAny ?_
  refine thenNormal ?_
  refine seqAny ?_
  refine blockAny ?_
  refine sR ?_
  refine sM (iN i) rfl ?_
  refine sA (iN i) rfl ?_
  refine wS ?_
  refine sM (pT b5) rfl ?_
  refine sM (iN i) rfl ?_
  refine sq ((r_mulI (a := (2 : Int)) (b := (i : Nat)) rfl rfl (by omega)).as (v' := iN (2 * i)) (by exact congrArg i64 (by omega))) ?_
  refine c_call (vs := [pT b5, iN (2 * i)]) call51 rfl (input_ok b5 (2 * i) (by omega) w15) ?_
  rintro _ w17 ⟨rfl, hE18⟩
  have H19 := HL.ext hE18
  refine sM (pT b5) rfl ?_
  refine sM (iN i) rfl ?_
  refine sq ((r_mulI (a := (2 : Int)) (b := (i : Nat)) rfl rfl (by omega)).as (v' := iN (2 * i)) (by exact congrArg i64 (by omega))) ?_
  refine sq ((r_addI (a := ((2 * i) : Nat)) (b := (1 : Int)) rfl rfl (by omega)).as (v' := iN (2 * i + 1)) (by exact congrArg i64 (by omega))) ?_
  refine c_call (vs := [pT b5, iN (2 * i + 1)]) call51 rfl (input_ok b5 (2 * i + 1) (by omega) w17) ?_
  rintro _ w20 ⟨rfl, hE21⟩
  have H22 := H19.ext hE21
  refine q_alloc (o := .cells (cel EI (List.replicate 64 0)).toArray 145 (0, 0)) H22 zer145 (by kernel_rfl) ?_
  intro b23 w24 hb23 H25 hE26
  let x4 := re b23 EI (inW (64 * (2 * i)) 64) 145
  refine q_alloc (o := .cells (cel EI (List.replicate 64 0)).toArray 145 (0, 0)) H25 zer145 (by kernel_rfl) ?_
  intro b27 w28 hb27 H29 hE30
  let x2 := re b27 EI (inW (64 * (2 * i + 1)) 64) 145
  refine d_store (k := 1) (v := .agg (cel EI (inW (64 * (2 * i)) 64)).toArray) (cs' := (cel EI (inW (64 * (2 * i)) 64)).toArray) H29 rfl rfl rfl siz145 (by exact celSize (by rw [hi1]; rfl)) (by exact celOne _) (by rw [List.size_toArray, cel_length]; show _ ≤ _ * 1; first | omega | (simp only [List.length_set]; omega) | exact bLe rfl | (simp <;> omega)) (by exact putAll (by rw [List.length_replicate]; exact hi1.symm)) ?_
  intro w31 H32 hC33
  have H32' := H32.as (L' := [_, _, _, _, _, _]) rfl
  clear H32
  refine d_store (k := 0) (v := .agg (cel EI (inW (64 * (2 * i + 1)) 64)).toArray) (cs' := (cel EI (inW (64 * (2 * i + 1)) 64)).toArray) H32' rfl rfl rfl siz145 (by exact celSize (by rw [hi2]; rfl)) (by exact celOne _) (by rw [List.size_toArray, cel_length]; show _ ≤ _ * 1; first | omega | (simp only [List.length_set]; omega) | exact bLe rfl | (simp <;> omega)) (by exact putAll (by rw [List.length_replicate]; exact hi2.symm)) ?_
  intro w34 H35 hC36
  have H35' := H35.as (L' := [_, _, _, _, _, _]) rfl
  clear H35
  refine wS ?_
  refine sM (u64 fm) rfl ?_
  refine sM (iN i) rfl ?_
  refine sq (r_shr64 (a := fm) (c := i) rfl rfl) ?_
  refine sq (r_and64 (a := fm >>> (i : Nat)) (b := 1#64) rfl rfl) ?_
  refine sq (r_eql64 (a := (fm >>> (i : Nat)) &&& (1#64)) (b := 1#64) rfl rfl) ?_
  refine wend ?_
  refine condProp (((fm >>> (i : Nat)) &&& (1#64)) = (1#64)) rfl (fun c53 => ?_) (fun c53 => ?_)
  ·refine oneRegion ?_
   refine sM (iN i) rfl ?_
   refine sM (pT b5) rfl ?_
   refine sq (r_loadA (cs' := (cel EI (inW (64 * (2 * i)) 64)).toArray) agg145 siz145 (H35'.get (k := 1) rfl) (off := 0) rfl (by rw [List.size_toArray, cel_length]; show _ ≤ _ * 1; omega) (by exact ext_all (by rw [cel_length]; show _ * 1 = _; omega))) ?_
   refine sq (r_loadA (cs' := (cel EI (inW (64 * (2 * i + 1)) 64)).toArray) agg145 siz145 (H35'.get (k := 0) rfl) (off := 0) rfl (by rw [List.size_toArray, cel_length]; show _ ≤ _ * 1; omega) (by exact ext_all (by rw [cel_length]; show _ * 1 = _; omega))) ?_
   have H37 := ((H35'.pick 6 [2, 3, 0, 1, 4, 5] (by decide) (by decide))).as (L' := (_ :: _ :: _)) rfl
   refine c_call (vs := x5) call52 rfl (mxor_ok b5 256 kz cz sz ((opsS 256 fm i).1) hSz (by omega) (by omega) (inW (64 * (2 * i)) 64) (inW (64 * (2 * i + 1)) 64) (by omega) (by omega) [x2, x4, (re b11 EI (padX ((opsS 256 fm i).2)) 146), x1] w w34 H37) ?_
   rintro _ w38 ⟨rfl, key40, c41, sp42, hS43, HN44⟩
   have H45 := HN44.as (L' := [_, _, _, _, _, _]) rfl
   have hnr : (xoS 256 ((opsS 256 fm i).1) (inW (64 * (2 * i)) 64) (inW (64 * (2 * i + 1)) 64) 64).2.length = 64 := (xoS_len 256 ((opsS 256 fm i).1) (inW (64 * (2 * i)) 64) (inW (64 * (2 * i + 1)) 64) 64).2
   refine sq (r_indexA (off' := i * 64) (j := i) arr146 (b := b11) (off := 0) rfl rfl (by first | rfl | omega | (simp; omega)) (by omega) (by omega)) ?_
   refine d_store (k := 4) (v := .agg (cel EI ((xoS 256 ((opsS 256 fm i).1) (inW (64 * (2 * i)) 64) (inW (64 * (2 * i + 1)) 64) 64).2)).toArray) (cs' := (cel EI (padX ((opsS 256 fm i).2 ++ (xoS 256 ((opsS 256 fm i).1) (inW (64 * (2 * i)) 64) (inW (64 * (2 * i + 1)) 64) 64).2))).toArray) H45 rfl rfl rfl siz145 (by exact celSize (by rw [hnr]; rfl)) (by exact celOne _) (by rw [List.size_toArray, cel_length, padX_len (by rw [hol.2]; omega)]; show _ ≤ _ * 1; omega) (by exact padX_put (by rw [hol.2]; omega) (by rw [hol.2]; omega) (by first | exact hnr)) ?_
   intro w46 H47 hC48
   have H47' := H47.as (L' := [_, _, _, _, _, _]) rfl
   clear H47
   refine wnil ?_
   refine blockNormal ?_
   refine thenNormal ?_
   refine oneRegion ?_
   refine sq (r_addI (a := (i : Nat)) (b := (1 : Int)) rfl rfl (by omega)) ?_
   refine sM (i64 ((i : Nat) + (1 : Int))) rfl ?_
   refine wnil ?_
   refine thenNormal ?_
   have e49 : (xoS 256 ((opsS 256 fm i).1) (inW (64 * (2 * i)) 64) (inW (64 * (2 * i + 1)) 64) 64).1 = (opsS 256 fm (i + 1)).1 := by rw [opsS, opS_t c53]
   have hS50 := hS43
   rw [e49] at hS50
   have H51 : Hp No w w46 [(rc b5 #[iN 256, .slice (ownA key40) (List.length ((opsS 256 fm (i + 1)).1)) c41, sN0] 143), (key40, sob EG 154 ((opsS 256 fm (i + 1)).1) sp42), x2, x4, (re b11 EI (padX ((opsS 256 fm i).2 ++ (xoS 256 ((opsS 256 fm i).1) (inW (64 * (2 * i)) 64) (inW (64 * (2 * i + 1)) 64) 64).2)) 146), x1] := by rw [← e49]; exact H47'
   rw [show (opsS 256 fm i).2 ++ (xoS 256 ((opsS 256 fm i).1) (inW (64 * (2 * i)) 64) (inW (64 * (2 * i + 1)) 64) 64).2 = (opsS 256 fm (i + 1)).2 from by rw [opsS, opS_t c53]] at H51
   exact ⟨(i + 1, key40, c41, sp42), _, rfl, ⟨rfl, rfl, rfl, rfl, rfl, rfl, rfl, trivial⟩, ⟨⟨by omega, hS50⟩, ((H51.dropk 3).dropk 2)⟩, by show 2 - (i + 1) < 2 - i; omega⟩
  ·refine oneRegion ?_
   refine sM (iN i) rfl ?_
   refine sM (pT b5) rfl ?_
   refine sq (r_loadA (cs' := (cel EI (inW (64 * (2 * i)) 64)).toArray) agg145 siz145 (H35'.get (k := 1) rfl) (off := 0) rfl (by rw [List.size_toArray, cel_length]; show _ ≤ _ * 1; omega) (by exact ext_all (by rw [cel_length]; show _ * 1 = _; omega))) ?_
   refine sq (r_loadA (cs' := (cel EI (inW (64 * (2 * i + 1)) 64)).toArray) agg145 siz145 (H35'.get (k := 0) rfl) (off := 0) rfl (by rw [List.size_toArray, cel_length]; show _ ≤ _ * 1; omega) (by exact ext_all (by rw [cel_length]; show _ * 1 = _; omega))) ?_
   have H52 := ((H35'.pick 6 [2, 3, 0, 1, 4, 5] (by decide) (by decide))).as (L' := (_ :: _ :: _)) rfl
   refine c_call (vs := x5) call53 rfl (madd_ok b5 256 kz cz sz ((opsS 256 fm i).1) hSz (by omega) (by omega) (inW (64 * (2 * i)) 64) (inW (64 * (2 * i + 1)) 64) (by omega) (by omega) [x2, x4, (re b11 EI (padX ((opsS 256 fm i).2)) 146), x1] w w34 H52) ?_
   rintro _ w53 ⟨rfl, key55, c56, sp57, hS58, HN59⟩
   have H60 := HN59.as (L' := [_, _, _, _, _, _]) rfl
   have hnr : (adS 256 ((opsS 256 fm i).1) (inW (64 * (2 * i)) 64) (inW (64 * (2 * i + 1)) 64) 63).2.1.length = 64 := (adS_len 256 ((opsS 256 fm i).1) (inW (64 * (2 * i)) 64) (inW (64 * (2 * i + 1)) 64) 63).2
   refine sq (r_indexA (off' := i * 64) (j := i) arr146 (b := b11) (off := 0) rfl rfl (by first | rfl | omega | (simp; omega)) (by omega) (by omega)) ?_
   refine d_store (k := 4) (v := .agg (cel EI ((adS 256 ((opsS 256 fm i).1) (inW (64 * (2 * i)) 64) (inW (64 * (2 * i + 1)) 64) 63).2.1)).toArray) (cs' := (cel EI (padX ((opsS 256 fm i).2 ++ (adS 256 ((opsS 256 fm i).1) (inW (64 * (2 * i)) 64) (inW (64 * (2 * i + 1)) 64) 63).2.1))).toArray) H60 rfl rfl rfl siz145 (by exact celSize (by rw [hnr]; rfl)) (by exact celOne _) (by rw [List.size_toArray, cel_length, padX_len (by rw [hol.2]; omega)]; show _ ≤ _ * 1; omega) (by exact padX_put (by rw [hol.2]; omega) (by rw [hol.2]; omega) (by first | exact hnr)) ?_
   intro w61 H62 hC63
   have H62' := H62.as (L' := [_, _, _, _, _, _]) rfl
   clear H62
   refine wnil ?_
   refine blockNormal ?_
   refine thenNormal ?_
   refine oneRegion ?_
   refine sq (r_addI (a := (i : Nat)) (b := (1 : Int)) rfl rfl (by omega)) ?_
   refine sM (i64 ((i : Nat) + (1 : Int))) rfl ?_
   refine wnil ?_
   refine thenNormal ?_
   have e64 : (adS 256 ((opsS 256 fm i).1) (inW (64 * (2 * i)) 64) (inW (64 * (2 * i + 1)) 64) 63).1 = (opsS 256 fm (i + 1)).1 := by rw [opsS, opS_f c53]
   have hS65 := hS58
   rw [e64] at hS65
   have H66 : Hp No w w61 [(rc b5 #[iN 256, .slice (ownA key55) (List.length ((opsS 256 fm (i + 1)).1)) c56, sN0] 143), (key55, sob EG 154 ((opsS 256 fm (i + 1)).1) sp57), x2, x4, (re b11 EI (padX ((opsS 256 fm i).2 ++ (adS 256 ((opsS 256 fm i).1) (inW (64 * (2 * i)) 64) (inW (64 * (2 * i + 1)) 64) 63).2.1)) 146), x1] := by rw [← e64]; exact H62'
   rw [show (opsS 256 fm i).2 ++ (adS 256 ((opsS 256 fm i).1) (inW (64 * (2 * i)) 64) (inW (64 * (2 * i + 1)) 64) 63).2.1 = (opsS 256 fm (i + 1)).2 from by rw [opsS, opS_f c53]] at H66
   exact ⟨(i + 1, key55, c56, sp57), _, rfl, ⟨rfl, rfl, rfl, rfl, rfl, rfl, rfl, trivial⟩, ⟨⟨by omega, hS65⟩, ((H66.dropk 3).dropk 2)⟩, by show 2 - (i + 1) < 2 - i; omega⟩
 ·have hie : i = 2 := by omega
  rw [hie, opsS_two] at HL hSz hol
  obtain ⟨o1, ho1⟩ : ∃ q, q = opS 256 [] 0 64 (fbS fm 0) := ⟨_, rfl⟩
  rw [← ho1] at HL hSz hol
  have hl1 := opS_len 256 [] 0 64 (fbS fm 0)
  rw [← ho1] at hl1
  obtain ⟨o2, ho2⟩ : ∃ q, q = opS 256 o1.1 128 192 (fbS fm 1) := ⟨_, rfl⟩
  rw [← ho2] at HL hSz hol
  have hl2 := opS_len 256 o1.1 128 192 (fbS fm 1)
  rw [← ho2] at hl2
  rw [padX_full (by rw [List.length_append]; omega)] at HL
  simp only [List.length_nil] at hl1
  dsimp only at HL hSz
  have H67 := HL.as (L' := [_, _, _, _]) rfl
  have hpx : (o1.2 ++ o2.2).length = 128 := by rw [List.length_append]; omega
  refine exitAny ?_
  refine thenExit ?_
  refine thenExit ?_
  refine blockHere ?_
  refine thenNormal ?_
  refine sR ?_
  refine q_alloc (o := .cells (cel EI (List.replicate 64 0)).toArray 145 (0, 0)) H67 zer145 (by kernel_rfl) ?_
  intro b68 w69 hb68 H70 hE71
  let x3 : Option Addr := some ⟨b68, 0, none⟩
  refine wend ?_
  refine seqAny ?_
  refine sR ?_
  refine sM (pT b5) rfl ?_
  have H72 := ((H70.pick 5 [1, 2, 0, 3, 4] (by decide) (by decide))).as (L' := (_ :: _ :: [(re b68 EI (List.replicate 64 0) 145), (re b11 EI (o1.2 ++ o2.2) 146), x1])) rfl
  refine c_call (vs := [pT b5, i64 1, i64 0, i64 0]) call54 rfl (gate_ok b5 256 kz cz sz o2.1 hSz (by omega) (by omega) (1 : Int) (0 : Int) (0 : Int) [(re b68 EI (List.replicate 64 0) 145), (re b11 EI (o1.2 ++ o2.2) 146), x1] w w69 H72) ?_
  rintro wv81 w73 ⟨hwv82, key75, c76, sp77, hS78, HN79⟩
  obtain ⟨wx83, hwx83⟩ : ∃ q, q = wrW 256 o2.1 := ⟨_, rfl⟩
  let x6 := re b11 EI (o1.2 ++ o2.2) 146
  rw [← hwx83] at hwv82
  subst hwv82
  have H80 := HN79.as (L' := [_, _, _, _, _]) rfl
  refine sA (i64 wx83) rfl ?_
  subst hwx83
  have e84 : o2.1 ++ [(⟨(1 : Int), (0 : Int), (0 : Int)⟩ : Gt)] = ze o2.1 := by rfl
  have hS85 := hS78
  rw [e84] at hS85
  have H86 : Hp No w w73 [(rc b5 #[iN 256, .slice (ownA key75) (List.length (ze o2.1)) c76, sN0] 143), (key75, sob EG 154 (ze o2.1) sp77), (re b68 EI (List.replicate 64 0) 145), x6, x1] := by rw [← e84]; exact H80
  have hzl : (ze o2.1).length = o2.1.length + 1 := by simp [ze]
  refine wS ?_
  refine sM (i64 2) rfl ?_
  refine wend ?_
  refine blockAny ?_
  refine sR ?_
  refine sq ((r_eqlI (a := (2 : Int)) (b := (1 : Int)) rfl rfl).as (v' := .bool false) (by rfl)) ?_
  refine sA (.bool false) rfl ?_
  refine wend ?_
  refine condFalse rfl ?_
  refine sR ?_
  refine sq ((r_eqlI (a := (2 : Int)) (b := (2 : Int)) rfl rfl).as (v' := .bool true) (by rfl)) ?_
  refine sA (.bool true) rfl ?_
  refine wend ?_
  refine condTrue rfl ?_
  refine seqAny ?_
  refine sR ?_
  refine sM (i64 0) rfl ?_
  refine wend ?_
  refine blockAny ?_
  refine loopAny (σ := Nat) (fun i => [(4, pT b1), (7, pT b5), (8, pT b11), (12, pT b68), (13, i64 ((wrW 256 o2.1))), (94, iN i)]) (fun i w' => i ≤ 64 ∧ Hp No w w' [(re b68 EI (padW (List.replicate i (wrW 256 o2.1))) 145), (rc b5 #[iN 256, .slice (ownA key75) (List.length (ze o2.1)) c76, sN0] 143), (key75, sob EG 154 (ze o2.1) sp77), x6, x1]) (fun i => 64 - i) (0) ?_ ?_ ?_
  ·exact ⟨rfl, rfl, rfl, rfl, rfl, rfl, trivial⟩
  ·exact ⟨Nat.zero_le _, (H86.pick 5 [2, 0, 1, 3, 4] (by decide) (by decide))⟩
  rintro i ρ w87 ⟨hq2, HL2⟩
  have hpl : (padW (List.replicate i (wrW 256 o2.1))).length = 64 := padW_len (by rw [List.length_replicate]; exact hq2)
  refine sR ?_
  refine sq (r_lssI (a := (i : Nat)) (b := (64 : Int)) rfl rfl) ?_
  refine wend ?_
  refine seqAny ?_
  refine condProp (((i : Nat) : Int) < (64 : Int)) rfl (fun c95 => ?_) (fun c95 => ?_)
  ·refine skipAny ?_
   refine thenNormal ?_
   refine seqAny ?_
   refine blockAny ?_
   refine sR ?_
   refine sM (iN i) rfl ?_
   refine sA (iN i) rfl ?_
   refine wend ?_
   refine oneRegion ?_
   refine sM (iN i) rfl ?_
   refine sM (i64 ((wrW 256 o2.1))) rfl ?_
   refine sq (r_indexA (off' := i) (j := i) arr145 (b := b68) (off := 0) rfl rfl (by first | rfl | omega | (simp; omega)) (by omega) (by omega)) ?_
   refine d_store (k := 0) (v := i64 ((wrW 256 o2.1))) (cs' := (cel EI ((padW (List.replicate i (wrW 256 o2.1))).set i (wrW 256 o2.1))).toArray) HL2 rfl rfl rfl siz3 (by rfl) (by exact EI.one _) (by rw [List.size_toArray, cel_length]; show _ ≤ _ * 1; first | omega | (simp only [List.length_set]; omega) | exact bLe rfl | (simp <;> omega)) (by exact put1 (E := EI) rfl _ _ _) ?_
   intro w89 H90 hC91
   have H90' := H90.as (L' := [_, _, _, _, _]) rfl
   clear H90
   refine wnil ?_
   refine blockNormal ?_
   refine thenNormal ?_
   refine oneRegion ?_
   refine sq (r_addI (a := (i : Nat)) (b := (1 : Int)) rfl rfl (by omega)) ?_
   refine sM (i64 ((i : Nat) + (1 : Int))) rfl ?_
   refine wnil ?_
   refine thenNormal ?_
   rw [padW_rep (by omega)] at H90'
   exact ⟨i + 1, _, rfl, ⟨rfl, rfl, rfl, rfl, rfl, rfl, trivial⟩, ⟨by omega, H90'⟩, by show 64 - (i + 1) < 64 - i; omega⟩
  ·have hj : i = 64 := by omega
   rw [hj, padW_full List.length_replicate] at HL2
   refine exitAny ?_
   refine thenExit ?_
   refine thenExit ?_
   refine blockHere ?_
   refine thenNormal ?_
   refine oneRegion ?_
   refine sM (pT b5) rfl ?_
   refine sq (r_indexA (off' := 0) (j := 0) arr146 (b := b11) (off := 0) rfl rfl (by first | rfl | omega | (simp; omega)) (by omega) (by omega)) ?_
   refine sq ((r_loadA (cs' := (cel EI (((o1.2 ++ o2.2).drop 0).take 64)).toArray) agg145 siz145 (HL2.get (k := 3) rfl) (off := 0) rfl (by rw [List.size_toArray, cel_length]; show _ ≤ _ * 1; omega) (by exact ext_mid _ _ _ rfl)).as (v' := .agg (cel EI o1.2).toArray) (by exact congrArg (fun q => Value.agg (cel EI q).toArray) (first_of hl1.2))) ?_
   refine sq (r_indexA (off' := 64) (j := 1) arr146 (b := b11) (off := 0) rfl rfl (by first | rfl | omega | (simp; omega)) (by omega) (by omega)) ?_
   refine sq ((r_loadA (cs' := (cel EI (((o1.2 ++ o2.2).drop 64).take 64)).toArray) agg145 siz145 (HL2.get (k := 3) rfl) (off := 64) rfl (by rw [List.size_toArray, cel_length]; show _ ≤ _ * 1; omega) (by exact ext_mid _ _ _ rfl)).as (v' := .agg (cel EI o2.2).toArray) (by exact congrArg (fun q => Value.agg (cel EI q).toArray) (second_of hl1.2 hl2.2))) ?_
   have H92 := ((HL2.pick 5 [1, 2, 0, 3, 4] (by decide) (by decide))).as (L' := (_ :: _ :: [(re b68 EI (List.replicate 64 (wrW 256 o2.1)) 145), x6, x1])) rfl
   refine c_call (vs := [pT b5, .agg (cel EI o1.2).toArray, .agg (cel EI o2.2).toArray]) call55 rfl (mless_ok b5 256 key75 c76 sp77 (ze o2.1) hS85 (by omega) (by omega) o1.2 o2.2 (by omega) (by omega) [(re b68 EI (List.replicate 64 (wrW 256 o2.1)) 145), x6, x1] w w87 H92) ?_
   rintro wv101 w93 ⟨hwv102, key95, c96, sp97, hS98, HN99⟩
   obtain ⟨wx103, hwx103⟩ : ∃ q, q = (leG 256 (ze o2.1) o1.2 o2.2).2 := ⟨_, rfl⟩
   rw [← hwx103] at hwv102
   subst hwv102
   have H100 := HN99.as (L' := [_, _, _, _, _]) rfl
   refine sq (r_indexA (off' := 0) (j := 0) arr145 (b := b68) (off := 0) rfl rfl (by first | rfl | omega | (simp; omega)) (by omega) (by omega)) ?_
   refine d_store (k := 2) (v := i64 wx103) (cs' := (cel EI ((List.replicate 64 (wrW 256 o2.1)).set 0 wx103)).toArray) H100 rfl rfl rfl siz3 (by rfl) (by exact EI.one _) (by rw [List.size_toArray, cel_length]; show _ ≤ _ * 1; rw [List.length_replicate]; omega) (by exact put1 (E := EI) rfl _ _ _) ?_
   intro w104 H105 hC106
   have H105' := H105.as (L' := [_, _, _, _, _]) rfl
   clear H105
   subst hwx103
   rw [rep_set] at H105'
   have hrl : ((leG 256 (ze o2.1) o1.2 o2.2).2 :: List.replicate 63 (wrW 256 o2.1)).length = 64 := by rw [List.length_cons, List.length_replicate]
   refine wnil ?_
   refine blockNormal ?_
   refine thenNormal ?_
   refine sR ?_
   refine sM (pT b5) rfl ?_
   refine sq (r_sliceA0 arr145 (b := b68) (off := 0) rfl (bLe rfl)) ?_
   refine sq (r_nilCheck rfl) ?_
   refine sq (r_fieldAddr (off' := 0) fld143_0 (by decide) (b := b5) (off := 0) rfl (by omega)) ?_
   refine sq (r_fieldAddr (off' := 2) fld104_2 (by decide) (b := b5) (off := 0) rfl (by omega)) ?_
   refine d_store (k := 0) (v := .slice x3 64 64) (cs' := #[iN 256, .slice (ownA key95) (List.length ((leG 256 (ze o2.1) o1.2 o2.2).1)) c96, .slice x3 64 64]) H105' rfl rfl rfl siz100 (by rfl) (oneL rfl) (by exact bLe rfl) (by rfl) ?_
   intro w107 H108 hC109
   have H108' := H108.as (L' := [_, _, _, _, _]) rfl
   clear H108
   refine wS ?_
   refine sM (pT b5) rfl ?_
   refine sq (r_nilCheck rfl) ?_
   refine sq (r_fieldAddr (off' := 0) fld143_0 (by decide) (b := b5) (off := 0) rfl (by omega)) ?_
   refine sq (r_loadA (cs' := #[iN 256, .slice (ownA key95) (List.length ((leG 256 (ze o2.1) o1.2 o2.2).1)) c96, .slice x3 64 64]) agg104 siz104 (H108'.get (k := 0) rfl) (off := 0) rfl (by exact bLe rfl) (by rfl)) ?_
   refine d_store (k := 4) (v := .agg #[iN 256, .slice (ownA key95) (List.length ((leG 256 (ze o2.1) o1.2 o2.2).1)) c96, .slice x3 64 64]) (cs' := #[iN 256, .slice (ownA key95) (List.length ((leG 256 (ze o2.1) o1.2 o2.2).1)) c96, .slice x3 64 64]) H108' rfl rfl rfl siz104 (by rfl) (oneL rfl) (by exact bLe rfl) (by rfl) ?_
   intro w110 H111 hC112
   have H111' := H111.as (L' := [_, _, _, _, _]) rfl
   clear H111
   refine sA (.nilIface) rfl ?_
   refine wend ?_
   refine retAny ?_
   refine retG (rs := [.cell 4 104, .tmp 5]) (vs := [.agg #[iN 256, .slice (ownA key95) (List.length ((leG 256 (ze o2.1) o1.2 o2.2).1)) c96, .slice x3 64 64], .nilIface]) rfl ⟨r_loadA (cs' := #[iN 256, .slice (ownA key95) (List.length ((leG 256 (ze o2.1) o1.2 o2.2).1)) c96, .slice x3 64 64]) agg104 siz104 (H111'.get (k := 4) rfl) (off := 0) rfl (by exact bLe rfl) (by rfl), ⟨rfl, rfl⟩, trivial⟩ ?_
   rw [mk2_eq ho1 ho2]
   exact ⟨_, rfl, key95, c96, sp97, b68, rfl, hS98, (((H111'.dropk 4).dropk 3).dropk 0)⟩
set_option maxHeartbeats 8000000 in
theorem make_k3 (fm : BitVec 64) (hf : fm < 4#64) (w : World) : Calls Tryz.prog 35 [i64 (3 : Int), u64 fm].toArray w (Ret fun v w' => ∃ (key : Option Nat) (c : Nat) (sp : List Value) (b : Nat), v = .tuple #[.agg #[i64 ((256 : Nat) : Int), .slice (ownA key) (mk3 (fbS fm 0) (fbS fm 1)).1.length c, .slice (some ⟨b, 0, none⟩) 64 64], .nilIface] ∧ Sl EG key (mk3 (fbS fm 0) (fbS fm 1)).1 c sp ∧ Hp No w w' [(key, sob EG 154 (mk3 (fbS fm 0) (fbS fm 1)).1 sp), (re b EI (mk3 (fbS fm 0) (fbS fm 1)).2 145)]) := by
 let x7 : Array Value := #[iN 256, sN0, sN0]
 have H := Hp.start No w
 refine enter (n := 131) Tryz.func35 rfl rfl (bLe rfl) ?_
 refine sR ?_
 refine q_alloc (o := .cells #[i64 0, sN0, sN0] 104 (0, 0)) H zer104 (by kernel_rfl) ?_
 intro b1 w2 hb1 H3 hE4
 let x1 := rc b1 #[i64 0, sN0, sN0] 104
 refine sA (.nilIface) rfl ?_
 refine wS ?_
 refine sA (i64 2) rfl ?_
 refine wend ?_
 refine seqAny ?_
 refine sR ?_
 refine sM (i64 3) rfl ?_
 refine wend ?_
 refine blockAny ?_
 refine seqAny ?_
 refine blockAny ?_
 refine seqAny ?_
 refine blockAny ?_
 refine seqAny ?_
 refine blockAny ?_
 refine seqAny ?_
 refine seqAny ?_
 refine sR ?_
 refine sq ((r_eqlI (a := (3 : Int)) (b := (1 : Int)) rfl rfl).as (v' := .bool false) (by rfl)) ?_
 refine sA (.bool false) rfl ?_
 refine wend ?_
 refine condFalse rfl ?_
 refine skipAny ?_
 refine thenNormal ?_
 refine seqAny ?_
 refine sR ?_
 refine sq ((r_eqlI (a := (3 : Int)) (b := (2 : Int)) rfl rfl).as (v' := .bool false) (by rfl)) ?_
 refine sA (.bool false) rfl ?_
 refine wend ?_
 refine condFalse rfl ?_
 refine oneRegion ?_
 refine sq ((r_eqlI (a := (3 : Int)) (b := (3 : Int)) rfl rfl).as (v' := .bool true) (by rfl)) ?_
 refine sA (.bool true) rfl ?_
 refine wnil ?_
 refine thenNormal ?_
 refine condTrue rfl ?_
 refine exitAny ?_
 refine thenExit ?_
 refine blockOut rfl ?_
 refine thenExit ?_
 refine blockHere ?_
 refine thenNormal ?_
 refine sR ?_
 refine sM (u64 fm) rfl ?_
 refine sM (i64 2) rfl ?_
 refine sq (r_shl64 (a := 1#64) (c := 2) rfl rfl) ?_
 refine sq ((r_lss64 (a := fm) (b := (1#64) <<< (2 : Nat)) rfl rfl).as (v' := .bool true) (by exact congrArg Value.bool (decide_eq_true hf))) ?_
 refine wend ?_
 refine condTrue rfl ?_
 refine exitAny ?_
 refine blockOut rfl ?_
 refine thenExit ?_
 refine blockHere ?_
 refine thenNormal ?_
 refine sR ?_
 refine sM (i64 2) rfl ?_
 refine sq ((r_mulI (a := (128 : Int)) (b := (2 : Int)) rfl rfl (by omega)).as (v' := iN 256) (by rfl)) ?_
 refine sq (r_build (cs' := x7) (ps := [(0, iN 256)]) zer104 pls104 rfl (by rfl)) ?_
 refine sq (r_build (cs' := x7) (ps := [(0, .agg x7)]) zer143 pls143 rfl (by rfl)) ?_
 refine q_box (v := .agg x7) (o := .cells x7 143 (0, 0)) H3 rfl (by rfl) ?_
 intro b5 w6 hb5 H7 hE8
 refine sA (pT b5) rfl ?_
 have H9 := H7.nil (sob EG 154 [] [])
 have H10 := H9.as (L' := [_, _, _]) rfl
 refine wS ?_
 refine q_alloc (o := .cells (cel EI (List.replicate 128 0)).toArray 146 (0, 0)) H10 zer146 (by kernel_rfl) ?_
 intro b11 w12 hb11 H13 hE14
 rw [padX_nil] at H13
 refine wend ?_
 refine seqAny ?_
 refine sR ?_
 refine sM (i64 2) rfl ?_
 refine sM (i64 0) rfl ?_
 refine wend ?_
 refine blockAny ?_
 refine loopAny (σ := Nat × Option Nat × Nat × List Value) (fun (i, kz, cz, sz) => [(0, i64 3), (1, u64 fm), (4, pT b1), (7, pT b5), (8, pT b11), (36, i64 2), (37, iN i)]) (fun (i, kz, cz, sz) w' => (i ≤ 2 ∧ Sl EG kz (opsS 256 fm i).1 cz sz) ∧ Hp No w w' [(rc b5 #[iN 256, .slice (ownA kz) (List.length ((opsS 256 fm i).1)) cz, sN0] 143), (kz, sob EG 154 ((opsS 256 fm i).1) sz), (re b11 EI (padX ((opsS 256 fm i).2)) 146), x1]) (fun (i, kz, cz, sz) => 2 - i) ((0, none, 0, [])) ?_ ?_ ?_
 ·exact ⟨rfl, rfl, rfl, rfl, rfl, rfl, rfl, trivial⟩
 ·exact ⟨⟨by omega, Sl.none⟩, (H13.pick 4 [2, 1, 0, 3] (by decide) (by decide))⟩
 rintro ⟨i, kz, cz, sz⟩ ρ w15 ⟨⟨hq, hSz⟩, HL⟩
 let x6 : List Value := [pT b5, .agg (cel EI (inW (64 * (2 * i)) 64)).toArray, .agg (cel EI (inW (64 * (2 * i + 1)) 64)).toArray]
 have hol := opsS_len 256 fm i
 have hi1 := inW_len (64 * (2 * i)) 64
 have hi2 := inW_len (64 * (2 * i + 1)) 64
 have hpx : (padX (opsS 256 fm i).2).length = 128 := padX_len (by rw [hol.2]; omega)
 refine sR ?_
 refine sq (r_lssI (a := (i : Nat)) (b := (2 : Int)) rfl rfl) ?_
 refine wend ?_
 refine seqAny ?_
 refine condProp (((i : Nat) : Int) < (2 : Int)) rfl (fun c38 => ?_) (fun c38 => ?_)
 ·refine skipAny ?_
  refine thenNormal ?_
  refine seqAny ?_
  refine blockAny ?_
  refine sR ?_
  refine sM (iN i) rfl ?_
  refine sA (iN i) rfl ?_
  refine wS ?_
  refine sM (pT b5) rfl ?_
  refine sM (iN i) rfl ?_
  refine sq ((r_mulI (a := (2 : Int)) (b := (i : Nat)) rfl rfl (by omega)).as (v' := iN (2 * i)) (by exact congrArg i64 (by omega))) ?_
  refine c_call (vs := [pT b5, iN (2 * i)]) call51 rfl (input_ok b5 (2 * i) (by omega) w15) ?_
  rintro _ w17 ⟨rfl, hE18⟩
  have H19 := HL.ext hE18
  refine sM (pT b5) rfl ?_
  refine sM (iN i) rfl ?_
  refine sq ((r_mulI (a := (2 : Int)) (b := (i : Nat)) rfl rfl (by omega)).as (v' := iN (2 * i)) (by exact congrArg i64 (by omega))) ?_
  refine sq ((r_addI (a := ((2 * i) : Nat)) (b := (1 : Int)) rfl rfl (by omega)).as (v' := iN (2 * i + 1)) (by exact congrArg i64 (by omega))) ?_
  refine c_call (vs := [pT b5, iN (2 * i + 1)]) call51 rfl (input_ok b5 (2 * i + 1) (by omega) w17) ?_
  rintro _ w20 ⟨rfl, hE21⟩
  have H22 := H19.ext hE21
  refine q_alloc (o := .cells (cel EI (List.replicate 64 0)).toArray 145 (0, 0)) H22 zer145 (by kernel_rfl) ?_
  intro b23 w24 hb23 H25 hE26
  let x5 := re b23 EI (inW (64 * (2 * i)) 64) 145
  refine q_alloc (o := .cells (cel EI (List.replicate 64 0)).toArray 145 (0, 0)) H25 zer145 (by kernel_rfl) ?_
  intro b27 w28 hb27 H29 hE30
  let x3 := re b27 EI (inW (64 * (2 * i + 1)) 64) 145
  refine d_store (k := 1) (v := .agg (cel EI (inW (64 * (2 * i)) 64)).toArray) (cs' := (cel EI (inW (64 * (2 * i)) 64)).toArray) H29 rfl rfl rfl siz145 (by exact celSize (by rw [hi1]; rfl)) (by exact celOne _) (by rw [List.size_toArray, cel_length]; show _ ≤ _ * 1; first | omega | (simp only [List.length_set]; omega) | exact bLe rfl | (simp <;> omega)) (by exact putAll (by rw [List.length_replicate]; exact hi1.symm)) ?_
  intro w31 H32 hC33
  have H32' := H32.as (L' := [_, _, _, _, _, _]) rfl
  clear H32
  refine d_store (k := 0) (v := .agg (cel EI (inW (64 * (2 * i + 1)) 64)).toArray) (cs' := (cel EI (inW (64 * (2 * i + 1)) 64)).toArray) H32' rfl rfl rfl siz145 (by exact celSize (by rw [hi2]; rfl)) (by exact celOne _) (by rw [List.size_toArray, cel_length]; show _ ≤ _ * 1; first | omega | (simp only [List.length_set]; omega) | exact bLe rfl | (simp <;> omega)) (by exact putAll (by rw [List.length_replicate]; exact hi2.symm)) ?_
  intro w34 H35 hC36
  have H35' := H35.as (L' := [_, _, _, _, _, _]) rfl
  clear H35
  refine wS ?_
  refine sM (u64 fm) rfl ?_
  refine sM (iN i) rfl ?_
  refine sq (r_shr64 (a := fm) (c := i) rfl rfl) ?_
  refine sq (r_and64 (a := fm >>> (i : Nat)) (b := 1#64) rfl rfl) ?_
  refine sq (r_eql64 (a := (fm >>> (i : Nat)) &&& (1#64)) (b := 1#64) rfl rfl) ?_
  refine wend ?_
  refine condProp (((fm >>> (i : Nat)) &&& (1#64)) = (1#64)) rfl (fun c53 => ?_) (fun c53 => ?_)
  ·refine oneRegion ?_
   refine sM (iN i) rfl ?_
   refine sM (pT b5) rfl ?_
   refine sq (r_loadA (cs' := (cel EI (inW (64 * (2 * i)) 64)).toArray) agg145 siz145 (H35'.get (k := 1) rfl) (off := 0) rfl (by rw [List.size_toArray, cel_length]; show _ ≤ _ * 1; omega) (by exact ext_all (by rw [cel_length]; show _ * 1 = _; omega))) ?_
   refine sq (r_loadA (cs' := (cel EI (inW (64 * (2 * i + 1)) 64)).toArray) agg145 siz145 (H35'.get (k := 0) rfl) (off := 0) rfl (by rw [List.size_toArray, cel_length]; show _ ≤ _ * 1; omega) (by exact ext_all (by rw [cel_length]; show _ * 1 = _; omega))) ?_
   have H37 := ((H35'.pick 6 [2, 3, 0, 1, 4, 5] (by decide) (by decide))).as (L' := (_ :: _ :: _)) rfl
   refine c_call (vs := x6) call52 rfl (mxor_ok b5 256 kz cz sz ((opsS 256 fm i).1) hSz (by omega) (by omega) (inW (64 * (2 * i)) 64) (inW (64 * (2 * i + 1)) 64) (by omega) (by omega) [x3, x5, (re b11 EI (padX ((opsS 256 fm i).2)) 146), x1] w w34 H37) ?_
   rintro _ w38 ⟨rfl, key40, c41, sp42, hS43, HN44⟩
   have H45 := HN44.as (L' := [_, _, _, _, _, _]) rfl
   have hnr : (xoS 256 ((opsS 256 fm i).1) (inW (64 * (2 * i)) 64) (inW (64 * (2 * i + 1)) 64) 64).2.length = 64 := (xoS_len 256 ((opsS 256 fm i).1) (inW (64 * (2 * i)) 64) (inW (64 * (2 * i + 1)) 64) 64).2
   refine sq (r_indexA (off' := i * 64) (j := i) arr146 (b := b11) (off := 0) rfl rfl (by first | rfl | omega | (simp; omega)) (by omega) (by omega)) ?_
   refine d_store (k := 4) (v := .agg (cel EI ((xoS 256 ((opsS 256 fm i).1) (inW (64 * (2 * i)) 64) (inW (64 * (2 * i + 1)) 64) 64).2)).toArray) (cs' := (cel EI (padX ((opsS 256 fm i).2 ++ (xoS 256 ((opsS 256 fm i).1) (inW (64 * (2 * i)) 64) (inW (64 * (2 * i + 1)) 64) 64).2))).toArray) H45 rfl rfl rfl siz145 (by exact celSize (by rw [hnr]; rfl)) (by exact celOne _) (by rw [List.size_toArray, cel_length, padX_len (by rw [hol.2]; omega)]; show _ ≤ _ * 1; omega) (by exact padX_put (by rw [hol.2]; omega) (by rw [hol.2]; omega) (by first | exact hnr)) ?_
   intro w46 H47 hC48
   have H47' := H47.as (L' := [_, _, _, _, _, _]) rfl
   clear H47
   refine wnil ?_
   refine blockNormal ?_
   refine thenNormal ?_
   refine oneRegion ?_
   refine sq (r_addI (a := (i : Nat)) (b := (1 : Int)) rfl rfl (by omega)) ?_
   refine sM (i64 ((i : Nat) + (1 : Int))) rfl ?_
   refine wnil ?_
   refine thenNormal ?_
   have e49 : (xoS 256 ((opsS 256 fm i).1) (inW (64 * (2 * i)) 64) (inW (64 * (2 * i + 1)) 64) 64).1 = (opsS 256 fm (i + 1)).1 := by rw [opsS, opS_t c53]
   have hS50 := hS43
   rw [e49] at hS50
   have H51 : Hp No w w46 [(rc b5 #[iN 256, .slice (ownA key40) (List.length ((opsS 256 fm (i + 1)).1)) c41, sN0] 143), (key40, sob EG 154 ((opsS 256 fm (i + 1)).1) sp42), x3, x5, (re b11 EI (padX ((opsS 256 fm i).2 ++ (xoS 256 ((opsS 256 fm i).1) (inW (64 * (2 * i)) 64) (inW (64 * (2 * i + 1)) 64) 64).2)) 146), x1] := by rw [← e49]; exact H47'
   rw [show (opsS 256 fm i).2 ++ (xoS 256 ((opsS 256 fm i).1) (inW (64 * (2 * i)) 64) (inW (64 * (2 * i + 1)) 64) 64).2 = (opsS 256 fm (i + 1)).2 from by rw [opsS, opS_t c53]] at H51
   exact ⟨(i + 1, key40, c41, sp42), _, rfl, ⟨rfl, rfl, rfl, rfl, rfl, rfl, rfl, trivial⟩, ⟨⟨by omega, hS50⟩, ((H51.dropk 3).dropk 2)⟩, by show 2 - (i + 1) < 2 - i; omega⟩
  ·refine oneRegion ?_
   refine sM (iN i) rfl ?_
   refine sM (pT b5) rfl ?_
   refine sq (r_loadA (cs' := (cel EI (inW (64 * (2 * i)) 64)).toArray) agg145 siz145 (H35'.get (k := 1) rfl) (off := 0) rfl (by rw [List.size_toArray, cel_length]; show _ ≤ _ * 1; omega) (by exact ext_all (by rw [cel_length]; show _ * 1 = _; omega))) ?_
   refine sq (r_loadA (cs' := (cel EI (inW (64 * (2 * i + 1)) 64)).toArray) agg145 siz145 (H35'.get (k := 0) rfl) (off := 0) rfl (by rw [List.size_toArray, cel_length]; show _ ≤ _ * 1; omega) (by exact ext_all (by rw [cel_length]; show _ * 1 = _; omega))) ?_
   have H52 := ((H35'.pick 6 [2, 3, 0, 1, 4, 5] (by decide) (by decide))).as (L' := (_ :: _ :: _)) rfl
   refine c_call (vs := x6) call53 rfl (madd_ok b5 256 kz cz sz ((opsS 256 fm i).1) hSz (by omega) (by omega) (inW (64 * (2 * i)) 64) (inW (64 * (2 * i + 1)) 64) (by omega) (by omega) [x3, x5, (re b11 EI (padX ((opsS 256 fm i).2)) 146), x1] w w34 H52) ?_
   rintro _ w53 ⟨rfl, key55, c56, sp57, hS58, HN59⟩
   have H60 := HN59.as (L' := [_, _, _, _, _, _]) rfl
   have hnr : (adS 256 ((opsS 256 fm i).1) (inW (64 * (2 * i)) 64) (inW (64 * (2 * i + 1)) 64) 63).2.1.length = 64 := (adS_len 256 ((opsS 256 fm i).1) (inW (64 * (2 * i)) 64) (inW (64 * (2 * i + 1)) 64) 63).2
   refine sq (r_indexA (off' := i * 64) (j := i) arr146 (b := b11) (off := 0) rfl rfl (by first | rfl | omega | (simp; omega)) (by omega) (by omega)) ?_
   refine d_store (k := 4) (v := .agg (cel EI ((adS 256 ((opsS 256 fm i).1) (inW (64 * (2 * i)) 64) (inW (64 * (2 * i + 1)) 64) 63).2.1)).toArray) (cs' := (cel EI (padX ((opsS 256 fm i).2 ++ (adS 256 ((opsS 256 fm i).1) (inW (64 * (2 * i)) 64) (inW (64 * (2 * i + 1)) 64) 63).2.1))).toArray) H60 rfl rfl rfl siz145 (by exact celSize (by rw [hnr]; rfl)) (by exact celOne _) (by rw [List.size_toArray, cel_length, padX_len (by rw [hol.2]; omega)]; show _ ≤ _ * 1; omega) (by exact padX_put (by rw [hol.2]; omega) (by rw [hol.2]; omega) (by first | exact hnr)) ?_
   intro w61 H62 hC63
   have H62' := H62.as (L' := [_, _, _, _, _, _]) rfl
   clear H62
   refine wnil ?_
   refine blockNormal ?_
   refine thenNormal ?_
   refine oneRegion ?_
   refine sq (r_addI (a := (i : Nat)) (b := (1 : Int)) rfl rfl (by omega)) ?_
   refine sM (i64 ((i : Nat) + (1 : Int))) rfl ?_
   refine wnil ?_
   refine thenNormal ?_
   have e64 : (adS 256 ((opsS 256 fm i).1) (inW (64 * (2 * i)) 64) (inW (64 * (2 * i + 1)) 64) 63).1 = (opsS 256 fm (i + 1)).1 := by rw [opsS, opS_f c53]
   have hS65 := hS58
   rw [e64] at hS65
   have H66 : Hp No w w61 [(rc b5 #[iN 256, .slice (ownA key55) (List.length ((opsS 256 fm (i + 1)).1)) c56, sN0] 143), (key55, sob EG 154 ((opsS 256 fm (i + 1)).1) sp57), x3, x5, (re b11 EI (padX ((opsS 256 fm i).2 ++ (adS 256 ((opsS 256 fm i).1) (inW (64 * (2 * i)) 64) (inW (64 * (2 * i + 1)) 64) 63).2.1)) 146), x1] := by rw [← e64]; exact H62'
   rw [show (opsS 256 fm i).2 ++ (adS 256 ((opsS 256 fm i).1) (inW (64 * (2 * i)) 64) (inW (64 * (2 * i + 1)) 64) 63).2.1 = (opsS 256 fm (i + 1)).2 from by rw [opsS, opS_f c53]] at H66
   exact ⟨(i + 1, key55, c56, sp57), _, rfl, ⟨rfl, rfl, rfl, rfl, rfl, rfl, rfl, trivial⟩, ⟨⟨by omega, hS65⟩, ((H66.dropk 3).dropk 2)⟩, by show 2 - (i + 1) < 2 - i; omega⟩
 ·have hie : i = 2 := by omega
  rw [hie, opsS_two] at HL hSz hol
  obtain ⟨o1, ho1⟩ : ∃ q, q = opS 256 [] 0 64 (fbS fm 0) := ⟨_, rfl⟩
  rw [← ho1] at HL hSz hol
  have hl1 := opS_len 256 [] 0 64 (fbS fm 0)
  rw [← ho1] at hl1
  obtain ⟨o2, ho2⟩ : ∃ q, q = opS 256 o1.1 128 192 (fbS fm 1) := ⟨_, rfl⟩
  rw [← ho2] at HL hSz hol
  have hl2 := opS_len 256 o1.1 128 192 (fbS fm 1)
  rw [← ho2] at hl2
  rw [padX_full (by rw [List.length_append]; omega)] at HL
  simp only [List.length_nil] at hl1
  dsimp only at HL hSz
  have H67 := HL.as (L' := [_, _, _, _]) rfl
  have hpx : (o1.2 ++ o2.2).length = 128 := by rw [List.length_append]; omega
  refine exitAny ?_
  refine thenExit ?_
  refine thenExit ?_
  refine blockHere ?_
  refine thenNormal ?_
  refine sR ?_
  refine q_alloc (o := .cells (cel EI (List.replicate 64 0)).toArray 145 (0, 0)) H67 zer145 (by kernel_rfl) ?_
  intro b68 w69 hb68 H70 hE71
  let x4 : Option Addr := some ⟨b68, 0, none⟩
  refine wend ?_
  refine seqAny ?_
  refine sR ?_
  refine sM (pT b5) rfl ?_
  have H72 := ((H70.pick 5 [1, 2, 0, 3, 4] (by decide) (by decide))).as (L' := (_ :: _ :: [(re b68 EI (List.replicate 64 0) 145), (re b11 EI (o1.2 ++ o2.2) 146), x1])) rfl
  refine c_call (vs := [pT b5, i64 1, i64 0, i64 0]) call54 rfl (gate_ok b5 256 kz cz sz o2.1 hSz (by omega) (by omega) (1 : Int) (0 : Int) (0 : Int) [(re b68 EI (List.replicate 64 0) 145), (re b11 EI (o1.2 ++ o2.2) 146), x1] w w69 H72) ?_
  rintro wv81 w73 ⟨hwv82, key75, c76, sp77, hS78, HN79⟩
  obtain ⟨wx83, hwx83⟩ : ∃ q, q = wrW 256 o2.1 := ⟨_, rfl⟩
  let x2 := re b11 EI (o1.2 ++ o2.2) 146
  rw [← hwx83] at hwv82
  subst hwv82
  have H80 := HN79.as (L' := [_, _, _, _, _]) rfl
  refine sA (i64 wx83) rfl ?_
  subst hwx83
  have e84 : o2.1 ++ [(⟨(1 : Int), (0 : Int), (0 : Int)⟩ : Gt)] = ze o2.1 := by rfl
  have hS85 := hS78
  rw [e84] at hS85
  have H86 : Hp No w w73 [(rc b5 #[iN 256, .slice (ownA key75) (List.length (ze o2.1)) c76, sN0] 143), (key75, sob EG 154 (ze o2.1) sp77), (re b68 EI (List.replicate 64 0) 145), x2, x1] := by rw [← e84]; exact H80
  have hzl : (ze o2.1).length = o2.1.length + 1 := by simp [ze]
  refine wS ?_
  refine sM (i64 3) rfl ?_
  refine wend ?_
  refine blockAny ?_
  refine sR ?_
  refine sq ((r_eqlI (a := (3 : Int)) (b := (1 : Int)) rfl rfl).as (v' := .bool false) (by rfl)) ?_
  refine sA (.bool false) rfl ?_
  refine wend ?_
  refine condFalse rfl ?_
  refine sR ?_
  refine sq ((r_eqlI (a := (3 : Int)) (b := (2 : Int)) rfl rfl).as (v' := .bool false) (by rfl)) ?_
  refine sA (.bool false) rfl ?_
  refine wend ?_
  refine condFalse rfl ?_
  refine sR ?_
  refine sq ((r_eqlI (a := (3 : Int)) (b := (3 : Int)) rfl rfl).as (v' := .bool true) (by rfl)) ?_
  refine sA (.bool true) rfl ?_
  refine wend ?_
  refine condTrue rfl ?_
  refine drawC (m := 13) [0, 0, 0, 4, 0, 16, 62, 0, 128, 0, 512, 2047, 4095] [6, 11, 12] (fun q vs w' => match q, vs with | 0, [] => Hp No w w' [(rc b5 #[iN 256, .slice (ownA key75) (List.length (ze o2.1)) c76, sN0] 143), (key75, sob EG 154 (ze o2.1) sp77), (re b68 EI (List.replicate 64 0) 145), x2, x1] | 1, [v0] => ∃ (wx101 : Int) (key93 : Option Nat) (c94 : Nat) (sp95 : List Value), v0 = i64 wx101 ∧ Sl EG key93 ((leG 256 (ze o2.1) o1.2 o2.2).1) c94 sp95 ∧ wx101 = (leG 256 (ze o2.1) o1.2 o2.2).2 ∧ Hp No w w' [(rc b5 #[iN 256, .slice (ownA key93) (List.length ((leG 256 (ze o2.1) o1.2 o2.2).1)) c94, sN0] 143), (key93, sob EG 154 ((leG 256 (ze o2.1) o1.2 o2.2).1) sp95), (re b68 EI (List.replicate 64 0) 145), x2, x1] | 2, [v0, v1] => ∃ (wx101 : Int) (key108 : Option Nat) (c109 : Nat) (sp110 : List Value), v0 = i64 wx101 ∧ v1 = .agg (cel EI ((piS 256 ((leG 256 (ze o2.1) o1.2 o2.2).1) wx101 o2.2 o1.2 64).2)).toArray ∧ Sl EG key108 ((piS 256 ((leG 256 (ze o2.1) o1.2 o2.2).1) wx101 o2.2 o1.2 64).1) c109 sp110 ∧ wx101 = (leG 256 (ze o2.1) o1.2 o2.2).2 ∧ Hp No w w' [(rc b5 #[iN 256, .slice (ownA key108) (List.length ((piS 256 ((leG 256 (ze o2.1) o1.2 o2.2).1) wx101 o2.2 o1.2 64).1)) c109, sN0] 143), (key108, sob EG 154 ((piS 256 ((leG 256 (ze o2.1) o1.2 o2.2).1) wx101 o2.2 o1.2 64).1) sp110), (re b68 EI (List.replicate 64 0) 145), x2, x1] | 3, [v0, v1, _] => ∃ (wx101 : Int) (key108 : Option Nat) (c109 : Nat) (sp110 : List Value), v0 = i64 wx101 ∧ v1 = .agg (cel EI ((piS 256 ((leG 256 (ze o2.1) o1.2 o2.2).1) wx101 o2.2 o1.2 64).2)).toArray ∧ True ∧ Sl EG key108 ((piS 256 ((leG 256 (ze o2.1) o1.2 o2.2).1) wx101 o2.2 o1.2 64).1) c109 sp110 ∧ wx101 = (leG 256 (ze o2.1) o1.2 o2.2).2 ∧ Hp No w w' [(rc b5 #[iN 256, .slice (ownA key108) (List.length ((piS 256 ((leG 256 (ze o2.1) o1.2 o2.2).1) wx101 o2.2 o1.2 64).1)) c109, sN0] 143), (key108, sob EG 154 ((piS 256 ((leG 256 (ze o2.1) o1.2 o2.2).1) wx101 o2.2 o1.2 64).1) sp110), (re b68 EI ((piS 256 ((leG 256 (ze o2.1) o1.2 o2.2).1) wx101 o2.2 o1.2 64).2) 145), x2, x1] | _, _ => False) mixed (by kernel_rfl) (by kernel_rfl) H86.drew ?_
  refine WalkC.look rfl (fun _ => pT b5) (fun _ _ _ => rfl) (fun q r uw _ _ _ _ => Gives.run rfl (r_move (v := pT b5) rfl) ⟨rfl, rfl⟩) ?_
  refine WalkC.look rfl (fun _ => pT b5) (fun _ _ _ => rfl) (fun q r uw _ _ _ _ => Gives.run rfl (r_move (v := pT b5) rfl) ⟨rfl, rfl⟩) ?_
  refine WalkC.look rfl (fun _ => pT b11) (fun _ _ _ => rfl) (fun q r uw _ _ _ _ => Gives.run rfl (r_indexA (off' := 0) (j := 0) arr146 (b := b11) (off := 0) rfl rfl (by first | rfl | omega | (simp; omega)) (by omega) (by omega)) ⟨rfl, rfl⟩) ?_
  refine WalkC.look rfl (fun _ => .agg (cel EI o1.2).toArray) (fun _ _ _ => rfl) (fun q r uw hlo hhi hle hF => ?_) ?_
  ·have h1 : 0 ≤ q := Nat.zero_le _
   have h2 : q ≤ 0 := hhi 0 6 rfl rfl
   rcases (show q = 0 by omega) with rfl
   ·have HH := hF
    exact Gives.run rfl ((r_loadA (cs' := (cel EI (((o1.2 ++ o2.2).drop 0).take 64)).toArray) agg145 siz145 (HH.get (k := 3) rfl) (off := 0) rfl (by rw [List.size_toArray, cel_length]; show _ ≤ _ * 1; omega) (by exact ext_mid _ _ _ rfl)).as (v' := .agg (cel EI o1.2).toArray) (by exact congrArg (fun q => Value.agg (cel EI q).toArray) (first_of hl1.2))) ⟨rfl, rfl⟩
  refine WalkC.look rfl (fun _ => .pointer (some ⟨b11, 64, none⟩)) (fun _ _ _ => rfl) (fun q r uw _ _ _ _ => Gives.run rfl (r_indexA (off' := 64) (j := 1) arr146 (b := b11) (off := 0) rfl rfl (by first | rfl | omega | (simp; omega)) (by omega) (by omega)) ⟨rfl, rfl⟩) ?_
  refine WalkC.look rfl (fun _ => .agg (cel EI o2.2).toArray) (fun _ _ _ => rfl) (fun q r uw hlo hhi hle hF => ?_) ?_
  ·have h1 : 0 ≤ q := Nat.zero_le _
   have h2 : q ≤ 0 := hhi 0 6 rfl rfl
   rcases (show q = 0 by omega) with rfl
   ·have HH := hF
    exact Gives.run rfl ((r_loadA (cs' := (cel EI (((o1.2 ++ o2.2).drop 64).take 64)).toArray) agg145 siz145 (HH.get (k := 3) rfl) (off := 64) rfl (by rw [List.size_toArray, cel_length]; show _ ≤ _ * 1; omega) (by exact ext_mid _ _ _ rfl)).as (v' := .agg (cel EI o2.2).toArray) (by exact congrArg (fun q => Value.agg (cel EI q).toArray) (second_of hl1.2 hl2.2))) ⟨rfl, rfl⟩
  refine WalkC.eff 0 rfl (fun r uw87 hF89 => ?_) ?_
  ·have H88 := hF89
   dsimp only [List.take, List.map, List.cons_append, List.nil_append]
   refine Gives.ofW (d := 116) rfl rfl (fun Q' hK => ?_)
   have H90 := H88.as (L' := (_ :: _ :: [(re b68 EI (List.replicate 64 0) 145), x2, x1])) rfl
   refine c_call (vs := [pT b5, .agg (cel EI o1.2).toArray, .agg (cel EI o2.2).toArray]) call55 rfl (mless_ok b5 256 key75 c76 sp77 (ze o2.1) hS85 (by omega) (by omega) o1.2 o2.2 (by omega) (by omega) [(re b68 EI (List.replicate 64 0) 145), x2, x1] w uw87 H90) ?_
   rintro wv99 w91 ⟨hwv100, key93, c94, sp95, hS96, HN97⟩
   obtain ⟨wx101, hwx101⟩ : ∃ q, q = (leG 256 (ze o2.1) o1.2 o2.2).2 := ⟨_, rfl⟩
   rw [← hwx101] at hwv100
   subst hwv100
   have H98 := HN97.as (L' := [_, _, _, _, _]) rfl
   exact hK _ _ ⟨wx101, key93, c94, sp95, rfl, hS96, hwx101, H98⟩
  refine WalkC.look rfl (fun _ => .pointer (some ⟨b11, 64, none⟩)) (fun _ _ _ => rfl) (fun q r uw _ _ _ _ => Gives.run rfl (r_indexA (off' := 64) (j := 1) arr146 (b := b11) (off := 0) rfl rfl (by first | rfl | omega | (simp; omega)) (by omega) (by omega)) ⟨rfl, rfl⟩) ?_
  refine WalkC.look rfl (fun _ => .agg (cel EI o2.2).toArray) (fun _ _ _ => rfl) (fun q r uw hlo hhi hle hF => ?_) ?_
  ·have h1 : 0 ≤ q := Nat.zero_le _
   have h2 : q ≤ 1 := hhi 1 11 rfl rfl
   rcases (show q = 0 ∨ q = 1 by omega) with rfl | rfl
   ·have HH := hF
    exact Gives.run rfl ((r_loadA (cs' := (cel EI (((o1.2 ++ o2.2).drop 64).take 64)).toArray) agg145 siz145 (HH.get (k := 3) rfl) (off := 64) rfl (by rw [List.size_toArray, cel_length]; show _ ≤ _ * 1; omega) (by exact ext_mid _ _ _ rfl)).as (v' := .agg (cel EI o2.2).toArray) (by exact congrArg (fun q => Value.agg (cel EI q).toArray) (second_of hl1.2 hl2.2))) ⟨rfl, rfl⟩
   ·obtain ⟨wx101, key93, c94, sp95, e6, hS96, hwx101, HH⟩ := hF
    exact Gives.run rfl ((r_loadA (cs' := (cel EI (((o1.2 ++ o2.2).drop 64).take 64)).toArray) agg145 siz145 (HH.get (k := 3) rfl) (off := 64) rfl (by rw [List.size_toArray, cel_length]; show _ ≤ _ * 1; omega) (by exact ext_mid _ _ _ rfl)).as (v' := .agg (cel EI o2.2).toArray) (by exact congrArg (fun q => Value.agg (cel EI q).toArray) (second_of hl1.2 hl2.2))) ⟨rfl, rfl⟩
  refine WalkC.look rfl (fun _ => pT b11) (fun _ _ _ => rfl) (fun q r uw _ _ _ _ => Gives.run rfl (r_indexA (off' := 0) (j := 0) arr146 (b := b11) (off := 0) rfl rfl (by first | rfl | omega | (simp; omega)) (by omega) (by omega)) ⟨rfl, rfl⟩) ?_
  refine WalkC.look rfl (fun _ => .agg (cel EI o1.2).toArray) (fun _ _ _ => rfl) (fun q r uw hlo hhi hle hF => ?_) ?_
  ·have h1 : 0 ≤ q := Nat.zero_le _
   have h2 : q ≤ 1 := hhi 1 11 rfl rfl
   rcases (show q = 0 ∨ q = 1 by omega) with rfl | rfl
   ·have HH := hF
    exact Gives.run rfl ((r_loadA (cs' := (cel EI (((o1.2 ++ o2.2).drop 0).take 64)).toArray) agg145 siz145 (HH.get (k := 3) rfl) (off := 0) rfl (by rw [List.size_toArray, cel_length]; show _ ≤ _ * 1; omega) (by exact ext_mid _ _ _ rfl)).as (v' := .agg (cel EI o1.2).toArray) (by exact congrArg (fun q => Value.agg (cel EI q).toArray) (first_of hl1.2))) ⟨rfl, rfl⟩
   ·obtain ⟨wx101, key93, c94, sp95, e6, hS96, hwx101, HH⟩ := hF
    exact Gives.run rfl ((r_loadA (cs' := (cel EI (((o1.2 ++ o2.2).drop 0).take 64)).toArray) agg145 siz145 (HH.get (k := 3) rfl) (off := 0) rfl (by rw [List.size_toArray, cel_length]; show _ ≤ _ * 1; omega) (by exact ext_mid _ _ _ rfl)).as (v' := .agg (cel EI o1.2).toArray) (by exact congrArg (fun q => Value.agg (cel EI q).toArray) (first_of hl1.2))) ⟨rfl, rfl⟩
  refine WalkC.eff 1 rfl (fun r uw102 hF104 => ?_) ?_
  ·obtain ⟨wx101, key93, c94, sp95, e6, hS96, hwx101, H103⟩ := hF104
   dsimp only [List.take, List.map, List.cons_append, List.nil_append]
   rw [e6]
   refine Gives.ofW (d := 121) rfl rfl (fun Q' hK => ?_)
   have hlg := leG_len 256 (ze o2.1) o1.2 o2.2
   have H105 := H103.as (L' := (_ :: _ :: [(re b68 EI (List.replicate 64 0) 145), x2, x1])) rfl
   refine c_call (vs := [pT b5, i64 wx101, .agg (cel EI o2.2).toArray, .agg (cel EI o1.2).toArray]) call56 rfl (mpick_ok b5 256 key93 c94 sp95 ((leG 256 (ze o2.1) o1.2 o2.2).1) hS96 (by omega) (by omega) wx101 o2.2 o1.2 (by omega) (by omega) [(re b68 EI (List.replicate 64 0) 145), x2, x1] w uw102 H105) ?_
   rintro _ w106 ⟨rfl, key108, c109, sp110, hS111, HN112⟩
   have H113 := HN112.as (L' := [_, _, _, _, _]) rfl
   exact hK _ _ ⟨wx101, key108, c109, sp110, rfl, rfl, hS111, hwx101, H113⟩
  refine WalkC.eff 2 rfl (fun r uw114 hF116 => ?_) ?_
  ·obtain ⟨wx101, key108, c109, sp110, e6, e11, hS111, hwx101, H115⟩ := hF116
   dsimp only [List.take, List.map, List.cons_append, List.nil_append]
   rw [e6, e11]
   refine Gives.ofW0 rfl (fun Q' hK => ?_)
   have hnr : ((piS 256 ((leG 256 (ze o2.1) o1.2 o2.2).1) wx101 o2.2 o1.2 64).2).length = 64 := (piS_len _ _ _ _ _ _).2
   refine d_store (k := 2) (v := .agg (cel EI ((piS 256 ((leG 256 (ze o2.1) o1.2 o2.2).1) wx101 o2.2 o1.2 64).2)).toArray) (cs' := (cel EI ((piS 256 ((leG 256 (ze o2.1) o1.2 o2.2).1) wx101 o2.2 o1.2 64).2)).toArray) H115 rfl rfl rfl siz145 (by exact celSize (by rw [hnr]; rfl)) (by exact celOne _) (by rw [List.size_toArray, cel_length]; show _ ≤ _ * 1; first | omega | (simp only [List.length_set]; omega) | exact bLe rfl | (simp <;> omega)) (by exact putAll (by rw [List.length_replicate]; exact hnr.symm)) ?_
   intro w117 H118 hC119
   have H118' := H118.as (L' := [_, _, _, _, _]) rfl
   clear H118
   exact hK _ (fun _ => ⟨wx101, key108, c109, sp110, rfl, rfl, trivial, hS111, hwx101, H118'⟩)
  refine WalkC.nil ?_
  intro r120 w121 hF123
  obtain ⟨wx101, key108, c109, sp110, e6, e11, e12, hS111, hwx101, H122⟩ := hF123
  dsimp only
  rw [e6, e11]
  subst hwx101
  have hrl : (piS 256 (leG 256 (ze o2.1) o1.2 o2.2).1 (leG 256 (ze o2.1) o1.2 o2.2).2 o2.2 o1.2 64).2.length = 64 := (piS_len _ _ _ _ _ _).2
  refine wnil ?_
  refine blockNormal ?_
  refine thenNormal ?_
  refine sR ?_
  refine sM (pT b5) rfl ?_
  refine sq (r_sliceA0 arr145 (b := b68) (off := 0) rfl (bLe rfl)) ?_
  refine sq (r_nilCheck rfl) ?_
  refine sq (r_fieldAddr (off' := 0) fld143_0 (by decide) (b := b5) (off := 0) rfl (by omega)) ?_
  refine sq (r_fieldAddr (off' := 2) fld104_2 (by decide) (b := b5) (off := 0) rfl (by omega)) ?_
  refine d_store (k := 0) (v := .slice x4 64 64) (cs' := #[iN 256, .slice (ownA key108) (List.length ((piS 256 ((leG 256 (ze o2.1) o1.2 o2.2).1) ((leG 256 (ze o2.1) o1.2 o2.2).2) o2.2 o1.2 64).1)) c109, .slice x4 64 64]) H122 rfl rfl rfl siz100 (by rfl) (oneL rfl) (by exact bLe rfl) (by rfl) ?_
  intro w124 H125 hC126
  have H125' := H125.as (L' := [_, _, _, _, _]) rfl
  clear H125
  refine wS ?_
  refine sM (pT b5) rfl ?_
  refine sq (r_nilCheck rfl) ?_
  refine sq (r_fieldAddr (off' := 0) fld143_0 (by decide) (b := b5) (off := 0) rfl (by omega)) ?_
  refine sq (r_loadA (cs' := #[iN 256, .slice (ownA key108) (List.length ((piS 256 ((leG 256 (ze o2.1) o1.2 o2.2).1) ((leG 256 (ze o2.1) o1.2 o2.2).2) o2.2 o1.2 64).1)) c109, .slice x4 64 64]) agg104 siz104 (H125'.get (k := 0) rfl) (off := 0) rfl (by exact bLe rfl) (by rfl)) ?_
  refine d_store (k := 4) (v := .agg #[iN 256, .slice (ownA key108) (List.length ((piS 256 ((leG 256 (ze o2.1) o1.2 o2.2).1) ((leG 256 (ze o2.1) o1.2 o2.2).2) o2.2 o1.2 64).1)) c109, .slice x4 64 64]) (cs' := #[iN 256, .slice (ownA key108) (List.length ((piS 256 ((leG 256 (ze o2.1) o1.2 o2.2).1) ((leG 256 (ze o2.1) o1.2 o2.2).2) o2.2 o1.2 64).1)) c109, .slice x4 64 64]) H125' rfl rfl rfl siz104 (by rfl) (oneL rfl) (by exact bLe rfl) (by rfl) ?_
  intro w127 H128 hC129
  have H128' := H128.as (L' := [_, _, _, _, _]) rfl
  clear H128
  refine sA (.nilIface) rfl ?_
  refine wend ?_
  refine retAny ?_
  refine retG (rs := [.cell 4 104, .tmp 5]) (vs := [.agg #[iN 256, .slice (ownA key108) (List.length ((piS 256 ((leG 256 (ze o2.1) o1.2 o2.2).1) ((leG 256 (ze o2.1) o1.2 o2.2).2) o2.2 o1.2 64).1)) c109, .slice x4 64 64], .nilIface]) rfl ⟨r_loadA (cs' := #[iN 256, .slice (ownA key108) (List.length ((piS 256 ((leG 256 (ze o2.1) o1.2 o2.2).1) ((leG 256 (ze o2.1) o1.2 o2.2).2) o2.2 o1.2 64).1)) c109, .slice x4 64 64]) agg104 siz104 (H128'.get (k := 4) rfl) (off := 0) rfl (by exact bLe rfl) (by rfl), ⟨rfl, rfl⟩, trivial⟩ ?_
  rw [mk3_eq ho1 ho2]
  exact ⟨_, rfl, key108, c109, sp110, b68, rfl, hS111, (((H128'.dropk 4).dropk 3).dropk 0)⟩
end Go.Proofs.YtohngnahcgbfmaaGreatDoor.Cm
