/- The walks of the stocks. -/
import Derived.Test.YteofdmdpaejgaaaDoorCorr2
namespace Go.Proofs.YteofdmdpaejgaaaDoor.Co
open Go Go.Proofs.YteofdmdpaejgaaaDoor.Vc Go.Proofs.YteofdmdpaejgaaaDoor.Er
set_option linter.unusedVariables false
theorem call16 : callable Tryd.prog 16 = true := by kernel_rfl
theorem call17 : callable Tryd.prog 17 = true := by kernel_rfl
theorem call18 : callable Tryd.prog 18 = true := by kernel_rfl
theorem call24 : callable Tryd.prog 24 = true := by kernel_rfl
theorem gty34 : Tryd.prog.eqGuardType Tryd.prog.depth 34 = false := by kernel_rfl
theorem gty41 : Tryd.prog.eqGuardType Tryd.prog.depth 41 = false := by kernel_rfl
theorem isI27 : isI Tryd.prog 27 = true := by kernel_rfl
theorem sli22 : sli Tryd.prog 22 = some (32, 1) := by kernel_rfl
theorem und24 : Tryd.prog.underlying 24 = some (.pointer 135) := by kernel_rfl
theorem und32 : Tryd.prog.underlying 32 = some (.int .u64) := by kernel_rfl
theorem und38 : Tryd.prog.underlying 38 = some (.array 2 32) := by kernel_rfl
theorem und39 : Tryd.prog.underlying 39 = some (.array 2 38) := by kernel_rfl
theorem zer32 : zer Tryd.prog 32 = some (.int .u64 0) := by kernel_rfl
theorem sameU (T : TypeId) (h : Tryd.prog.underlying T = some (.int .u64)) (a : BitVec 64) (w : World) : (Op.equalIn 9999 T (u64 a) (u64 a)).run Tryd.prog w = .ok true w := by
  have := run_equalIn_int (P := Tryd.prog) w 9998 T .u64 .u64 (a.toNat : Int) (a.toNat : Int) h
  show (Op.equalIn 9999 T (.int .u64 (a.toNat : Int)) (.int .u64 (a.toNat : Int))).run Tryd.prog w = _
  simpa using this
theorem sameTr (a b c : BitVec 64) (w : World) : (Op.equalIn 10000 34 (.agg #[u64 a, u64 b, u64 c]) (.agg #[u64 a, u64 b, u64 c])).run Tryd.prog w = .ok true w := by
  have h := fun x w => sameU 32 Tryd.underlying32 x w
  simp only [u64] at h
  rw [run_equalIn_agg _ _ _ _ _ (by kernel_rfl) (by kernel_rfl)]
  simp [Program.fieldsOf, Tryd.underlying34, Op.eqFields, part, u64, h, Result.andThen_ok]
theorem fitsLb : Fits Tryd.prog 38 ELb := ⟨by kernel_rfl, .inr ⟨by kernel_rfl, fun _ => rfl⟩⟩
theorem eqLb (d : Nat) : Vc.EqAt Tryd.prog (d + 2) 38 ELb := fun a b w h => by
  have h1 := run_equalArr (d := d + 1) (E := E64) und38 fits32 (eqAt64 und32) [a.1, a.2] [b.1, b.2] rfl rfl w
  have e1 : ∀ x : BitVec 64 × BitVec 64, ELb.val x = .agg (cel E64 [x.1, x.2]).toArray := fun _ => rfl
  rw [e1, e1, h1]
  refine congrArg (fun x => Result.ok x w) (decide_eq_decide.2 ?_)
  obtain ⟨a1, a2⟩ := a
  obtain ⟨b1, b2⟩ := b
  simp
theorem sameOt (p q r s : BitVec 64) (c : Bool) (w : World) : (Op.equalIn 10000 41 (.agg #[u64 p, u64 q, u64 r, u64 s, .bool c]) (.agg #[u64 p, u64 q, u64 r, u64 s, .bool c])).run Tryd.prog w = .ok true w := by
  have h1 := fun w => run_equalArr (d := 9998) (E := ELb) und39 fitsLb (eqLb 9996) [(p, q), (r, s)] [(p, q), (r, s)] rfl rfl w
  have e1 : (cel ELb [(p, q), (r, s)]).toArray = #[u64 p, u64 q, u64 r, u64 s] := rfl
  simp only [e1, u64] at h1
  have h2 := fun w => run_equalIn_bool (P := Tryd.prog) w 9998 4 c c Tryd.underlying4
  rw [run_equalIn_agg _ _ _ _ _ (by kernel_rfl) (by kernel_rfl)]
  simp [Program.fieldsOf, Tryd.underlying41, Op.eqFields, part, u64, h1, h2, Result.andThen_ok]

theorem r_eqlSame34 {n : Nat} {ρ : Env} {w : World} {d : Option Nat} {t T : TypeId} {pos : String} {after : Array Edge} {g : Option (Nat × Bool)} {x y : Operand} {a b c : BitVec 64} (hx : ev n ρ x = .agg #[u64 a, u64 b, u64 c]) (hy : ev n ρ y = .agg #[u64 a, u64 b, u64 c]) : Runs Tryd.prog n ρ ⟨d, .binOp .eql 34 x y T, t, pos, after, g⟩ w (.bool true) w := by
  have h1 := run_eqGuard_agg (P := Tryd.prog) w .eql 34 x y #[u64 a, u64 b, u64 c] #[u64 a, u64 b, u64 c] gty34
  have h2 : (binOp .eql 34 (.agg #[u64 a, u64 b, u64 c]) (.agg #[u64 a, u64 b, u64 c])).run Tryd.prog w = .ok (.bool true) w := by
    rw [run_eql_struct, sameTr]; rfl
  simp only [Runs, execOp, hx, hy, Sem.run_bind, h1, Result.andThen_ok, h2, Sem.run_pure]

theorem r_neqSame34 {n : Nat} {ρ : Env} {w : World} {d : Option Nat} {t T : TypeId} {pos : String} {after : Array Edge} {g : Option (Nat × Bool)} {x y : Operand} {a b c : BitVec 64} (hx : ev n ρ x = .agg #[u64 a, u64 b, u64 c]) (hy : ev n ρ y = .agg #[u64 a, u64 b, u64 c]) : Runs Tryd.prog n ρ ⟨d, .binOp .neq 34 x y T, t, pos, after, g⟩ w (.bool false) w := by
  have h1 := run_eqGuard_agg (P := Tryd.prog) w .neq 34 x y #[u64 a, u64 b, u64 c] #[u64 a, u64 b, u64 c] gty34
  have h2 : (binOp .neq 34 (.agg #[u64 a, u64 b, u64 c]) (.agg #[u64 a, u64 b, u64 c])).run Tryd.prog w = .ok (.bool false) w := by
    rw [run_neq_struct, sameTr]; rfl
  simp only [Runs, execOp, hx, hy, Sem.run_bind, h1, Result.andThen_ok, h2, Sem.run_pure]

theorem r_eqlSame41 {n : Nat} {ρ : Env} {w : World} {d : Option Nat} {t T : TypeId} {pos : String} {after : Array Edge} {g : Option (Nat × Bool)} {x y : Operand} {p q r s : BitVec 64} {c : Bool} (hx : ev n ρ x = .agg #[u64 p, u64 q, u64 r, u64 s, .bool c]) (hy : ev n ρ y = .agg #[u64 p, u64 q, u64 r, u64 s, .bool c]) : Runs Tryd.prog n ρ ⟨d, .binOp .eql 41 x y T, t, pos, after, g⟩ w (.bool true) w := by
  have h1 := run_eqGuard_agg (P := Tryd.prog) w .eql 41 x y #[u64 p, u64 q, u64 r, u64 s, .bool c] #[u64 p, u64 q, u64 r, u64 s, .bool c] gty41
  have h2 : (binOp .eql 41 (.agg #[u64 p, u64 q, u64 r, u64 s, .bool c]) (.agg #[u64 p, u64 q, u64 r, u64 s, .bool c])).run Tryd.prog w = .ok (.bool true) w := by
    rw [run_eql_struct, sameOt]; rfl
  simp only [Runs, execOp, hx, hy, Sem.run_bind, h1, Result.andThen_ok, h2, Sem.run_pure]

theorem r_neqSame41 {n : Nat} {ρ : Env} {w : World} {d : Option Nat} {t T : TypeId} {pos : String} {after : Array Edge} {g : Option (Nat × Bool)} {x y : Operand} {p q r s : BitVec 64} {c : Bool} (hx : ev n ρ x = .agg #[u64 p, u64 q, u64 r, u64 s, .bool c]) (hy : ev n ρ y = .agg #[u64 p, u64 q, u64 r, u64 s, .bool c]) : Runs Tryd.prog n ρ ⟨d, .binOp .neq 41 x y T, t, pos, after, g⟩ w (.bool false) w := by
  have h1 := run_eqGuard_agg (P := Tryd.prog) w .neq 41 x y #[u64 p, u64 q, u64 r, u64 s, .bool c] #[u64 p, u64 q, u64 r, u64 s, .bool c] gty41
  have h2 : (binOp .neq 41 (.agg #[u64 p, u64 q, u64 r, u64 s, .bool c]) (.agg #[u64 p, u64 q, u64 r, u64 s, .bool c])).run Tryd.prog w = .ok (.bool false) w := by
    rw [run_neq_struct, sameOt]; rfl
  simp only [Runs, execOp, hx, hy, Sem.run_bind, h1, Result.andThen_ok, h2, Sem.run_pure]

set_option maxRecDepth 20000 in
set_option maxHeartbeats 1000000 in
theorem cawake_ok (w₀ : World) (hG : Gl w₀) : Calls Tryd.prog 15 [].toArray w₀ (Ret fun v w' => v = .bool true ∧ Ext w₀ w') := by
  obtain ⟨ws, hws⟩ : ∃ ws : List (BitVec 64), ws = [1#64, 2#64, 3#64, 4#64, 5#64] := ⟨_, rfl⟩
  have hwl : ws.length = 5 := by rw [hws]; rfl
  have H := Hp.start No w₀
  refine enter (n := 65) Tryd.func15 rfl rfl (Nat.le_of_ble_eq_true rfl) ?_
  refine seqRegion ?_
  refine sq (r_assign (v := .bool (false)) rfl) ?_
  refine wend ?_
  refine seqRegion ?_
  refine q_buildSlice (E := E64) (l := [1#64, 2#64, 3#64, 4#64, 5#64]) H sli22 zer32 (Nat.le_of_ble_eq_true rfl) (ps := [(0, u64 (1#64)), (1, u64 (2#64)), (2, u64 (3#64)), (3, u64 (4#64)), (4, u64 (5#64))]) rfl (by exact fillAll rfl rfl) rfl ?_
  intro b1 w3 hS2 H4 hE5
  have e6 : [1#64, 2#64, 3#64, 4#64, 5#64] = ws := by rw [hws]
  have hS7 := hS2
  rw [e6] at hS7
  have H8 := H4.as (L' := [((some b1), sob E64 32 ws ([]))]) (by rw [e6])
  refine c_call (vs := [.slice (ownA (some b1)) 5 5]) call17 rfl (load_ok ws (by omega) (ownA (some b1)) 5 5 (by omega) w3 (H8.rd (k := 0) rfl hS7)) ?_
  rintro _ w9 ⟨⟨b11, key12, c13, sp14, rfl, hS15, HN16⟩, hE17⟩
  have H18 := (H8.join HN16).as (L' := [(some b11, .cells #[.slice (ownA key12) ws.length c13, .pointer none, i64 ((ws.length : Nat)), i64 ((0 : Nat))] 141 (0, 0)), (key12, sob E64 32 ws sp14), ((some b1), sob E64 32 ws ([]))]) rfl
  have H19 := (H18).as (L' := ((some b11, .cells #[.slice (ownA key12) ws.length c13, .pointer none, i64 ((ws.length : Nat)), i64 ((0 : Nat))] 141 (0, 0)) :: (key12, sob E64 32 ws sp14) :: [((some b1), sob E64 32 ws ([]))])) rfl
  refine c_call (vs := [.pointer (some ⟨b11, 0, none⟩), i64 ((1 : Int)), i64 ((0 : Int)), i64 ((0 : Int))]) call16 rfl (deal_ok b11 key12 c13 sp14 ws hS15 (by omega) 1 0 0 (by omega) (by omega) (by omega) (by omega) [((some b1), sob E64 32 ws ([]))] w₀ w9 H19) ?_
  rintro _ w20 ⟨b22, b23, s24, s25, rfl, hok26, hok27, hD28, HN29⟩
  have H30 := HN29.as (L' := [(some b22, .cells #[.slice s24.t.a s24.t.l.length s24.t.c, .slice s24.b.a s24.b.l.length s24.b.c, .slice s24.o.a s24.o.l.length s24.o.c] 135 (0, 0)), (s24.t.key, sobP ETr 34 s24.t.pre s24.t.l s24.t.sp), (s24.b.key, sobP ETr 34 s24.b.pre s24.b.l s24.b.sp), (s24.o.key, sobP EOt 41 s24.o.pre s24.o.l s24.o.sp), (some b23, .cells #[.slice s25.t.a s25.t.l.length s25.t.c, .slice s25.b.a s25.b.l.length s25.b.c, .slice s25.o.a s25.o.l.length s25.o.c] 135 (0, 0)), (s25.t.key, sobP ETr 34 s25.t.pre s25.t.l s25.t.sp), (s25.b.key, sobP ETr 34 s25.b.pre s25.b.l s25.b.sp), (s25.o.key, sobP EOt 41 s25.o.pre s25.o.l s25.o.sp), (some b11, .cells #[.slice (ownA key12) ws.length c13, .pointer none, i64 ((ws.length : Nat)), i64 ((5 * (1 + 0) + 5 * 0 : Nat))] 141 (0, 0)), (key12, sob E64 32 ws sp14), ((some b1), sob E64 32 ws ([]))]) rfl
  refine sq (r_move (v := .tuple #[.agg #[.pointer (some ⟨b22, 0, none⟩), .pointer (some ⟨b23, 0, none⟩)], .nilIface]) rfl) ?_
  refine sq (r_extract (vs := #[.agg #[.pointer (some ⟨b22, 0, none⟩), .pointer (some ⟨b23, 0, none⟩)], .nilIface]) rfl rfl) ?_
  refine sq (r_extract (vs := #[.agg #[.pointer (some ⟨b22, 0, none⟩), .pointer (some ⟨b23, 0, none⟩)], .nilIface]) rfl rfl) ?_
  refine q_alloc (o := .cells #[.pointer none, .pointer none] 25 (0, 0)) H30 zer25 (by kernel_rfl) ?_
  intro b31 w32 hb31 H33 hE34
  refine d_store (k := 0) (v := .agg #[.pointer (some ⟨b22, 0, none⟩), .pointer (some ⟨b23, 0, none⟩)]) (cs' := #[.pointer (some ⟨b22, 0, none⟩), .pointer (some ⟨b23, 0, none⟩)]) H33 rfl rfl rfl siz25 (by rfl) (by intro u hu; simp [Value.cells] at hu; first | (subst hu; rfl) | (rcases hu with rfl | rfl <;> rfl)) (by exact Nat.le_of_ble_eq_true rfl) (by rfl) ?_
  intro w35 H36 hC37
  have H36' := H36.as (L' := [(some b31, .cells #[.pointer (some ⟨b22, 0, none⟩), .pointer (some ⟨b23, 0, none⟩)] 25 (0, 0)), (some b22, .cells #[.slice s24.t.a s24.t.l.length s24.t.c, .slice s24.b.a s24.b.l.length s24.b.c, .slice s24.o.a s24.o.l.length s24.o.c] 135 (0, 0)), (s24.t.key, sobP ETr 34 s24.t.pre s24.t.l s24.t.sp), (s24.b.key, sobP ETr 34 s24.b.pre s24.b.l s24.b.sp), (s24.o.key, sobP EOt 41 s24.o.pre s24.o.l s24.o.sp), (some b23, .cells #[.slice s25.t.a s25.t.l.length s25.t.c, .slice s25.b.a s25.b.l.length s25.b.c, .slice s25.o.a s25.o.l.length s25.o.c] 135 (0, 0)), (s25.t.key, sobP ETr 34 s25.t.pre s25.t.l s25.t.sp), (s25.b.key, sobP ETr 34 s25.b.pre s25.b.l s25.b.sp), (s25.o.key, sobP EOt 41 s25.o.pre s25.o.l s25.o.sp), (some b11, .cells #[.slice (ownA key12) ws.length c13, .pointer none, i64 ((ws.length : Nat)), i64 ((5 * (1 + 0) + 5 * 0 : Nat))] 141 (0, 0)), (key12, sob E64 32 ws sp14), ((some b1), sob E64 32 ws ([]))]) rfl
  clear H36
  refine sq (r_assign (v := .nilIface) rfl) ?_
  refine wend ?_
  refine seqAny ?_
  refine seqRegion ?_
  refine sq (r_move (v := .nilIface) rfl) ?_
  refine sq (r_neqNN isI27 rfl rfl) ?_
  refine sq (r_move (v := .bool (false)) rfl) ?_
  refine sqAny (v := .pointer (some ⟨b31, 0, none⟩)) (w' := w35) (wantedSome (d' := 17) (b := false) rfl rfl rfl) (r_indexA (off' := 0) (j := 0) arr25 (b := b31) (off := 0) rfl rfl (by first | rfl | omega | (simp; omega)) (by omega) (by omega)) ?_
  refine sqAny (v := .pointer (some ⟨b22, 0, none⟩)) (w' := w35) (wantedSome (d' := 17) (b := false) rfl rfl rfl) (r_loadC (v := .pointer (some ⟨b22, 0, none⟩)) one24 (H36'.get (k := 0) rfl) (off := 0) rfl (by rfl)) ?_
  refine sqAny (v := .bool (false)) (w' := w35) (wantedSome (d' := 17) (b := false) rfl rfl rfl) (r_eqlPN und24 rfl rfl) ?_
  refine sq (r_pickF (v := .bool (false)) rfl rfl) ?_
  refine sq (r_move (v := .bool (false)) rfl) ?_
  refine sqAny (v := .pointer (some ⟨b31, 1, none⟩)) (w' := w35) (wantedSome (d' := 22) (b := false) rfl rfl rfl) (r_indexA (off' := 1) (j := 1) arr25 (b := b31) (off := 0) rfl rfl (by first | rfl | omega | (simp; omega)) (by omega) (by omega)) ?_
  refine sqAny (v := .pointer (some ⟨b23, 0, none⟩)) (w' := w35) (wantedSome (d' := 22) (b := false) rfl rfl rfl) (r_loadC (v := .pointer (some ⟨b23, 0, none⟩)) one24 (H36'.get (k := 0) rfl) (off := 1) rfl (by rfl)) ?_
  refine sqAny (v := .bool (false)) (w' := w35) (wantedSome (d' := 22) (b := false) rfl rfl rfl) (r_eqlPN und24 rfl rfl) ?_
  refine sq (r_pickF (v := .bool (false)) rfl rfl) ?_
  refine wend ?_
  refine condFalse rfl ?_
  refine skipAny ?_
  refine thenNormal ?_
  refine seqRegion ?_
  refine sq (r_indexA (off' := 0) (j := 0) arr25 (b := b31) (off := 0) rfl rfl (by first | rfl | omega | (simp; omega)) (by omega) (by omega)) ?_
  refine sq (r_loadC (v := .pointer (some ⟨b22, 0, none⟩)) one24 (H36'.get (k := 0) rfl) (off := 0) rfl (by rfl)) ?_
  have H38 := ((H36'.pick 12 [1, 2, 3, 4, 0, 5, 6, 7, 8, 9, 10, 11] (by decide) (by decide))).as (L' := skR 34 41 135 b22 s24 ++ [(some b31, .cells #[.pointer (some ⟨b22, 0, none⟩), .pointer (some ⟨b23, 0, none⟩)] 25 (0, 0)), (some b23, .cells #[.slice s25.t.a s25.t.l.length s25.t.c, .slice s25.b.a s25.b.l.length s25.b.c, .slice s25.o.a s25.o.l.length s25.o.c] 135 (0, 0)), (s25.t.key, sobP ETr 34 s25.t.pre s25.t.l s25.t.sp), (s25.b.key, sobP ETr 34 s25.b.pre s25.b.l s25.b.sp), (s25.o.key, sobP EOt 41 s25.o.pre s25.o.l s25.o.sp), (some b11, .cells #[.slice (ownA key12) ws.length c13, .pointer none, i64 ((ws.length : Nat)), i64 ((5 * (1 + 0) + 5 * 0 : Nat))] 141 (0, 0)), (key12, sob E64 32 ws sp14), ((some b1), sob E64 32 ws ([]))]) rfl
  refine c_call (vs := [.pointer (some ⟨b22, 0, none⟩)]) call18 rfl (take0_hit b22 s24 hok26 [(some b31, .cells #[.pointer (some ⟨b22, 0, none⟩), .pointer (some ⟨b23, 0, none⟩)] 25 (0, 0)), (some b23, .cells #[.slice s25.t.a s25.t.l.length s25.t.c, .slice s25.b.a s25.b.l.length s25.b.c, .slice s25.o.a s25.o.l.length s25.o.c] 135 (0, 0)), (s25.t.key, sobP ETr 34 s25.t.pre s25.t.l s25.t.sp), (s25.b.key, sobP ETr 34 s25.b.pre s25.b.l s25.b.sp), (s25.o.key, sobP EOt 41 s25.o.pre s25.o.l s25.o.sp), (some b11, .cells #[.slice (ownA key12) ws.length c13, .pointer none, i64 ((ws.length : Nat)), i64 ((5 * (1 + 0) + 5 * 0 : Nat))] 141 (0, 0)), (key12, sob E64 32 ws sp14), ((some b1), sob E64 32 ws ([]))] w₀ w35 H38 (by rw [hD28.t1]; simp only [rowsOf_len] <;> omega)) ?_
  rintro _ w39 ⟨rfl, s41, HN42, hok43, hd44, he45, he46⟩
  have H47 := HN42.as (L' := [(some b22, .cells #[.slice s41.t.a s41.t.l.length s41.t.c, .slice s41.b.a s41.b.l.length s41.b.c, .slice s41.o.a s41.o.l.length s41.o.c] 135 (0, 0)), (s41.t.key, sobP ETr 34 s41.t.pre s41.t.l s41.t.sp), (s41.b.key, sobP ETr 34 s41.b.pre s41.b.l s41.b.sp), (s41.o.key, sobP EOt 41 s41.o.pre s41.o.l s41.o.sp), (some b31, .cells #[.pointer (some ⟨b22, 0, none⟩), .pointer (some ⟨b23, 0, none⟩)] 25 (0, 0)), (some b23, .cells #[.slice s25.t.a s25.t.l.length s25.t.c, .slice s25.b.a s25.b.l.length s25.b.c, .slice s25.o.a s25.o.l.length s25.o.c] 135 (0, 0)), (s25.t.key, sobP ETr 34 s25.t.pre s25.t.l s25.t.sp), (s25.b.key, sobP ETr 34 s25.b.pre s25.b.l s25.b.sp), (s25.o.key, sobP EOt 41 s25.o.pre s25.o.l s25.o.sp), (some b11, .cells #[.slice (ownA key12) ws.length c13, .pointer none, i64 ((ws.length : Nat)), i64 ((5 * (1 + 0) + 5 * 0 : Nat))] 141 (0, 0)), (key12, sob E64 32 ws sp14), ((some b1), sob E64 32 ws ([]))]) rfl
  rw [hD28.t1]
  rw [show (rowsOf (trA ws) 0 1).getD 0 tr0 = (⟨1#64, 3#64, 5#64⟩ : Tr) from by rw [hws]; first | done | rfl]
  have hf48 : s41.b.l = rowsOf (trA ws) (5 * 1) 0 := by rw [he45]; exact hD28.b1
  have hf49 : s41.o.l = rowsOf (otA ws) (5 * (1 + 0)) 0 := by rw [he46]; exact hD28.o1
  have hf50 : s41.t.l = (rowsOf (trA ws) 0 1).drop 1 := by rw [hd44, hD28.t1]
  refine sq (r_move (v := .tuple #[.agg #[u64 ((⟨1#64, 3#64, 5#64⟩ : Tr)).a, u64 ((⟨1#64, 3#64, 5#64⟩ : Tr)).b, u64 ((⟨1#64, 3#64, 5#64⟩ : Tr)).c], .nilIface]) rfl) ?_
  refine sq (r_extract (vs := #[.agg #[u64 ((⟨1#64, 3#64, 5#64⟩ : Tr)).a, u64 ((⟨1#64, 3#64, 5#64⟩ : Tr)).b, u64 ((⟨1#64, 3#64, 5#64⟩ : Tr)).c], .nilIface]) rfl rfl) ?_
  refine sq (r_extract (vs := #[.agg #[u64 ((⟨1#64, 3#64, 5#64⟩ : Tr)).a, u64 ((⟨1#64, 3#64, 5#64⟩ : Tr)).b, u64 ((⟨1#64, 3#64, 5#64⟩ : Tr)).c], .nilIface]) rfl rfl) ?_
  refine q_alloc (o := .cells #[u64 (0#64), u64 (0#64), u64 (0#64)] 34 (0, 0)) H47 zer34 (by kernel_rfl) ?_
  intro b51 w52 hb51 H53 hE54
  refine d_store (k := 0) (v := .agg #[u64 ((⟨1#64, 3#64, 5#64⟩ : Tr)).a, u64 ((⟨1#64, 3#64, 5#64⟩ : Tr)).b, u64 ((⟨1#64, 3#64, 5#64⟩ : Tr)).c]) (cs' := #[u64 (((⟨1#64, 3#64, 5#64⟩ : Tr)).a), u64 (((⟨1#64, 3#64, 5#64⟩ : Tr)).b), u64 (((⟨1#64, 3#64, 5#64⟩ : Tr)).c)]) H53 rfl rfl rfl siz34 (by rfl) (by intro u hu; simp [Value.cells] at hu; first | (subst hu; rfl) | (rcases hu with rfl | rfl | rfl <;> rfl)) (by exact Nat.le_of_ble_eq_true rfl) (by rfl) ?_
  intro w55 H56 hC57
  have H56' := H56.as (L' := [(some b51, .cells #[u64 (((⟨1#64, 3#64, 5#64⟩ : Tr)).a), u64 (((⟨1#64, 3#64, 5#64⟩ : Tr)).b), u64 (((⟨1#64, 3#64, 5#64⟩ : Tr)).c)] 34 (0, 0)), (some b22, .cells #[.slice s41.t.a s41.t.l.length s41.t.c, .slice s41.b.a s41.b.l.length s41.b.c, .slice s41.o.a s41.o.l.length s41.o.c] 135 (0, 0)), (s41.t.key, sobP ETr 34 s41.t.pre s41.t.l s41.t.sp), (s41.b.key, sobP ETr 34 s41.b.pre s41.b.l s41.b.sp), (s41.o.key, sobP EOt 41 s41.o.pre s41.o.l s41.o.sp), (some b31, .cells #[.pointer (some ⟨b22, 0, none⟩), .pointer (some ⟨b23, 0, none⟩)] 25 (0, 0)), (some b23, .cells #[.slice s25.t.a s25.t.l.length s25.t.c, .slice s25.b.a s25.b.l.length s25.b.c, .slice s25.o.a s25.o.l.length s25.o.c] 135 (0, 0)), (s25.t.key, sobP ETr 34 s25.t.pre s25.t.l s25.t.sp), (s25.b.key, sobP ETr 34 s25.b.pre s25.b.l s25.b.sp), (s25.o.key, sobP EOt 41 s25.o.pre s25.o.l s25.o.sp), (some b11, .cells #[.slice (ownA key12) ws.length c13, .pointer none, i64 ((ws.length : Nat)), i64 ((5 * (1 + 0) + 5 * 0 : Nat))] 141 (0, 0)), (key12, sob E64 32 ws sp14), ((some b1), sob E64 32 ws ([]))]) rfl
  clear H56
  refine sq (r_assign (v := .nilIface) rfl) ?_
  refine wend ?_
  refine seqRegion ?_
  refine sq (r_indexA (off' := 1) (j := 1) arr25 (b := b31) (off := 0) rfl rfl (by first | rfl | omega | (simp; omega)) (by omega) (by omega)) ?_
  refine sq (r_loadC (v := .pointer (some ⟨b23, 0, none⟩)) one24 (H56'.get (k := 5) rfl) (off := 1) rfl (by rfl)) ?_
  have H58 := ((H56'.pick 13 [6, 7, 8, 9, 0, 1, 2, 3, 4, 5, 10, 11, 12] (by decide) (by decide))).as (L' := skR 34 41 135 b23 s25 ++ [(some b51, .cells #[u64 (((⟨1#64, 3#64, 5#64⟩ : Tr)).a), u64 (((⟨1#64, 3#64, 5#64⟩ : Tr)).b), u64 (((⟨1#64, 3#64, 5#64⟩ : Tr)).c)] 34 (0, 0)), (some b22, .cells #[.slice s41.t.a s41.t.l.length s41.t.c, .slice s41.b.a s41.b.l.length s41.b.c, .slice s41.o.a s41.o.l.length s41.o.c] 135 (0, 0)), (s41.t.key, sobP ETr 34 s41.t.pre s41.t.l s41.t.sp), (s41.b.key, sobP ETr 34 s41.b.pre s41.b.l s41.b.sp), (s41.o.key, sobP EOt 41 s41.o.pre s41.o.l s41.o.sp), (some b31, .cells #[.pointer (some ⟨b22, 0, none⟩), .pointer (some ⟨b23, 0, none⟩)] 25 (0, 0)), (some b11, .cells #[.slice (ownA key12) ws.length c13, .pointer none, i64 ((ws.length : Nat)), i64 ((5 * (1 + 0) + 5 * 0 : Nat))] 141 (0, 0)), (key12, sob E64 32 ws sp14), ((some b1), sob E64 32 ws ([]))]) rfl
  refine c_call (vs := [.pointer (some ⟨b23, 0, none⟩)]) call18 rfl (take0_hit b23 s25 hok27 [(some b51, .cells #[u64 (((⟨1#64, 3#64, 5#64⟩ : Tr)).a), u64 (((⟨1#64, 3#64, 5#64⟩ : Tr)).b), u64 (((⟨1#64, 3#64, 5#64⟩ : Tr)).c)] 34 (0, 0)), (some b22, .cells #[.slice s41.t.a s41.t.l.length s41.t.c, .slice s41.b.a s41.b.l.length s41.b.c, .slice s41.o.a s41.o.l.length s41.o.c] 135 (0, 0)), (s41.t.key, sobP ETr 34 s41.t.pre s41.t.l s41.t.sp), (s41.b.key, sobP ETr 34 s41.b.pre s41.b.l s41.b.sp), (s41.o.key, sobP EOt 41 s41.o.pre s41.o.l s41.o.sp), (some b31, .cells #[.pointer (some ⟨b22, 0, none⟩), .pointer (some ⟨b23, 0, none⟩)] 25 (0, 0)), (some b11, .cells #[.slice (ownA key12) ws.length c13, .pointer none, i64 ((ws.length : Nat)), i64 ((5 * (1 + 0) + 5 * 0 : Nat))] 141 (0, 0)), (key12, sob E64 32 ws sp14), ((some b1), sob E64 32 ws ([]))] w₀ w55 H58 (by rw [hD28.t2]; simp only [rowsOf_len] <;> omega)) ?_
  rintro _ w59 ⟨rfl, s61, HN62, hok63, hd64, he65, he66⟩
  have H67 := HN62.as (L' := [(some b23, .cells #[.slice s61.t.a s61.t.l.length s61.t.c, .slice s61.b.a s61.b.l.length s61.b.c, .slice s61.o.a s61.o.l.length s61.o.c] 135 (0, 0)), (s61.t.key, sobP ETr 34 s61.t.pre s61.t.l s61.t.sp), (s61.b.key, sobP ETr 34 s61.b.pre s61.b.l s61.b.sp), (s61.o.key, sobP EOt 41 s61.o.pre s61.o.l s61.o.sp), (some b51, .cells #[u64 (((⟨1#64, 3#64, 5#64⟩ : Tr)).a), u64 (((⟨1#64, 3#64, 5#64⟩ : Tr)).b), u64 (((⟨1#64, 3#64, 5#64⟩ : Tr)).c)] 34 (0, 0)), (some b22, .cells #[.slice s41.t.a s41.t.l.length s41.t.c, .slice s41.b.a s41.b.l.length s41.b.c, .slice s41.o.a s41.o.l.length s41.o.c] 135 (0, 0)), (s41.t.key, sobP ETr 34 s41.t.pre s41.t.l s41.t.sp), (s41.b.key, sobP ETr 34 s41.b.pre s41.b.l s41.b.sp), (s41.o.key, sobP EOt 41 s41.o.pre s41.o.l s41.o.sp), (some b31, .cells #[.pointer (some ⟨b22, 0, none⟩), .pointer (some ⟨b23, 0, none⟩)] 25 (0, 0)), (some b11, .cells #[.slice (ownA key12) ws.length c13, .pointer none, i64 ((ws.length : Nat)), i64 ((5 * (1 + 0) + 5 * 0 : Nat))] 141 (0, 0)), (key12, sob E64 32 ws sp14), ((some b1), sob E64 32 ws ([]))]) rfl
  rw [hD28.t2]
  rw [show (rowsOf (trB ws) 0 1).getD 0 tr0 = (⟨2#64, 4#64, 16#64⟩ : Tr) from by rw [hws]; first | done | rfl]
  have hf68 : s61.b.l = rowsOf (biB ws) (5 * 1) 0 := by rw [he65]; exact hD28.b2
  have hf69 : s61.o.l = rowsOf (otB ws) (5 * (1 + 0)) 0 := by rw [he66]; exact hD28.o2
  have hf70 : s61.t.l = (rowsOf (trB ws) 0 1).drop 1 := by rw [hd64, hD28.t2]
  refine sq (r_move (v := .tuple #[.agg #[u64 ((⟨2#64, 4#64, 16#64⟩ : Tr)).a, u64 ((⟨2#64, 4#64, 16#64⟩ : Tr)).b, u64 ((⟨2#64, 4#64, 16#64⟩ : Tr)).c], .nilIface]) rfl) ?_
  refine sq (r_extract (vs := #[.agg #[u64 ((⟨2#64, 4#64, 16#64⟩ : Tr)).a, u64 ((⟨2#64, 4#64, 16#64⟩ : Tr)).b, u64 ((⟨2#64, 4#64, 16#64⟩ : Tr)).c], .nilIface]) rfl rfl) ?_
  refine sq (r_extract (vs := #[.agg #[u64 ((⟨2#64, 4#64, 16#64⟩ : Tr)).a, u64 ((⟨2#64, 4#64, 16#64⟩ : Tr)).b, u64 ((⟨2#64, 4#64, 16#64⟩ : Tr)).c], .nilIface]) rfl rfl) ?_
  refine q_alloc (o := .cells #[u64 (0#64), u64 (0#64), u64 (0#64)] 34 (0, 0)) H67 zer34 (by kernel_rfl) ?_
  intro b71 w72 hb71 H73 hE74
  refine d_store (k := 0) (v := .agg #[u64 ((⟨2#64, 4#64, 16#64⟩ : Tr)).a, u64 ((⟨2#64, 4#64, 16#64⟩ : Tr)).b, u64 ((⟨2#64, 4#64, 16#64⟩ : Tr)).c]) (cs' := #[u64 (((⟨2#64, 4#64, 16#64⟩ : Tr)).a), u64 (((⟨2#64, 4#64, 16#64⟩ : Tr)).b), u64 (((⟨2#64, 4#64, 16#64⟩ : Tr)).c)]) H73 rfl rfl rfl siz34 (by rfl) (by intro u hu; simp [Value.cells] at hu; first | (subst hu; rfl) | (rcases hu with rfl | rfl | rfl <;> rfl)) (by exact Nat.le_of_ble_eq_true rfl) (by rfl) ?_
  intro w75 H76 hC77
  have H76' := H76.as (L' := [(some b71, .cells #[u64 (((⟨2#64, 4#64, 16#64⟩ : Tr)).a), u64 (((⟨2#64, 4#64, 16#64⟩ : Tr)).b), u64 (((⟨2#64, 4#64, 16#64⟩ : Tr)).c)] 34 (0, 0)), (some b23, .cells #[.slice s61.t.a s61.t.l.length s61.t.c, .slice s61.b.a s61.b.l.length s61.b.c, .slice s61.o.a s61.o.l.length s61.o.c] 135 (0, 0)), (s61.t.key, sobP ETr 34 s61.t.pre s61.t.l s61.t.sp), (s61.b.key, sobP ETr 34 s61.b.pre s61.b.l s61.b.sp), (s61.o.key, sobP EOt 41 s61.o.pre s61.o.l s61.o.sp), (some b51, .cells #[u64 (((⟨1#64, 3#64, 5#64⟩ : Tr)).a), u64 (((⟨1#64, 3#64, 5#64⟩ : Tr)).b), u64 (((⟨1#64, 3#64, 5#64⟩ : Tr)).c)] 34 (0, 0)), (some b22, .cells #[.slice s41.t.a s41.t.l.length s41.t.c, .slice s41.b.a s41.b.l.length s41.b.c, .slice s41.o.a s41.o.l.length s41.o.c] 135 (0, 0)), (s41.t.key, sobP ETr 34 s41.t.pre s41.t.l s41.t.sp), (s41.b.key, sobP ETr 34 s41.b.pre s41.b.l s41.b.sp), (s41.o.key, sobP EOt 41 s41.o.pre s41.o.l s41.o.sp), (some b31, .cells #[.pointer (some ⟨b22, 0, none⟩), .pointer (some ⟨b23, 0, none⟩)] 25 (0, 0)), (some b11, .cells #[.slice (ownA key12) ws.length c13, .pointer none, i64 ((ws.length : Nat)), i64 ((5 * (1 + 0) + 5 * 0 : Nat))] 141 (0, 0)), (key12, sob E64 32 ws sp14), ((some b1), sob E64 32 ws ([]))]) rfl
  clear H76
  refine sq (r_assign (v := .nilIface) rfl) ?_
  refine wend ?_
  refine seqRegion ?_
  refine sq (r_indexA (off' := 0) (j := 0) arr25 (b := b31) (off := 0) rfl rfl (by first | rfl | omega | (simp; omega)) (by omega) (by omega)) ?_
  refine sq (r_loadC (v := .pointer (some ⟨b22, 0, none⟩)) one24 (H76'.get (k := 10) rfl) (off := 0) rfl (by rfl)) ?_
  have := H76'.lt (List.mem_of_getElem? (i := 0) rfl) rfl
  have := H76'.lt (List.mem_of_getElem? (i := 1) rfl) rfl
  have := H76'.lt (List.mem_of_getElem? (i := 5) rfl) rfl
  have := H76'.lt (List.mem_of_getElem? (i := 6) rfl) rfl
  have := H76'.lt (List.mem_of_getElem? (i := 10) rfl) rfl
  have := H76'.lt (List.mem_of_getElem? (i := 11) rfl) rfl
  refine c_call (vs := [.pointer (some ⟨b22, 0, none⟩)]) call18 rfl (take0_end b22 s41 w75 (H76'.get (k := 6) rfl) (Chg.gl H76'.chg (fun x => x) hG) (by rw [hf50]; simp only [List.length_drop, rowsOf_len] <;> omega)) ?_
  rintro _ w79 ⟨⟨v81, rfl, hEr82⟩, hE83⟩
  have H84 := H76'.ext hE83
  obtain ⟨T85, x86, rfl⟩ := hEr82.iface
  refine sq (r_move (v := .tuple #[.agg #[u64 (0#64), u64 (0#64), u64 (0#64)], .iface T85 (x86)]) rfl) ?_
  refine sq (r_extract (vs := #[.agg #[u64 (0#64), u64 (0#64), u64 (0#64)], .iface T85 (x86)]) rfl rfl) ?_
  refine sq (r_extract (vs := #[.agg #[u64 (0#64), u64 (0#64), u64 (0#64)], .iface T85 (x86)]) rfl rfl) ?_
  refine q_alloc (o := .cells #[u64 (0#64), u64 (0#64), u64 (0#64)] 34 (0, 0)) H84 zer34 (by kernel_rfl) ?_
  intro b87 w88 hb87 H89 hE90
  refine d_store (k := 0) (v := .agg #[u64 (0#64), u64 (0#64), u64 (0#64)]) (cs' := #[u64 (0#64), u64 (0#64), u64 (0#64)]) H89 rfl rfl rfl siz34 (by rfl) (by intro u hu; simp [Value.cells] at hu; first | (subst hu; rfl) | (rcases hu with rfl | rfl | rfl <;> rfl)) (by exact Nat.le_of_ble_eq_true rfl) (by rfl) ?_
  intro w91 H92 hC93
  have H92' := H92.as (L' := [(some b87, .cells #[u64 (0#64), u64 (0#64), u64 (0#64)] 34 (0, 0)), (some b71, .cells #[u64 (((⟨2#64, 4#64, 16#64⟩ : Tr)).a), u64 (((⟨2#64, 4#64, 16#64⟩ : Tr)).b), u64 (((⟨2#64, 4#64, 16#64⟩ : Tr)).c)] 34 (0, 0)), (some b23, .cells #[.slice s61.t.a s61.t.l.length s61.t.c, .slice s61.b.a s61.b.l.length s61.b.c, .slice s61.o.a s61.o.l.length s61.o.c] 135 (0, 0)), (s61.t.key, sobP ETr 34 s61.t.pre s61.t.l s61.t.sp), (s61.b.key, sobP ETr 34 s61.b.pre s61.b.l s61.b.sp), (s61.o.key, sobP EOt 41 s61.o.pre s61.o.l s61.o.sp), (some b51, .cells #[u64 (((⟨1#64, 3#64, 5#64⟩ : Tr)).a), u64 (((⟨1#64, 3#64, 5#64⟩ : Tr)).b), u64 (((⟨1#64, 3#64, 5#64⟩ : Tr)).c)] 34 (0, 0)), (some b22, .cells #[.slice s41.t.a s41.t.l.length s41.t.c, .slice s41.b.a s41.b.l.length s41.b.c, .slice s41.o.a s41.o.l.length s41.o.c] 135 (0, 0)), (s41.t.key, sobP ETr 34 s41.t.pre s41.t.l s41.t.sp), (s41.b.key, sobP ETr 34 s41.b.pre s41.b.l s41.b.sp), (s41.o.key, sobP EOt 41 s41.o.pre s41.o.l s41.o.sp), (some b31, .cells #[.pointer (some ⟨b22, 0, none⟩), .pointer (some ⟨b23, 0, none⟩)] 25 (0, 0)), (some b11, .cells #[.slice (ownA key12) ws.length c13, .pointer none, i64 ((ws.length : Nat)), i64 ((5 * (1 + 0) + 5 * 0 : Nat))] 141 (0, 0)), (key12, sob E64 32 ws sp14), ((some b1), sob E64 32 ws ([]))]) rfl
  clear H92
  refine sq (r_assign (v := .iface T85 (x86)) rfl) ?_
  refine wend ?_
  refine seqRegion ?_
  refine sq (r_move (v := .nilIface) rfl) ?_
  refine sq (r_eqlNN isI27 rfl rfl) ?_
  refine sq (r_move (v := .bool (true)) rfl) ?_
  refine sqAny (v := .nilIface) (w' := w91) (wantedSome (d' := 47) (b := true) rfl rfl rfl) (r_move (v := .nilIface) rfl) ?_
  refine sqAny (v := .bool (true)) (w' := w91) (wantedSome (d' := 47) (b := true) rfl rfl rfl) (r_eqlNN isI27 rfl rfl) ?_
  refine sq (r_pickT (u := .bool (true)) rfl rfl) ?_
  refine sq (r_move (v := .bool (true)) rfl) ?_
  refine sqAny (v := .agg #[u64 (((⟨1#64, 3#64, 5#64⟩ : Tr)).a), u64 (((⟨1#64, 3#64, 5#64⟩ : Tr)).b), u64 (((⟨1#64, 3#64, 5#64⟩ : Tr)).c)]) (w' := w91) (wantedSome (d' := 51) (b := true) rfl rfl rfl) (r_loadA (cs' := #[u64 (((⟨1#64, 3#64, 5#64⟩ : Tr)).a), u64 (((⟨1#64, 3#64, 5#64⟩ : Tr)).b), u64 (((⟨1#64, 3#64, 5#64⟩ : Tr)).c)]) agg34 siz34 (H92'.get (k := 6) rfl) (off := 0) rfl (by exact Nat.le_of_ble_eq_true rfl) (by rfl)) ?_
  refine sqAny (v := .agg #[u64 (1#64), u64 (3#64), u64 (5#64)]) (w' := w91) (wantedSome (d' := 51) (b := true) rfl rfl rfl) (r_build (cs' := #[u64 (1#64), u64 (3#64), u64 (5#64)]) (ps := [(0, u64 (1#64)), (1, u64 (3#64)), (2, u64 (5#64))]) zer34 pls34 rfl (by rfl)) ?_
  refine sqAny (v := .bool (true)) (w' := w91) (wantedSome (d' := 51) (b := true) rfl rfl rfl) (r_eqlSame34 rfl rfl) ?_
  refine sq (r_pickT (u := .bool (true)) rfl rfl) ?_
  refine sq (r_move (v := .bool (true)) rfl) ?_
  refine sqAny (v := .agg #[u64 (((⟨2#64, 4#64, 16#64⟩ : Tr)).a), u64 (((⟨2#64, 4#64, 16#64⟩ : Tr)).b), u64 (((⟨2#64, 4#64, 16#64⟩ : Tr)).c)]) (w' := w91) (wantedSome (d' := 56) (b := true) rfl rfl rfl) (r_loadA (cs' := #[u64 (((⟨2#64, 4#64, 16#64⟩ : Tr)).a), u64 (((⟨2#64, 4#64, 16#64⟩ : Tr)).b), u64 (((⟨2#64, 4#64, 16#64⟩ : Tr)).c)]) agg34 siz34 (H92'.get (k := 1) rfl) (off := 0) rfl (by exact Nat.le_of_ble_eq_true rfl) (by rfl)) ?_
  refine sqAny (v := .agg #[u64 (2#64), u64 (4#64), u64 (16#64)]) (w' := w91) (wantedSome (d' := 56) (b := true) rfl rfl rfl) (r_build (cs' := #[u64 (2#64), u64 (4#64), u64 (16#64)]) (ps := [(0, u64 (2#64)), (1, u64 (4#64)), (2, u64 (16#64))]) zer34 pls34 rfl (by rfl)) ?_
  refine sqAny (v := .bool (true)) (w' := w91) (wantedSome (d' := 56) (b := true) rfl rfl rfl) (r_eqlSame34 rfl rfl) ?_
  refine sq (r_pickT (u := .bool (true)) rfl rfl) ?_
  refine sq (r_move (v := .bool (true)) rfl) ?_
  refine sqAny (v := .iface T85 (x86)) (w' := w91) (wantedSome (d' := 61) (b := true) rfl rfl rfl) (r_move (v := .iface T85 (x86)) rfl) ?_
  refine caAny (wantedSome (d' := 61) (b := true) rfl rfl rfl) (Enters.callL (vs := [.iface T85 (x86), i64 ((80 : Int))]) call24 rfl) (is_ok 80 (80 : Int) 1 (.iface T85 (x86)) w75.heap.size w91 ((Er.chgs ((Ext.chg (M := fun x => x = b87) hE90).trans (hC93.mono (M' := fun x => x = b87) (fun _ h => by subst h; simp))) (fun x h1 h2 h3 => by have := hE90.size; have := hC93.size; rcases h3 with rfl <;> omega) hEr82))) ?_
  rintro _ w94 ⟨rfl, hE95⟩
  have H96 := H92'.ext hE95
  refine sq (r_pickT (u := .bool (true)) rfl rfl) ?_
  refine sq (r_assign (v := .bool (true)) rfl) ?_
  refine wend ?_
  refine retAny ?_
  refine retG (rs := [.tmp 0]) (vs := [.bool (true)]) rfl ⟨⟨rfl, rfl⟩, trivial⟩ ?_
  exact ⟨_, rfl, rfl, H96.chg⟩
end Go.Proofs.YteofdmdpaejgaaaDoor.Co
