/- The walks of the stocks. -/
import Derived.Test.YteofdmdpaejgaaaDoorCorr3
namespace Go.Proofs.YteofdmdpaejgaaaDoor.Co
open Go Go.Proofs.YteofdmdpaejgaaaDoor.Vc Go.Proofs.YteofdmdpaejgaaaDoor.Er
set_option linter.unusedVariables false
theorem call15 : callable Tryd.prog 15 = true := by kernel_rfl
theorem call19 : callable Tryd.prog 19 = true := by kernel_rfl
theorem call20 : callable Tryd.prog 20 = true := by kernel_rfl
theorem fld34_0 : fld Tryd.prog 34 0 = some (0, 1, 32) := by kernel_rfl
theorem fld34_1 : fld Tryd.prog 34 1 = some (1, 1, 32) := by kernel_rfl
theorem fld34_2 : fld Tryd.prog 34 2 = some (2, 1, 32) := by kernel_rfl
theorem fld41_1 : fld Tryd.prog 41 1 = some (4, 1, 4) := by kernel_rfl
theorem gty38 : Tryd.prog.eqGuardType Tryd.prog.depth 38 = false := by kernel_rfl
theorem one32 : isOne Tryd.prog 32 = true := by kernel_rfl
theorem one4 : isOne Tryd.prog 4 = true := by kernel_rfl
set_option maxRecDepth 20000 in
set_option maxHeartbeats 1000000 in
theorem corrfits_ok (wl : List (BitVec 64)) (wa : Option Addr) (wc : Nat) (hwc : wl.length ≤ wc) (w₀ : World) (hG : Gl w₀) (hW : Rd E64 w₀ wa wl) (hwl : wl.length * 8 ≤ 140737488355328) : Calls Tryd.prog 3 [.slice wa wl.length wc].toArray w₀ (Ret fun v w' => v = .bool true ∧ Ext w₀ w') := by
  obtain ⟨ws, hws⟩ : ∃ ws, ws = wl.take (min wl.length 300) := ⟨_, rfl⟩
  have hlw : ws.length = min wl.length 300 := by rw [hws, List.length_take]; omega
  have hWs : Rd E64 w₀ wa ws := by rw [hws]; exact hW.take _
  obtain ⟨n, hn⟩ : ∃ n, n = ws.length / 15 := ⟨_, rfl⟩
  have H := Hp.start No w₀
  refine enter (n := 151) Tryd.func3 rfl rfl (Nat.le_of_ble_eq_true rfl) ?_
  refine seqRegion ?_
  refine sq (r_assign (v := .bool (false)) rfl) ?_
  refine wend ?_
  refine seqAny ?_
  refine seqRegion ?_
  refine c_call (vs := []) call15 rfl (cawake_ok w₀ (Chg.gl H.chg (fun x => x) hG)) ?_
  rintro _ w1 ⟨rfl, hE2⟩
  have H3 := H.ext hE2
  refine sq (r_notT rfl) ?_
  refine wend ?_
  refine condFalse rfl ?_
  refine skipAny ?_
  refine thenNormal ?_
  refine seqRegion ?_
  refine sq (r_move (v := .slice wa wl.length wc) rfl) ?_
  refine sq (r_move (v := .slice wa wl.length wc) rfl) ?_
  refine sq (r_lenS sli22 (a := wa) (m := wl.length) (c := wc) rfl) ?_
  refine sq (r_minI (a := (wl.length : Nat)) (b := (300 : Int)) rfl rfl) ?_
  refine sq (((r_sliceS (l := 0) (h := (min wl.length 300)) sli22 rfl (.inr ⟨rfl, rfl⟩) (.inl ⟨_, _, _, rfl, rfl, by first | rfl | omega | (simp; omega)⟩) (by omega) (by omega)).as (v' := .slice (if wc = 0 then wa else adr wa (0 * 1)) (min wl.length 300) (wc - 0)) (by first | rfl | (congr 1; omega) | (simp; omega) | simp)).as (v' := .slice wa ws.length wc) (by rw [ite_adr0, hlw]; rfl)) ?_
  refine sq (r_assign (v := .slice wa ws.length wc) rfl) ?_
  refine wend ?_
  refine seqRegion ?_
  refine sq (r_move (v := .slice wa ws.length wc) rfl) ?_
  refine sq (r_lenS sli22 (a := wa) (m := ws.length) (c := wc) rfl) ?_
  refine sq ((r_quoI (a := (ws.length : Nat)) (b := (15 : Int)) rfl rfl (by omega)).as (v' := i64 ((n : Nat))) (by exact congrArg i64 (by omega))) ?_
  refine sq (r_assign (v := i64 ((n : Nat))) rfl) ?_
  refine wend ?_
  refine seqRegion ?_
  refine sq (r_move (v := .slice wa ws.length wc) rfl) ?_
  refine c_call (vs := [.slice wa ws.length wc]) call17 rfl (load_ok ws (by omega) wa ws.length wc (by rfl) w1 (hWs.ext H3.chg)) ?_
  rintro _ w4 ⟨⟨b6, key7, c8, sp9, rfl, hS10, HN11⟩, hE12⟩
  have H13 := (H3.join HN11).as (L' := [(some b6, .cells #[.slice (ownA key7) ws.length c8, .pointer none, i64 ((ws.length : Nat)), i64 ((0 : Nat))] 141 (0, 0)), (key7, sob E64 32 ws sp9)]) rfl
  refine sq (r_move (v := i64 ((n : Nat))) rfl) ?_
  refine sq (r_move (v := i64 ((n : Nat))) rfl) ?_
  refine sq (r_move (v := i64 ((n : Nat))) rfl) ?_
  have H14 := (H13).as (L' := ((some b6, .cells #[.slice (ownA key7) ws.length c8, .pointer none, i64 ((ws.length : Nat)), i64 ((0 : Nat))] 141 (0, 0)) :: (key7, sob E64 32 ws sp9) :: [])) rfl
  refine c_call (vs := [.pointer (some ⟨b6, 0, none⟩), i64 ((n : Nat)), i64 ((n : Nat)), i64 ((n : Nat))]) call16 rfl (deal_ok b6 key7 c8 sp9 ws hS10 (by omega) n n n (by omega) (by omega) (by omega) (by omega) [] w₀ w4 H14) ?_
  rintro _ w15 ⟨b17, b18, s19, s20, rfl, hok21, hok22, hD23, HN24⟩
  have H25 := HN24.as (L' := [(some b17, .cells #[.slice s19.t.a s19.t.l.length s19.t.c, .slice s19.b.a s19.b.l.length s19.b.c, .slice s19.o.a s19.o.l.length s19.o.c] 135 (0, 0)), (s19.t.key, sobP ETr 34 s19.t.pre s19.t.l s19.t.sp), (s19.b.key, sobP ETr 34 s19.b.pre s19.b.l s19.b.sp), (s19.o.key, sobP EOt 41 s19.o.pre s19.o.l s19.o.sp), (some b18, .cells #[.slice s20.t.a s20.t.l.length s20.t.c, .slice s20.b.a s20.b.l.length s20.b.c, .slice s20.o.a s20.o.l.length s20.o.c] 135 (0, 0)), (s20.t.key, sobP ETr 34 s20.t.pre s20.t.l s20.t.sp), (s20.b.key, sobP ETr 34 s20.b.pre s20.b.l s20.b.sp), (s20.o.key, sobP EOt 41 s20.o.pre s20.o.l s20.o.sp), (some b6, .cells #[.slice (ownA key7) ws.length c8, .pointer none, i64 ((ws.length : Nat)), i64 ((5 * (n + n) + 5 * n : Nat))] 141 (0, 0)), (key7, sob E64 32 ws sp9)]) rfl
  refine sq (r_move (v := .tuple #[.agg #[.pointer (some ⟨b17, 0, none⟩), .pointer (some ⟨b18, 0, none⟩)], .nilIface]) rfl) ?_
  refine sq (r_extract (vs := #[.agg #[.pointer (some ⟨b17, 0, none⟩), .pointer (some ⟨b18, 0, none⟩)], .nilIface]) rfl rfl) ?_
  refine sq (r_extract (vs := #[.agg #[.pointer (some ⟨b17, 0, none⟩), .pointer (some ⟨b18, 0, none⟩)], .nilIface]) rfl rfl) ?_
  refine q_alloc (o := .cells #[.pointer none, .pointer none] 25 (0, 0)) H25 zer25 (by kernel_rfl) ?_
  intro b26 w27 hb26 H28 hE29
  refine d_store (k := 0) (v := .agg #[.pointer (some ⟨b17, 0, none⟩), .pointer (some ⟨b18, 0, none⟩)]) (cs' := #[.pointer (some ⟨b17, 0, none⟩), .pointer (some ⟨b18, 0, none⟩)]) H28 rfl rfl rfl siz25 (by rfl) (by intro u hu; simp [Value.cells] at hu; first | (subst hu; rfl) | (rcases hu with rfl | rfl <;> rfl)) (by exact Nat.le_of_ble_eq_true rfl) (by rfl) ?_
  intro w30 H31 hC32
  have H31' := H31.as (L' := [(some b26, .cells #[.pointer (some ⟨b17, 0, none⟩), .pointer (some ⟨b18, 0, none⟩)] 25 (0, 0)), (some b17, .cells #[.slice s19.t.a s19.t.l.length s19.t.c, .slice s19.b.a s19.b.l.length s19.b.c, .slice s19.o.a s19.o.l.length s19.o.c] 135 (0, 0)), (s19.t.key, sobP ETr 34 s19.t.pre s19.t.l s19.t.sp), (s19.b.key, sobP ETr 34 s19.b.pre s19.b.l s19.b.sp), (s19.o.key, sobP EOt 41 s19.o.pre s19.o.l s19.o.sp), (some b18, .cells #[.slice s20.t.a s20.t.l.length s20.t.c, .slice s20.b.a s20.b.l.length s20.b.c, .slice s20.o.a s20.o.l.length s20.o.c] 135 (0, 0)), (s20.t.key, sobP ETr 34 s20.t.pre s20.t.l s20.t.sp), (s20.b.key, sobP ETr 34 s20.b.pre s20.b.l s20.b.sp), (s20.o.key, sobP EOt 41 s20.o.pre s20.o.l s20.o.sp), (some b6, .cells #[.slice (ownA key7) ws.length c8, .pointer none, i64 ((ws.length : Nat)), i64 ((5 * (n + n) + 5 * n : Nat))] 141 (0, 0)), (key7, sob E64 32 ws sp9)]) rfl
  clear H31
  refine sq (r_assign (v := .nilIface) rfl) ?_
  refine wend ?_
  refine seqAny ?_
  refine seqRegion ?_
  refine sq (r_move (v := .nilIface) rfl) ?_
  refine sq (r_neqNN isI27 rfl rfl) ?_
  refine sq (r_move (v := .bool (false)) rfl) ?_
  refine sqAny (v := .pointer (some ⟨b26, 0, none⟩)) (w' := w30) (wantedSome (d' := 41) (b := false) rfl rfl rfl) (r_indexA (off' := 0) (j := 0) arr25 (b := b26) (off := 0) rfl rfl (by first | rfl | omega | (simp; omega)) (by omega) (by omega)) ?_
  refine sqAny (v := .pointer (some ⟨b17, 0, none⟩)) (w' := w30) (wantedSome (d' := 41) (b := false) rfl rfl rfl) (r_loadC (v := .pointer (some ⟨b17, 0, none⟩)) one24 (H31'.get (k := 0) rfl) (off := 0) rfl (by rfl)) ?_
  refine sqAny (v := .bool (false)) (w' := w30) (wantedSome (d' := 41) (b := false) rfl rfl rfl) (r_eqlPN und24 rfl rfl) ?_
  refine sq (r_pickF (v := .bool (false)) rfl rfl) ?_
  refine sq (r_move (v := .bool (false)) rfl) ?_
  refine sqAny (v := .pointer (some ⟨b26, 1, none⟩)) (w' := w30) (wantedSome (d' := 46) (b := false) rfl rfl rfl) (r_indexA (off' := 1) (j := 1) arr25 (b := b26) (off := 0) rfl rfl (by first | rfl | omega | (simp; omega)) (by omega) (by omega)) ?_
  refine sqAny (v := .pointer (some ⟨b18, 0, none⟩)) (w' := w30) (wantedSome (d' := 46) (b := false) rfl rfl rfl) (r_loadC (v := .pointer (some ⟨b18, 0, none⟩)) one24 (H31'.get (k := 0) rfl) (off := 1) rfl (by rfl)) ?_
  refine sqAny (v := .bool (false)) (w' := w30) (wantedSome (d' := 46) (b := false) rfl rfl rfl) (r_eqlPN und24 rfl rfl) ?_
  refine sq (r_pickF (v := .bool (false)) rfl rfl) ?_
  refine wend ?_
  refine condFalse rfl ?_
  refine skipAny ?_
  refine thenNormal ?_
  refine seqAny ?_
  refine seqRegion ?_
  refine sq (r_assign (v := i64 ((0 : Int))) rfl) ?_
  refine wend ?_
  refine blockAny ?_
  refine loopAny (σ := Nat × Sk × Sk) (fun (zi, x1, x2) => [(0, .slice wa ws.length wc), (3, i64 ((n : Nat))), (4, .pointer (some ⟨b26, 0, none⟩)), (5, .nilIface), (6, i64 ((zi : Nat)))]) (fun (zi, x1, x2) w' => (zi ≤ n ∧ x1.ok ∧ x2.ok ∧ x1.t.l = (rowsOf (trA ws) 0 n).drop zi ∧ x1.b.l = (rowsOf (trA ws) (5 * n) n).drop zi ∧ x1.o.l = (rowsOf (otA ws) (5 * (n + n)) n).drop zi ∧ x2.t.l = (rowsOf (trB ws) 0 n).drop zi ∧ x2.b.l = (rowsOf (biB ws) (5 * n) n).drop zi ∧ x2.o.l = (rowsOf (otB ws) (5 * (n + n)) n).drop zi) ∧ Hp No w₀ w' [(some b26, .cells #[.pointer (some ⟨b17, 0, none⟩), .pointer (some ⟨b18, 0, none⟩)] 25 (0, 0)), (some b17, .cells #[.slice x1.t.a x1.t.l.length x1.t.c, .slice x1.b.a x1.b.l.length x1.b.c, .slice x1.o.a x1.o.l.length x1.o.c] 135 (0, 0)), (x1.t.key, sobP ETr 34 x1.t.pre x1.t.l x1.t.sp), (x1.b.key, sobP ETr 34 x1.b.pre x1.b.l x1.b.sp), (x1.o.key, sobP EOt 41 x1.o.pre x1.o.l x1.o.sp), (some b18, .cells #[.slice x2.t.a x2.t.l.length x2.t.c, .slice x2.b.a x2.b.l.length x2.b.c, .slice x2.o.a x2.o.l.length x2.o.c] 135 (0, 0)), (x2.t.key, sobP ETr 34 x2.t.pre x2.t.l x2.t.sp), (x2.b.key, sobP ETr 34 x2.b.pre x2.b.l x2.b.sp), (x2.o.key, sobP EOt 41 x2.o.pre x2.o.l x2.o.sp)]) (fun (zi, x1, x2) => n - zi) ((0, s19, s20)) ?_ ?_ ?_
  · exact ⟨rfl, rfl, rfl, rfl, rfl, trivial⟩
  · exact ⟨⟨Nat.zero_le _, hok21, hok22, hD23.t1, hD23.b1, hD23.o1, hD23.t2, hD23.b2, hD23.o2⟩, ((H31'.dropk 10).dropk 9)⟩
  rintro ⟨zi, x1, x2⟩ ρ w33 ⟨⟨hz, hkx1, hkx2, hftx1, hfbx1, hfox1, hftx2, hfbx2, hfox2⟩, HL⟩
  refine seqAny ?_
  refine seqRegion ?_
  refine sq (r_move (v := i64 ((zi : Nat))) rfl) ?_
  refine sq (r_move (v := i64 ((n : Nat))) rfl) ?_
  refine sq (r_lssI (a := (zi : Nat)) (b := (n : Nat)) rfl rfl) ?_
  refine wend ?_
  refine condProp (((zi : Nat) : Int) < (n : Nat)) rfl (fun c53 => ?_) (fun c53 => ?_)
  · skip
    refine skipAny ?_
    refine thenNormal ?_
    refine seqAny ?_
    refine blockAny ?_
    refine seqRegion ?_
    refine sq (r_indexA (off' := 0) (j := 0) arr25 (b := b26) (off := 0) rfl rfl (by first | rfl | omega | (simp; omega)) (by omega) (by omega)) ?_
    refine sq (r_loadC (v := .pointer (some ⟨b17, 0, none⟩)) one24 (HL.get (k := 0) rfl) (off := 0) rfl (by rfl)) ?_
    have H35 := ((HL.pick 9 [1, 2, 3, 4, 0, 5, 6, 7, 8] (by decide) (by decide))).as (L' := skR 34 41 135 b17 x1 ++ [(some b26, .cells #[.pointer (some ⟨b17, 0, none⟩), .pointer (some ⟨b18, 0, none⟩)] 25 (0, 0)), (some b18, .cells #[.slice x2.t.a x2.t.l.length x2.t.c, .slice x2.b.a x2.b.l.length x2.b.c, .slice x2.o.a x2.o.l.length x2.o.c] 135 (0, 0)), (x2.t.key, sobP ETr 34 x2.t.pre x2.t.l x2.t.sp), (x2.b.key, sobP ETr 34 x2.b.pre x2.b.l x2.b.sp), (x2.o.key, sobP EOt 41 x2.o.pre x2.o.l x2.o.sp)]) rfl
    refine c_call (vs := [.pointer (some ⟨b17, 0, none⟩)]) call18 rfl (take0_hit b17 x1 hkx1 [(some b26, .cells #[.pointer (some ⟨b17, 0, none⟩), .pointer (some ⟨b18, 0, none⟩)] 25 (0, 0)), (some b18, .cells #[.slice x2.t.a x2.t.l.length x2.t.c, .slice x2.b.a x2.b.l.length x2.b.c, .slice x2.o.a x2.o.l.length x2.o.c] 135 (0, 0)), (x2.t.key, sobP ETr 34 x2.t.pre x2.t.l x2.t.sp), (x2.b.key, sobP ETr 34 x2.b.pre x2.b.l x2.b.sp), (x2.o.key, sobP EOt 41 x2.o.pre x2.o.l x2.o.sp)] w₀ w33 H35 (by rw [hftx1]; simp only [List.length_drop, rowsOf_len] <;> omega)) ?_
    rintro _ w36 ⟨rfl, s38, HN39, hok40, hd41, he42, he43⟩
    have H44 := HN39.as (L' := [(some b17, .cells #[.slice s38.t.a s38.t.l.length s38.t.c, .slice s38.b.a s38.b.l.length s38.b.c, .slice s38.o.a s38.o.l.length s38.o.c] 135 (0, 0)), (s38.t.key, sobP ETr 34 s38.t.pre s38.t.l s38.t.sp), (s38.b.key, sobP ETr 34 s38.b.pre s38.b.l s38.b.sp), (s38.o.key, sobP EOt 41 s38.o.pre s38.o.l s38.o.sp), (some b26, .cells #[.pointer (some ⟨b17, 0, none⟩), .pointer (some ⟨b18, 0, none⟩)] 25 (0, 0)), (some b18, .cells #[.slice x2.t.a x2.t.l.length x2.t.c, .slice x2.b.a x2.b.l.length x2.b.c, .slice x2.o.a x2.o.l.length x2.o.c] 135 (0, 0)), (x2.t.key, sobP ETr 34 x2.t.pre x2.t.l x2.t.sp), (x2.b.key, sobP ETr 34 x2.b.pre x2.b.l x2.b.sp), (x2.o.key, sobP EOt 41 x2.o.pre x2.o.l x2.o.sp)]) rfl
    rw [hftx1]
    rw [show ((rowsOf (trA ws) 0 n).drop zi).getD 0 tr0 = trA ws (0 + 5 * zi) from by exact rowsOf_drop (by omega)]
    have hf45 : s38.b.l = (rowsOf (trA ws) (5 * n) n).drop zi := by rw [he42]; exact hfbx1
    have hf46 : s38.o.l = (rowsOf (otA ws) (5 * (n + n)) n).drop zi := by rw [he43]; exact hfox1
    have hf47 : s38.t.l = (rowsOf (trA ws) 0 n).drop (zi + 1) := by rw [hd41, hftx1, List.drop_drop]
    refine sq (r_move (v := .tuple #[.agg #[u64 (trA ws (0 + 5 * zi)).a, u64 (trA ws (0 + 5 * zi)).b, u64 (trA ws (0 + 5 * zi)).c], .nilIface]) rfl) ?_
    refine sq (r_extract (vs := #[.agg #[u64 (trA ws (0 + 5 * zi)).a, u64 (trA ws (0 + 5 * zi)).b, u64 (trA ws (0 + 5 * zi)).c], .nilIface]) rfl rfl) ?_
    refine sq (r_extract (vs := #[.agg #[u64 (trA ws (0 + 5 * zi)).a, u64 (trA ws (0 + 5 * zi)).b, u64 (trA ws (0 + 5 * zi)).c], .nilIface]) rfl rfl) ?_
    refine q_alloc (o := .cells #[u64 (0#64), u64 (0#64), u64 (0#64)] 34 (0, 0)) H44 zer34 (by kernel_rfl) ?_
    intro b48 w49 hb48 H50 hE51
    refine d_store (k := 0) (v := .agg #[u64 (trA ws (0 + 5 * zi)).a, u64 (trA ws (0 + 5 * zi)).b, u64 (trA ws (0 + 5 * zi)).c]) (cs' := #[u64 ((trA ws (0 + 5 * zi)).a), u64 ((trA ws (0 + 5 * zi)).b), u64 ((trA ws (0 + 5 * zi)).c)]) H50 rfl rfl rfl siz34 (by rfl) (by intro u hu; simp [Value.cells] at hu; first | (subst hu; rfl) | (rcases hu with rfl | rfl | rfl <;> rfl)) (by exact Nat.le_of_ble_eq_true rfl) (by rfl) ?_
    intro w52 H53 hC54
    have H53' := H53.as (L' := [(some b48, .cells #[u64 ((trA ws (0 + 5 * zi)).a), u64 ((trA ws (0 + 5 * zi)).b), u64 ((trA ws (0 + 5 * zi)).c)] 34 (0, 0)), (some b17, .cells #[.slice s38.t.a s38.t.l.length s38.t.c, .slice s38.b.a s38.b.l.length s38.b.c, .slice s38.o.a s38.o.l.length s38.o.c] 135 (0, 0)), (s38.t.key, sobP ETr 34 s38.t.pre s38.t.l s38.t.sp), (s38.b.key, sobP ETr 34 s38.b.pre s38.b.l s38.b.sp), (s38.o.key, sobP EOt 41 s38.o.pre s38.o.l s38.o.sp), (some b26, .cells #[.pointer (some ⟨b17, 0, none⟩), .pointer (some ⟨b18, 0, none⟩)] 25 (0, 0)), (some b18, .cells #[.slice x2.t.a x2.t.l.length x2.t.c, .slice x2.b.a x2.b.l.length x2.b.c, .slice x2.o.a x2.o.l.length x2.o.c] 135 (0, 0)), (x2.t.key, sobP ETr 34 x2.t.pre x2.t.l x2.t.sp), (x2.b.key, sobP ETr 34 x2.b.pre x2.b.l x2.b.sp), (x2.o.key, sobP EOt 41 x2.o.pre x2.o.l x2.o.sp)]) rfl
    clear H53
    refine sq (r_assign (v := .nilIface) rfl) ?_
    refine wend ?_
    refine seqRegion ?_
    refine sq (r_indexA (off' := 1) (j := 1) arr25 (b := b26) (off := 0) rfl rfl (by first | rfl | omega | (simp; omega)) (by omega) (by omega)) ?_
    refine sq (r_loadC (v := .pointer (some ⟨b18, 0, none⟩)) one24 (H53'.get (k := 5) rfl) (off := 1) rfl (by rfl)) ?_
    have H55 := ((H53'.pick 10 [6, 7, 8, 9, 0, 1, 2, 3, 4, 5] (by decide) (by decide))).as (L' := skR 34 41 135 b18 x2 ++ [(some b48, .cells #[u64 ((trA ws (0 + 5 * zi)).a), u64 ((trA ws (0 + 5 * zi)).b), u64 ((trA ws (0 + 5 * zi)).c)] 34 (0, 0)), (some b17, .cells #[.slice s38.t.a s38.t.l.length s38.t.c, .slice s38.b.a s38.b.l.length s38.b.c, .slice s38.o.a s38.o.l.length s38.o.c] 135 (0, 0)), (s38.t.key, sobP ETr 34 s38.t.pre s38.t.l s38.t.sp), (s38.b.key, sobP ETr 34 s38.b.pre s38.b.l s38.b.sp), (s38.o.key, sobP EOt 41 s38.o.pre s38.o.l s38.o.sp), (some b26, .cells #[.pointer (some ⟨b17, 0, none⟩), .pointer (some ⟨b18, 0, none⟩)] 25 (0, 0))]) rfl
    refine c_call (vs := [.pointer (some ⟨b18, 0, none⟩)]) call18 rfl (take0_hit b18 x2 hkx2 [(some b48, .cells #[u64 ((trA ws (0 + 5 * zi)).a), u64 ((trA ws (0 + 5 * zi)).b), u64 ((trA ws (0 + 5 * zi)).c)] 34 (0, 0)), (some b17, .cells #[.slice s38.t.a s38.t.l.length s38.t.c, .slice s38.b.a s38.b.l.length s38.b.c, .slice s38.o.a s38.o.l.length s38.o.c] 135 (0, 0)), (s38.t.key, sobP ETr 34 s38.t.pre s38.t.l s38.t.sp), (s38.b.key, sobP ETr 34 s38.b.pre s38.b.l s38.b.sp), (s38.o.key, sobP EOt 41 s38.o.pre s38.o.l s38.o.sp), (some b26, .cells #[.pointer (some ⟨b17, 0, none⟩), .pointer (some ⟨b18, 0, none⟩)] 25 (0, 0))] w₀ w52 H55 (by rw [hftx2]; simp only [List.length_drop, rowsOf_len] <;> omega)) ?_
    rintro _ w56 ⟨rfl, s58, HN59, hok60, hd61, he62, he63⟩
    have H64 := HN59.as (L' := [(some b18, .cells #[.slice s58.t.a s58.t.l.length s58.t.c, .slice s58.b.a s58.b.l.length s58.b.c, .slice s58.o.a s58.o.l.length s58.o.c] 135 (0, 0)), (s58.t.key, sobP ETr 34 s58.t.pre s58.t.l s58.t.sp), (s58.b.key, sobP ETr 34 s58.b.pre s58.b.l s58.b.sp), (s58.o.key, sobP EOt 41 s58.o.pre s58.o.l s58.o.sp), (some b48, .cells #[u64 ((trA ws (0 + 5 * zi)).a), u64 ((trA ws (0 + 5 * zi)).b), u64 ((trA ws (0 + 5 * zi)).c)] 34 (0, 0)), (some b17, .cells #[.slice s38.t.a s38.t.l.length s38.t.c, .slice s38.b.a s38.b.l.length s38.b.c, .slice s38.o.a s38.o.l.length s38.o.c] 135 (0, 0)), (s38.t.key, sobP ETr 34 s38.t.pre s38.t.l s38.t.sp), (s38.b.key, sobP ETr 34 s38.b.pre s38.b.l s38.b.sp), (s38.o.key, sobP EOt 41 s38.o.pre s38.o.l s38.o.sp), (some b26, .cells #[.pointer (some ⟨b17, 0, none⟩), .pointer (some ⟨b18, 0, none⟩)] 25 (0, 0))]) rfl
    rw [hftx2]
    rw [show ((rowsOf (trB ws) 0 n).drop zi).getD 0 tr0 = trB ws (0 + 5 * zi) from by exact rowsOf_drop (by omega)]
    have hf65 : s58.b.l = (rowsOf (biB ws) (5 * n) n).drop zi := by rw [he62]; exact hfbx2
    have hf66 : s58.o.l = (rowsOf (otB ws) (5 * (n + n)) n).drop zi := by rw [he63]; exact hfox2
    have hf67 : s58.t.l = (rowsOf (trB ws) 0 n).drop (zi + 1) := by rw [hd61, hftx2, List.drop_drop]
    refine sq (r_move (v := .tuple #[.agg #[u64 (trB ws (0 + 5 * zi)).a, u64 (trB ws (0 + 5 * zi)).b, u64 (trB ws (0 + 5 * zi)).c], .nilIface]) rfl) ?_
    refine sq (r_extract (vs := #[.agg #[u64 (trB ws (0 + 5 * zi)).a, u64 (trB ws (0 + 5 * zi)).b, u64 (trB ws (0 + 5 * zi)).c], .nilIface]) rfl rfl) ?_
    refine sq (r_extract (vs := #[.agg #[u64 (trB ws (0 + 5 * zi)).a, u64 (trB ws (0 + 5 * zi)).b, u64 (trB ws (0 + 5 * zi)).c], .nilIface]) rfl rfl) ?_
    refine q_alloc (o := .cells #[u64 (0#64), u64 (0#64), u64 (0#64)] 34 (0, 0)) H64 zer34 (by kernel_rfl) ?_
    intro b68 w69 hb68 H70 hE71
    refine d_store (k := 0) (v := .agg #[u64 (trB ws (0 + 5 * zi)).a, u64 (trB ws (0 + 5 * zi)).b, u64 (trB ws (0 + 5 * zi)).c]) (cs' := #[u64 ((trB ws (0 + 5 * zi)).a), u64 ((trB ws (0 + 5 * zi)).b), u64 ((trB ws (0 + 5 * zi)).c)]) H70 rfl rfl rfl siz34 (by rfl) (by intro u hu; simp [Value.cells] at hu; first | (subst hu; rfl) | (rcases hu with rfl | rfl | rfl <;> rfl)) (by exact Nat.le_of_ble_eq_true rfl) (by rfl) ?_
    intro w72 H73 hC74
    have H73' := H73.as (L' := [(some b68, .cells #[u64 ((trB ws (0 + 5 * zi)).a), u64 ((trB ws (0 + 5 * zi)).b), u64 ((trB ws (0 + 5 * zi)).c)] 34 (0, 0)), (some b18, .cells #[.slice s58.t.a s58.t.l.length s58.t.c, .slice s58.b.a s58.b.l.length s58.b.c, .slice s58.o.a s58.o.l.length s58.o.c] 135 (0, 0)), (s58.t.key, sobP ETr 34 s58.t.pre s58.t.l s58.t.sp), (s58.b.key, sobP ETr 34 s58.b.pre s58.b.l s58.b.sp), (s58.o.key, sobP EOt 41 s58.o.pre s58.o.l s58.o.sp), (some b48, .cells #[u64 ((trA ws (0 + 5 * zi)).a), u64 ((trA ws (0 + 5 * zi)).b), u64 ((trA ws (0 + 5 * zi)).c)] 34 (0, 0)), (some b17, .cells #[.slice s38.t.a s38.t.l.length s38.t.c, .slice s38.b.a s38.b.l.length s38.b.c, .slice s38.o.a s38.o.l.length s38.o.c] 135 (0, 0)), (s38.t.key, sobP ETr 34 s38.t.pre s38.t.l s38.t.sp), (s38.b.key, sobP ETr 34 s38.b.pre s38.b.l s38.b.sp), (s38.o.key, sobP EOt 41 s38.o.pre s38.o.l s38.o.sp), (some b26, .cells #[.pointer (some ⟨b17, 0, none⟩), .pointer (some ⟨b18, 0, none⟩)] 25 (0, 0))]) rfl
    clear H73
    refine sq (r_assign (v := .nilIface) rfl) ?_
    refine wend ?_
    refine seqRegion ?_
    refine sq (r_indexA (off' := 0) (j := 0) arr25 (b := b26) (off := 0) rfl rfl (by first | rfl | omega | (simp; omega)) (by omega) (by omega)) ?_
    refine sq (r_loadC (v := .pointer (some ⟨b17, 0, none⟩)) one24 (H73'.get (k := 10) rfl) (off := 0) rfl (by rfl)) ?_
    have H75 := ((H73'.pick 11 [6, 7, 8, 9, 0, 1, 2, 3, 4, 5, 10] (by decide) (by decide))).as (L' := skR 34 41 135 b17 s38 ++ [(some b68, .cells #[u64 ((trB ws (0 + 5 * zi)).a), u64 ((trB ws (0 + 5 * zi)).b), u64 ((trB ws (0 + 5 * zi)).c)] 34 (0, 0)), (some b18, .cells #[.slice s58.t.a s58.t.l.length s58.t.c, .slice s58.b.a s58.b.l.length s58.b.c, .slice s58.o.a s58.o.l.length s58.o.c] 135 (0, 0)), (s58.t.key, sobP ETr 34 s58.t.pre s58.t.l s58.t.sp), (s58.b.key, sobP ETr 34 s58.b.pre s58.b.l s58.b.sp), (s58.o.key, sobP EOt 41 s58.o.pre s58.o.l s58.o.sp), (some b48, .cells #[u64 ((trA ws (0 + 5 * zi)).a), u64 ((trA ws (0 + 5 * zi)).b), u64 ((trA ws (0 + 5 * zi)).c)] 34 (0, 0)), (some b26, .cells #[.pointer (some ⟨b17, 0, none⟩), .pointer (some ⟨b18, 0, none⟩)] 25 (0, 0))]) rfl
    refine c_call (vs := [.pointer (some ⟨b17, 0, none⟩)]) call19 rfl (take1_hit b17 s38 hok40 [(some b68, .cells #[u64 ((trB ws (0 + 5 * zi)).a), u64 ((trB ws (0 + 5 * zi)).b), u64 ((trB ws (0 + 5 * zi)).c)] 34 (0, 0)), (some b18, .cells #[.slice s58.t.a s58.t.l.length s58.t.c, .slice s58.b.a s58.b.l.length s58.b.c, .slice s58.o.a s58.o.l.length s58.o.c] 135 (0, 0)), (s58.t.key, sobP ETr 34 s58.t.pre s58.t.l s58.t.sp), (s58.b.key, sobP ETr 34 s58.b.pre s58.b.l s58.b.sp), (s58.o.key, sobP EOt 41 s58.o.pre s58.o.l s58.o.sp), (some b48, .cells #[u64 ((trA ws (0 + 5 * zi)).a), u64 ((trA ws (0 + 5 * zi)).b), u64 ((trA ws (0 + 5 * zi)).c)] 34 (0, 0)), (some b26, .cells #[.pointer (some ⟨b17, 0, none⟩), .pointer (some ⟨b18, 0, none⟩)] 25 (0, 0))] w₀ w72 H75 (by rw [hf45]; simp only [List.length_drop, rowsOf_len] <;> omega)) ?_
    rintro _ w76 ⟨rfl, s78, HN79, hok80, hd81, he82, he83⟩
    have H84 := HN79.as (L' := [(some b17, .cells #[.slice s78.t.a s78.t.l.length s78.t.c, .slice s78.b.a s78.b.l.length s78.b.c, .slice s78.o.a s78.o.l.length s78.o.c] 135 (0, 0)), (s78.t.key, sobP ETr 34 s78.t.pre s78.t.l s78.t.sp), (s78.b.key, sobP ETr 34 s78.b.pre s78.b.l s78.b.sp), (s78.o.key, sobP EOt 41 s78.o.pre s78.o.l s78.o.sp), (some b68, .cells #[u64 ((trB ws (0 + 5 * zi)).a), u64 ((trB ws (0 + 5 * zi)).b), u64 ((trB ws (0 + 5 * zi)).c)] 34 (0, 0)), (some b18, .cells #[.slice s58.t.a s58.t.l.length s58.t.c, .slice s58.b.a s58.b.l.length s58.b.c, .slice s58.o.a s58.o.l.length s58.o.c] 135 (0, 0)), (s58.t.key, sobP ETr 34 s58.t.pre s58.t.l s58.t.sp), (s58.b.key, sobP ETr 34 s58.b.pre s58.b.l s58.b.sp), (s58.o.key, sobP EOt 41 s58.o.pre s58.o.l s58.o.sp), (some b48, .cells #[u64 ((trA ws (0 + 5 * zi)).a), u64 ((trA ws (0 + 5 * zi)).b), u64 ((trA ws (0 + 5 * zi)).c)] 34 (0, 0)), (some b26, .cells #[.pointer (some ⟨b17, 0, none⟩), .pointer (some ⟨b18, 0, none⟩)] 25 (0, 0))]) rfl
    rw [hf45]
    rw [show ((rowsOf (trA ws) (5 * n) n).drop zi).getD 0 tr0 = trA ws ((5 * n) + 5 * zi) from by exact rowsOf_drop (by omega)]
    have hf85 : s78.t.l = (rowsOf (trA ws) 0 n).drop (zi + 1) := by rw [he82]; exact hf47
    have hf86 : s78.o.l = (rowsOf (otA ws) (5 * (n + n)) n).drop zi := by rw [he83]; exact hf46
    have hf87 : s78.b.l = (rowsOf (trA ws) (5 * n) n).drop (zi + 1) := by rw [hd81, hf45, List.drop_drop]
    refine sq (r_move (v := .tuple #[.agg #[u64 (trA ws ((5 * n) + 5 * zi)).a, u64 (trA ws ((5 * n) + 5 * zi)).b, u64 (trA ws ((5 * n) + 5 * zi)).c], .nilIface]) rfl) ?_
    refine sq (r_extract (vs := #[.agg #[u64 (trA ws ((5 * n) + 5 * zi)).a, u64 (trA ws ((5 * n) + 5 * zi)).b, u64 (trA ws ((5 * n) + 5 * zi)).c], .nilIface]) rfl rfl) ?_
    refine sq (r_extract (vs := #[.agg #[u64 (trA ws ((5 * n) + 5 * zi)).a, u64 (trA ws ((5 * n) + 5 * zi)).b, u64 (trA ws ((5 * n) + 5 * zi)).c], .nilIface]) rfl rfl) ?_
    refine q_alloc (o := .cells #[u64 (0#64), u64 (0#64), u64 (0#64)] 34 (0, 0)) H84 zer34 (by kernel_rfl) ?_
    intro b88 w89 hb88 H90 hE91
    refine d_store (k := 0) (v := .agg #[u64 (trA ws ((5 * n) + 5 * zi)).a, u64 (trA ws ((5 * n) + 5 * zi)).b, u64 (trA ws ((5 * n) + 5 * zi)).c]) (cs' := #[u64 ((trA ws ((5 * n) + 5 * zi)).a), u64 ((trA ws ((5 * n) + 5 * zi)).b), u64 ((trA ws ((5 * n) + 5 * zi)).c)]) H90 rfl rfl rfl siz34 (by rfl) (by intro u hu; simp [Value.cells] at hu; first | (subst hu; rfl) | (rcases hu with rfl | rfl | rfl <;> rfl)) (by exact Nat.le_of_ble_eq_true rfl) (by rfl) ?_
    intro w92 H93 hC94
    have H93' := H93.as (L' := [(some b88, .cells #[u64 ((trA ws ((5 * n) + 5 * zi)).a), u64 ((trA ws ((5 * n) + 5 * zi)).b), u64 ((trA ws ((5 * n) + 5 * zi)).c)] 34 (0, 0)), (some b17, .cells #[.slice s78.t.a s78.t.l.length s78.t.c, .slice s78.b.a s78.b.l.length s78.b.c, .slice s78.o.a s78.o.l.length s78.o.c] 135 (0, 0)), (s78.t.key, sobP ETr 34 s78.t.pre s78.t.l s78.t.sp), (s78.b.key, sobP ETr 34 s78.b.pre s78.b.l s78.b.sp), (s78.o.key, sobP EOt 41 s78.o.pre s78.o.l s78.o.sp), (some b68, .cells #[u64 ((trB ws (0 + 5 * zi)).a), u64 ((trB ws (0 + 5 * zi)).b), u64 ((trB ws (0 + 5 * zi)).c)] 34 (0, 0)), (some b18, .cells #[.slice s58.t.a s58.t.l.length s58.t.c, .slice s58.b.a s58.b.l.length s58.b.c, .slice s58.o.a s58.o.l.length s58.o.c] 135 (0, 0)), (s58.t.key, sobP ETr 34 s58.t.pre s58.t.l s58.t.sp), (s58.b.key, sobP ETr 34 s58.b.pre s58.b.l s58.b.sp), (s58.o.key, sobP EOt 41 s58.o.pre s58.o.l s58.o.sp), (some b48, .cells #[u64 ((trA ws (0 + 5 * zi)).a), u64 ((trA ws (0 + 5 * zi)).b), u64 ((trA ws (0 + 5 * zi)).c)] 34 (0, 0)), (some b26, .cells #[.pointer (some ⟨b17, 0, none⟩), .pointer (some ⟨b18, 0, none⟩)] 25 (0, 0))]) rfl
    clear H93
    refine sq (r_assign (v := .nilIface) rfl) ?_
    refine wend ?_
    refine seqRegion ?_
    refine sq (r_indexA (off' := 1) (j := 1) arr25 (b := b26) (off := 0) rfl rfl (by first | rfl | omega | (simp; omega)) (by omega) (by omega)) ?_
    refine sq (r_loadC (v := .pointer (some ⟨b18, 0, none⟩)) one24 (H93'.get (k := 11) rfl) (off := 1) rfl (by rfl)) ?_
    have H95 := ((H93'.pick 12 [6, 7, 8, 9, 0, 1, 2, 3, 4, 5, 10, 11] (by decide) (by decide))).as (L' := skR 34 41 135 b18 s58 ++ [(some b88, .cells #[u64 ((trA ws ((5 * n) + 5 * zi)).a), u64 ((trA ws ((5 * n) + 5 * zi)).b), u64 ((trA ws ((5 * n) + 5 * zi)).c)] 34 (0, 0)), (some b17, .cells #[.slice s78.t.a s78.t.l.length s78.t.c, .slice s78.b.a s78.b.l.length s78.b.c, .slice s78.o.a s78.o.l.length s78.o.c] 135 (0, 0)), (s78.t.key, sobP ETr 34 s78.t.pre s78.t.l s78.t.sp), (s78.b.key, sobP ETr 34 s78.b.pre s78.b.l s78.b.sp), (s78.o.key, sobP EOt 41 s78.o.pre s78.o.l s78.o.sp), (some b68, .cells #[u64 ((trB ws (0 + 5 * zi)).a), u64 ((trB ws (0 + 5 * zi)).b), u64 ((trB ws (0 + 5 * zi)).c)] 34 (0, 0)), (some b48, .cells #[u64 ((trA ws (0 + 5 * zi)).a), u64 ((trA ws (0 + 5 * zi)).b), u64 ((trA ws (0 + 5 * zi)).c)] 34 (0, 0)), (some b26, .cells #[.pointer (some ⟨b17, 0, none⟩), .pointer (some ⟨b18, 0, none⟩)] 25 (0, 0))]) rfl
    refine c_call (vs := [.pointer (some ⟨b18, 0, none⟩)]) call19 rfl (take1_hit b18 s58 hok60 [(some b88, .cells #[u64 ((trA ws ((5 * n) + 5 * zi)).a), u64 ((trA ws ((5 * n) + 5 * zi)).b), u64 ((trA ws ((5 * n) + 5 * zi)).c)] 34 (0, 0)), (some b17, .cells #[.slice s78.t.a s78.t.l.length s78.t.c, .slice s78.b.a s78.b.l.length s78.b.c, .slice s78.o.a s78.o.l.length s78.o.c] 135 (0, 0)), (s78.t.key, sobP ETr 34 s78.t.pre s78.t.l s78.t.sp), (s78.b.key, sobP ETr 34 s78.b.pre s78.b.l s78.b.sp), (s78.o.key, sobP EOt 41 s78.o.pre s78.o.l s78.o.sp), (some b68, .cells #[u64 ((trB ws (0 + 5 * zi)).a), u64 ((trB ws (0 + 5 * zi)).b), u64 ((trB ws (0 + 5 * zi)).c)] 34 (0, 0)), (some b48, .cells #[u64 ((trA ws (0 + 5 * zi)).a), u64 ((trA ws (0 + 5 * zi)).b), u64 ((trA ws (0 + 5 * zi)).c)] 34 (0, 0)), (some b26, .cells #[.pointer (some ⟨b17, 0, none⟩), .pointer (some ⟨b18, 0, none⟩)] 25 (0, 0))] w₀ w92 H95 (by rw [hf65]; simp only [List.length_drop, rowsOf_len] <;> omega)) ?_
    rintro _ w96 ⟨rfl, s98, HN99, hok100, hd101, he102, he103⟩
    have H104 := HN99.as (L' := [(some b18, .cells #[.slice s98.t.a s98.t.l.length s98.t.c, .slice s98.b.a s98.b.l.length s98.b.c, .slice s98.o.a s98.o.l.length s98.o.c] 135 (0, 0)), (s98.t.key, sobP ETr 34 s98.t.pre s98.t.l s98.t.sp), (s98.b.key, sobP ETr 34 s98.b.pre s98.b.l s98.b.sp), (s98.o.key, sobP EOt 41 s98.o.pre s98.o.l s98.o.sp), (some b88, .cells #[u64 ((trA ws ((5 * n) + 5 * zi)).a), u64 ((trA ws ((5 * n) + 5 * zi)).b), u64 ((trA ws ((5 * n) + 5 * zi)).c)] 34 (0, 0)), (some b17, .cells #[.slice s78.t.a s78.t.l.length s78.t.c, .slice s78.b.a s78.b.l.length s78.b.c, .slice s78.o.a s78.o.l.length s78.o.c] 135 (0, 0)), (s78.t.key, sobP ETr 34 s78.t.pre s78.t.l s78.t.sp), (s78.b.key, sobP ETr 34 s78.b.pre s78.b.l s78.b.sp), (s78.o.key, sobP EOt 41 s78.o.pre s78.o.l s78.o.sp), (some b68, .cells #[u64 ((trB ws (0 + 5 * zi)).a), u64 ((trB ws (0 + 5 * zi)).b), u64 ((trB ws (0 + 5 * zi)).c)] 34 (0, 0)), (some b48, .cells #[u64 ((trA ws (0 + 5 * zi)).a), u64 ((trA ws (0 + 5 * zi)).b), u64 ((trA ws (0 + 5 * zi)).c)] 34 (0, 0)), (some b26, .cells #[.pointer (some ⟨b17, 0, none⟩), .pointer (some ⟨b18, 0, none⟩)] 25 (0, 0))]) rfl
    rw [hf65]
    rw [show ((rowsOf (biB ws) (5 * n) n).drop zi).getD 0 tr0 = biB ws ((5 * n) + 5 * zi) from by exact rowsOf_drop (by omega)]
    have hf105 : s98.t.l = (rowsOf (trB ws) 0 n).drop (zi + 1) := by rw [he102]; exact hf67
    have hf106 : s98.o.l = (rowsOf (otB ws) (5 * (n + n)) n).drop zi := by rw [he103]; exact hf66
    have hf107 : s98.b.l = (rowsOf (biB ws) (5 * n) n).drop (zi + 1) := by rw [hd101, hf65, List.drop_drop]
    refine sq (r_move (v := .tuple #[.agg #[u64 (biB ws ((5 * n) + 5 * zi)).a, u64 (biB ws ((5 * n) + 5 * zi)).b, u64 (biB ws ((5 * n) + 5 * zi)).c], .nilIface]) rfl) ?_
    refine sq (r_extract (vs := #[.agg #[u64 (biB ws ((5 * n) + 5 * zi)).a, u64 (biB ws ((5 * n) + 5 * zi)).b, u64 (biB ws ((5 * n) + 5 * zi)).c], .nilIface]) rfl rfl) ?_
    refine sq (r_extract (vs := #[.agg #[u64 (biB ws ((5 * n) + 5 * zi)).a, u64 (biB ws ((5 * n) + 5 * zi)).b, u64 (biB ws ((5 * n) + 5 * zi)).c], .nilIface]) rfl rfl) ?_
    refine q_alloc (o := .cells #[u64 (0#64), u64 (0#64), u64 (0#64)] 34 (0, 0)) H104 zer34 (by kernel_rfl) ?_
    intro b108 w109 hb108 H110 hE111
    refine d_store (k := 0) (v := .agg #[u64 (biB ws ((5 * n) + 5 * zi)).a, u64 (biB ws ((5 * n) + 5 * zi)).b, u64 (biB ws ((5 * n) + 5 * zi)).c]) (cs' := #[u64 ((biB ws ((5 * n) + 5 * zi)).a), u64 ((biB ws ((5 * n) + 5 * zi)).b), u64 ((biB ws ((5 * n) + 5 * zi)).c)]) H110 rfl rfl rfl siz34 (by rfl) (by intro u hu; simp [Value.cells] at hu; first | (subst hu; rfl) | (rcases hu with rfl | rfl | rfl <;> rfl)) (by exact Nat.le_of_ble_eq_true rfl) (by rfl) ?_
    intro w112 H113 hC114
    have H113' := H113.as (L' := [(some b108, .cells #[u64 ((biB ws ((5 * n) + 5 * zi)).a), u64 ((biB ws ((5 * n) + 5 * zi)).b), u64 ((biB ws ((5 * n) + 5 * zi)).c)] 34 (0, 0)), (some b18, .cells #[.slice s98.t.a s98.t.l.length s98.t.c, .slice s98.b.a s98.b.l.length s98.b.c, .slice s98.o.a s98.o.l.length s98.o.c] 135 (0, 0)), (s98.t.key, sobP ETr 34 s98.t.pre s98.t.l s98.t.sp), (s98.b.key, sobP ETr 34 s98.b.pre s98.b.l s98.b.sp), (s98.o.key, sobP EOt 41 s98.o.pre s98.o.l s98.o.sp), (some b88, .cells #[u64 ((trA ws ((5 * n) + 5 * zi)).a), u64 ((trA ws ((5 * n) + 5 * zi)).b), u64 ((trA ws ((5 * n) + 5 * zi)).c)] 34 (0, 0)), (some b17, .cells #[.slice s78.t.a s78.t.l.length s78.t.c, .slice s78.b.a s78.b.l.length s78.b.c, .slice s78.o.a s78.o.l.length s78.o.c] 135 (0, 0)), (s78.t.key, sobP ETr 34 s78.t.pre s78.t.l s78.t.sp), (s78.b.key, sobP ETr 34 s78.b.pre s78.b.l s78.b.sp), (s78.o.key, sobP EOt 41 s78.o.pre s78.o.l s78.o.sp), (some b68, .cells #[u64 ((trB ws (0 + 5 * zi)).a), u64 ((trB ws (0 + 5 * zi)).b), u64 ((trB ws (0 + 5 * zi)).c)] 34 (0, 0)), (some b48, .cells #[u64 ((trA ws (0 + 5 * zi)).a), u64 ((trA ws (0 + 5 * zi)).b), u64 ((trA ws (0 + 5 * zi)).c)] 34 (0, 0)), (some b26, .cells #[.pointer (some ⟨b17, 0, none⟩), .pointer (some ⟨b18, 0, none⟩)] 25 (0, 0))]) rfl
    clear H113
    refine sq (r_assign (v := .nilIface) rfl) ?_
    refine wend ?_
    refine seqRegion ?_
    refine sq (r_indexA (off' := 0) (j := 0) arr25 (b := b26) (off := 0) rfl rfl (by first | rfl | omega | (simp; omega)) (by omega) (by omega)) ?_
    refine sq (r_loadC (v := .pointer (some ⟨b17, 0, none⟩)) one24 (H113'.get (k := 12) rfl) (off := 0) rfl (by rfl)) ?_
    have H115 := ((H113'.pick 13 [6, 7, 8, 9, 0, 1, 2, 3, 4, 5, 10, 11, 12] (by decide) (by decide))).as (L' := skR 34 41 135 b17 s78 ++ [(some b108, .cells #[u64 ((biB ws ((5 * n) + 5 * zi)).a), u64 ((biB ws ((5 * n) + 5 * zi)).b), u64 ((biB ws ((5 * n) + 5 * zi)).c)] 34 (0, 0)), (some b18, .cells #[.slice s98.t.a s98.t.l.length s98.t.c, .slice s98.b.a s98.b.l.length s98.b.c, .slice s98.o.a s98.o.l.length s98.o.c] 135 (0, 0)), (s98.t.key, sobP ETr 34 s98.t.pre s98.t.l s98.t.sp), (s98.b.key, sobP ETr 34 s98.b.pre s98.b.l s98.b.sp), (s98.o.key, sobP EOt 41 s98.o.pre s98.o.l s98.o.sp), (some b88, .cells #[u64 ((trA ws ((5 * n) + 5 * zi)).a), u64 ((trA ws ((5 * n) + 5 * zi)).b), u64 ((trA ws ((5 * n) + 5 * zi)).c)] 34 (0, 0)), (some b68, .cells #[u64 ((trB ws (0 + 5 * zi)).a), u64 ((trB ws (0 + 5 * zi)).b), u64 ((trB ws (0 + 5 * zi)).c)] 34 (0, 0)), (some b48, .cells #[u64 ((trA ws (0 + 5 * zi)).a), u64 ((trA ws (0 + 5 * zi)).b), u64 ((trA ws (0 + 5 * zi)).c)] 34 (0, 0)), (some b26, .cells #[.pointer (some ⟨b17, 0, none⟩), .pointer (some ⟨b18, 0, none⟩)] 25 (0, 0))]) rfl
    refine c_call (vs := [.pointer (some ⟨b17, 0, none⟩)]) call20 rfl (take2_hit b17 s78 hok80 [(some b108, .cells #[u64 ((biB ws ((5 * n) + 5 * zi)).a), u64 ((biB ws ((5 * n) + 5 * zi)).b), u64 ((biB ws ((5 * n) + 5 * zi)).c)] 34 (0, 0)), (some b18, .cells #[.slice s98.t.a s98.t.l.length s98.t.c, .slice s98.b.a s98.b.l.length s98.b.c, .slice s98.o.a s98.o.l.length s98.o.c] 135 (0, 0)), (s98.t.key, sobP ETr 34 s98.t.pre s98.t.l s98.t.sp), (s98.b.key, sobP ETr 34 s98.b.pre s98.b.l s98.b.sp), (s98.o.key, sobP EOt 41 s98.o.pre s98.o.l s98.o.sp), (some b88, .cells #[u64 ((trA ws ((5 * n) + 5 * zi)).a), u64 ((trA ws ((5 * n) + 5 * zi)).b), u64 ((trA ws ((5 * n) + 5 * zi)).c)] 34 (0, 0)), (some b68, .cells #[u64 ((trB ws (0 + 5 * zi)).a), u64 ((trB ws (0 + 5 * zi)).b), u64 ((trB ws (0 + 5 * zi)).c)] 34 (0, 0)), (some b48, .cells #[u64 ((trA ws (0 + 5 * zi)).a), u64 ((trA ws (0 + 5 * zi)).b), u64 ((trA ws (0 + 5 * zi)).c)] 34 (0, 0)), (some b26, .cells #[.pointer (some ⟨b17, 0, none⟩), .pointer (some ⟨b18, 0, none⟩)] 25 (0, 0))] w₀ w112 H115 (by rw [hf86]; simp only [List.length_drop, rowsOf_len] <;> omega)) ?_
    rintro _ w116 ⟨rfl, s118, HN119, hok120, hd121, he122, he123⟩
    have H124 := HN119.as (L' := [(some b17, .cells #[.slice s118.t.a s118.t.l.length s118.t.c, .slice s118.b.a s118.b.l.length s118.b.c, .slice s118.o.a s118.o.l.length s118.o.c] 135 (0, 0)), (s118.t.key, sobP ETr 34 s118.t.pre s118.t.l s118.t.sp), (s118.b.key, sobP ETr 34 s118.b.pre s118.b.l s118.b.sp), (s118.o.key, sobP EOt 41 s118.o.pre s118.o.l s118.o.sp), (some b108, .cells #[u64 ((biB ws ((5 * n) + 5 * zi)).a), u64 ((biB ws ((5 * n) + 5 * zi)).b), u64 ((biB ws ((5 * n) + 5 * zi)).c)] 34 (0, 0)), (some b18, .cells #[.slice s98.t.a s98.t.l.length s98.t.c, .slice s98.b.a s98.b.l.length s98.b.c, .slice s98.o.a s98.o.l.length s98.o.c] 135 (0, 0)), (s98.t.key, sobP ETr 34 s98.t.pre s98.t.l s98.t.sp), (s98.b.key, sobP ETr 34 s98.b.pre s98.b.l s98.b.sp), (s98.o.key, sobP EOt 41 s98.o.pre s98.o.l s98.o.sp), (some b88, .cells #[u64 ((trA ws ((5 * n) + 5 * zi)).a), u64 ((trA ws ((5 * n) + 5 * zi)).b), u64 ((trA ws ((5 * n) + 5 * zi)).c)] 34 (0, 0)), (some b68, .cells #[u64 ((trB ws (0 + 5 * zi)).a), u64 ((trB ws (0 + 5 * zi)).b), u64 ((trB ws (0 + 5 * zi)).c)] 34 (0, 0)), (some b48, .cells #[u64 ((trA ws (0 + 5 * zi)).a), u64 ((trA ws (0 + 5 * zi)).b), u64 ((trA ws (0 + 5 * zi)).c)] 34 (0, 0)), (some b26, .cells #[.pointer (some ⟨b17, 0, none⟩), .pointer (some ⟨b18, 0, none⟩)] 25 (0, 0))]) rfl
    rw [hf86]
    rw [show ((rowsOf (otA ws) (5 * (n + n)) n).drop zi).getD 0 ot0 = otA ws ((5 * (n + n)) + 5 * zi) from by exact rowsOf_drop (by omega)]
    have hf125 : s118.t.l = (rowsOf (trA ws) 0 n).drop (zi + 1) := by rw [he122]; exact hf85
    have hf126 : s118.b.l = (rowsOf (trA ws) (5 * n) n).drop (zi + 1) := by rw [he123]; exact hf87
    have hf127 : s118.o.l = (rowsOf (otA ws) (5 * (n + n)) n).drop (zi + 1) := by rw [hd121, hf86, List.drop_drop]
    refine sq (r_move (v := .tuple #[.agg #[u64 ((otA ws ((5 * (n + n)) + 5 * zi)).p), u64 ((otA ws ((5 * (n + n)) + 5 * zi)).q), u64 ((otA ws ((5 * (n + n)) + 5 * zi)).r), u64 ((otA ws ((5 * (n + n)) + 5 * zi)).s), .bool ((otA ws ((5 * (n + n)) + 5 * zi)).ch)], .nilIface]) rfl) ?_
    refine sq (r_extract (vs := #[.agg #[u64 ((otA ws ((5 * (n + n)) + 5 * zi)).p), u64 ((otA ws ((5 * (n + n)) + 5 * zi)).q), u64 ((otA ws ((5 * (n + n)) + 5 * zi)).r), u64 ((otA ws ((5 * (n + n)) + 5 * zi)).s), .bool ((otA ws ((5 * (n + n)) + 5 * zi)).ch)], .nilIface]) rfl rfl) ?_
    refine sq (r_extract (vs := #[.agg #[u64 ((otA ws ((5 * (n + n)) + 5 * zi)).p), u64 ((otA ws ((5 * (n + n)) + 5 * zi)).q), u64 ((otA ws ((5 * (n + n)) + 5 * zi)).r), u64 ((otA ws ((5 * (n + n)) + 5 * zi)).s), .bool ((otA ws ((5 * (n + n)) + 5 * zi)).ch)], .nilIface]) rfl rfl) ?_
    refine q_alloc (o := .cells #[u64 (0#64), u64 (0#64), u64 (0#64), u64 (0#64), .bool (false)] 41 (0, 0)) H124 zer41 (by kernel_rfl) ?_
    intro b128 w129 hb128 H130 hE131
    refine d_store (k := 0) (v := .agg #[u64 ((otA ws ((5 * (n + n)) + 5 * zi)).p), u64 ((otA ws ((5 * (n + n)) + 5 * zi)).q), u64 ((otA ws ((5 * (n + n)) + 5 * zi)).r), u64 ((otA ws ((5 * (n + n)) + 5 * zi)).s), .bool ((otA ws ((5 * (n + n)) + 5 * zi)).ch)]) (cs' := #[u64 ((otA ws ((5 * (n + n)) + 5 * zi)).p), u64 ((otA ws ((5 * (n + n)) + 5 * zi)).q), u64 ((otA ws ((5 * (n + n)) + 5 * zi)).r), u64 ((otA ws ((5 * (n + n)) + 5 * zi)).s), .bool ((otA ws ((5 * (n + n)) + 5 * zi)).ch)]) H130 rfl rfl rfl siz41 (by rfl) (by intro u hu; simp [Value.cells] at hu; first | (subst hu; rfl) | (rcases hu with rfl | rfl | rfl | rfl | rfl <;> rfl)) (by exact Nat.le_of_ble_eq_true rfl) (by rfl) ?_
    intro w132 H133 hC134
    have H133' := H133.as (L' := [(some b128, .cells #[u64 ((otA ws ((5 * (n + n)) + 5 * zi)).p), u64 ((otA ws ((5 * (n + n)) + 5 * zi)).q), u64 ((otA ws ((5 * (n + n)) + 5 * zi)).r), u64 ((otA ws ((5 * (n + n)) + 5 * zi)).s), .bool ((otA ws ((5 * (n + n)) + 5 * zi)).ch)] 41 (0, 0)), (some b17, .cells #[.slice s118.t.a s118.t.l.length s118.t.c, .slice s118.b.a s118.b.l.length s118.b.c, .slice s118.o.a s118.o.l.length s118.o.c] 135 (0, 0)), (s118.t.key, sobP ETr 34 s118.t.pre s118.t.l s118.t.sp), (s118.b.key, sobP ETr 34 s118.b.pre s118.b.l s118.b.sp), (s118.o.key, sobP EOt 41 s118.o.pre s118.o.l s118.o.sp), (some b108, .cells #[u64 ((biB ws ((5 * n) + 5 * zi)).a), u64 ((biB ws ((5 * n) + 5 * zi)).b), u64 ((biB ws ((5 * n) + 5 * zi)).c)] 34 (0, 0)), (some b18, .cells #[.slice s98.t.a s98.t.l.length s98.t.c, .slice s98.b.a s98.b.l.length s98.b.c, .slice s98.o.a s98.o.l.length s98.o.c] 135 (0, 0)), (s98.t.key, sobP ETr 34 s98.t.pre s98.t.l s98.t.sp), (s98.b.key, sobP ETr 34 s98.b.pre s98.b.l s98.b.sp), (s98.o.key, sobP EOt 41 s98.o.pre s98.o.l s98.o.sp), (some b88, .cells #[u64 ((trA ws ((5 * n) + 5 * zi)).a), u64 ((trA ws ((5 * n) + 5 * zi)).b), u64 ((trA ws ((5 * n) + 5 * zi)).c)] 34 (0, 0)), (some b68, .cells #[u64 ((trB ws (0 + 5 * zi)).a), u64 ((trB ws (0 + 5 * zi)).b), u64 ((trB ws (0 + 5 * zi)).c)] 34 (0, 0)), (some b48, .cells #[u64 ((trA ws (0 + 5 * zi)).a), u64 ((trA ws (0 + 5 * zi)).b), u64 ((trA ws (0 + 5 * zi)).c)] 34 (0, 0)), (some b26, .cells #[.pointer (some ⟨b17, 0, none⟩), .pointer (some ⟨b18, 0, none⟩)] 25 (0, 0))]) rfl
    clear H133
    refine sq (r_assign (v := .nilIface) rfl) ?_
    refine wend ?_
    refine seqRegion ?_
    refine sq (r_indexA (off' := 1) (j := 1) arr25 (b := b26) (off := 0) rfl rfl (by first | rfl | omega | (simp; omega)) (by omega) (by omega)) ?_
    refine sq (r_loadC (v := .pointer (some ⟨b18, 0, none⟩)) one24 (H133'.get (k := 13) rfl) (off := 1) rfl (by rfl)) ?_
    have H135 := ((H133'.pick 14 [6, 7, 8, 9, 0, 1, 2, 3, 4, 5, 10, 11, 12, 13] (by decide) (by decide))).as (L' := skR 34 41 135 b18 s98 ++ [(some b128, .cells #[u64 ((otA ws ((5 * (n + n)) + 5 * zi)).p), u64 ((otA ws ((5 * (n + n)) + 5 * zi)).q), u64 ((otA ws ((5 * (n + n)) + 5 * zi)).r), u64 ((otA ws ((5 * (n + n)) + 5 * zi)).s), .bool ((otA ws ((5 * (n + n)) + 5 * zi)).ch)] 41 (0, 0)), (some b17, .cells #[.slice s118.t.a s118.t.l.length s118.t.c, .slice s118.b.a s118.b.l.length s118.b.c, .slice s118.o.a s118.o.l.length s118.o.c] 135 (0, 0)), (s118.t.key, sobP ETr 34 s118.t.pre s118.t.l s118.t.sp), (s118.b.key, sobP ETr 34 s118.b.pre s118.b.l s118.b.sp), (s118.o.key, sobP EOt 41 s118.o.pre s118.o.l s118.o.sp), (some b108, .cells #[u64 ((biB ws ((5 * n) + 5 * zi)).a), u64 ((biB ws ((5 * n) + 5 * zi)).b), u64 ((biB ws ((5 * n) + 5 * zi)).c)] 34 (0, 0)), (some b88, .cells #[u64 ((trA ws ((5 * n) + 5 * zi)).a), u64 ((trA ws ((5 * n) + 5 * zi)).b), u64 ((trA ws ((5 * n) + 5 * zi)).c)] 34 (0, 0)), (some b68, .cells #[u64 ((trB ws (0 + 5 * zi)).a), u64 ((trB ws (0 + 5 * zi)).b), u64 ((trB ws (0 + 5 * zi)).c)] 34 (0, 0)), (some b48, .cells #[u64 ((trA ws (0 + 5 * zi)).a), u64 ((trA ws (0 + 5 * zi)).b), u64 ((trA ws (0 + 5 * zi)).c)] 34 (0, 0)), (some b26, .cells #[.pointer (some ⟨b17, 0, none⟩), .pointer (some ⟨b18, 0, none⟩)] 25 (0, 0))]) rfl
    refine c_call (vs := [.pointer (some ⟨b18, 0, none⟩)]) call20 rfl (take2_hit b18 s98 hok100 [(some b128, .cells #[u64 ((otA ws ((5 * (n + n)) + 5 * zi)).p), u64 ((otA ws ((5 * (n + n)) + 5 * zi)).q), u64 ((otA ws ((5 * (n + n)) + 5 * zi)).r), u64 ((otA ws ((5 * (n + n)) + 5 * zi)).s), .bool ((otA ws ((5 * (n + n)) + 5 * zi)).ch)] 41 (0, 0)), (some b17, .cells #[.slice s118.t.a s118.t.l.length s118.t.c, .slice s118.b.a s118.b.l.length s118.b.c, .slice s118.o.a s118.o.l.length s118.o.c] 135 (0, 0)), (s118.t.key, sobP ETr 34 s118.t.pre s118.t.l s118.t.sp), (s118.b.key, sobP ETr 34 s118.b.pre s118.b.l s118.b.sp), (s118.o.key, sobP EOt 41 s118.o.pre s118.o.l s118.o.sp), (some b108, .cells #[u64 ((biB ws ((5 * n) + 5 * zi)).a), u64 ((biB ws ((5 * n) + 5 * zi)).b), u64 ((biB ws ((5 * n) + 5 * zi)).c)] 34 (0, 0)), (some b88, .cells #[u64 ((trA ws ((5 * n) + 5 * zi)).a), u64 ((trA ws ((5 * n) + 5 * zi)).b), u64 ((trA ws ((5 * n) + 5 * zi)).c)] 34 (0, 0)), (some b68, .cells #[u64 ((trB ws (0 + 5 * zi)).a), u64 ((trB ws (0 + 5 * zi)).b), u64 ((trB ws (0 + 5 * zi)).c)] 34 (0, 0)), (some b48, .cells #[u64 ((trA ws (0 + 5 * zi)).a), u64 ((trA ws (0 + 5 * zi)).b), u64 ((trA ws (0 + 5 * zi)).c)] 34 (0, 0)), (some b26, .cells #[.pointer (some ⟨b17, 0, none⟩), .pointer (some ⟨b18, 0, none⟩)] 25 (0, 0))] w₀ w132 H135 (by rw [hf106]; simp only [List.length_drop, rowsOf_len] <;> omega)) ?_
    rintro _ w136 ⟨rfl, s138, HN139, hok140, hd141, he142, he143⟩
    have H144 := HN139.as (L' := [(some b18, .cells #[.slice s138.t.a s138.t.l.length s138.t.c, .slice s138.b.a s138.b.l.length s138.b.c, .slice s138.o.a s138.o.l.length s138.o.c] 135 (0, 0)), (s138.t.key, sobP ETr 34 s138.t.pre s138.t.l s138.t.sp), (s138.b.key, sobP ETr 34 s138.b.pre s138.b.l s138.b.sp), (s138.o.key, sobP EOt 41 s138.o.pre s138.o.l s138.o.sp), (some b128, .cells #[u64 ((otA ws ((5 * (n + n)) + 5 * zi)).p), u64 ((otA ws ((5 * (n + n)) + 5 * zi)).q), u64 ((otA ws ((5 * (n + n)) + 5 * zi)).r), u64 ((otA ws ((5 * (n + n)) + 5 * zi)).s), .bool ((otA ws ((5 * (n + n)) + 5 * zi)).ch)] 41 (0, 0)), (some b17, .cells #[.slice s118.t.a s118.t.l.length s118.t.c, .slice s118.b.a s118.b.l.length s118.b.c, .slice s118.o.a s118.o.l.length s118.o.c] 135 (0, 0)), (s118.t.key, sobP ETr 34 s118.t.pre s118.t.l s118.t.sp), (s118.b.key, sobP ETr 34 s118.b.pre s118.b.l s118.b.sp), (s118.o.key, sobP EOt 41 s118.o.pre s118.o.l s118.o.sp), (some b108, .cells #[u64 ((biB ws ((5 * n) + 5 * zi)).a), u64 ((biB ws ((5 * n) + 5 * zi)).b), u64 ((biB ws ((5 * n) + 5 * zi)).c)] 34 (0, 0)), (some b88, .cells #[u64 ((trA ws ((5 * n) + 5 * zi)).a), u64 ((trA ws ((5 * n) + 5 * zi)).b), u64 ((trA ws ((5 * n) + 5 * zi)).c)] 34 (0, 0)), (some b68, .cells #[u64 ((trB ws (0 + 5 * zi)).a), u64 ((trB ws (0 + 5 * zi)).b), u64 ((trB ws (0 + 5 * zi)).c)] 34 (0, 0)), (some b48, .cells #[u64 ((trA ws (0 + 5 * zi)).a), u64 ((trA ws (0 + 5 * zi)).b), u64 ((trA ws (0 + 5 * zi)).c)] 34 (0, 0)), (some b26, .cells #[.pointer (some ⟨b17, 0, none⟩), .pointer (some ⟨b18, 0, none⟩)] 25 (0, 0))]) rfl
    rw [hf106]
    rw [show ((rowsOf (otB ws) (5 * (n + n)) n).drop zi).getD 0 ot0 = otB ws ((5 * (n + n)) + 5 * zi) from by exact rowsOf_drop (by omega)]
    have hf145 : s138.t.l = (rowsOf (trB ws) 0 n).drop (zi + 1) := by rw [he142]; exact hf105
    have hf146 : s138.b.l = (rowsOf (biB ws) (5 * n) n).drop (zi + 1) := by rw [he143]; exact hf107
    have hf147 : s138.o.l = (rowsOf (otB ws) (5 * (n + n)) n).drop (zi + 1) := by rw [hd141, hf106, List.drop_drop]
    refine sq (r_move (v := .tuple #[.agg #[u64 ((otB ws ((5 * (n + n)) + 5 * zi)).p), u64 ((otB ws ((5 * (n + n)) + 5 * zi)).q), u64 ((otB ws ((5 * (n + n)) + 5 * zi)).r), u64 ((otB ws ((5 * (n + n)) + 5 * zi)).s), .bool ((otB ws ((5 * (n + n)) + 5 * zi)).ch)], .nilIface]) rfl) ?_
    refine sq (r_extract (vs := #[.agg #[u64 ((otB ws ((5 * (n + n)) + 5 * zi)).p), u64 ((otB ws ((5 * (n + n)) + 5 * zi)).q), u64 ((otB ws ((5 * (n + n)) + 5 * zi)).r), u64 ((otB ws ((5 * (n + n)) + 5 * zi)).s), .bool ((otB ws ((5 * (n + n)) + 5 * zi)).ch)], .nilIface]) rfl rfl) ?_
    refine sq (r_extract (vs := #[.agg #[u64 ((otB ws ((5 * (n + n)) + 5 * zi)).p), u64 ((otB ws ((5 * (n + n)) + 5 * zi)).q), u64 ((otB ws ((5 * (n + n)) + 5 * zi)).r), u64 ((otB ws ((5 * (n + n)) + 5 * zi)).s), .bool ((otB ws ((5 * (n + n)) + 5 * zi)).ch)], .nilIface]) rfl rfl) ?_
    refine q_alloc (o := .cells #[u64 (0#64), u64 (0#64), u64 (0#64), u64 (0#64), .bool (false)] 41 (0, 0)) H144 zer41 (by kernel_rfl) ?_
    intro b148 w149 hb148 H150 hE151
    refine d_store (k := 0) (v := .agg #[u64 ((otB ws ((5 * (n + n)) + 5 * zi)).p), u64 ((otB ws ((5 * (n + n)) + 5 * zi)).q), u64 ((otB ws ((5 * (n + n)) + 5 * zi)).r), u64 ((otB ws ((5 * (n + n)) + 5 * zi)).s), .bool ((otB ws ((5 * (n + n)) + 5 * zi)).ch)]) (cs' := #[u64 ((otB ws ((5 * (n + n)) + 5 * zi)).p), u64 ((otB ws ((5 * (n + n)) + 5 * zi)).q), u64 ((otB ws ((5 * (n + n)) + 5 * zi)).r), u64 ((otB ws ((5 * (n + n)) + 5 * zi)).s), .bool ((otB ws ((5 * (n + n)) + 5 * zi)).ch)]) H150 rfl rfl rfl siz41 (by rfl) (by intro u hu; simp [Value.cells] at hu; first | (subst hu; rfl) | (rcases hu with rfl | rfl | rfl | rfl | rfl <;> rfl)) (by exact Nat.le_of_ble_eq_true rfl) (by rfl) ?_
    intro w152 H153 hC154
    have H153' := H153.as (L' := [(some b148, .cells #[u64 ((otB ws ((5 * (n + n)) + 5 * zi)).p), u64 ((otB ws ((5 * (n + n)) + 5 * zi)).q), u64 ((otB ws ((5 * (n + n)) + 5 * zi)).r), u64 ((otB ws ((5 * (n + n)) + 5 * zi)).s), .bool ((otB ws ((5 * (n + n)) + 5 * zi)).ch)] 41 (0, 0)), (some b18, .cells #[.slice s138.t.a s138.t.l.length s138.t.c, .slice s138.b.a s138.b.l.length s138.b.c, .slice s138.o.a s138.o.l.length s138.o.c] 135 (0, 0)), (s138.t.key, sobP ETr 34 s138.t.pre s138.t.l s138.t.sp), (s138.b.key, sobP ETr 34 s138.b.pre s138.b.l s138.b.sp), (s138.o.key, sobP EOt 41 s138.o.pre s138.o.l s138.o.sp), (some b128, .cells #[u64 ((otA ws ((5 * (n + n)) + 5 * zi)).p), u64 ((otA ws ((5 * (n + n)) + 5 * zi)).q), u64 ((otA ws ((5 * (n + n)) + 5 * zi)).r), u64 ((otA ws ((5 * (n + n)) + 5 * zi)).s), .bool ((otA ws ((5 * (n + n)) + 5 * zi)).ch)] 41 (0, 0)), (some b17, .cells #[.slice s118.t.a s118.t.l.length s118.t.c, .slice s118.b.a s118.b.l.length s118.b.c, .slice s118.o.a s118.o.l.length s118.o.c] 135 (0, 0)), (s118.t.key, sobP ETr 34 s118.t.pre s118.t.l s118.t.sp), (s118.b.key, sobP ETr 34 s118.b.pre s118.b.l s118.b.sp), (s118.o.key, sobP EOt 41 s118.o.pre s118.o.l s118.o.sp), (some b108, .cells #[u64 ((biB ws ((5 * n) + 5 * zi)).a), u64 ((biB ws ((5 * n) + 5 * zi)).b), u64 ((biB ws ((5 * n) + 5 * zi)).c)] 34 (0, 0)), (some b88, .cells #[u64 ((trA ws ((5 * n) + 5 * zi)).a), u64 ((trA ws ((5 * n) + 5 * zi)).b), u64 ((trA ws ((5 * n) + 5 * zi)).c)] 34 (0, 0)), (some b68, .cells #[u64 ((trB ws (0 + 5 * zi)).a), u64 ((trB ws (0 + 5 * zi)).b), u64 ((trB ws (0 + 5 * zi)).c)] 34 (0, 0)), (some b48, .cells #[u64 ((trA ws (0 + 5 * zi)).a), u64 ((trA ws (0 + 5 * zi)).b), u64 ((trA ws (0 + 5 * zi)).c)] 34 (0, 0)), (some b26, .cells #[.pointer (some ⟨b17, 0, none⟩), .pointer (some ⟨b18, 0, none⟩)] 25 (0, 0))]) rfl
    clear H153
    refine sq (r_assign (v := .nilIface) rfl) ?_
    refine wend ?_
    refine seqRegion ?_
    refine sq (r_assign (v := i64 ((0 : Int))) rfl) ?_
    refine wend ?_
    refine seqAny ?_
    refine seqRegion ?_
    refine sq (r_fieldAddr (off' := 4) fld41_1 (by decide) (b := b148) (off := 0) rfl (by omega)) ?_
    refine sq (r_loadC (v := .bool ((otB ws ((5 * (n + n)) + 5 * zi)).ch)) one4 (H153'.get (k := 0) rfl) (off := 4) rfl (by rfl)) ?_
    refine wend ?_
    refine condBool ((otB ws ((5 * (n + n)) + 5 * zi)).ch) rfl (fun c93 => ?_) (fun c93 => ?_)
    · skip
      refine oneRegion ?_
      refine sq (r_assign (v := i64 ((1 : Int))) rfl) ?_
      refine wnil ?_
      refine thenNormal ?_
      refine seqAny ?_
      refine drawAny (K := [none, none, none, none, none, none, none, none, none, none, none, none, none, none, none, none, none, none, none, none, none, none, none, none, none, none, none, none, none, none, none, none, none, none, none, none, none, none, none, none, none, none, none, none, none, none, none, none, none, none, none, none, none, none, none, none, none]) [0, 1, 0, 4, 15, 0, 32, 0, 128, 480, 1023, 0, 2048, 0, 8192, 30720, 65535, 131071, 262143, 524287, 262143, 1310719, 4194303, 262143, 8650751, 262143, 33816575, 126091263, 268435455, 262143, 537133055, 262143, 2147745791, 8053325823, 17179869183, 34359738367, 68719476735, 137438953471, 274877906943, 549755813887, 137438953471, 137438953471, 3435973836799, 7834020347903, 17592186044415, 35184372088831, 70368744177663, 140737488355327, 281474976710655, 562949953421311, 140737488355327, 2251799813685247, 4503599627370495, 9007199254740991, 18014398509481983, 36028797018963967, 72057594037927935] (fun w' => Ext w152 w') (fun w' w'' => Ext w' w'') mixed (by kernel_rfl) (Ext.drew _) (fun _ _ h h' => h.trans h') ?_ ?_
      · exact relNone (by decide)
      refine ⟨.pointer (some ⟨b48, 0, none⟩), fun _ uw155 hC156 _ => Gives.run rfl (r_fieldAddr (off' := 0) fld34_0 (by decide) (b := b48) (off := 0) rfl (by omega)) ⟨rfl, Chg.refl _ _⟩, ?_⟩
      refine ⟨u64 ((trA ws (0 + 5 * zi)).a), fun _ uw157 hC158 _ => Gives.run rfl (r_loadC (v := u64 ((trA ws (0 + 5 * zi)).a)) one32 ((H153'.ext hC158).get (k := 13) rfl) (off := 0) rfl (by rfl)) ⟨rfl, Chg.refl _ _⟩, ?_⟩
      refine ⟨.pointer (some ⟨b68, 0, none⟩), fun _ uw159 hC160 _ => Gives.run rfl (r_fieldAddr (off' := 0) fld34_0 (by decide) (b := b68) (off := 0) rfl (by omega)) ⟨rfl, Chg.refl _ _⟩, ?_⟩
      refine ⟨u64 ((trB ws (0 + 5 * zi)).a), fun _ uw161 hC162 _ => Gives.run rfl (r_loadC (v := u64 ((trB ws (0 + 5 * zi)).a)) one32 ((H153'.ext hC162).get (k := 12) rfl) (off := 0) rfl (by rfl)) ⟨rfl, Chg.refl _ _⟩, ?_⟩
      refine ⟨u64 (((trA ws (0 + 5 * zi)).a) + ((trB ws (0 + 5 * zi)).a)), fun _ uw163 hC164 _ => Gives.run rfl (r_add64 (a := (trA ws (0 + 5 * zi)).a) (b := (trB ws (0 + 5 * zi)).a) rfl rfl) ⟨rfl, Chg.refl _ _⟩, ?_⟩
      refine ⟨.pointer (some ⟨b48, 1, none⟩), fun _ uw165 hC166 _ => Gives.run rfl (r_fieldAddr (off' := 1) fld34_1 (by decide) (b := b48) (off := 0) rfl (by omega)) ⟨rfl, Chg.refl _ _⟩, ?_⟩
      refine ⟨u64 ((trA ws (0 + 5 * zi)).b), fun _ uw167 hC168 _ => Gives.run rfl (r_loadC (v := u64 ((trA ws (0 + 5 * zi)).b)) one32 ((H153'.ext hC168).get (k := 13) rfl) (off := 1) rfl (by rfl)) ⟨rfl, Chg.refl _ _⟩, ?_⟩
      refine ⟨.pointer (some ⟨b68, 1, none⟩), fun _ uw169 hC170 _ => Gives.run rfl (r_fieldAddr (off' := 1) fld34_1 (by decide) (b := b68) (off := 0) rfl (by omega)) ⟨rfl, Chg.refl _ _⟩, ?_⟩
      refine ⟨u64 ((trB ws (0 + 5 * zi)).b), fun _ uw171 hC172 _ => Gives.run rfl (r_loadC (v := u64 ((trB ws (0 + 5 * zi)).b)) one32 ((H153'.ext hC172).get (k := 12) rfl) (off := 1) rfl (by rfl)) ⟨rfl, Chg.refl _ _⟩, ?_⟩
      refine ⟨u64 (((trA ws (0 + 5 * zi)).b) + ((trB ws (0 + 5 * zi)).b)), fun _ uw173 hC174 _ => Gives.run rfl (r_add64 (a := (trA ws (0 + 5 * zi)).b) (b := (trB ws (0 + 5 * zi)).b) rfl rfl) ⟨rfl, Chg.refl _ _⟩, ?_⟩
      refine ⟨u64 ((((trA ws (0 + 5 * zi)).a) + ((trB ws (0 + 5 * zi)).a)) * (((trA ws (0 + 5 * zi)).b) + ((trB ws (0 + 5 * zi)).b))), fun _ uw175 hC176 _ => Gives.run rfl (r_mul64 (a := ((trA ws (0 + 5 * zi)).a) + ((trB ws (0 + 5 * zi)).a)) (b := ((trA ws (0 + 5 * zi)).b) + ((trB ws (0 + 5 * zi)).b)) rfl rfl) ⟨rfl, Chg.refl _ _⟩, ?_⟩
      refine ⟨.pointer (some ⟨b48, 2, none⟩), fun _ uw177 hC178 _ => Gives.run rfl (r_fieldAddr (off' := 2) fld34_2 (by decide) (b := b48) (off := 0) rfl (by omega)) ⟨rfl, Chg.refl _ _⟩, ?_⟩
      refine ⟨u64 ((trA ws (0 + 5 * zi)).c), fun _ uw179 hC180 _ => Gives.run rfl (r_loadC (v := u64 ((trA ws (0 + 5 * zi)).c)) one32 ((H153'.ext hC180).get (k := 13) rfl) (off := 2) rfl (by rfl)) ⟨rfl, Chg.refl _ _⟩, ?_⟩
      refine ⟨.pointer (some ⟨b68, 2, none⟩), fun _ uw181 hC182 _ => Gives.run rfl (r_fieldAddr (off' := 2) fld34_2 (by decide) (b := b68) (off := 0) rfl (by omega)) ⟨rfl, Chg.refl _ _⟩, ?_⟩
      refine ⟨u64 ((trB ws (0 + 5 * zi)).c), fun _ uw183 hC184 _ => Gives.run rfl (r_loadC (v := u64 ((trB ws (0 + 5 * zi)).c)) one32 ((H153'.ext hC184).get (k := 12) rfl) (off := 2) rfl (by rfl)) ⟨rfl, Chg.refl _ _⟩, ?_⟩
      refine ⟨u64 (((trA ws (0 + 5 * zi)).c) + ((trB ws (0 + 5 * zi)).c)), fun _ uw185 hC186 _ => Gives.run rfl (r_add64 (a := (trA ws (0 + 5 * zi)).c) (b := (trB ws (0 + 5 * zi)).c) rfl rfl) ⟨rfl, Chg.refl _ _⟩, ?_⟩
      refine ⟨.bool (false), fun _ uw187 hC188 _ => Gives.run rfl ((r_neq64 (a := (((trA ws (0 + 5 * zi)).a) + ((trB ws (0 + 5 * zi)).a)) * (((trA ws (0 + 5 * zi)).b) + ((trB ws (0 + 5 * zi)).b))) (b := ((trA ws (0 + 5 * zi)).c) + ((trB ws (0 + 5 * zi)).c)) rfl rfl).as (v' := .bool (false)) (by exact congrArg Value.bool (decide_eq_false fun h => h (tr_fits ws _)))) ⟨rfl, Chg.refl _ _⟩, ?_⟩
      refine ⟨.bool (false), fun _ uw189 hC190 _ => Gives.run rfl (r_move (v := .bool (false)) rfl) ⟨rfl, Chg.refl _ _⟩, ?_⟩
      refine ⟨.pointer (some ⟨b88, 0, none⟩), fun _ uw191 hC192 _ => Gives.runW (wantedSome (d' := 111) (b := false) rfl rfl rfl) (r_fieldAddr (off' := 0) fld34_0 (by decide) (b := b88) (off := 0) rfl (by omega)) ⟨rfl, Chg.refl _ _⟩, ?_⟩
      refine ⟨u64 ((trA ws ((5 * n) + 5 * zi)).a), fun _ uw193 hC194 _ => Gives.runW (wantedSome (d' := 111) (b := false) rfl rfl rfl) (r_loadC (v := u64 ((trA ws ((5 * n) + 5 * zi)).a)) one32 ((H153'.ext hC194).get (k := 11) rfl) (off := 0) rfl (by rfl)) ⟨rfl, Chg.refl _ _⟩, ?_⟩
      refine ⟨.pointer (some ⟨b108, 0, none⟩), fun _ uw195 hC196 _ => Gives.runW (wantedSome (d' := 111) (b := false) rfl rfl rfl) (r_fieldAddr (off' := 0) fld34_0 (by decide) (b := b108) (off := 0) rfl (by omega)) ⟨rfl, Chg.refl _ _⟩, ?_⟩
      refine ⟨u64 ((biB ws ((5 * n) + 5 * zi)).a), fun _ uw197 hC198 _ => Gives.runW (wantedSome (d' := 111) (b := false) rfl rfl rfl) (r_loadC (v := u64 ((biB ws ((5 * n) + 5 * zi)).a)) one32 ((H153'.ext hC198).get (k := 10) rfl) (off := 0) rfl (by rfl)) ⟨rfl, Chg.refl _ _⟩, ?_⟩
      refine ⟨u64 (((trA ws ((5 * n) + 5 * zi)).a) ^^^ ((biB ws ((5 * n) + 5 * zi)).a)), fun _ uw199 hC200 _ => Gives.runW (wantedSome (d' := 111) (b := false) rfl rfl rfl) (r_xor64 (a := (trA ws ((5 * n) + 5 * zi)).a) (b := (biB ws ((5 * n) + 5 * zi)).a) rfl rfl) ⟨rfl, Chg.refl _ _⟩, ?_⟩
      refine ⟨.pointer (some ⟨b88, 1, none⟩), fun _ uw201 hC202 _ => Gives.runW (wantedSome (d' := 111) (b := false) rfl rfl rfl) (r_fieldAddr (off' := 1) fld34_1 (by decide) (b := b88) (off := 0) rfl (by omega)) ⟨rfl, Chg.refl _ _⟩, ?_⟩
      refine ⟨u64 ((trA ws ((5 * n) + 5 * zi)).b), fun _ uw203 hC204 _ => Gives.runW (wantedSome (d' := 111) (b := false) rfl rfl rfl) (r_loadC (v := u64 ((trA ws ((5 * n) + 5 * zi)).b)) one32 ((H153'.ext hC204).get (k := 11) rfl) (off := 1) rfl (by rfl)) ⟨rfl, Chg.refl _ _⟩, ?_⟩
      refine ⟨.pointer (some ⟨b108, 1, none⟩), fun _ uw205 hC206 _ => Gives.runW (wantedSome (d' := 111) (b := false) rfl rfl rfl) (r_fieldAddr (off' := 1) fld34_1 (by decide) (b := b108) (off := 0) rfl (by omega)) ⟨rfl, Chg.refl _ _⟩, ?_⟩
      refine ⟨u64 ((biB ws ((5 * n) + 5 * zi)).b), fun _ uw207 hC208 _ => Gives.runW (wantedSome (d' := 111) (b := false) rfl rfl rfl) (r_loadC (v := u64 ((biB ws ((5 * n) + 5 * zi)).b)) one32 ((H153'.ext hC208).get (k := 10) rfl) (off := 1) rfl (by rfl)) ⟨rfl, Chg.refl _ _⟩, ?_⟩
      refine ⟨u64 (((trA ws ((5 * n) + 5 * zi)).b) ^^^ ((biB ws ((5 * n) + 5 * zi)).b)), fun _ uw209 hC210 _ => Gives.runW (wantedSome (d' := 111) (b := false) rfl rfl rfl) (r_xor64 (a := (trA ws ((5 * n) + 5 * zi)).b) (b := (biB ws ((5 * n) + 5 * zi)).b) rfl rfl) ⟨rfl, Chg.refl _ _⟩, ?_⟩
      refine ⟨u64 ((((trA ws ((5 * n) + 5 * zi)).a) ^^^ ((biB ws ((5 * n) + 5 * zi)).a)) &&& (((trA ws ((5 * n) + 5 * zi)).b) ^^^ ((biB ws ((5 * n) + 5 * zi)).b))), fun _ uw211 hC212 _ => Gives.runW (wantedSome (d' := 111) (b := false) rfl rfl rfl) (r_and64 (a := ((trA ws ((5 * n) + 5 * zi)).a) ^^^ ((biB ws ((5 * n) + 5 * zi)).a)) (b := ((trA ws ((5 * n) + 5 * zi)).b) ^^^ ((biB ws ((5 * n) + 5 * zi)).b)) rfl rfl) ⟨rfl, Chg.refl _ _⟩, ?_⟩
      refine ⟨.pointer (some ⟨b88, 2, none⟩), fun _ uw213 hC214 _ => Gives.runW (wantedSome (d' := 111) (b := false) rfl rfl rfl) (r_fieldAddr (off' := 2) fld34_2 (by decide) (b := b88) (off := 0) rfl (by omega)) ⟨rfl, Chg.refl _ _⟩, ?_⟩
      refine ⟨u64 ((trA ws ((5 * n) + 5 * zi)).c), fun _ uw215 hC216 _ => Gives.runW (wantedSome (d' := 111) (b := false) rfl rfl rfl) (r_loadC (v := u64 ((trA ws ((5 * n) + 5 * zi)).c)) one32 ((H153'.ext hC216).get (k := 11) rfl) (off := 2) rfl (by rfl)) ⟨rfl, Chg.refl _ _⟩, ?_⟩
      refine ⟨.pointer (some ⟨b108, 2, none⟩), fun _ uw217 hC218 _ => Gives.runW (wantedSome (d' := 111) (b := false) rfl rfl rfl) (r_fieldAddr (off' := 2) fld34_2 (by decide) (b := b108) (off := 0) rfl (by omega)) ⟨rfl, Chg.refl _ _⟩, ?_⟩
      refine ⟨u64 ((biB ws ((5 * n) + 5 * zi)).c), fun _ uw219 hC220 _ => Gives.runW (wantedSome (d' := 111) (b := false) rfl rfl rfl) (r_loadC (v := u64 ((biB ws ((5 * n) + 5 * zi)).c)) one32 ((H153'.ext hC220).get (k := 10) rfl) (off := 2) rfl (by rfl)) ⟨rfl, Chg.refl _ _⟩, ?_⟩
      refine ⟨u64 (((trA ws ((5 * n) + 5 * zi)).c) ^^^ ((biB ws ((5 * n) + 5 * zi)).c)), fun _ uw221 hC222 _ => Gives.runW (wantedSome (d' := 111) (b := false) rfl rfl rfl) (r_xor64 (a := (trA ws ((5 * n) + 5 * zi)).c) (b := (biB ws ((5 * n) + 5 * zi)).c) rfl rfl) ⟨rfl, Chg.refl _ _⟩, ?_⟩
      refine ⟨.bool (false), fun _ uw223 hC224 _ => Gives.runW (wantedSome (d' := 111) (b := false) rfl rfl rfl) ((r_neq64 (a := (((trA ws ((5 * n) + 5 * zi)).a) ^^^ ((biB ws ((5 * n) + 5 * zi)).a)) &&& (((trA ws ((5 * n) + 5 * zi)).b) ^^^ ((biB ws ((5 * n) + 5 * zi)).b))) (b := ((trA ws ((5 * n) + 5 * zi)).c) ^^^ ((biB ws ((5 * n) + 5 * zi)).c)) rfl rfl).as (v' := .bool (false)) (by exact congrArg Value.bool (decide_eq_false fun h => h (bi_fits ws _)))) ⟨rfl, Chg.refl _ _⟩, ?_⟩
      refine ⟨.bool (false), fun _ uw225 hC226 _ => Gives.run rfl (r_pickF (v := .bool (false)) rfl rfl) ⟨rfl, Chg.refl _ _⟩, ?_⟩
      refine ⟨.bool (false), fun _ uw227 hC228 _ => Gives.run rfl (r_move (v := .bool (false)) rfl) ⟨rfl, Chg.refl _ _⟩, ?_⟩
      refine ⟨.pointer (some ⟨b148, 0, none⟩), fun _ uw229 hC230 _ => Gives.runW (wantedSome (d' := 130) (b := false) rfl rfl rfl) (r_fieldAddr (off' := 0) fld41_0 (by decide) (b := b148) (off := 0) rfl (by omega)) ⟨rfl, Chg.refl _ _⟩, ?_⟩
      refine ⟨.pointer (some ⟨b148, 0, none⟩), fun _ uw231 hC232 _ => Gives.runW (wantedSome (d' := 130) (b := false) rfl rfl rfl) (r_indexA (off' := 0) (j := 0) arr39 (b := b148) (off := 0) rfl rfl (by first | rfl | omega | (simp; omega)) (by omega) (by omega)) ⟨rfl, Chg.refl _ _⟩, ?_⟩
      refine ⟨.agg (cel E64 [(otB ws ((5 * (n + n)) + 5 * zi)).p, (otB ws ((5 * (n + n)) + 5 * zi)).q]).toArray, fun _ uw233 hC234 _ => Gives.runW (wantedSome (d' := 130) (b := false) rfl rfl rfl) (r_loadA (cs' := (cel E64 [(otB ws ((5 * (n + n)) + 5 * zi)).p, (otB ws ((5 * (n + n)) + 5 * zi)).q]).toArray) agg38 siz38 ((H153'.ext hC234).get (k := 0) rfl) (off := 0) rfl (by exact Nat.le_of_ble_eq_true rfl) (by rfl)) ⟨rfl, Chg.refl _ _⟩, ?_⟩
      refine ⟨i64 ((1 : Int)), fun _ uw235 hC236 _ => Gives.runW (wantedSome (d' := 130) (b := false) rfl rfl rfl) (r_move (v := i64 ((1 : Int))) rfl) ⟨rfl, Chg.refl _ _⟩, ?_⟩
      refine ⟨.pointer (some ⟨b128, 0, none⟩), fun _ uw237 hC238 _ => Gives.runW (wantedSome (d' := 130) (b := false) rfl rfl rfl) (r_fieldAddr (off' := 0) fld41_0 (by decide) (b := b128) (off := 0) rfl (by omega)) ⟨rfl, Chg.refl _ _⟩, ?_⟩
      refine ⟨.pointer (some ⟨b128, 2, none⟩), fun _ uw239 hC240 _ => Gives.runW (wantedSome (d' := 130) (b := false) rfl rfl rfl) (r_indexA (off' := 2) (j := 1) arr39 (b := b128) (off := 0) rfl rfl (by first | rfl | omega | (simp; omega)) (by omega) (by omega)) ⟨rfl, Chg.refl _ _⟩, ?_⟩
      refine ⟨.agg (cel E64 [(otA ws ((5 * (n + n)) + 5 * zi)).r, (otA ws ((5 * (n + n)) + 5 * zi)).s]).toArray, fun _ uw241 hC242 _ => Gives.runW (wantedSome (d' := 130) (b := false) rfl rfl rfl) (r_loadA (cs' := (cel E64 [(otA ws ((5 * (n + n)) + 5 * zi)).r, (otA ws ((5 * (n + n)) + 5 * zi)).s]).toArray) agg38 siz38 ((H153'.ext hC242).get (k := 5) rfl) (off := 2) rfl (by exact Nat.le_of_ble_eq_true rfl) (by rfl)) ⟨rfl, Chg.refl _ _⟩, ?_⟩
      refine ⟨.bool (false), fun _ uw243 hC244 _ => Gives.runW (wantedSome (d' := 130) (b := false) rfl rfl rfl) ((r_neqA (E := E64) (l := [(otB ws ((5 * (n + n)) + 5 * zi)).p, (otB ws ((5 * (n + n)) + 5 * zi)).q]) (l' := [(otA ws ((5 * (n + n)) + 5 * zi)).r, (otA ws ((5 * (n + n)) + 5 * zi)).s]) gty38 und38 fits32 (eqAt64 und32) (rfl) (rfl) rfl rfl).as (v' := .bool (false)) (by rw [otB_true c93]; simp [otA])) ⟨rfl, Chg.refl _ _⟩, ?_⟩
      refine ⟨.bool (false), fun _ uw245 hC246 _ => Gives.run rfl (r_pickF (v := .bool (false)) rfl rfl) ⟨rfl, Chg.refl _ _⟩, ?_⟩
      refine ⟨.bool (false), fun _ uw247 hC248 _ => Gives.run rfl (r_move (v := .bool (false)) rfl) ⟨rfl, Chg.refl _ _⟩, ?_⟩
      refine ⟨.pointer (some ⟨b148, 0, none⟩), fun _ uw249 hC250 _ => Gives.runW (wantedSome (d' := 140) (b := false) rfl rfl rfl) (r_fieldAddr (off' := 0) fld41_0 (by decide) (b := b148) (off := 0) rfl (by omega)) ⟨rfl, Chg.refl _ _⟩, ?_⟩
      refine ⟨.pointer (some ⟨b148, 2, none⟩), fun _ uw251 hC252 _ => Gives.runW (wantedSome (d' := 140) (b := false) rfl rfl rfl) (r_indexA (off' := 2) (j := 1) arr39 (b := b148) (off := 0) rfl rfl (by first | rfl | omega | (simp; omega)) (by omega) (by omega)) ⟨rfl, Chg.refl _ _⟩, ?_⟩
      refine ⟨.agg (cel E64 [(otB ws ((5 * (n + n)) + 5 * zi)).r, (otB ws ((5 * (n + n)) + 5 * zi)).s]).toArray, fun _ uw253 hC254 _ => Gives.runW (wantedSome (d' := 140) (b := false) rfl rfl rfl) (r_loadA (cs' := (cel E64 [(otB ws ((5 * (n + n)) + 5 * zi)).r, (otB ws ((5 * (n + n)) + 5 * zi)).s]).toArray) agg38 siz38 ((H153'.ext hC254).get (k := 0) rfl) (off := 2) rfl (by exact Nat.le_of_ble_eq_true rfl) (by rfl)) ⟨rfl, Chg.refl _ _⟩, ?_⟩
      refine ⟨.agg (cel E64 [0#64, 0#64]).toArray, fun _ uw255 hC256 _ => Gives.runW (wantedSome (d' := 140) (b := false) rfl rfl rfl) (r_buildA (cs' := (cel E64 [0#64, 0#64]).toArray) (ps := []) zer38 arr38 rfl (by rfl)) ⟨rfl, Chg.refl _ _⟩, ?_⟩
      refine ⟨.bool (false), fun _ uw257 hC258 _ => Gives.runW (wantedSome (d' := 140) (b := false) rfl rfl rfl) ((r_neqA (E := E64) (l := [(otB ws ((5 * (n + n)) + 5 * zi)).r, (otB ws ((5 * (n + n)) + 5 * zi)).s]) (l' := [0#64, 0#64]) gty38 und38 fits32 (eqAt64 und32) (rfl) (rfl) rfl rfl).as (v' := .bool (false)) (by rw [otB_true c93]; simp)) ⟨rfl, Chg.refl _ _⟩, ?_⟩
      refine ⟨.bool (false), fun _ uw259 hC260 _ => Gives.run rfl (r_pickF (v := .bool (false)) rfl rfl) ⟨rfl, Chg.refl _ _⟩, ?_⟩
      refine ⟨.bool (false), fun _ uw261 hC262 _ => Gives.run rfl (r_move (v := .bool (false)) rfl) ⟨rfl, Chg.refl _ _⟩, ?_⟩
      refine ⟨.pointer (some ⟨b128, 4, none⟩), fun _ uw263 hC264 _ => Gives.runW (wantedSome (d' := 147) (b := false) rfl rfl rfl) (r_fieldAddr (off' := 4) fld41_1 (by decide) (b := b128) (off := 0) rfl (by omega)) ⟨rfl, Chg.refl _ _⟩, ?_⟩
      refine ⟨.bool (false), fun _ uw265 hC266 _ => Gives.runW (wantedSome (d' := 147) (b := false) rfl rfl rfl) ((r_loadC (v := .bool ((otA ws ((5 * (n + n)) + 5 * zi)).ch)) one4 ((H153'.ext hC266).get (k := 5) rfl) (off := 4) rfl (by rfl)).as (v' := .bool (false)) (by rfl)) ⟨rfl, Chg.refl _ _⟩, ?_⟩
      refine ⟨.bool (false), fun _ uw267 hC268 _ => Gives.run rfl (r_pickF (v := .bool (false)) rfl rfl) ⟨rfl, Chg.refl _ _⟩, ?_⟩
      intro r272 w269 hE271 hF
      have H270 := H153'.ext hE271
      refine wnil ?_
      refine thenNormal ?_
      refine condFalse rfl ?_
      refine skipAny ?_
      refine blockNormal ?_
      refine thenNormal ?_
      refine oneRegion ?_
      refine sq (r_move (v := i64 ((zi : Nat))) rfl) ?_
      refine sq (r_addI (a := (zi : Nat)) (b := (1 : Int)) rfl rfl (by omega)) ?_
      refine sq (r_assign (v := i64 ((zi : Nat) + (1 : Int))) rfl) ?_
      refine wnil ?_
      refine thenNormal ?_
      exact ⟨(zi + 1, s118, s138), _, rfl, ⟨rfl, rfl, rfl, rfl, rfl, trivial⟩, ⟨⟨by omega, hok120, hok140, hf125, hf126, hf127, hf145, hf146, hf147⟩, (H270.pick 15 [14, 6, 7, 8, 9, 1, 2, 3, 4] (by decide) (by decide))⟩, by show n - (zi + 1) < n - zi; omega⟩
    · skip
      refine skipAny ?_
      refine thenNormal ?_
      refine seqAny ?_
      refine drawAny (K := [none, none, none, none, none, none, none, none, none, none, none, none, none, none, none, none, none, none, none, none, none, none, none, none, none, none, none, none, none, none, none, none, none, none, none, none, none, none, none, none, none, none, none, none, none, none, none, none, none, none, none, none, none, none, none, none, none]) [0, 1, 0, 4, 15, 0, 32, 0, 128, 480, 1023, 0, 2048, 0, 8192, 30720, 65535, 131071, 262143, 524287, 262143, 1310719, 4194303, 262143, 8650751, 262143, 33816575, 126091263, 268435455, 262143, 537133055, 262143, 2147745791, 8053325823, 17179869183, 34359738367, 68719476735, 137438953471, 274877906943, 549755813887, 137438953471, 137438953471, 3435973836799, 7834020347903, 17592186044415, 35184372088831, 70368744177663, 140737488355327, 281474976710655, 562949953421311, 140737488355327, 2251799813685247, 4503599627370495, 9007199254740991, 18014398509481983, 36028797018963967, 72057594037927935] (fun w' => Ext w152 w') (fun w' w'' => Ext w' w'') mixed (by kernel_rfl) (Ext.drew _) (fun _ _ h h' => h.trans h') ?_ ?_
      · exact relNone (by decide)
      refine ⟨.pointer (some ⟨b48, 0, none⟩), fun _ uw273 hC274 _ => Gives.run rfl (r_fieldAddr (off' := 0) fld34_0 (by decide) (b := b48) (off := 0) rfl (by omega)) ⟨rfl, Chg.refl _ _⟩, ?_⟩
      refine ⟨u64 ((trA ws (0 + 5 * zi)).a), fun _ uw275 hC276 _ => Gives.run rfl (r_loadC (v := u64 ((trA ws (0 + 5 * zi)).a)) one32 ((H153'.ext hC276).get (k := 13) rfl) (off := 0) rfl (by rfl)) ⟨rfl, Chg.refl _ _⟩, ?_⟩
      refine ⟨.pointer (some ⟨b68, 0, none⟩), fun _ uw277 hC278 _ => Gives.run rfl (r_fieldAddr (off' := 0) fld34_0 (by decide) (b := b68) (off := 0) rfl (by omega)) ⟨rfl, Chg.refl _ _⟩, ?_⟩
      refine ⟨u64 ((trB ws (0 + 5 * zi)).a), fun _ uw279 hC280 _ => Gives.run rfl (r_loadC (v := u64 ((trB ws (0 + 5 * zi)).a)) one32 ((H153'.ext hC280).get (k := 12) rfl) (off := 0) rfl (by rfl)) ⟨rfl, Chg.refl _ _⟩, ?_⟩
      refine ⟨u64 (((trA ws (0 + 5 * zi)).a) + ((trB ws (0 + 5 * zi)).a)), fun _ uw281 hC282 _ => Gives.run rfl (r_add64 (a := (trA ws (0 + 5 * zi)).a) (b := (trB ws (0 + 5 * zi)).a) rfl rfl) ⟨rfl, Chg.refl _ _⟩, ?_⟩
      refine ⟨.pointer (some ⟨b48, 1, none⟩), fun _ uw283 hC284 _ => Gives.run rfl (r_fieldAddr (off' := 1) fld34_1 (by decide) (b := b48) (off := 0) rfl (by omega)) ⟨rfl, Chg.refl _ _⟩, ?_⟩
      refine ⟨u64 ((trA ws (0 + 5 * zi)).b), fun _ uw285 hC286 _ => Gives.run rfl (r_loadC (v := u64 ((trA ws (0 + 5 * zi)).b)) one32 ((H153'.ext hC286).get (k := 13) rfl) (off := 1) rfl (by rfl)) ⟨rfl, Chg.refl _ _⟩, ?_⟩
      refine ⟨.pointer (some ⟨b68, 1, none⟩), fun _ uw287 hC288 _ => Gives.run rfl (r_fieldAddr (off' := 1) fld34_1 (by decide) (b := b68) (off := 0) rfl (by omega)) ⟨rfl, Chg.refl _ _⟩, ?_⟩
      refine ⟨u64 ((trB ws (0 + 5 * zi)).b), fun _ uw289 hC290 _ => Gives.run rfl (r_loadC (v := u64 ((trB ws (0 + 5 * zi)).b)) one32 ((H153'.ext hC290).get (k := 12) rfl) (off := 1) rfl (by rfl)) ⟨rfl, Chg.refl _ _⟩, ?_⟩
      refine ⟨u64 (((trA ws (0 + 5 * zi)).b) + ((trB ws (0 + 5 * zi)).b)), fun _ uw291 hC292 _ => Gives.run rfl (r_add64 (a := (trA ws (0 + 5 * zi)).b) (b := (trB ws (0 + 5 * zi)).b) rfl rfl) ⟨rfl, Chg.refl _ _⟩, ?_⟩
      refine ⟨u64 ((((trA ws (0 + 5 * zi)).a) + ((trB ws (0 + 5 * zi)).a)) * (((trA ws (0 + 5 * zi)).b) + ((trB ws (0 + 5 * zi)).b))), fun _ uw293 hC294 _ => Gives.run rfl (r_mul64 (a := ((trA ws (0 + 5 * zi)).a) + ((trB ws (0 + 5 * zi)).a)) (b := ((trA ws (0 + 5 * zi)).b) + ((trB ws (0 + 5 * zi)).b)) rfl rfl) ⟨rfl, Chg.refl _ _⟩, ?_⟩
      refine ⟨.pointer (some ⟨b48, 2, none⟩), fun _ uw295 hC296 _ => Gives.run rfl (r_fieldAddr (off' := 2) fld34_2 (by decide) (b := b48) (off := 0) rfl (by omega)) ⟨rfl, Chg.refl _ _⟩, ?_⟩
      refine ⟨u64 ((trA ws (0 + 5 * zi)).c), fun _ uw297 hC298 _ => Gives.run rfl (r_loadC (v := u64 ((trA ws (0 + 5 * zi)).c)) one32 ((H153'.ext hC298).get (k := 13) rfl) (off := 2) rfl (by rfl)) ⟨rfl, Chg.refl _ _⟩, ?_⟩
      refine ⟨.pointer (some ⟨b68, 2, none⟩), fun _ uw299 hC300 _ => Gives.run rfl (r_fieldAddr (off' := 2) fld34_2 (by decide) (b := b68) (off := 0) rfl (by omega)) ⟨rfl, Chg.refl _ _⟩, ?_⟩
      refine ⟨u64 ((trB ws (0 + 5 * zi)).c), fun _ uw301 hC302 _ => Gives.run rfl (r_loadC (v := u64 ((trB ws (0 + 5 * zi)).c)) one32 ((H153'.ext hC302).get (k := 12) rfl) (off := 2) rfl (by rfl)) ⟨rfl, Chg.refl _ _⟩, ?_⟩
      refine ⟨u64 (((trA ws (0 + 5 * zi)).c) + ((trB ws (0 + 5 * zi)).c)), fun _ uw303 hC304 _ => Gives.run rfl (r_add64 (a := (trA ws (0 + 5 * zi)).c) (b := (trB ws (0 + 5 * zi)).c) rfl rfl) ⟨rfl, Chg.refl _ _⟩, ?_⟩
      refine ⟨.bool (false), fun _ uw305 hC306 _ => Gives.run rfl ((r_neq64 (a := (((trA ws (0 + 5 * zi)).a) + ((trB ws (0 + 5 * zi)).a)) * (((trA ws (0 + 5 * zi)).b) + ((trB ws (0 + 5 * zi)).b))) (b := ((trA ws (0 + 5 * zi)).c) + ((trB ws (0 + 5 * zi)).c)) rfl rfl).as (v' := .bool (false)) (by exact congrArg Value.bool (decide_eq_false fun h => h (tr_fits ws _)))) ⟨rfl, Chg.refl _ _⟩, ?_⟩
      refine ⟨.bool (false), fun _ uw307 hC308 _ => Gives.run rfl (r_move (v := .bool (false)) rfl) ⟨rfl, Chg.refl _ _⟩, ?_⟩
      refine ⟨.pointer (some ⟨b88, 0, none⟩), fun _ uw309 hC310 _ => Gives.runW (wantedSome (d' := 111) (b := false) rfl rfl rfl) (r_fieldAddr (off' := 0) fld34_0 (by decide) (b := b88) (off := 0) rfl (by omega)) ⟨rfl, Chg.refl _ _⟩, ?_⟩
      refine ⟨u64 ((trA ws ((5 * n) + 5 * zi)).a), fun _ uw311 hC312 _ => Gives.runW (wantedSome (d' := 111) (b := false) rfl rfl rfl) (r_loadC (v := u64 ((trA ws ((5 * n) + 5 * zi)).a)) one32 ((H153'.ext hC312).get (k := 11) rfl) (off := 0) rfl (by rfl)) ⟨rfl, Chg.refl _ _⟩, ?_⟩
      refine ⟨.pointer (some ⟨b108, 0, none⟩), fun _ uw313 hC314 _ => Gives.runW (wantedSome (d' := 111) (b := false) rfl rfl rfl) (r_fieldAddr (off' := 0) fld34_0 (by decide) (b := b108) (off := 0) rfl (by omega)) ⟨rfl, Chg.refl _ _⟩, ?_⟩
      refine ⟨u64 ((biB ws ((5 * n) + 5 * zi)).a), fun _ uw315 hC316 _ => Gives.runW (wantedSome (d' := 111) (b := false) rfl rfl rfl) (r_loadC (v := u64 ((biB ws ((5 * n) + 5 * zi)).a)) one32 ((H153'.ext hC316).get (k := 10) rfl) (off := 0) rfl (by rfl)) ⟨rfl, Chg.refl _ _⟩, ?_⟩
      refine ⟨u64 (((trA ws ((5 * n) + 5 * zi)).a) ^^^ ((biB ws ((5 * n) + 5 * zi)).a)), fun _ uw317 hC318 _ => Gives.runW (wantedSome (d' := 111) (b := false) rfl rfl rfl) (r_xor64 (a := (trA ws ((5 * n) + 5 * zi)).a) (b := (biB ws ((5 * n) + 5 * zi)).a) rfl rfl) ⟨rfl, Chg.refl _ _⟩, ?_⟩
      refine ⟨.pointer (some ⟨b88, 1, none⟩), fun _ uw319 hC320 _ => Gives.runW (wantedSome (d' := 111) (b := false) rfl rfl rfl) (r_fieldAddr (off' := 1) fld34_1 (by decide) (b := b88) (off := 0) rfl (by omega)) ⟨rfl, Chg.refl _ _⟩, ?_⟩
      refine ⟨u64 ((trA ws ((5 * n) + 5 * zi)).b), fun _ uw321 hC322 _ => Gives.runW (wantedSome (d' := 111) (b := false) rfl rfl rfl) (r_loadC (v := u64 ((trA ws ((5 * n) + 5 * zi)).b)) one32 ((H153'.ext hC322).get (k := 11) rfl) (off := 1) rfl (by rfl)) ⟨rfl, Chg.refl _ _⟩, ?_⟩
      refine ⟨.pointer (some ⟨b108, 1, none⟩), fun _ uw323 hC324 _ => Gives.runW (wantedSome (d' := 111) (b := false) rfl rfl rfl) (r_fieldAddr (off' := 1) fld34_1 (by decide) (b := b108) (off := 0) rfl (by omega)) ⟨rfl, Chg.refl _ _⟩, ?_⟩
      refine ⟨u64 ((biB ws ((5 * n) + 5 * zi)).b), fun _ uw325 hC326 _ => Gives.runW (wantedSome (d' := 111) (b := false) rfl rfl rfl) (r_loadC (v := u64 ((biB ws ((5 * n) + 5 * zi)).b)) one32 ((H153'.ext hC326).get (k := 10) rfl) (off := 1) rfl (by rfl)) ⟨rfl, Chg.refl _ _⟩, ?_⟩
      refine ⟨u64 (((trA ws ((5 * n) + 5 * zi)).b) ^^^ ((biB ws ((5 * n) + 5 * zi)).b)), fun _ uw327 hC328 _ => Gives.runW (wantedSome (d' := 111) (b := false) rfl rfl rfl) (r_xor64 (a := (trA ws ((5 * n) + 5 * zi)).b) (b := (biB ws ((5 * n) + 5 * zi)).b) rfl rfl) ⟨rfl, Chg.refl _ _⟩, ?_⟩
      refine ⟨u64 ((((trA ws ((5 * n) + 5 * zi)).a) ^^^ ((biB ws ((5 * n) + 5 * zi)).a)) &&& (((trA ws ((5 * n) + 5 * zi)).b) ^^^ ((biB ws ((5 * n) + 5 * zi)).b))), fun _ uw329 hC330 _ => Gives.runW (wantedSome (d' := 111) (b := false) rfl rfl rfl) (r_and64 (a := ((trA ws ((5 * n) + 5 * zi)).a) ^^^ ((biB ws ((5 * n) + 5 * zi)).a)) (b := ((trA ws ((5 * n) + 5 * zi)).b) ^^^ ((biB ws ((5 * n) + 5 * zi)).b)) rfl rfl) ⟨rfl, Chg.refl _ _⟩, ?_⟩
      refine ⟨.pointer (some ⟨b88, 2, none⟩), fun _ uw331 hC332 _ => Gives.runW (wantedSome (d' := 111) (b := false) rfl rfl rfl) (r_fieldAddr (off' := 2) fld34_2 (by decide) (b := b88) (off := 0) rfl (by omega)) ⟨rfl, Chg.refl _ _⟩, ?_⟩
      refine ⟨u64 ((trA ws ((5 * n) + 5 * zi)).c), fun _ uw333 hC334 _ => Gives.runW (wantedSome (d' := 111) (b := false) rfl rfl rfl) (r_loadC (v := u64 ((trA ws ((5 * n) + 5 * zi)).c)) one32 ((H153'.ext hC334).get (k := 11) rfl) (off := 2) rfl (by rfl)) ⟨rfl, Chg.refl _ _⟩, ?_⟩
      refine ⟨.pointer (some ⟨b108, 2, none⟩), fun _ uw335 hC336 _ => Gives.runW (wantedSome (d' := 111) (b := false) rfl rfl rfl) (r_fieldAddr (off' := 2) fld34_2 (by decide) (b := b108) (off := 0) rfl (by omega)) ⟨rfl, Chg.refl _ _⟩, ?_⟩
      refine ⟨u64 ((biB ws ((5 * n) + 5 * zi)).c), fun _ uw337 hC338 _ => Gives.runW (wantedSome (d' := 111) (b := false) rfl rfl rfl) (r_loadC (v := u64 ((biB ws ((5 * n) + 5 * zi)).c)) one32 ((H153'.ext hC338).get (k := 10) rfl) (off := 2) rfl (by rfl)) ⟨rfl, Chg.refl _ _⟩, ?_⟩
      refine ⟨u64 (((trA ws ((5 * n) + 5 * zi)).c) ^^^ ((biB ws ((5 * n) + 5 * zi)).c)), fun _ uw339 hC340 _ => Gives.runW (wantedSome (d' := 111) (b := false) rfl rfl rfl) (r_xor64 (a := (trA ws ((5 * n) + 5 * zi)).c) (b := (biB ws ((5 * n) + 5 * zi)).c) rfl rfl) ⟨rfl, Chg.refl _ _⟩, ?_⟩
      refine ⟨.bool (false), fun _ uw341 hC342 _ => Gives.runW (wantedSome (d' := 111) (b := false) rfl rfl rfl) ((r_neq64 (a := (((trA ws ((5 * n) + 5 * zi)).a) ^^^ ((biB ws ((5 * n) + 5 * zi)).a)) &&& (((trA ws ((5 * n) + 5 * zi)).b) ^^^ ((biB ws ((5 * n) + 5 * zi)).b))) (b := ((trA ws ((5 * n) + 5 * zi)).c) ^^^ ((biB ws ((5 * n) + 5 * zi)).c)) rfl rfl).as (v' := .bool (false)) (by exact congrArg Value.bool (decide_eq_false fun h => h (bi_fits ws _)))) ⟨rfl, Chg.refl _ _⟩, ?_⟩
      refine ⟨.bool (false), fun _ uw343 hC344 _ => Gives.run rfl (r_pickF (v := .bool (false)) rfl rfl) ⟨rfl, Chg.refl _ _⟩, ?_⟩
      refine ⟨.bool (false), fun _ uw345 hC346 _ => Gives.run rfl (r_move (v := .bool (false)) rfl) ⟨rfl, Chg.refl _ _⟩, ?_⟩
      refine ⟨.pointer (some ⟨b148, 0, none⟩), fun _ uw347 hC348 _ => Gives.runW (wantedSome (d' := 130) (b := false) rfl rfl rfl) (r_fieldAddr (off' := 0) fld41_0 (by decide) (b := b148) (off := 0) rfl (by omega)) ⟨rfl, Chg.refl _ _⟩, ?_⟩
      refine ⟨.pointer (some ⟨b148, 0, none⟩), fun _ uw349 hC350 _ => Gives.runW (wantedSome (d' := 130) (b := false) rfl rfl rfl) (r_indexA (off' := 0) (j := 0) arr39 (b := b148) (off := 0) rfl rfl (by first | rfl | omega | (simp; omega)) (by omega) (by omega)) ⟨rfl, Chg.refl _ _⟩, ?_⟩
      refine ⟨.agg (cel E64 [(otB ws ((5 * (n + n)) + 5 * zi)).p, (otB ws ((5 * (n + n)) + 5 * zi)).q]).toArray, fun _ uw351 hC352 _ => Gives.runW (wantedSome (d' := 130) (b := false) rfl rfl rfl) (r_loadA (cs' := (cel E64 [(otB ws ((5 * (n + n)) + 5 * zi)).p, (otB ws ((5 * (n + n)) + 5 * zi)).q]).toArray) agg38 siz38 ((H153'.ext hC352).get (k := 0) rfl) (off := 0) rfl (by exact Nat.le_of_ble_eq_true rfl) (by rfl)) ⟨rfl, Chg.refl _ _⟩, ?_⟩
      refine ⟨i64 ((0 : Int)), fun _ uw353 hC354 _ => Gives.runW (wantedSome (d' := 130) (b := false) rfl rfl rfl) (r_move (v := i64 ((0 : Int))) rfl) ⟨rfl, Chg.refl _ _⟩, ?_⟩
      refine ⟨.pointer (some ⟨b128, 0, none⟩), fun _ uw355 hC356 _ => Gives.runW (wantedSome (d' := 130) (b := false) rfl rfl rfl) (r_fieldAddr (off' := 0) fld41_0 (by decide) (b := b128) (off := 0) rfl (by omega)) ⟨rfl, Chg.refl _ _⟩, ?_⟩
      refine ⟨.pointer (some ⟨b128, 0, none⟩), fun _ uw357 hC358 _ => Gives.runW (wantedSome (d' := 130) (b := false) rfl rfl rfl) (r_indexA (off' := 0) (j := 0) arr39 (b := b128) (off := 0) rfl rfl (by first | rfl | omega | (simp; omega)) (by omega) (by omega)) ⟨rfl, Chg.refl _ _⟩, ?_⟩
      refine ⟨.agg (cel E64 [(otA ws ((5 * (n + n)) + 5 * zi)).p, (otA ws ((5 * (n + n)) + 5 * zi)).q]).toArray, fun _ uw359 hC360 _ => Gives.runW (wantedSome (d' := 130) (b := false) rfl rfl rfl) (r_loadA (cs' := (cel E64 [(otA ws ((5 * (n + n)) + 5 * zi)).p, (otA ws ((5 * (n + n)) + 5 * zi)).q]).toArray) agg38 siz38 ((H153'.ext hC360).get (k := 5) rfl) (off := 0) rfl (by exact Nat.le_of_ble_eq_true rfl) (by rfl)) ⟨rfl, Chg.refl _ _⟩, ?_⟩
      refine ⟨.bool (false), fun _ uw361 hC362 _ => Gives.runW (wantedSome (d' := 130) (b := false) rfl rfl rfl) ((r_neqA (E := E64) (l := [(otB ws ((5 * (n + n)) + 5 * zi)).p, (otB ws ((5 * (n + n)) + 5 * zi)).q]) (l' := [(otA ws ((5 * (n + n)) + 5 * zi)).p, (otA ws ((5 * (n + n)) + 5 * zi)).q]) gty38 und38 fits32 (eqAt64 und32) (rfl) (rfl) rfl rfl).as (v' := .bool (false)) (by rw [otB_false c93]; simp [otA])) ⟨rfl, Chg.refl _ _⟩, ?_⟩
      refine ⟨.bool (false), fun _ uw363 hC364 _ => Gives.run rfl (r_pickF (v := .bool (false)) rfl rfl) ⟨rfl, Chg.refl _ _⟩, ?_⟩
      refine ⟨.bool (false), fun _ uw365 hC366 _ => Gives.run rfl (r_move (v := .bool (false)) rfl) ⟨rfl, Chg.refl _ _⟩, ?_⟩
      refine ⟨.pointer (some ⟨b148, 0, none⟩), fun _ uw367 hC368 _ => Gives.runW (wantedSome (d' := 140) (b := false) rfl rfl rfl) (r_fieldAddr (off' := 0) fld41_0 (by decide) (b := b148) (off := 0) rfl (by omega)) ⟨rfl, Chg.refl _ _⟩, ?_⟩
      refine ⟨.pointer (some ⟨b148, 2, none⟩), fun _ uw369 hC370 _ => Gives.runW (wantedSome (d' := 140) (b := false) rfl rfl rfl) (r_indexA (off' := 2) (j := 1) arr39 (b := b148) (off := 0) rfl rfl (by first | rfl | omega | (simp; omega)) (by omega) (by omega)) ⟨rfl, Chg.refl _ _⟩, ?_⟩
      refine ⟨.agg (cel E64 [(otB ws ((5 * (n + n)) + 5 * zi)).r, (otB ws ((5 * (n + n)) + 5 * zi)).s]).toArray, fun _ uw371 hC372 _ => Gives.runW (wantedSome (d' := 140) (b := false) rfl rfl rfl) (r_loadA (cs' := (cel E64 [(otB ws ((5 * (n + n)) + 5 * zi)).r, (otB ws ((5 * (n + n)) + 5 * zi)).s]).toArray) agg38 siz38 ((H153'.ext hC372).get (k := 0) rfl) (off := 2) rfl (by exact Nat.le_of_ble_eq_true rfl) (by rfl)) ⟨rfl, Chg.refl _ _⟩, ?_⟩
      refine ⟨.agg (cel E64 [0#64, 0#64]).toArray, fun _ uw373 hC374 _ => Gives.runW (wantedSome (d' := 140) (b := false) rfl rfl rfl) (r_buildA (cs' := (cel E64 [0#64, 0#64]).toArray) (ps := []) zer38 arr38 rfl (by rfl)) ⟨rfl, Chg.refl _ _⟩, ?_⟩
      refine ⟨.bool (false), fun _ uw375 hC376 _ => Gives.runW (wantedSome (d' := 140) (b := false) rfl rfl rfl) ((r_neqA (E := E64) (l := [(otB ws ((5 * (n + n)) + 5 * zi)).r, (otB ws ((5 * (n + n)) + 5 * zi)).s]) (l' := [0#64, 0#64]) gty38 und38 fits32 (eqAt64 und32) (rfl) (rfl) rfl rfl).as (v' := .bool (false)) (by rw [otB_false c93]; simp)) ⟨rfl, Chg.refl _ _⟩, ?_⟩
      refine ⟨.bool (false), fun _ uw377 hC378 _ => Gives.run rfl (r_pickF (v := .bool (false)) rfl rfl) ⟨rfl, Chg.refl _ _⟩, ?_⟩
      refine ⟨.bool (false), fun _ uw379 hC380 _ => Gives.run rfl (r_move (v := .bool (false)) rfl) ⟨rfl, Chg.refl _ _⟩, ?_⟩
      refine ⟨.pointer (some ⟨b128, 4, none⟩), fun _ uw381 hC382 _ => Gives.runW (wantedSome (d' := 147) (b := false) rfl rfl rfl) (r_fieldAddr (off' := 4) fld41_1 (by decide) (b := b128) (off := 0) rfl (by omega)) ⟨rfl, Chg.refl _ _⟩, ?_⟩
      refine ⟨.bool (false), fun _ uw383 hC384 _ => Gives.runW (wantedSome (d' := 147) (b := false) rfl rfl rfl) ((r_loadC (v := .bool ((otA ws ((5 * (n + n)) + 5 * zi)).ch)) one4 ((H153'.ext hC384).get (k := 5) rfl) (off := 4) rfl (by rfl)).as (v' := .bool (false)) (by rfl)) ⟨rfl, Chg.refl _ _⟩, ?_⟩
      refine ⟨.bool (false), fun _ uw385 hC386 _ => Gives.run rfl (r_pickF (v := .bool (false)) rfl rfl) ⟨rfl, Chg.refl _ _⟩, ?_⟩
      intro r390 w387 hE389 hF
      have H388 := H153'.ext hE389
      refine wnil ?_
      refine thenNormal ?_
      refine condFalse rfl ?_
      refine skipAny ?_
      refine blockNormal ?_
      refine thenNormal ?_
      refine oneRegion ?_
      refine sq (r_move (v := i64 ((zi : Nat))) rfl) ?_
      refine sq (r_addI (a := (zi : Nat)) (b := (1 : Int)) rfl rfl (by omega)) ?_
      refine sq (r_assign (v := i64 ((zi : Nat) + (1 : Int))) rfl) ?_
      refine wnil ?_
      refine thenNormal ?_
      exact ⟨(zi + 1, s118, s138), _, rfl, ⟨rfl, rfl, rfl, rfl, rfl, trivial⟩, ⟨⟨by omega, hok120, hok140, hf125, hf126, hf127, hf145, hf146, hf147⟩, (H388.pick 15 [14, 6, 7, 8, 9, 1, 2, 3, 4] (by decide) (by decide))⟩, by show n - (zi + 1) < n - zi; omega⟩
  · skip
    refine exitAny ?_
    refine thenExit ?_
    refine thenExit ?_
    refine blockHere ?_
    refine thenNormal ?_
    refine seqRegion ?_
    refine sq (r_assign (v := .bool (true)) rfl) ?_
    refine wend ?_
    refine retAny ?_
    refine retG (rs := [.tmp 2]) (vs := [.bool (true)]) rfl ⟨⟨rfl, rfl⟩, trivial⟩ ?_
    exact ⟨_, rfl, rfl, HL.chg⟩
end Go.Proofs.YteofdmdpaejgaaaDoor.Co
