/- What the claim has need of: Garb14. -/
import Derived.Test.YteofdmdpaejgaaaDoorGc6
namespace Go.Proofs.YteofdmdpaejgaaaDoor.Gb
open Go Go.Proofs.YteofdmdpaejgaaaDoor.Vc Go.Proofs.YteofdmdpaejgaaaDoor.Er Go.Proofs.YteofdmdpaejgaaaDoor.Circ Go.Proofs.YteofdmdpaejgaaaDoor.Co
set_option linter.unusedVariables false
theorem agg41 : isAgg' Tryd.prog 41 = true := by kernel_rfl
theorem arr25 : arr Tryd.prog 25 = some (2, 1) := by kernel_rfl
theorem byt32 : byt Tryd.prog 32 = some 8 := by kernel_rfl
theorem byt41 : byt Tryd.prog 41 = some 40 := by kernel_rfl
theorem call16 : callable Tryd.prog 16 = true := by kernel_rfl
theorem call17 : callable Tryd.prog 17 = true := by kernel_rfl
theorem call20 : callable Tryd.prog 20 = true := by kernel_rfl
theorem call56 : callable Tryd.prog 56 = true := by kernel_rfl
theorem call57 : callable Tryd.prog 57 = true := by kernel_rfl
theorem call58 : callable Tryd.prog 58 = true := by kernel_rfl
theorem call59 : callable Tryd.prog 59 = true := by kernel_rfl
theorem one24 : isOne Tryd.prog 24 = true := by kernel_rfl
theorem siz25 : siz Tryd.prog 25 = some 2 := by kernel_rfl
theorem sli22 : sli Tryd.prog 22 = some (32, 1) := by kernel_rfl
theorem zer25 : zer Tryd.prog 25 = some (.agg (List.replicate 2 (.pointer none)).toArray) := by kernel_rfl
theorem zer32 : zer Tryd.prog 32 = some (.int .u64 0) := by kernel_rfl
set_option maxRecDepth 20000 in
set_option maxHeartbeats 2000000 in
theorem gchooses_ok (wl : List (BitVec 64)) (wa : Option Addr) (wc : Nat) (xv : BitVec 64) (δ : Lb) (zs : List Lb) (za : Option Addr) (zc : Nat) (first : BitVec 64) (hzc : zs.length ≤ zc) (w₀ : World) (hG : Gl w₀) (hW : Rd E64 w₀ wa wl) (hwl : wl.length * 8 ≤ 140737488355328) (hZ : Rd ELb w₀ za zs) (hzs : zs.length ≤ 140737488355328) : Calls Tryd.prog 13 [.slice wa wl.length wc, u64 (xv), .agg #[u64 (δ.1), u64 (δ.2), .slice za zs.length zc, u64 (first)]].toArray w₀ (Ret fun v w' => v = .bool true ∧ Ext w₀ w') := by
 have H := Hp.start No w₀
 refine enter (n := 186) Tryd.func13 rfl rfl (bLe rfl) ?_
 refine sR ?_
 refine q_box (v := .agg #[u64 (δ.1), u64 (δ.2), .slice za zs.length zc, u64 (first)]) (o := .cells #[u64 (δ.1), u64 (δ.2), .slice za zs.length zc, u64 (first)] 94 (0, 0)) H rfl (by rfl) ?_
 intro b31 w32 hb31 H33 hE34
 refine sA (.bool (false)) rfl ?_
 refine wend ?_
 refine seqAny ?_
 refine sR ?_
 refine c_call (vs := []) call41 rfl (gawake_ok w32 (Chg.gl H33.chg (fun x => x) hG)) ?_
 rintro _ w35 ⟨rfl, hE36⟩
 have H37 := H33.ext hE36
 refine sq (r_notT rfl) ?_
 refine wend ?_
 refine condFalse rfl ?_
 refine skipAny ?_
 refine thenNormal ?_
 refine sR ?_
 refine q_makeSlice (E := E64) (m := 320) (c := 320) (z0 := 0#64) H37 sli22 zer32 rfl byt32 rfl rfl (by first | rfl | omega | (simp; omega)) (by first | rfl | omega | (simp; omega)) (by omega) (by omega) ?_
 intro b38 w40 hS39 H41 hE42
 refine sA (.slice (ownA (some b38)) 320 320) rfl ?_
 refine wend ?_
 refine sR ?_
 refine sM (.slice (ownA (some b38)) 320 320) rfl ?_
 refine sM (.slice wa wl.length wc) rfl ?_
 refine q_copy (E := E64) (k := 0) (l := List.replicate 320 0#64) (l2 := wl) H41 rfl hS39 rfl sli22 (hW.ext H41.chg) rfl (by simp) rfl (by rfl) ?_
 intro w44 hS43 H45
 have H45' := H45.as (L' := [((some b38), sob E64 32 (cpl (List.replicate 320 0#64) wl) (cel E64 (List.replicate (320 - 320) 0#64))), (some b31, .cells #[u64 (δ.1), u64 (δ.2), .slice za zs.length zc, u64 (first)] 94 (0, 0))]) rfl
 clear H45
 obtain ⟨ws, hws⟩ : ∃ x, x = cpl (List.replicate 320 0#64) wl := ⟨_, rfl⟩
 rw [← hws] at H45' hS43
 have hw320 : ws.length = 320 := by rw [hws, cpl_len, List.length_replicate]
 refine wend ?_
 refine sR ?_
 refine sM (.slice (ownA (some b38)) 320 320) rfl ?_
 refine c_call (vs := [.slice (ownA (some b38)) 320 320]) call17 rfl (load_ok ws (by omega) (ownA (some b38)) 320 320 (by omega) w44 (H45'.rd (k := 0) rfl hS43)) ?_
 rintro _ w46 ⟨⟨b48, key49, c50, sp51, rfl, hS52, HN53⟩, hE54⟩
 have H55 := (H45'.join HN53).as (L' := [(some b48, .cells #[.slice (ownA key49) ws.length c50, .pointer none, i64 (ws.length : Nat), i64 (0 : Nat)] 141 (0, 0)), (key49, sob E64 32 ws sp51), ((some b38), sob E64 32 ws (cel E64 (List.replicate (320 - 320) 0#64))), (some b31, .cells #[u64 (δ.1), u64 (δ.2), .slice za zs.length zc, u64 (first)] 94 (0, 0))]) rfl
 have H56 := (H55).as (L' := ((some b48, .cells #[.slice (ownA key49) ws.length c50, .pointer none, i64 (ws.length : Nat), i64 (0 : Nat)] 141 (0, 0)) :: (key49, sob E64 32 ws sp51) :: [((some b38), sob E64 32 ws (cel E64 (List.replicate (320 - 320) 0#64))), (some b31, .cells #[u64 (δ.1), u64 (δ.2), .slice za zs.length zc, u64 (first)] 94 (0, 0))])) rfl
 refine c_call (vs := [pT b48, i64 ((0 : Int)), i64 ((0 : Int)), i64 ((64 : Int))]) call16 rfl (deal_ok b48 key49 c50 sp51 ws hS52 (by omega) 0 0 64 (by omega) (by omega) (by omega) (by omega) [((some b38), sob E64 32 ws (cel E64 (List.replicate (320 - 320) 0#64))), (some b31, .cells #[u64 (δ.1), u64 (δ.2), .slice za zs.length zc, u64 (first)] 94 (0, 0))] w₀ w46 H56) ?_
 rintro _ w57 ⟨b59, b60, s61, s62, rfl, hok63, hok64, hD65, HN66⟩
 have H67 := HN66.as (L' := [(some b59, .cells #[.slice s61.t.a s61.t.l.length s61.t.c, .slice s61.b.a s61.b.l.length s61.b.c, .slice s61.o.a s61.o.l.length s61.o.c] 135 (0, 0)), (s61.t.key, sobP ETr 34 s61.t.pre s61.t.l s61.t.sp), (s61.b.key, sobP ETr 34 s61.b.pre s61.b.l s61.b.sp), (s61.o.key, sobP EOt 41 s61.o.pre s61.o.l s61.o.sp), (some b60, .cells #[.slice s62.t.a s62.t.l.length s62.t.c, .slice s62.b.a s62.b.l.length s62.b.c, .slice s62.o.a s62.o.l.length s62.o.c] 135 (0, 0)), (s62.t.key, sobP ETr 34 s62.t.pre s62.t.l s62.t.sp), (s62.b.key, sobP ETr 34 s62.b.pre s62.b.l s62.b.sp), (s62.o.key, sobP EOt 41 s62.o.pre s62.o.l s62.o.sp), (some b48, .cells #[.slice (ownA key49) ws.length c50, .pointer none, i64 (ws.length : Nat), i64 ((5 * (0 + 0) + 5 * 64 : Nat))] 141 (0, 0)), (key49, sob E64 32 ws sp51), ((some b38), sob E64 32 ws (cel E64 (List.replicate (320 - 320) 0#64))), (some b31, .cells #[u64 (δ.1), u64 (δ.2), .slice za zs.length zc, u64 (first)] 94 (0, 0))]) rfl
 refine sM (.tuple #[.agg #[pT b59, pT b60], .nilIface]) rfl ?_
 refine sq (r_extract (vs := #[.agg #[pT b59, pT b60], .nilIface]) rfl rfl) ?_
 refine sq (r_extract (vs := #[.agg #[pT b59, pT b60], .nilIface]) rfl rfl) ?_
 refine q_alloc (o := .cells #[.pointer none, .pointer none] 25 (0, 0)) H67 zer25 (by kernel_rfl) ?_
 intro b68 w69 hb68 H70 hE71
 refine d_store (k := 0) (v := .agg #[pT b59, pT b60]) (cs' := #[pT b59, pT b60]) H70 rfl rfl rfl siz25 (by rfl) (by intro u hu; simp [Value.cells] at hu; first | (subst hu; rfl) | (rcases hu with rfl | rfl <;> rfl)) (by exact bLe rfl) (by rfl) ?_
 intro w72 H73 hC74
 have H73' := H73.as (L' := [(some b68, .cells #[pT b59, pT b60] 25 (0, 0)), (some b59, .cells #[.slice s61.t.a s61.t.l.length s61.t.c, .slice s61.b.a s61.b.l.length s61.b.c, .slice s61.o.a s61.o.l.length s61.o.c] 135 (0, 0)), (s61.t.key, sobP ETr 34 s61.t.pre s61.t.l s61.t.sp), (s61.b.key, sobP ETr 34 s61.b.pre s61.b.l s61.b.sp), (s61.o.key, sobP EOt 41 s61.o.pre s61.o.l s61.o.sp), (some b60, .cells #[.slice s62.t.a s62.t.l.length s62.t.c, .slice s62.b.a s62.b.l.length s62.b.c, .slice s62.o.a s62.o.l.length s62.o.c] 135 (0, 0)), (s62.t.key, sobP ETr 34 s62.t.pre s62.t.l s62.t.sp), (s62.b.key, sobP ETr 34 s62.b.pre s62.b.l s62.b.sp), (s62.o.key, sobP EOt 41 s62.o.pre s62.o.l s62.o.sp), (some b48, .cells #[.slice (ownA key49) ws.length c50, .pointer none, i64 (ws.length : Nat), i64 ((5 * (0 + 0) + 5 * 64 : Nat))] 141 (0, 0)), (key49, sob E64 32 ws sp51), ((some b38), sob E64 32 ws (cel E64 (List.replicate (320 - 320) 0#64))), (some b31, .cells #[u64 (δ.1), u64 (δ.2), .slice za zs.length zc, u64 (first)] 94 (0, 0))]) rfl
 clear H73
 refine sA (.nilIface) rfl ?_
 refine wend ?_
 refine seqAny ?_
 refine sR ?_
 refine sM (.nilIface) rfl ?_
 refine sq (r_neqNN isI27 rfl rfl) ?_
 refine wend ?_
 refine condFalse rfl ?_
 refine skipAny ?_
 refine thenNormal ?_
 refine sR ?_
 refine sA (.slice none 0 0) rfl ?_
 refine sA (.slice none 0 0) rfl ?_
 have H75 := H73'.nil (sob EOt 41 [] [])
 have H76 := H75.nil (sob EOt 41 [] [])
 refine wend ?_
 refine seqAny ?_
 refine sR ?_
 refine sA (i64 ((0 : Int))) rfl ?_
 refine wend ?_
 refine blockAny ?_
 refine loopAny (σ := Nat × Option Nat × Nat × List Value × Option Nat × Nat × List Value × Sk × Sk) (fun (zi, ky0, cc0, zz0, ky1, cc1, zz1, x1, x2) => [(1, u64 (xv)), (5, pT b31), (8, pT b68), (10, .slice (ownA ky0) zi cc0), (11, .slice (ownA ky1) zi cc1), (12, i64 (zi : Nat))]) (fun (zi, ky0, cc0, zz0, ky1, cc1, zz1, x1, x2) w' => (zi ≤ 64 ∧ Sl EOt ky0 (rowsOf (otA ws) (5 * (0 + 0)) zi) cc0 zz0 ∧ Sl EOt ky1 (rowsOf (otB ws) (5 * (0 + 0)) zi) cc1 zz1 ∧ x1.ok ∧ x2.ok ∧ x1.t.l = rowsOf (trA ws) 0 0 ∧ x1.b.l = rowsOf (trA ws) (5 * 0) 0 ∧ x1.o.l = (rowsOf (otA ws) (5 * (0 + 0)) 64).drop zi ∧ x2.t.l = rowsOf (trB ws) 0 0 ∧ x2.b.l = rowsOf (biB ws) (5 * 0) 0 ∧ x2.o.l = (rowsOf (otB ws) (5 * (0 + 0)) 64).drop zi) ∧ Hp No w₀ w' [(ky0, sob EOt 41 (rowsOf (otA ws) (5 * (0 + 0)) zi) zz0), (ky1, sob EOt 41 (rowsOf (otB ws) (5 * (0 + 0)) zi) zz1), (some b68, .cells #[pT b59, pT b60] 25 (0, 0)), (some b59, .cells #[.slice x1.t.a x1.t.l.length x1.t.c, .slice x1.b.a x1.b.l.length x1.b.c, .slice x1.o.a x1.o.l.length x1.o.c] 135 (0, 0)), (x1.t.key, sobP ETr 34 x1.t.pre x1.t.l x1.t.sp), (x1.b.key, sobP ETr 34 x1.b.pre x1.b.l x1.b.sp), (x1.o.key, sobP EOt 41 x1.o.pre x1.o.l x1.o.sp), (some b60, .cells #[.slice x2.t.a x2.t.l.length x2.t.c, .slice x2.b.a x2.b.l.length x2.b.c, .slice x2.o.a x2.o.l.length x2.o.c] 135 (0, 0)), (x2.t.key, sobP ETr 34 x2.t.pre x2.t.l x2.t.sp), (x2.b.key, sobP ETr 34 x2.b.pre x2.b.l x2.b.sp), (x2.o.key, sobP EOt 41 x2.o.pre x2.o.l x2.o.sp), (some b31, .cells #[u64 (δ.1), u64 (δ.2), .slice za zs.length zc, u64 (first)] 94 (0, 0))]) (fun (zi, ky0, cc0, zz0, ky1, cc1, zz1, x1, x2) => 64 - zi) ((0, none, 0, [], none, 0, [], s61, s62)) ?_ ?_ ?_
 ·exact ⟨rfl, rfl, rfl, rfl, rfl, rfl, trivial⟩
 ·exact ⟨⟨Nat.zero_le _, Sl.none, Sl.none, hok63, hok64, hD65.t1, hD65.b1, hD65.o1, hD65.t2, hD65.b2, hD65.o2⟩, (H76.pick 15 [1, 0, 2, 3, 4, 5, 6, 7, 8, 9, 10, 14] (by decide) (by decide))⟩
 rintro ⟨zi, ky0, cc0, zz0, ky1, cc1, zz1, x1, x2⟩ ρ w77 ⟨⟨hz, hs0, hs1, hkx1, hkx2, hftx1, hfbx1, hfox1, hftx2, hfbx2, hfox2⟩, HL⟩
 refine seqAny ?_
 refine sR ?_
 refine sM (i64 (zi : Nat)) rfl ?_
 refine sq (r_lssI (a := (zi : Nat)) (b := (64 : Int)) rfl rfl) ?_
 refine wend ?_
 refine condProp (((zi : Nat) : Int) < (64 : Int)) rfl (fun c40 => ?_) (fun c40 => ?_)
 ·skip
  refine skipAny ?_
  refine thenNormal ?_
  refine seqAny ?_
  refine blockAny ?_
  refine sR ?_
  refine sq (r_indexA (off' := 0) (j := 0) arr25 (b := b68) (off := 0) rfl rfl (by first | rfl | omega | (simp; omega)) (by omega) (by omega)) ?_
  refine sq (r_loadC (v := pT b59) one24 (HL.get (k := 2) rfl) (off := 0) rfl (by rfl)) ?_
  have H79 := ((HL.pick 12 [3, 4, 5, 6, 0, 1, 2, 7, 8, 9, 10, 11] (by decide) (by decide))).as (L' := skR 34 41 135 b59 x1 ++ [(ky0, sob EOt 41 (rowsOf (otA ws) (5 * (0 + 0)) zi) zz0), (ky1, sob EOt 41 (rowsOf (otB ws) (5 * (0 + 0)) zi) zz1), (some b68, .cells #[pT b59, pT b60] 25 (0, 0)), (some b60, .cells #[.slice x2.t.a x2.t.l.length x2.t.c, .slice x2.b.a x2.b.l.length x2.b.c, .slice x2.o.a x2.o.l.length x2.o.c] 135 (0, 0)), (x2.t.key, sobP ETr 34 x2.t.pre x2.t.l x2.t.sp), (x2.b.key, sobP ETr 34 x2.b.pre x2.b.l x2.b.sp), (x2.o.key, sobP EOt 41 x2.o.pre x2.o.l x2.o.sp), (some b31, .cells #[u64 (δ.1), u64 (δ.2), .slice za zs.length zc, u64 (first)] 94 (0, 0))]) rfl
  refine c_call (vs := [pT b59]) call20 rfl (take2_hit b59 x1 hkx1 [(ky0, sob EOt 41 (rowsOf (otA ws) (5 * (0 + 0)) zi) zz0), (ky1, sob EOt 41 (rowsOf (otB ws) (5 * (0 + 0)) zi) zz1), (some b68, .cells #[pT b59, pT b60] 25 (0, 0)), (some b60, .cells #[.slice x2.t.a x2.t.l.length x2.t.c, .slice x2.b.a x2.b.l.length x2.b.c, .slice x2.o.a x2.o.l.length x2.o.c] 135 (0, 0)), (x2.t.key, sobP ETr 34 x2.t.pre x2.t.l x2.t.sp), (x2.b.key, sobP ETr 34 x2.b.pre x2.b.l x2.b.sp), (x2.o.key, sobP EOt 41 x2.o.pre x2.o.l x2.o.sp), (some b31, .cells #[u64 (δ.1), u64 (δ.2), .slice za zs.length zc, u64 (first)] 94 (0, 0))] w₀ w77 H79 (by rw [hfox1]; simp only [List.length_drop, rowsOf_len] <;> omega)) ?_
  rintro _ w80 ⟨rfl, s82, HN83, hok84, hd85, he86, he87⟩
  have H88 := HN83.as (L' := [(some b59, .cells #[.slice s82.t.a s82.t.l.length s82.t.c, .slice s82.b.a s82.b.l.length s82.b.c, .slice s82.o.a s82.o.l.length s82.o.c] 135 (0, 0)), (s82.t.key, sobP ETr 34 s82.t.pre s82.t.l s82.t.sp), (s82.b.key, sobP ETr 34 s82.b.pre s82.b.l s82.b.sp), (s82.o.key, sobP EOt 41 s82.o.pre s82.o.l s82.o.sp), (ky0, sob EOt 41 (rowsOf (otA ws) (5 * (0 + 0)) zi) zz0), (ky1, sob EOt 41 (rowsOf (otB ws) (5 * (0 + 0)) zi) zz1), (some b68, .cells #[pT b59, pT b60] 25 (0, 0)), (some b60, .cells #[.slice x2.t.a x2.t.l.length x2.t.c, .slice x2.b.a x2.b.l.length x2.b.c, .slice x2.o.a x2.o.l.length x2.o.c] 135 (0, 0)), (x2.t.key, sobP ETr 34 x2.t.pre x2.t.l x2.t.sp), (x2.b.key, sobP ETr 34 x2.b.pre x2.b.l x2.b.sp), (x2.o.key, sobP EOt 41 x2.o.pre x2.o.l x2.o.sp), (some b31, .cells #[u64 (δ.1), u64 (δ.2), .slice za zs.length zc, u64 (first)] 94 (0, 0))]) rfl
  rw [hfox1]
  rw [show ((rowsOf (otA ws) (5 * (0 + 0)) 64).drop zi).getD 0 ot0 = otA ws ((5 * (0 + 0)) + 5 * zi) from by exact rowsOf_drop (by omega)]
  have hf89 : s82.t.l = rowsOf (trA ws) 0 0 := by rw [he86]; exact hftx1
  have hf90 : s82.b.l = rowsOf (trA ws) (5 * 0) 0 := by rw [he87]; exact hfbx1
  have hf91 : s82.o.l = (rowsOf (otA ws) (5 * (0 + 0)) 64).drop (zi + 1) := by rw [hd85, hfox1, List.drop_drop]
  refine sM (.tuple #[.agg #[u64 ((otA ws ((5 * (0 + 0)) + 5 * zi)).p), u64 ((otA ws ((5 * (0 + 0)) + 5 * zi)).q), u64 ((otA ws ((5 * (0 + 0)) + 5 * zi)).r), u64 ((otA ws ((5 * (0 + 0)) + 5 * zi)).s), .bool ((otA ws ((5 * (0 + 0)) + 5 * zi)).ch)], .nilIface]) rfl ?_
  refine sq (r_extract (vs := #[.agg #[u64 ((otA ws ((5 * (0 + 0)) + 5 * zi)).p), u64 ((otA ws ((5 * (0 + 0)) + 5 * zi)).q), u64 ((otA ws ((5 * (0 + 0)) + 5 * zi)).r), u64 ((otA ws ((5 * (0 + 0)) + 5 * zi)).s), .bool ((otA ws ((5 * (0 + 0)) + 5 * zi)).ch)], .nilIface]) rfl rfl) ?_
  refine sq (r_extract (vs := #[.agg #[u64 ((otA ws ((5 * (0 + 0)) + 5 * zi)).p), u64 ((otA ws ((5 * (0 + 0)) + 5 * zi)).q), u64 ((otA ws ((5 * (0 + 0)) + 5 * zi)).r), u64 ((otA ws ((5 * (0 + 0)) + 5 * zi)).s), .bool ((otA ws ((5 * (0 + 0)) + 5 * zi)).ch)], .nilIface]) rfl rfl) ?_
  refine q_alloc (o := .cells #[u64 (0#64), u64 (0#64), u64 (0#64), u64 (0#64), .bool (false)] 41 (0, 0)) H88 zer41 (by kernel_rfl) ?_
  intro b92 w93 hb92 H94 hE95
  refine d_store (k := 0) (v := .agg #[u64 ((otA ws ((5 * (0 + 0)) + 5 * zi)).p), u64 ((otA ws ((5 * (0 + 0)) + 5 * zi)).q), u64 ((otA ws ((5 * (0 + 0)) + 5 * zi)).r), u64 ((otA ws ((5 * (0 + 0)) + 5 * zi)).s), .bool ((otA ws ((5 * (0 + 0)) + 5 * zi)).ch)]) (cs' := #[u64 ((otA ws ((5 * (0 + 0)) + 5 * zi)).p), u64 ((otA ws ((5 * (0 + 0)) + 5 * zi)).q), u64 ((otA ws ((5 * (0 + 0)) + 5 * zi)).r), u64 ((otA ws ((5 * (0 + 0)) + 5 * zi)).s), .bool ((otA ws ((5 * (0 + 0)) + 5 * zi)).ch)]) H94 rfl rfl rfl siz41 (by rfl) (by intro u hu; simp [Value.cells] at hu; first | (subst hu; rfl) | (rcases hu with rfl | rfl | rfl | rfl | rfl <;> rfl)) (by exact bLe rfl) (by rfl) ?_
  intro w96 H97 hC98
  have H97' := H97.as (L' := [(some b92, .cells #[u64 ((otA ws ((5 * (0 + 0)) + 5 * zi)).p), u64 ((otA ws ((5 * (0 + 0)) + 5 * zi)).q), u64 ((otA ws ((5 * (0 + 0)) + 5 * zi)).r), u64 ((otA ws ((5 * (0 + 0)) + 5 * zi)).s), .bool ((otA ws ((5 * (0 + 0)) + 5 * zi)).ch)] 41 (0, 0)), (some b59, .cells #[.slice s82.t.a s82.t.l.length s82.t.c, .slice s82.b.a s82.b.l.length s82.b.c, .slice s82.o.a s82.o.l.length s82.o.c] 135 (0, 0)), (s82.t.key, sobP ETr 34 s82.t.pre s82.t.l s82.t.sp), (s82.b.key, sobP ETr 34 s82.b.pre s82.b.l s82.b.sp), (s82.o.key, sobP EOt 41 s82.o.pre s82.o.l s82.o.sp), (ky0, sob EOt 41 (rowsOf (otA ws) (5 * (0 + 0)) zi) zz0), (ky1, sob EOt 41 (rowsOf (otB ws) (5 * (0 + 0)) zi) zz1), (some b68, .cells #[pT b59, pT b60] 25 (0, 0)), (some b60, .cells #[.slice x2.t.a x2.t.l.length x2.t.c, .slice x2.b.a x2.b.l.length x2.b.c, .slice x2.o.a x2.o.l.length x2.o.c] 135 (0, 0)), (x2.t.key, sobP ETr 34 x2.t.pre x2.t.l x2.t.sp), (x2.b.key, sobP ETr 34 x2.b.pre x2.b.l x2.b.sp), (x2.o.key, sobP EOt 41 x2.o.pre x2.o.l x2.o.sp), (some b31, .cells #[u64 (δ.1), u64 (δ.2), .slice za zs.length zc, u64 (first)] 94 (0, 0))]) rfl
  clear H97
  refine sA (.nilIface) rfl ?_
  refine wend ?_
  refine sR ?_
  refine sq (r_indexA (off' := 1) (j := 1) arr25 (b := b68) (off := 0) rfl rfl (by first | rfl | omega | (simp; omega)) (by omega) (by omega)) ?_
  refine sq (r_loadC (v := pT b60) one24 (H97'.get (k := 7) rfl) (off := 1) rfl (by rfl)) ?_
  have H99 := ((H97'.pick 13 [8, 9, 10, 11, 0, 1, 2, 3, 4, 5, 6, 7, 12] (by decide) (by decide))).as (L' := skR 34 41 135 b60 x2 ++ [(some b92, .cells #[u64 ((otA ws ((5 * (0 + 0)) + 5 * zi)).p), u64 ((otA ws ((5 * (0 + 0)) + 5 * zi)).q), u64 ((otA ws ((5 * (0 + 0)) + 5 * zi)).r), u64 ((otA ws ((5 * (0 + 0)) + 5 * zi)).s), .bool ((otA ws ((5 * (0 + 0)) + 5 * zi)).ch)] 41 (0, 0)), (some b59, .cells #[.slice s82.t.a s82.t.l.length s82.t.c, .slice s82.b.a s82.b.l.length s82.b.c, .slice s82.o.a s82.o.l.length s82.o.c] 135 (0, 0)), (s82.t.key, sobP ETr 34 s82.t.pre s82.t.l s82.t.sp), (s82.b.key, sobP ETr 34 s82.b.pre s82.b.l s82.b.sp), (s82.o.key, sobP EOt 41 s82.o.pre s82.o.l s82.o.sp), (ky0, sob EOt 41 (rowsOf (otA ws) (5 * (0 + 0)) zi) zz0), (ky1, sob EOt 41 (rowsOf (otB ws) (5 * (0 + 0)) zi) zz1), (some b68, .cells #[pT b59, pT b60] 25 (0, 0)), (some b31, .cells #[u64 (δ.1), u64 (δ.2), .slice za zs.length zc, u64 (first)] 94 (0, 0))]) rfl
  refine c_call (vs := [pT b60]) call20 rfl (take2_hit b60 x2 hkx2 [(some b92, .cells #[u64 ((otA ws ((5 * (0 + 0)) + 5 * zi)).p), u64 ((otA ws ((5 * (0 + 0)) + 5 * zi)).q), u64 ((otA ws ((5 * (0 + 0)) + 5 * zi)).r), u64 ((otA ws ((5 * (0 + 0)) + 5 * zi)).s), .bool ((otA ws ((5 * (0 + 0)) + 5 * zi)).ch)] 41 (0, 0)), (some b59, .cells #[.slice s82.t.a s82.t.l.length s82.t.c, .slice s82.b.a s82.b.l.length s82.b.c, .slice s82.o.a s82.o.l.length s82.o.c] 135 (0, 0)), (s82.t.key, sobP ETr 34 s82.t.pre s82.t.l s82.t.sp), (s82.b.key, sobP ETr 34 s82.b.pre s82.b.l s82.b.sp), (s82.o.key, sobP EOt 41 s82.o.pre s82.o.l s82.o.sp), (ky0, sob EOt 41 (rowsOf (otA ws) (5 * (0 + 0)) zi) zz0), (ky1, sob EOt 41 (rowsOf (otB ws) (5 * (0 + 0)) zi) zz1), (some b68, .cells #[pT b59, pT b60] 25 (0, 0)), (some b31, .cells #[u64 (δ.1), u64 (δ.2), .slice za zs.length zc, u64 (first)] 94 (0, 0))] w₀ w96 H99 (by rw [hfox2]; simp only [List.length_drop, rowsOf_len] <;> omega)) ?_
  rintro _ w100 ⟨rfl, s102, HN103, hok104, hd105, he106, he107⟩
  have H108 := HN103.as (L' := [(some b60, .cells #[.slice s102.t.a s102.t.l.length s102.t.c, .slice s102.b.a s102.b.l.length s102.b.c, .slice s102.o.a s102.o.l.length s102.o.c] 135 (0, 0)), (s102.t.key, sobP ETr 34 s102.t.pre s102.t.l s102.t.sp), (s102.b.key, sobP ETr 34 s102.b.pre s102.b.l s102.b.sp), (s102.o.key, sobP EOt 41 s102.o.pre s102.o.l s102.o.sp), (some b92, .cells #[u64 ((otA ws ((5 * (0 + 0)) + 5 * zi)).p), u64 ((otA ws ((5 * (0 + 0)) + 5 * zi)).q), u64 ((otA ws ((5 * (0 + 0)) + 5 * zi)).r), u64 ((otA ws ((5 * (0 + 0)) + 5 * zi)).s), .bool ((otA ws ((5 * (0 + 0)) + 5 * zi)).ch)] 41 (0, 0)), (some b59, .cells #[.slice s82.t.a s82.t.l.length s82.t.c, .slice s82.b.a s82.b.l.length s82.b.c, .slice s82.o.a s82.o.l.length s82.o.c] 135 (0, 0)), (s82.t.key, sobP ETr 34 s82.t.pre s82.t.l s82.t.sp), (s82.b.key, sobP ETr 34 s82.b.pre s82.b.l s82.b.sp), (s82.o.key, sobP EOt 41 s82.o.pre s82.o.l s82.o.sp), (ky0, sob EOt 41 (rowsOf (otA ws) (5 * (0 + 0)) zi) zz0), (ky1, sob EOt 41 (rowsOf (otB ws) (5 * (0 + 0)) zi) zz1), (some b68, .cells #[pT b59, pT b60] 25 (0, 0)), (some b31, .cells #[u64 (δ.1), u64 (δ.2), .slice za zs.length zc, u64 (first)] 94 (0, 0))]) rfl
  rw [hfox2]
  rw [show ((rowsOf (otB ws) (5 * (0 + 0)) 64).drop zi).getD 0 ot0 = otB ws ((5 * (0 + 0)) + 5 * zi) from by exact rowsOf_drop (by omega)]
  have hf109 : s102.t.l = rowsOf (trB ws) 0 0 := by rw [he106]; exact hftx2
  have hf110 : s102.b.l = rowsOf (biB ws) (5 * 0) 0 := by rw [he107]; exact hfbx2
  have hf111 : s102.o.l = (rowsOf (otB ws) (5 * (0 + 0)) 64).drop (zi + 1) := by rw [hd105, hfox2, List.drop_drop]
  refine sM (.tuple #[.agg #[u64 ((otB ws ((5 * (0 + 0)) + 5 * zi)).p), u64 ((otB ws ((5 * (0 + 0)) + 5 * zi)).q), u64 ((otB ws ((5 * (0 + 0)) + 5 * zi)).r), u64 ((otB ws ((5 * (0 + 0)) + 5 * zi)).s), .bool ((otB ws ((5 * (0 + 0)) + 5 * zi)).ch)], .nilIface]) rfl ?_
  refine sq (r_extract (vs := #[.agg #[u64 ((otB ws ((5 * (0 + 0)) + 5 * zi)).p), u64 ((otB ws ((5 * (0 + 0)) + 5 * zi)).q), u64 ((otB ws ((5 * (0 + 0)) + 5 * zi)).r), u64 ((otB ws ((5 * (0 + 0)) + 5 * zi)).s), .bool ((otB ws ((5 * (0 + 0)) + 5 * zi)).ch)], .nilIface]) rfl rfl) ?_
  refine sq (r_extract (vs := #[.agg #[u64 ((otB ws ((5 * (0 + 0)) + 5 * zi)).p), u64 ((otB ws ((5 * (0 + 0)) + 5 * zi)).q), u64 ((otB ws ((5 * (0 + 0)) + 5 * zi)).r), u64 ((otB ws ((5 * (0 + 0)) + 5 * zi)).s), .bool ((otB ws ((5 * (0 + 0)) + 5 * zi)).ch)], .nilIface]) rfl rfl) ?_
  refine q_alloc (o := .cells #[u64 (0#64), u64 (0#64), u64 (0#64), u64 (0#64), .bool (false)] 41 (0, 0)) H108 zer41 (by kernel_rfl) ?_
  intro b112 w113 hb112 H114 hE115
  refine d_store (k := 0) (v := .agg #[u64 ((otB ws ((5 * (0 + 0)) + 5 * zi)).p), u64 ((otB ws ((5 * (0 + 0)) + 5 * zi)).q), u64 ((otB ws ((5 * (0 + 0)) + 5 * zi)).r), u64 ((otB ws ((5 * (0 + 0)) + 5 * zi)).s), .bool ((otB ws ((5 * (0 + 0)) + 5 * zi)).ch)]) (cs' := #[u64 ((otB ws ((5 * (0 + 0)) + 5 * zi)).p), u64 ((otB ws ((5 * (0 + 0)) + 5 * zi)).q), u64 ((otB ws ((5 * (0 + 0)) + 5 * zi)).r), u64 ((otB ws ((5 * (0 + 0)) + 5 * zi)).s), .bool ((otB ws ((5 * (0 + 0)) + 5 * zi)).ch)]) H114 rfl rfl rfl siz41 (by rfl) (by intro u hu; simp [Value.cells] at hu; first | (subst hu; rfl) | (rcases hu with rfl | rfl | rfl | rfl | rfl <;> rfl)) (by exact bLe rfl) (by rfl) ?_
  intro w116 H117 hC118
  have H117' := H117.as (L' := [(some b112, .cells #[u64 ((otB ws ((5 * (0 + 0)) + 5 * zi)).p), u64 ((otB ws ((5 * (0 + 0)) + 5 * zi)).q), u64 ((otB ws ((5 * (0 + 0)) + 5 * zi)).r), u64 ((otB ws ((5 * (0 + 0)) + 5 * zi)).s), .bool ((otB ws ((5 * (0 + 0)) + 5 * zi)).ch)] 41 (0, 0)), (some b60, .cells #[.slice s102.t.a s102.t.l.length s102.t.c, .slice s102.b.a s102.b.l.length s102.b.c, .slice s102.o.a s102.o.l.length s102.o.c] 135 (0, 0)), (s102.t.key, sobP ETr 34 s102.t.pre s102.t.l s102.t.sp), (s102.b.key, sobP ETr 34 s102.b.pre s102.b.l s102.b.sp), (s102.o.key, sobP EOt 41 s102.o.pre s102.o.l s102.o.sp), (some b92, .cells #[u64 ((otA ws ((5 * (0 + 0)) + 5 * zi)).p), u64 ((otA ws ((5 * (0 + 0)) + 5 * zi)).q), u64 ((otA ws ((5 * (0 + 0)) + 5 * zi)).r), u64 ((otA ws ((5 * (0 + 0)) + 5 * zi)).s), .bool ((otA ws ((5 * (0 + 0)) + 5 * zi)).ch)] 41 (0, 0)), (some b59, .cells #[.slice s82.t.a s82.t.l.length s82.t.c, .slice s82.b.a s82.b.l.length s82.b.c, .slice s82.o.a s82.o.l.length s82.o.c] 135 (0, 0)), (s82.t.key, sobP ETr 34 s82.t.pre s82.t.l s82.t.sp), (s82.b.key, sobP ETr 34 s82.b.pre s82.b.l s82.b.sp), (s82.o.key, sobP EOt 41 s82.o.pre s82.o.l s82.o.sp), (ky0, sob EOt 41 (rowsOf (otA ws) (5 * (0 + 0)) zi) zz0), (ky1, sob EOt 41 (rowsOf (otB ws) (5 * (0 + 0)) zi) zz1), (some b68, .cells #[pT b59, pT b60] 25 (0, 0)), (some b31, .cells #[u64 (δ.1), u64 (δ.2), .slice za zs.length zc, u64 (first)] 94 (0, 0))]) rfl
  clear H117
  refine sA (.nilIface) rfl ?_
  obtain ⟨RR, hRR⟩ : ∃ q : List (Option Nat × Obj), q = [(some b60, .cells #[.slice s102.t.a s102.t.l.length s102.t.c, .slice s102.b.a s102.b.l.length s102.b.c, .slice s102.o.a s102.o.l.length s102.o.c] 135 (0, 0)), (s102.t.key, sobP ETr 34 s102.t.pre s102.t.l s102.t.sp), (s102.b.key, sobP ETr 34 s102.b.pre s102.b.l s102.b.sp), (s102.o.key, sobP EOt 41 s102.o.pre s102.o.l s102.o.sp), (some b59, .cells #[.slice s82.t.a s82.t.l.length s82.t.c, .slice s82.b.a s82.b.l.length s82.b.c, .slice s82.o.a s82.o.l.length s82.o.c] 135 (0, 0)), (s82.t.key, sobP ETr 34 s82.t.pre s82.t.l s82.t.sp), (s82.b.key, sobP ETr 34 s82.b.pre s82.b.l s82.b.sp), (s82.o.key, sobP EOt 41 s82.o.pre s82.o.l s82.o.sp), (some b68, .cells #[pT b59, pT b60] 25 (0, 0)), (some b31, .cells #[u64 (δ.1), u64 (δ.2), .slice za zs.length zc, u64 (first)] 94 (0, 0))] := ⟨_, rfl⟩
  have H119 : Hp No w₀ w116 ((ky0, sob EOt 41 (rowsOf (otA ws) (5 * (0 + 0)) zi) zz0) :: (ky1, sob EOt 41 (rowsOf (otB ws) (5 * (0 + 0)) zi) zz1) :: (some b92, .cells #[u64 ((otA ws ((5 * (0 + 0)) + 5 * zi)).p), u64 ((otA ws ((5 * (0 + 0)) + 5 * zi)).q), u64 ((otA ws ((5 * (0 + 0)) + 5 * zi)).r), u64 ((otA ws ((5 * (0 + 0)) + 5 * zi)).s), .bool ((otA ws ((5 * (0 + 0)) + 5 * zi)).ch)] 41 (0, 0)) :: (some b112, .cells #[u64 ((otB ws ((5 * (0 + 0)) + 5 * zi)).p), u64 ((otB ws ((5 * (0 + 0)) + 5 * zi)).q), u64 ((otB ws ((5 * (0 + 0)) + 5 * zi)).r), u64 ((otB ws ((5 * (0 + 0)) + 5 * zi)).s), .bool ((otB ws ((5 * (0 + 0)) + 5 * zi)).ch)] 41 (0, 0)) :: RR) := by rw [hRR]; exact (H117'.pick 14 [10, 11, 5, 0, 1, 2, 3, 4, 6, 7, 8, 9, 12, 13] (by decide) (by decide))
  refine wend ?_
  refine drawP (m := 10) [0, 0, 2, 7, 0, 0, 32, 127, 255, 511] [2, 3, 6, 7] (fun bs vs w' => match bs, vs with | [false, false, false, false], [_, _, _, _] => Hp No w₀ w' ((ky0, sob EOt 41 (rowsOf (otA ws) (5 * (0 + 0)) zi) zz0) :: (ky1, sob EOt 41 (rowsOf (otB ws) (5 * (0 + 0)) zi) zz1) :: (some b92, .cells #[u64 ((otA ws ((5 * (0 + 0)) + 5 * zi)).p), u64 ((otA ws ((5 * (0 + 0)) + 5 * zi)).q), u64 ((otA ws ((5 * (0 + 0)) + 5 * zi)).r), u64 ((otA ws ((5 * (0 + 0)) + 5 * zi)).s), .bool ((otA ws ((5 * (0 + 0)) + 5 * zi)).ch)] 41 (0, 0)) :: (some b112, .cells #[u64 ((otB ws ((5 * (0 + 0)) + 5 * zi)).p), u64 ((otB ws ((5 * (0 + 0)) + 5 * zi)).q), u64 ((otB ws ((5 * (0 + 0)) + 5 * zi)).r), u64 ((otB ws ((5 * (0 + 0)) + 5 * zi)).s), .bool ((otB ws ((5 * (0 + 0)) + 5 * zi)).ch)] 41 (0, 0)) :: RR) | [true, false, false, false], [v2, _, _, _] => ∃ (b122 : Nat), v2 = .slice (ownA (some b122)) 1 1 ∧ Sl EOt (some b122) ([⟨(otA ws ((5 * (0 + 0)) + 5 * zi)).p, (otA ws ((5 * (0 + 0)) + 5 * zi)).q, (otA ws ((5 * (0 + 0)) + 5 * zi)).r, (otA ws ((5 * (0 + 0)) + 5 * zi)).s, (otA ws ((5 * (0 + 0)) + 5 * zi)).ch⟩] : List Ot) 1 ([]) ∧ Hp No w₀ w' (((some b122), sob EOt 41 ([⟨(otA ws ((5 * (0 + 0)) + 5 * zi)).p, (otA ws ((5 * (0 + 0)) + 5 * zi)).q, (otA ws ((5 * (0 + 0)) + 5 * zi)).r, (otA ws ((5 * (0 + 0)) + 5 * zi)).s, (otA ws ((5 * (0 + 0)) + 5 * zi)).ch⟩] : List Ot) ([])) :: (ky0, sob EOt 41 (rowsOf (otA ws) (5 * (0 + 0)) zi) zz0) :: (ky1, sob EOt 41 (rowsOf (otB ws) (5 * (0 + 0)) zi) zz1) :: (some b92, .cells #[u64 ((otA ws ((5 * (0 + 0)) + 5 * zi)).p), u64 ((otA ws ((5 * (0 + 0)) + 5 * zi)).q), u64 ((otA ws ((5 * (0 + 0)) + 5 * zi)).r), u64 ((otA ws ((5 * (0 + 0)) + 5 * zi)).s), .bool ((otA ws ((5 * (0 + 0)) + 5 * zi)).ch)] 41 (0, 0)) :: (some b112, .cells #[u64 ((otB ws ((5 * (0 + 0)) + 5 * zi)).p), u64 ((otB ws ((5 * (0 + 0)) + 5 * zi)).q), u64 ((otB ws ((5 * (0 + 0)) + 5 * zi)).r), u64 ((otB ws ((5 * (0 + 0)) + 5 * zi)).s), .bool ((otB ws ((5 * (0 + 0)) + 5 * zi)).ch)] 41 (0, 0)) :: RR) | [true, true, false, false], [v2, v3, _, _] => ∃ (b122 : Nat) (key128 : Option Nat) (c129 : Nat) (sp130 : List Value), v2 = .slice (ownA (some b122)) 1 1 ∧ v3 = .slice (ownA key128) (zi + 1) c129 ∧ Sl EOt (some b122) ([⟨(otA ws ((5 * (0 + 0)) + 5 * zi)).p, (otA ws ((5 * (0 + 0)) + 5 * zi)).q, (otA ws ((5 * (0 + 0)) + 5 * zi)).r, (otA ws ((5 * (0 + 0)) + 5 * zi)).s, (otA ws ((5 * (0 + 0)) + 5 * zi)).ch⟩] : List Ot) 1 ([]) ∧ Sl EOt key128 (rowsOf (otA ws) (5 * (0 + 0)) (zi + 1)) c129 sp130 ∧ Hp No w₀ w' (((some b122), sob EOt 41 ([⟨(otA ws ((5 * (0 + 0)) + 5 * zi)).p, (otA ws ((5 * (0 + 0)) + 5 * zi)).q, (otA ws ((5 * (0 + 0)) + 5 * zi)).r, (otA ws ((5 * (0 + 0)) + 5 * zi)).s, (otA ws ((5 * (0 + 0)) + 5 * zi)).ch⟩] : List Ot) ([])) :: (key128, sob EOt 41 (rowsOf (otA ws) (5 * (0 + 0)) (zi + 1)) sp130) :: (ky1, sob EOt 41 (rowsOf (otB ws) (5 * (0 + 0)) zi) zz1) :: (some b92, .cells #[u64 ((otA ws ((5 * (0 + 0)) + 5 * zi)).p), u64 ((otA ws ((5 * (0 + 0)) + 5 * zi)).q), u64 ((otA ws ((5 * (0 + 0)) + 5 * zi)).r), u64 ((otA ws ((5 * (0 + 0)) + 5 * zi)).s), .bool ((otA ws ((5 * (0 + 0)) + 5 * zi)).ch)] 41 (0, 0)) :: (some b112, .cells #[u64 ((otB ws ((5 * (0 + 0)) + 5 * zi)).p), u64 ((otB ws ((5 * (0 + 0)) + 5 * zi)).q), u64 ((otB ws ((5 * (0 + 0)) + 5 * zi)).r), u64 ((otB ws ((5 * (0 + 0)) + 5 * zi)).s), .bool ((otB ws ((5 * (0 + 0)) + 5 * zi)).ch)] 41 (0, 0)) :: RR) | [false, false, true, false], [_, _, v6, _] => ∃ (b139 : Nat), v6 = .slice (ownA (some b139)) 1 1 ∧ Sl EOt (some b139) ([⟨(otB ws ((5 * (0 + 0)) + 5 * zi)).p, (otB ws ((5 * (0 + 0)) + 5 * zi)).q, (otB ws ((5 * (0 + 0)) + 5 * zi)).r, (otB ws ((5 * (0 + 0)) + 5 * zi)).s, (otB ws ((5 * (0 + 0)) + 5 * zi)).ch⟩] : List Ot) 1 ([]) ∧ Hp No w₀ w' (((some b139), sob EOt 41 ([⟨(otB ws ((5 * (0 + 0)) + 5 * zi)).p, (otB ws ((5 * (0 + 0)) + 5 * zi)).q, (otB ws ((5 * (0 + 0)) + 5 * zi)).r, (otB ws ((5 * (0 + 0)) + 5 * zi)).s, (otB ws ((5 * (0 + 0)) + 5 * zi)).ch⟩] : List Ot) ([])) :: (ky0, sob EOt 41 (rowsOf (otA ws) (5 * (0 + 0)) zi) zz0) :: (ky1, sob EOt 41 (rowsOf (otB ws) (5 * (0 + 0)) zi) zz1) :: (some b92, .cells #[u64 ((otA ws ((5 * (0 + 0)) + 5 * zi)).p), u64 ((otA ws ((5 * (0 + 0)) + 5 * zi)).q), u64 ((otA ws ((5 * (0 + 0)) + 5 * zi)).r), u64 ((otA ws ((5 * (0 + 0)) + 5 * zi)).s), .bool ((otA ws ((5 * (0 + 0)) + 5 * zi)).ch)] 41 (0, 0)) :: (some b112, .cells #[u64 ((otB ws ((5 * (0 + 0)) + 5 * zi)).p), u64 ((otB ws ((5 * (0 + 0)) + 5 * zi)).q), u64 ((otB ws ((5 * (0 + 0)) + 5 * zi)).r), u64 ((otB ws ((5 * (0 + 0)) + 5 * zi)).s), .bool ((otB ws ((5 * (0 + 0)) + 5 * zi)).ch)] 41 (0, 0)) :: RR) | [true, false, true, false], [v2, _, v6, _] => ∃ (b122 : Nat) (b145 : Nat), v2 = .slice (ownA (some b122)) 1 1 ∧ v6 = .slice (ownA (some b145)) 1 1 ∧ Sl EOt (some b145) ([⟨(otB ws ((5 * (0 + 0)) + 5 * zi)).p, (otB ws ((5 * (0 + 0)) + 5 * zi)).q, (otB ws ((5 * (0 + 0)) + 5 * zi)).r, (otB ws ((5 * (0 + 0)) + 5 * zi)).s, (otB ws ((5 * (0 + 0)) + 5 * zi)).ch⟩] : List Ot) 1 ([]) ∧ Sl EOt (some b122) ([⟨(otA ws ((5 * (0 + 0)) + 5 * zi)).p, (otA ws ((5 * (0 + 0)) + 5 * zi)).q, (otA ws ((5 * (0 + 0)) + 5 * zi)).r, (otA ws ((5 * (0 + 0)) + 5 * zi)).s, (otA ws ((5 * (0 + 0)) + 5 * zi)).ch⟩] : List Ot) 1 ([]) ∧ Hp No w₀ w' (((some b145), sob EOt 41 ([⟨(otB ws ((5 * (0 + 0)) + 5 * zi)).p, (otB ws ((5 * (0 + 0)) + 5 * zi)).q, (otB ws ((5 * (0 + 0)) + 5 * zi)).r, (otB ws ((5 * (0 + 0)) + 5 * zi)).s, (otB ws ((5 * (0 + 0)) + 5 * zi)).ch⟩] : List Ot) ([])) :: ((some b122), sob EOt 41 ([⟨(otA ws ((5 * (0 + 0)) + 5 * zi)).p, (otA ws ((5 * (0 + 0)) + 5 * zi)).q, (otA ws ((5 * (0 + 0)) + 5 * zi)).r, (otA ws ((5 * (0 + 0)) + 5 * zi)).s, (otA ws ((5 * (0 + 0)) + 5 * zi)).ch⟩] : List Ot) ([])) :: (ky0, sob EOt 41 (rowsOf (otA ws) (5 * (0 + 0)) zi) zz0) :: (ky1, sob EOt 41 (rowsOf (otB ws) (5 * (0 + 0)) zi) zz1) :: (some b92, .cells #[u64 ((otA ws ((5 * (0 + 0)) + 5 * zi)).p), u64 ((otA ws ((5 * (0 + 0)) + 5 * zi)).q), u64 ((otA ws ((5 * (0 + 0)) + 5 * zi)).r), u64 ((otA ws ((5 * (0 + 0)) + 5 * zi)).s), .bool ((otA ws ((5 * (0 + 0)) + 5 * zi)).ch)] 41 (0, 0)) :: (some b112, .cells #[u64 ((otB ws ((5 * (0 + 0)) + 5 * zi)).p), u64 ((otB ws ((5 * (0 + 0)) + 5 * zi)).q), u64 ((otB ws ((5 * (0 + 0)) + 5 * zi)).r), u64 ((otB ws ((5 * (0 + 0)) + 5 * zi)).s), .bool ((otB ws ((5 * (0 + 0)) + 5 * zi)).ch)] 41 (0, 0)) :: RR) | [true, true, true, false], [v2, v3, v6, _] => ∃ (b122 : Nat) (key128 : Option Nat) (c129 : Nat) (sp130 : List Value) (b151 : Nat), v2 = .slice (ownA (some b122)) 1 1 ∧ v3 = .slice (ownA key128) (zi + 1) c129 ∧ v6 = .slice (ownA (some b151)) 1 1 ∧ Sl EOt (some b151) ([⟨(otB ws ((5 * (0 + 0)) + 5 * zi)).p, (otB ws ((5 * (0 + 0)) + 5 * zi)).q, (otB ws ((5 * (0 + 0)) + 5 * zi)).r, (otB ws ((5 * (0 + 0)) + 5 * zi)).s, (otB ws ((5 * (0 + 0)) + 5 * zi)).ch⟩] : List Ot) 1 ([]) ∧ Sl EOt (some b122) ([⟨(otA ws ((5 * (0 + 0)) + 5 * zi)).p, (otA ws ((5 * (0 + 0)) + 5 * zi)).q, (otA ws ((5 * (0 + 0)) + 5 * zi)).r, (otA ws ((5 * (0 + 0)) + 5 * zi)).s, (otA ws ((5 * (0 + 0)) + 5 * zi)).ch⟩] : List Ot) 1 ([]) ∧ Sl EOt key128 (rowsOf (otA ws) (5 * (0 + 0)) (zi + 1)) c129 sp130 ∧ Hp No w₀ w' (((some b151), sob EOt 41 ([⟨(otB ws ((5 * (0 + 0)) + 5 * zi)).p, (otB ws ((5 * (0 + 0)) + 5 * zi)).q, (otB ws ((5 * (0 + 0)) + 5 * zi)).r, (otB ws ((5 * (0 + 0)) + 5 * zi)).s, (otB ws ((5 * (0 + 0)) + 5 * zi)).ch⟩] : List Ot) ([])) :: ((some b122), sob EOt 41 ([⟨(otA ws ((5 * (0 + 0)) + 5 * zi)).p, (otA ws ((5 * (0 + 0)) + 5 * zi)).q, (otA ws ((5 * (0 + 0)) + 5 * zi)).r, (otA ws ((5 * (0 + 0)) + 5 * zi)).s, (otA ws ((5 * (0 + 0)) + 5 * zi)).ch⟩] : List Ot) ([])) :: (key128, sob EOt 41 (rowsOf (otA ws) (5 * (0 + 0)) (zi + 1)) sp130) :: (ky1, sob EOt 41 (rowsOf (otB ws) (5 * (0 + 0)) zi) zz1) :: (some b92, .cells #[u64 ((otA ws ((5 * (0 + 0)) + 5 * zi)).p), u64 ((otA ws ((5 * (0 + 0)) + 5 * zi)).q), u64 ((otA ws ((5 * (0 + 0)) + 5 * zi)).r), u64 ((otA ws ((5 * (0 + 0)) + 5 * zi)).s), .bool ((otA ws ((5 * (0 + 0)) + 5 * zi)).ch)] 41 (0, 0)) :: (some b112, .cells #[u64 ((otB ws ((5 * (0 + 0)) + 5 * zi)).p), u64 ((otB ws ((5 * (0 + 0)) + 5 * zi)).q), u64 ((otB ws ((5 * (0 + 0)) + 5 * zi)).r), u64 ((otB ws ((5 * (0 + 0)) + 5 * zi)).s), .bool ((otB ws ((5 * (0 + 0)) + 5 * zi)).ch)] 41 (0, 0)) :: RR) | [true, true, true, true], [v2, v3, v6, v7] => ∃ (b122 : Nat) (key128 : Option Nat) (c129 : Nat) (sp130 : List Value) (b151 : Nat) (key157 : Option Nat) (c158 : Nat) (sp159 : List Value), v2 = .slice (ownA (some b122)) 1 1 ∧ v3 = .slice (ownA key128) (zi + 1) c129 ∧ v6 = .slice (ownA (some b151)) 1 1 ∧ v7 = .slice (ownA key157) (zi + 1) c158 ∧ Sl EOt (some b151) ([⟨(otB ws ((5 * (0 + 0)) + 5 * zi)).p, (otB ws ((5 * (0 + 0)) + 5 * zi)).q, (otB ws ((5 * (0 + 0)) + 5 * zi)).r, (otB ws ((5 * (0 + 0)) + 5 * zi)).s, (otB ws ((5 * (0 + 0)) + 5 * zi)).ch⟩] : List Ot) 1 ([]) ∧ Sl EOt (some b122) ([⟨(otA ws ((5 * (0 + 0)) + 5 * zi)).p, (otA ws ((5 * (0 + 0)) + 5 * zi)).q, (otA ws ((5 * (0 + 0)) + 5 * zi)).r, (otA ws ((5 * (0 + 0)) + 5 * zi)).s, (otA ws ((5 * (0 + 0)) + 5 * zi)).ch⟩] : List Ot) 1 ([]) ∧ Sl EOt key128 (rowsOf (otA ws) (5 * (0 + 0)) (zi + 1)) c129 sp130 ∧ Sl EOt key157 (rowsOf (otB ws) (5 * (0 + 0)) (zi + 1)) c158 sp159 ∧ Hp No w₀ w' (((some b151), sob EOt 41 ([⟨(otB ws ((5 * (0 + 0)) + 5 * zi)).p, (otB ws ((5 * (0 + 0)) + 5 * zi)).q, (otB ws ((5 * (0 + 0)) + 5 * zi)).r, (otB ws ((5 * (0 + 0)) + 5 * zi)).s, (otB ws ((5 * (0 + 0)) + 5 * zi)).ch⟩] : List Ot) ([])) :: ((some b122), sob EOt 41 ([⟨(otA ws ((5 * (0 + 0)) + 5 * zi)).p, (otA ws ((5 * (0 + 0)) + 5 * zi)).q, (otA ws ((5 * (0 + 0)) + 5 * zi)).r, (otA ws ((5 * (0 + 0)) + 5 * zi)).s, (otA ws ((5 * (0 + 0)) + 5 * zi)).ch⟩] : List Ot) ([])) :: (key128, sob EOt 41 (rowsOf (otA ws) (5 * (0 + 0)) (zi + 1)) sp130) :: (key157, sob EOt 41 (rowsOf (otB ws) (5 * (0 + 0)) (zi + 1)) sp159) :: (some b92, .cells #[u64 ((otA ws ((5 * (0 + 0)) + 5 * zi)).p), u64 ((otA ws ((5 * (0 + 0)) + 5 * zi)).q), u64 ((otA ws ((5 * (0 + 0)) + 5 * zi)).r), u64 ((otA ws ((5 * (0 + 0)) + 5 * zi)).s), .bool ((otA ws ((5 * (0 + 0)) + 5 * zi)).ch)] 41 (0, 0)) :: (some b112, .cells #[u64 ((otB ws ((5 * (0 + 0)) + 5 * zi)).p), u64 ((otB ws ((5 * (0 + 0)) + 5 * zi)).q), u64 ((otB ws ((5 * (0 + 0)) + 5 * zi)).r), u64 ((otB ws ((5 * (0 + 0)) + 5 * zi)).s), .bool ((otB ws ((5 * (0 + 0)) + 5 * zi)).ch)] 41 (0, 0)) :: RR) | _, _ => False) mixed (by kernel_rfl) (by kernel_rfl) H119.drew ?_
  refine WalkP.look rfl (fun _ => .slice (ownA ky0) zi cc0) (fun _ _ _ => rfl) (fun L r uw _ _ _ => Gives.run rfl (r_move (v := .slice (ownA ky0) zi cc0) rfl) ⟨rfl, rfl⟩) ?_
  refine WalkP.look rfl (fun _ => .agg #[u64 ((otA ws ((5 * (0 + 0)) + 5 * zi)).p), u64 ((otA ws ((5 * (0 + 0)) + 5 * zi)).q), u64 ((otA ws ((5 * (0 + 0)) + 5 * zi)).r), u64 ((otA ws ((5 * (0 + 0)) + 5 * zi)).s), .bool ((otA ws ((5 * (0 + 0)) + 5 * zi)).ch)]) (fun _ _ _ => rfl) (fun L r uw hAn hDn hF => ?_) ?_
  ·skip
   have b2 := hDn 2 (by decide) rfl
   have b3 := hDn 3 (by decide) rfl
   have b7 := hDn 7 (by decide) rfl
   rcases bTF (L 6) with b6 | b6
   ·skip
    have hb := mp4 b2 b3 b6 b7
    rw [hb] at hF
    obtain ⟨b139, e6, hS140, HH⟩ := hF
    exact Gives.run rfl (r_loadA (cs' := #[u64 ((otA ws ((5 * (0 + 0)) + 5 * zi)).p), u64 ((otA ws ((5 * (0 + 0)) + 5 * zi)).q), u64 ((otA ws ((5 * (0 + 0)) + 5 * zi)).r), u64 ((otA ws ((5 * (0 + 0)) + 5 * zi)).s), .bool ((otA ws ((5 * (0 + 0)) + 5 * zi)).ch)]) agg41 siz41 (HH.get (k := 3) rfl) (off := 0) rfl (by exact bLe rfl) (by rfl)) ⟨rfl, rfl⟩
   ·skip
    have hb := mp4 b2 b3 b6 b7
    rw [hb] at hF
    have HH := hF
    exact Gives.run rfl (r_loadA (cs' := #[u64 ((otA ws ((5 * (0 + 0)) + 5 * zi)).p), u64 ((otA ws ((5 * (0 + 0)) + 5 * zi)).q), u64 ((otA ws ((5 * (0 + 0)) + 5 * zi)).r), u64 ((otA ws ((5 * (0 + 0)) + 5 * zi)).s), .bool ((otA ws ((5 * (0 + 0)) + 5 * zi)).ch)]) agg41 siz41 (HH.get (k := 2) rfl) (off := 0) rfl (by exact bLe rfl) (by rfl)) ⟨rfl, rfl⟩
  refine WalkP.eff 0 rfl (fun L r uw hLn hAn hDn hF => ?_) ?_
  ·skip
   have b2 : L 2 = false := hLn
   have b3 := hDn 3 (by decide) rfl
   have b7 := hDn 7 (by decide) rfl
   rcases bTF (L 6) with b6 | b6
   ·skip
    have hb := mp4 b2 b3 b6 b7
    rw [hb] at hF ⊢
    obtain ⟨b139, e6, hS140, H167⟩ := hF
    dsimp only
    refine Gives.ofW (d := 57) rfl rfl (fun Q' hK => ?_)
    refine q_buildSlice (E := EOt) (l := ([⟨(otA ws ((5 * (0 + 0)) + 5 * zi)).p, (otA ws ((5 * (0 + 0)) + 5 * zi)).q, (otA ws ((5 * (0 + 0)) + 5 * zi)).r, (otA ws ((5 * (0 + 0)) + 5 * zi)).s, (otA ws ((5 * (0 + 0)) + 5 * zi)).ch⟩] : List Ot)) H167 sli50 zer41 (bLe rfl) (ps := [(0, .agg #[u64 ((otA ws ((5 * (0 + 0)) + 5 * zi)).p), u64 ((otA ws ((5 * (0 + 0)) + 5 * zi)).q), u64 ((otA ws ((5 * (0 + 0)) + 5 * zi)).r), u64 ((otA ws ((5 * (0 + 0)) + 5 * zi)).s), .bool ((otA ws ((5 * (0 + 0)) + 5 * zi)).ch)])]) rfl (by exact fillAll rfl rfl) rfl ?_
    intro b168 w170 hS169 H171 hE172
    exact hK _ _ (show ∃ (b122 : Nat) (b145 : Nat), (_ : Value) = .slice (ownA (some b122)) 1 1 ∧ r 6 = .slice (ownA (some b145)) 1 1 ∧ Sl EOt (some b145) ([⟨(otB ws ((5 * (0 + 0)) + 5 * zi)).p, (otB ws ((5 * (0 + 0)) + 5 * zi)).q, (otB ws ((5 * (0 + 0)) + 5 * zi)).r, (otB ws ((5 * (0 + 0)) + 5 * zi)).s, (otB ws ((5 * (0 + 0)) + 5 * zi)).ch⟩] : List Ot) 1 ([]) ∧ Sl EOt (some b122) ([⟨(otA ws ((5 * (0 + 0)) + 5 * zi)).p, (otA ws ((5 * (0 + 0)) + 5 * zi)).q, (otA ws ((5 * (0 + 0)) + 5 * zi)).r, (otA ws ((5 * (0 + 0)) + 5 * zi)).s, (otA ws ((5 * (0 + 0)) + 5 * zi)).ch⟩] : List Ot) 1 ([]) ∧ Hp No w₀ w170 (((some b145), sob EOt 41 ([⟨(otB ws ((5 * (0 + 0)) + 5 * zi)).p, (otB ws ((5 * (0 + 0)) + 5 * zi)).q, (otB ws ((5 * (0 + 0)) + 5 * zi)).r, (otB ws ((5 * (0 + 0)) + 5 * zi)).s, (otB ws ((5 * (0 + 0)) + 5 * zi)).ch⟩] : List Ot) ([])) :: ((some b122), sob EOt 41 ([⟨(otA ws ((5 * (0 + 0)) + 5 * zi)).p, (otA ws ((5 * (0 + 0)) + 5 * zi)).q, (otA ws ((5 * (0 + 0)) + 5 * zi)).r, (otA ws ((5 * (0 + 0)) + 5 * zi)).s, (otA ws ((5 * (0 + 0)) + 5 * zi)).ch⟩] : List Ot) ([])) :: (ky0, sob EOt 41 (rowsOf (otA ws) (5 * (0 + 0)) zi) zz0) :: (ky1, sob EOt 41 (rowsOf (otB ws) (5 * (0 + 0)) zi) zz1) :: (some b92, .cells #[u64 ((otA ws ((5 * (0 + 0)) + 5 * zi)).p), u64 ((otA ws ((5 * (0 + 0)) + 5 * zi)).q), u64 ((otA ws ((5 * (0 + 0)) + 5 * zi)).r), u64 ((otA ws ((5 * (0 + 0)) + 5 * zi)).s), .bool ((otA ws ((5 * (0 + 0)) + 5 * zi)).ch)] 41 (0, 0)) :: (some b112, .cells #[u64 ((otB ws ((5 * (0 + 0)) + 5 * zi)).p), u64 ((otB ws ((5 * (0 + 0)) + 5 * zi)).q), u64 ((otB ws ((5 * (0 + 0)) + 5 * zi)).r), u64 ((otB ws ((5 * (0 + 0)) + 5 * zi)).s), .bool ((otB ws ((5 * (0 + 0)) + 5 * zi)).ch)] 41 (0, 0)) :: RR) from ⟨b168, b139, rfl, e6, hS140, hS169, ((((((H171.pull (k := 5) rfl).pull (k := 5) rfl).pull (k := 5) rfl).pull (k := 5) rfl).pull (k := 4) rfl).pull (k := 5) rfl)⟩)
   ·skip
    have hb := mp4 b2 b3 b6 b7
    rw [hb] at hF ⊢
    have H173 := hF
    dsimp only
    refine Gives.ofW (d := 57) rfl rfl (fun Q' hK => ?_)
    refine q_buildSlice (E := EOt) (l := ([⟨(otA ws ((5 * (0 + 0)) + 5 * zi)).p, (otA ws ((5 * (0 + 0)) + 5 * zi)).q, (otA ws ((5 * (0 + 0)) + 5 * zi)).r, (otA ws ((5 * (0 + 0)) + 5 * zi)).s, (otA ws ((5 * (0 + 0)) + 5 * zi)).ch⟩] : List Ot)) H173 sli50 zer41 (bLe rfl) (ps := [(0, .agg #[u64 ((otA ws ((5 * (0 + 0)) + 5 * zi)).p), u64 ((otA ws ((5 * (0 + 0)) + 5 * zi)).q), u64 ((otA ws ((5 * (0 + 0)) + 5 * zi)).r), u64 ((otA ws ((5 * (0 + 0)) + 5 * zi)).s), .bool ((otA ws ((5 * (0 + 0)) + 5 * zi)).ch)])]) rfl (by exact fillAll rfl rfl) rfl ?_
    intro b174 w176 hS175 H177 hE178
    exact hK _ _ (show ∃ (b122 : Nat), (_ : Value) = .slice (ownA (some b122)) 1 1 ∧ Sl EOt (some b122) ([⟨(otA ws ((5 * (0 + 0)) + 5 * zi)).p, (otA ws ((5 * (0 + 0)) + 5 * zi)).q, (otA ws ((5 * (0 + 0)) + 5 * zi)).r, (otA ws ((5 * (0 + 0)) + 5 * zi)).s, (otA ws ((5 * (0 + 0)) + 5 * zi)).ch⟩] : List Ot) 1 ([]) ∧ Hp No w₀ w176 (((some b122), sob EOt 41 ([⟨(otA ws ((5 * (0 + 0)) + 5 * zi)).p, (otA ws ((5 * (0 + 0)) + 5 * zi)).q, (otA ws ((5 * (0 + 0)) + 5 * zi)).r, (otA ws ((5 * (0 + 0)) + 5 * zi)).s, (otA ws ((5 * (0 + 0)) + 5 * zi)).ch⟩] : List Ot) ([])) :: (ky0, sob EOt 41 (rowsOf (otA ws) (5 * (0 + 0)) zi) zz0) :: (ky1, sob EOt 41 (rowsOf (otB ws) (5 * (0 + 0)) zi) zz1) :: (some b92, .cells #[u64 ((otA ws ((5 * (0 + 0)) + 5 * zi)).p), u64 ((otA ws ((5 * (0 + 0)) + 5 * zi)).q), u64 ((otA ws ((5 * (0 + 0)) + 5 * zi)).r), u64 ((otA ws ((5 * (0 + 0)) + 5 * zi)).s), .bool ((otA ws ((5 * (0 + 0)) + 5 * zi)).ch)] 41 (0, 0)) :: (some b112, .cells #[u64 ((otB ws ((5 * (0 + 0)) + 5 * zi)).p), u64 ((otB ws ((5 * (0 + 0)) + 5 * zi)).q), u64 ((otB ws ((5 * (0 + 0)) + 5 * zi)).r), u64 ((otB ws ((5 * (0 + 0)) + 5 * zi)).s), .bool ((otB ws ((5 * (0 + 0)) + 5 * zi)).ch)] 41 (0, 0)) :: RR) from ⟨b174, rfl, hS175, (((((H177.pull (k := 4) rfl).pull (k := 4) rfl).pull (k := 4) rfl).pull (k := 4) rfl).pull (k := 4) rfl)⟩)
  refine WalkP.eff 1 rfl (fun L r uw hLn hAn hDn hF => ?_) ?_
  ·skip
   have b2 := hAn 2 (by decide) rfl
   have b3 : L 3 = false := hLn
   have b7 := hDn 7 (by decide) rfl
   rcases bTF (L 6) with b6 | b6
   ·skip
    have hb := mp4 b2 b3 b6 b7
    rw [hb] at hF ⊢
    obtain ⟨b122, b145, e2, e6, hS146, hS123, H179⟩ := hF
    dsimp only
    rw [e2]
    refine Gives.ofW (d := 58) rfl rfl (fun Q' hK => ?_)
    refine q_append (E := EOt) (k := 2) (l := rowsOf (otA ws) (5 * (0 + 0)) zi) (l2 := ([⟨(otA ws ((5 * (0 + 0)) + 5 * zi)).p, (otA ws ((5 * (0 + 0)) + 5 * zi)).q, (otA ws ((5 * (0 + 0)) + 5 * zi)).r, (otA ws ((5 * (0 + 0)) + 5 * zi)).s, (otA ws ((5 * (0 + 0)) + 5 * zi)).ch⟩] : List Ot)) H179 rfl hs0 sli50 zer41 rfl byt41 (H179.rd (k := 1) rfl hS123) rfl (by rw [rowsOf_len]) rfl (by rfl) (by omega) ?_
    intro key180 c181 sp182 w184 hS183 hne186 H185
    have H185' := H185.as (L' := (((some b145), sob EOt 41 ([⟨(otB ws ((5 * (0 + 0)) + 5 * zi)).p, (otB ws ((5 * (0 + 0)) + 5 * zi)).q, (otB ws ((5 * (0 + 0)) + 5 * zi)).r, (otB ws ((5 * (0 + 0)) + 5 * zi)).s, (otB ws ((5 * (0 + 0)) + 5 * zi)).ch⟩] : List Ot) ([])) :: ((some b122), sob EOt 41 ([⟨(otA ws ((5 * (0 + 0)) + 5 * zi)).p, (otA ws ((5 * (0 + 0)) + 5 * zi)).q, (otA ws ((5 * (0 + 0)) + 5 * zi)).r, (otA ws ((5 * (0 + 0)) + 5 * zi)).s, (otA ws ((5 * (0 + 0)) + 5 * zi)).ch⟩] : List Ot) ([])) :: (key180, sob EOt 41 ((rowsOf (otA ws) (5 * (0 + 0)) zi) ++ ([⟨(otA ws ((5 * (0 + 0)) + 5 * zi)).p, (otA ws ((5 * (0 + 0)) + 5 * zi)).q, (otA ws ((5 * (0 + 0)) + 5 * zi)).r, (otA ws ((5 * (0 + 0)) + 5 * zi)).s, (otA ws ((5 * (0 + 0)) + 5 * zi)).ch⟩] : List Ot)) sp182) :: (ky1, sob EOt 41 (rowsOf (otB ws) (5 * (0 + 0)) zi) zz1) :: (some b92, .cells #[u64 ((otA ws ((5 * (0 + 0)) + 5 * zi)).p), u64 ((otA ws ((5 * (0 + 0)) + 5 * zi)).q), u64 ((otA ws ((5 * (0 + 0)) + 5 * zi)).r), u64 ((otA ws ((5 * (0 + 0)) + 5 * zi)).s), .bool ((otA ws ((5 * (0 + 0)) + 5 * zi)).ch)] 41 (0, 0)) :: (some b112, .cells #[u64 ((otB ws ((5 * (0 + 0)) + 5 * zi)).p), u64 ((otB ws ((5 * (0 + 0)) + 5 * zi)).q), u64 ((otB ws ((5 * (0 + 0)) + 5 * zi)).r), u64 ((otB ws ((5 * (0 + 0)) + 5 * zi)).s), .bool ((otB ws ((5 * (0 + 0)) + 5 * zi)).ch)] 41 (0, 0)) :: RR)) rfl
    clear H185
    have e187 : (rowsOf (otA ws) (5 * (0 + 0)) zi) ++ ([⟨(otA ws ((5 * (0 + 0)) + 5 * zi)).p, (otA ws ((5 * (0 + 0)) + 5 * zi)).q, (otA ws ((5 * (0 + 0)) + 5 * zi)).r, (otA ws ((5 * (0 + 0)) + 5 * zi)).s, (otA ws ((5 * (0 + 0)) + 5 * zi)).ch⟩] : List Ot) = rowsOf (otA ws) (5 * (0 + 0)) (zi + 1) := by exact rowsOf_succ.symm
    have hS188 := hS183
    rw [e187] at hS188
    have H189 := H185'.as (L' := (((some b145), sob EOt 41 ([⟨(otB ws ((5 * (0 + 0)) + 5 * zi)).p, (otB ws ((5 * (0 + 0)) + 5 * zi)).q, (otB ws ((5 * (0 + 0)) + 5 * zi)).r, (otB ws ((5 * (0 + 0)) + 5 * zi)).s, (otB ws ((5 * (0 + 0)) + 5 * zi)).ch⟩] : List Ot) ([])) :: ((some b122), sob EOt 41 ([⟨(otA ws ((5 * (0 + 0)) + 5 * zi)).p, (otA ws ((5 * (0 + 0)) + 5 * zi)).q, (otA ws ((5 * (0 + 0)) + 5 * zi)).r, (otA ws ((5 * (0 + 0)) + 5 * zi)).s, (otA ws ((5 * (0 + 0)) + 5 * zi)).ch⟩] : List Ot) ([])) :: (key180, sob EOt 41 (rowsOf (otA ws) (5 * (0 + 0)) (zi + 1)) sp182) :: (ky1, sob EOt 41 (rowsOf (otB ws) (5 * (0 + 0)) zi) zz1) :: (some b92, .cells #[u64 ((otA ws ((5 * (0 + 0)) + 5 * zi)).p), u64 ((otA ws ((5 * (0 + 0)) + 5 * zi)).q), u64 ((otA ws ((5 * (0 + 0)) + 5 * zi)).r), u64 ((otA ws ((5 * (0 + 0)) + 5 * zi)).s), .bool ((otA ws ((5 * (0 + 0)) + 5 * zi)).ch)] 41 (0, 0)) :: (some b112, .cells #[u64 ((otB ws ((5 * (0 + 0)) + 5 * zi)).p), u64 ((otB ws ((5 * (0 + 0)) + 5 * zi)).q), u64 ((otB ws ((5 * (0 + 0)) + 5 * zi)).r), u64 ((otB ws ((5 * (0 + 0)) + 5 * zi)).s), .bool ((otB ws ((5 * (0 + 0)) + 5 * zi)).ch)] 41 (0, 0)) :: RR)) (by rw [e187])
    exact hK _ _ (show ∃ (b122 : Nat) (key128 : Option Nat) (c129 : Nat) (sp130 : List Value) (b151 : Nat), r 2 = .slice (ownA (some b122)) 1 1 ∧ (_ : Value) = .slice (ownA key128) (zi + 1) c129 ∧ r 6 = .slice (ownA (some b151)) 1 1 ∧ Sl EOt (some b151) ([⟨(otB ws ((5 * (0 + 0)) + 5 * zi)).p, (otB ws ((5 * (0 + 0)) + 5 * zi)).q, (otB ws ((5 * (0 + 0)) + 5 * zi)).r, (otB ws ((5 * (0 + 0)) + 5 * zi)).s, (otB ws ((5 * (0 + 0)) + 5 * zi)).ch⟩] : List Ot) 1 ([]) ∧ Sl EOt (some b122) ([⟨(otA ws ((5 * (0 + 0)) + 5 * zi)).p, (otA ws ((5 * (0 + 0)) + 5 * zi)).q, (otA ws ((5 * (0 + 0)) + 5 * zi)).r, (otA ws ((5 * (0 + 0)) + 5 * zi)).s, (otA ws ((5 * (0 + 0)) + 5 * zi)).ch⟩] : List Ot) 1 ([]) ∧ Sl EOt key128 (rowsOf (otA ws) (5 * (0 + 0)) (zi + 1)) c129 sp130 ∧ Hp No w₀ w184 (((some b151), sob EOt 41 ([⟨(otB ws ((5 * (0 + 0)) + 5 * zi)).p, (otB ws ((5 * (0 + 0)) + 5 * zi)).q, (otB ws ((5 * (0 + 0)) + 5 * zi)).r, (otB ws ((5 * (0 + 0)) + 5 * zi)).s, (otB ws ((5 * (0 + 0)) + 5 * zi)).ch⟩] : List Ot) ([])) :: ((some b122), sob EOt 41 ([⟨(otA ws ((5 * (0 + 0)) + 5 * zi)).p, (otA ws ((5 * (0 + 0)) + 5 * zi)).q, (otA ws ((5 * (0 + 0)) + 5 * zi)).r, (otA ws ((5 * (0 + 0)) + 5 * zi)).s, (otA ws ((5 * (0 + 0)) + 5 * zi)).ch⟩] : List Ot) ([])) :: (key128, sob EOt 41 (rowsOf (otA ws) (5 * (0 + 0)) (zi + 1)) sp130) :: (ky1, sob EOt 41 (rowsOf (otB ws) (5 * (0 + 0)) zi) zz1) :: (some b92, .cells #[u64 ((otA ws ((5 * (0 + 0)) + 5 * zi)).p), u64 ((otA ws ((5 * (0 + 0)) + 5 * zi)).q), u64 ((otA ws ((5 * (0 + 0)) + 5 * zi)).r), u64 ((otA ws ((5 * (0 + 0)) + 5 * zi)).s), .bool ((otA ws ((5 * (0 + 0)) + 5 * zi)).ch)] 41 (0, 0)) :: (some b112, .cells #[u64 ((otB ws ((5 * (0 + 0)) + 5 * zi)).p), u64 ((otB ws ((5 * (0 + 0)) + 5 * zi)).q), u64 ((otB ws ((5 * (0 + 0)) + 5 * zi)).r), u64 ((otB ws ((5 * (0 + 0)) + 5 * zi)).s), .bool ((otB ws ((5 * (0 + 0)) + 5 * zi)).ch)] 41 (0, 0)) :: RR) from ⟨b122, key180, c181, sp182, b145, e2, rfl, e6, hS146, hS123, hS188, ((((((H189.pull (k := 5) rfl).pull (k := 5) rfl).pull (k := 5) rfl).pull (k := 5) rfl).pull (k := 5) rfl).pull (k := 5) rfl)⟩)
   ·skip
    have hb := mp4 b2 b3 b6 b7
    rw [hb] at hF ⊢
    obtain ⟨b122, e2, hS123, H190⟩ := hF
    dsimp only
    rw [e2]
    refine Gives.ofW (d := 58) rfl rfl (fun Q' hK => ?_)
    refine q_append (E := EOt) (k := 1) (l := rowsOf (otA ws) (5 * (0 + 0)) zi) (l2 := ([⟨(otA ws ((5 * (0 + 0)) + 5 * zi)).p, (otA ws ((5 * (0 + 0)) + 5 * zi)).q, (otA ws ((5 * (0 + 0)) + 5 * zi)).r, (otA ws ((5 * (0 + 0)) + 5 * zi)).s, (otA ws ((5 * (0 + 0)) + 5 * zi)).ch⟩] : List Ot)) H190 rfl hs0 sli50 zer41 rfl byt41 (H190.rd (k := 0) rfl hS123) rfl (by rw [rowsOf_len]) rfl (by rfl) (by omega) ?_
    intro key191 c192 sp193 w195 hS194 hne197 H196
    have H196' := H196.as (L' := (((some b122), sob EOt 41 ([⟨(otA ws ((5 * (0 + 0)) + 5 * zi)).p, (otA ws ((5 * (0 + 0)) + 5 * zi)).q, (otA ws ((5 * (0 + 0)) + 5 * zi)).r, (otA ws ((5 * (0 + 0)) + 5 * zi)).s, (otA ws ((5 * (0 + 0)) + 5 * zi)).ch⟩] : List Ot) ([])) :: (key191, sob EOt 41 ((rowsOf (otA ws) (5 * (0 + 0)) zi) ++ ([⟨(otA ws ((5 * (0 + 0)) + 5 * zi)).p, (otA ws ((5 * (0 + 0)) + 5 * zi)).q, (otA ws ((5 * (0 + 0)) + 5 * zi)).r, (otA ws ((5 * (0 + 0)) + 5 * zi)).s, (otA ws ((5 * (0 + 0)) + 5 * zi)).ch⟩] : List Ot)) sp193) :: (ky1, sob EOt 41 (rowsOf (otB ws) (5 * (0 + 0)) zi) zz1) :: (some b92, .cells #[u64 ((otA ws ((5 * (0 + 0)) + 5 * zi)).p), u64 ((otA ws ((5 * (0 + 0)) + 5 * zi)).q), u64 ((otA ws ((5 * (0 + 0)) + 5 * zi)).r), u64 ((otA ws ((5 * (0 + 0)) + 5 * zi)).s), .bool ((otA ws ((5 * (0 + 0)) + 5 * zi)).ch)] 41 (0, 0)) :: (some b112, .cells #[u64 ((otB ws ((5 * (0 + 0)) + 5 * zi)).p), u64 ((otB ws ((5 * (0 + 0)) + 5 * zi)).q), u64 ((otB ws ((5 * (0 + 0)) + 5 * zi)).r), u64 ((otB ws ((5 * (0 + 0)) + 5 * zi)).s), .bool ((otB ws ((5 * (0 + 0)) + 5 * zi)).ch)] 41 (0, 0)) :: RR)) rfl
    clear H196
    have e198 : (rowsOf (otA ws) (5 * (0 + 0)) zi) ++ ([⟨(otA ws ((5 * (0 + 0)) + 5 * zi)).p, (otA ws ((5 * (0 + 0)) + 5 * zi)).q, (otA ws ((5 * (0 + 0)) + 5 * zi)).r, (otA ws ((5 * (0 + 0)) + 5 * zi)).s, (otA ws ((5 * (0 + 0)) + 5 * zi)).ch⟩] : List Ot) = rowsOf (otA ws) (5 * (0 + 0)) (zi + 1) := by exact rowsOf_succ.symm
    have hS199 := hS194
    rw [e198] at hS199
    have H200 := H196'.as (L' := (((some b122), sob EOt 41 ([⟨(otA ws ((5 * (0 + 0)) + 5 * zi)).p, (otA ws ((5 * (0 + 0)) + 5 * zi)).q, (otA ws ((5 * (0 + 0)) + 5 * zi)).r, (otA ws ((5 * (0 + 0)) + 5 * zi)).s, (otA ws ((5 * (0 + 0)) + 5 * zi)).ch⟩] : List Ot) ([])) :: (key191, sob EOt 41 (rowsOf (otA ws) (5 * (0 + 0)) (zi + 1)) sp193) :: (ky1, sob EOt 41 (rowsOf (otB ws) (5 * (0 + 0)) zi) zz1) :: (some b92, .cells #[u64 ((otA ws ((5 * (0 + 0)) + 5 * zi)).p), u64 ((otA ws ((5 * (0 + 0)) + 5 * zi)).q), u64 ((otA ws ((5 * (0 + 0)) + 5 * zi)).r), u64 ((otA ws ((5 * (0 + 0)) + 5 * zi)).s), .bool ((otA ws ((5 * (0 + 0)) + 5 * zi)).ch)] 41 (0, 0)) :: (some b112, .cells #[u64 ((otB ws ((5 * (0 + 0)) + 5 * zi)).p), u64 ((otB ws ((5 * (0 + 0)) + 5 * zi)).q), u64 ((otB ws ((5 * (0 + 0)) + 5 * zi)).r), u64 ((otB ws ((5 * (0 + 0)) + 5 * zi)).s), .bool ((otB ws ((5 * (0 + 0)) + 5 * zi)).ch)] 41 (0, 0)) :: RR)) (by rw [e198])
    exact hK _ _ (show ∃ (b122 : Nat) (key128 : Option Nat) (c129 : Nat) (sp130 : List Value), r 2 = .slice (ownA (some b122)) 1 1 ∧ (_ : Value) = .slice (ownA key128) (zi + 1) c129 ∧ Sl EOt (some b122) ([⟨(otA ws ((5 * (0 + 0)) + 5 * zi)).p, (otA ws ((5 * (0 + 0)) + 5 * zi)).q, (otA ws ((5 * (0 + 0)) + 5 * zi)).r, (otA ws ((5 * (0 + 0)) + 5 * zi)).s, (otA ws ((5 * (0 + 0)) + 5 * zi)).ch⟩] : List Ot) 1 ([]) ∧ Sl EOt key128 (rowsOf (otA ws) (5 * (0 + 0)) (zi + 1)) c129 sp130 ∧ Hp No w₀ w195 (((some b122), sob EOt 41 ([⟨(otA ws ((5 * (0 + 0)) + 5 * zi)).p, (otA ws ((5 * (0 + 0)) + 5 * zi)).q, (otA ws ((5 * (0 + 0)) + 5 * zi)).r, (otA ws ((5 * (0 + 0)) + 5 * zi)).s, (otA ws ((5 * (0 + 0)) + 5 * zi)).ch⟩] : List Ot) ([])) :: (key128, sob EOt 41 (rowsOf (otA ws) (5 * (0 + 0)) (zi + 1)) sp130) :: (ky1, sob EOt 41 (rowsOf (otB ws) (5 * (0 + 0)) zi) zz1) :: (some b92, .cells #[u64 ((otA ws ((5 * (0 + 0)) + 5 * zi)).p), u64 ((otA ws ((5 * (0 + 0)) + 5 * zi)).q), u64 ((otA ws ((5 * (0 + 0)) + 5 * zi)).r), u64 ((otA ws ((5 * (0 + 0)) + 5 * zi)).s), .bool ((otA ws ((5 * (0 + 0)) + 5 * zi)).ch)] 41 (0, 0)) :: (some b112, .cells #[u64 ((otB ws ((5 * (0 + 0)) + 5 * zi)).p), u64 ((otB ws ((5 * (0 + 0)) + 5 * zi)).q), u64 ((otB ws ((5 * (0 + 0)) + 5 * zi)).r), u64 ((otB ws ((5 * (0 + 0)) + 5 * zi)).s), .bool ((otB ws ((5 * (0 + 0)) + 5 * zi)).ch)] 41 (0, 0)) :: RR) from ⟨b122, key191, c192, sp193, e2, rfl, hS123, hS199, (((((H200.pull (k := 4) rfl).pull (k := 4) rfl).pull (k := 4) rfl).pull (k := 4) rfl).pull (k := 4) rfl)⟩)
  refine WalkP.look rfl (fun _ => .slice (ownA ky1) zi cc1) (fun _ _ _ => rfl) (fun L r uw _ _ _ => Gives.run rfl (r_move (v := .slice (ownA ky1) zi cc1) rfl) ⟨rfl, rfl⟩) ?_
  refine WalkP.look rfl (fun _ => .agg #[u64 ((otB ws ((5 * (0 + 0)) + 5 * zi)).p), u64 ((otB ws ((5 * (0 + 0)) + 5 * zi)).q), u64 ((otB ws ((5 * (0 + 0)) + 5 * zi)).r), u64 ((otB ws ((5 * (0 + 0)) + 5 * zi)).s), .bool ((otB ws ((5 * (0 + 0)) + 5 * zi)).ch)]) (fun _ _ _ => rfl) (fun L r uw hAn hDn hF => ?_) ?_
  ·skip
   have b6 := hDn 6 (by decide) rfl
   have b7 := hDn 7 (by decide) rfl
   rcases bTF (L 2) with b2 | b2
   ·skip
    rcases bTF (L 3) with b3 | b3
    ·skip
     have hb := mp4 b2 b3 b6 b7
     rw [hb] at hF
     obtain ⟨b122, key128, c129, sp130, e2, e3, hS123, hS136, HH⟩ := hF
     exact Gives.run rfl (r_loadA (cs' := #[u64 ((otB ws ((5 * (0 + 0)) + 5 * zi)).p), u64 ((otB ws ((5 * (0 + 0)) + 5 * zi)).q), u64 ((otB ws ((5 * (0 + 0)) + 5 * zi)).r), u64 ((otB ws ((5 * (0 + 0)) + 5 * zi)).s), .bool ((otB ws ((5 * (0 + 0)) + 5 * zi)).ch)]) agg41 siz41 (HH.get (k := 4) rfl) (off := 0) rfl (by exact bLe rfl) (by rfl)) ⟨rfl, rfl⟩
    ·skip
     have hb := mp4 b2 b3 b6 b7
     rw [hb] at hF
     obtain ⟨b122, e2, hS123, HH⟩ := hF
     exact Gives.run rfl (r_loadA (cs' := #[u64 ((otB ws ((5 * (0 + 0)) + 5 * zi)).p), u64 ((otB ws ((5 * (0 + 0)) + 5 * zi)).q), u64 ((otB ws ((5 * (0 + 0)) + 5 * zi)).r), u64 ((otB ws ((5 * (0 + 0)) + 5 * zi)).s), .bool ((otB ws ((5 * (0 + 0)) + 5 * zi)).ch)]) agg41 siz41 (HH.get (k := 4) rfl) (off := 0) rfl (by exact bLe rfl) (by rfl)) ⟨rfl, rfl⟩
   ·skip
    rcases bTF (L 3) with b3 | b3
    ·skip
     have hb := mp4 b2 b3 b6 b7
     rw [hb] at hF
     exact False.elim hF
    ·skip
     have hb := mp4 b2 b3 b6 b7
     rw [hb] at hF
     have HH := hF
     exact Gives.run rfl (r_loadA (cs' := #[u64 ((otB ws ((5 * (0 + 0)) + 5 * zi)).p), u64 ((otB ws ((5 * (0 + 0)) + 5 * zi)).q), u64 ((otB ws ((5 * (0 + 0)) + 5 * zi)).r), u64 ((otB ws ((5 * (0 + 0)) + 5 * zi)).s), .bool ((otB ws ((5 * (0 + 0)) + 5 * zi)).ch)]) agg41 siz41 (HH.get (k := 3) rfl) (off := 0) rfl (by exact bLe rfl) (by rfl)) ⟨rfl, rfl⟩
  refine WalkP.eff 2 rfl (fun L r uw hLn hAn hDn hF => ?_) ?_
  ·skip
   have b6 : L 6 = false := hLn
   have b7 := hDn 7 (by decide) rfl
   rcases bTF (L 2) with b2 | b2
   ·skip
    rcases bTF (L 3) with b3 | b3
    ·skip
     have hb := mp4 b2 b3 b6 b7
     rw [hb] at hF ⊢
     obtain ⟨b122, key128, c129, sp130, e2, e3, hS123, hS136, H201⟩ := hF
     dsimp only
     rw [e2, e3]
     refine Gives.ofW (d := 61) rfl rfl (fun Q' hK => ?_)
     refine q_buildSlice (E := EOt) (l := ([⟨(otB ws ((5 * (0 + 0)) + 5 * zi)).p, (otB ws ((5 * (0 + 0)) + 5 * zi)).q, (otB ws ((5 * (0 + 0)) + 5 * zi)).r, (otB ws ((5 * (0 + 0)) + 5 * zi)).s, (otB ws ((5 * (0 + 0)) + 5 * zi)).ch⟩] : List Ot)) H201 sli50 zer41 (bLe rfl) (ps := [(0, .agg #[u64 ((otB ws ((5 * (0 + 0)) + 5 * zi)).p), u64 ((otB ws ((5 * (0 + 0)) + 5 * zi)).q), u64 ((otB ws ((5 * (0 + 0)) + 5 * zi)).r), u64 ((otB ws ((5 * (0 + 0)) + 5 * zi)).s), .bool ((otB ws ((5 * (0 + 0)) + 5 * zi)).ch)])]) rfl (by exact fillAll rfl rfl) rfl ?_
     intro b202 w204 hS203 H205 hE206
     exact hK _ _ (show ∃ (b122 : Nat) (key128 : Option Nat) (c129 : Nat) (sp130 : List Value) (b151 : Nat), r 2 = .slice (ownA (some b122)) 1 1 ∧ r 3 = .slice (ownA key128) (zi + 1) c129 ∧ (_ : Value) = .slice (ownA (some b151)) 1 1 ∧ Sl EOt (some b151) ([⟨(otB ws ((5 * (0 + 0)) + 5 * zi)).p, (otB ws ((5 * (0 + 0)) + 5 * zi)).q, (otB ws ((5 * (0 + 0)) + 5 * zi)).r, (otB ws ((5 * (0 + 0)) + 5 * zi)).s, (otB ws ((5 * (0 + 0)) + 5 * zi)).ch⟩] : List Ot) 1 ([]) ∧ Sl EOt (some b122) ([⟨(otA ws ((5 * (0 + 0)) + 5 * zi)).p, (otA ws ((5 * (0 + 0)) + 5 * zi)).q, (otA ws ((5 * (0 + 0)) + 5 * zi)).r, (otA ws ((5 * (0 + 0)) + 5 * zi)).s, (otA ws ((5 * (0 + 0)) + 5 * zi)).ch⟩] : List Ot) 1 ([]) ∧ Sl EOt key128 (rowsOf (otA ws) (5 * (0 + 0)) (zi + 1)) c129 sp130 ∧ Hp No w₀ w204 (((some b151), sob EOt 41 ([⟨(otB ws ((5 * (0 + 0)) + 5 * zi)).p, (otB ws ((5 * (0 + 0)) + 5 * zi)).q, (otB ws ((5 * (0 + 0)) + 5 * zi)).r, (otB ws ((5 * (0 + 0)) + 5 * zi)).s, (otB ws ((5 * (0 + 0)) + 5 * zi)).ch⟩] : List Ot) ([])) :: ((some b122), sob EOt 41 ([⟨(otA ws ((5 * (0 + 0)) + 5 * zi)).p, (otA ws ((5 * (0 + 0)) + 5 * zi)).q, (otA ws ((5 * (0 + 0)) + 5 * zi)).r, (otA ws ((5 * (0 + 0)) + 5 * zi)).s, (otA ws ((5 * (0 + 0)) + 5 * zi)).ch⟩] : List Ot) ([])) :: (key128, sob EOt 41 (rowsOf (otA ws) (5 * (0 + 0)) (zi + 1)) sp130) :: (ky1, sob EOt 41 (rowsOf (otB ws) (5 * (0 + 0)) zi) zz1) :: (some b92, .cells #[u64 ((otA ws ((5 * (0 + 0)) + 5 * zi)).p), u64 ((otA ws ((5 * (0 + 0)) + 5 * zi)).q), u64 ((otA ws ((5 * (0 + 0)) + 5 * zi)).r), u64 ((otA ws ((5 * (0 + 0)) + 5 * zi)).s), .bool ((otA ws ((5 * (0 + 0)) + 5 * zi)).ch)] 41 (0, 0)) :: (some b112, .cells #[u64 ((otB ws ((5 * (0 + 0)) + 5 * zi)).p), u64 ((otB ws ((5 * (0 + 0)) + 5 * zi)).q), u64 ((otB ws ((5 * (0 + 0)) + 5 * zi)).r), u64 ((otB ws ((5 * (0 + 0)) + 5 * zi)).s), .bool ((otB ws ((5 * (0 + 0)) + 5 * zi)).ch)] 41 (0, 0)) :: RR) from ⟨b122, key128, c129, sp130, b202, e2, e3, rfl, hS203, hS123, hS136, ((((((H205.pull (k := 5) rfl).pull (k := 5) rfl).pull (k := 5) rfl).pull (k := 5) rfl).pull (k := 5) rfl).pull (k := 5) rfl)⟩)
    ·skip
     have hb := mp4 b2 b3 b6 b7
     rw [hb] at hF ⊢
     obtain ⟨b122, e2, hS123, H207⟩ := hF
     dsimp only
     rw [e2]
     refine Gives.ofW (d := 61) rfl rfl (fun Q' hK => ?_)
     refine q_buildSlice (E := EOt) (l := ([⟨(otB ws ((5 * (0 + 0)) + 5 * zi)).p, (otB ws ((5 * (0 + 0)) + 5 * zi)).q, (otB ws ((5 * (0 + 0)) + 5 * zi)).r, (otB ws ((5 * (0 + 0)) + 5 * zi)).s, (otB ws ((5 * (0 + 0)) + 5 * zi)).ch⟩] : List Ot)) H207 sli50 zer41 (bLe rfl) (ps := [(0, .agg #[u64 ((otB ws ((5 * (0 + 0)) + 5 * zi)).p), u64 ((otB ws ((5 * (0 + 0)) + 5 * zi)).q), u64 ((otB ws ((5 * (0 + 0)) + 5 * zi)).r), u64 ((otB ws ((5 * (0 + 0)) + 5 * zi)).s), .bool ((otB ws ((5 * (0 + 0)) + 5 * zi)).ch)])]) rfl (by exact fillAll rfl rfl) rfl ?_
     intro b208 w210 hS209 H211 hE212
     exact hK _ _ (show ∃ (b122 : Nat) (b145 : Nat), r 2 = .slice (ownA (some b122)) 1 1 ∧ (_ : Value) = .slice (ownA (some b145)) 1 1 ∧ Sl EOt (some b145) ([⟨(otB ws ((5 * (0 + 0)) + 5 * zi)).p, (otB ws ((5 * (0 + 0)) + 5 * zi)).q, (otB ws ((5 * (0 + 0)) + 5 * zi)).r, (otB ws ((5 * (0 + 0)) + 5 * zi)).s, (otB ws ((5 * (0 + 0)) + 5 * zi)).ch⟩] : List Ot) 1 ([]) ∧ Sl EOt (some b122) ([⟨(otA ws ((5 * (0 + 0)) + 5 * zi)).p, (otA ws ((5 * (0 + 0)) + 5 * zi)).q, (otA ws ((5 * (0 + 0)) + 5 * zi)).r, (otA ws ((5 * (0 + 0)) + 5 * zi)).s, (otA ws ((5 * (0 + 0)) + 5 * zi)).ch⟩] : List Ot) 1 ([]) ∧ Hp No w₀ w210 (((some b145), sob EOt 41 ([⟨(otB ws ((5 * (0 + 0)) + 5 * zi)).p, (otB ws ((5 * (0 + 0)) + 5 * zi)).q, (otB ws ((5 * (0 + 0)) + 5 * zi)).r, (otB ws ((5 * (0 + 0)) + 5 * zi)).s, (otB ws ((5 * (0 + 0)) + 5 * zi)).ch⟩] : List Ot) ([])) :: ((some b122), sob EOt 41 ([⟨(otA ws ((5 * (0 + 0)) + 5 * zi)).p, (otA ws ((5 * (0 + 0)) + 5 * zi)).q, (otA ws ((5 * (0 + 0)) + 5 * zi)).r, (otA ws ((5 * (0 + 0)) + 5 * zi)).s, (otA ws ((5 * (0 + 0)) + 5 * zi)).ch⟩] : List Ot) ([])) :: (ky0, sob EOt 41 (rowsOf (otA ws) (5 * (0 + 0)) zi) zz0) :: (ky1, sob EOt 41 (rowsOf (otB ws) (5 * (0 + 0)) zi) zz1) :: (some b92, .cells #[u64 ((otA ws ((5 * (0 + 0)) + 5 * zi)).p), u64 ((otA ws ((5 * (0 + 0)) + 5 * zi)).q), u64 ((otA ws ((5 * (0 + 0)) + 5 * zi)).r), u64 ((otA ws ((5 * (0 + 0)) + 5 * zi)).s), .bool ((otA ws ((5 * (0 + 0)) + 5 * zi)).ch)] 41 (0, 0)) :: (some b112, .cells #[u64 ((otB ws ((5 * (0 + 0)) + 5 * zi)).p), u64 ((otB ws ((5 * (0 + 0)) + 5 * zi)).q), u64 ((otB ws ((5 * (0 + 0)) + 5 * zi)).r), u64 ((otB ws ((5 * (0 + 0)) + 5 * zi)).s), .bool ((otB ws ((5 * (0 + 0)) + 5 * zi)).ch)] 41 (0, 0)) :: RR) from ⟨b122, b208, e2, rfl, hS209, hS123, ((((((H211.pull (k := 5) rfl).pull (k := 5) rfl).pull (k := 5) rfl).pull (k := 5) rfl).pull (k := 5) rfl).pull (k := 5) rfl)⟩)
   ·skip
    rcases bTF (L 3) with b3 | b3
    ·skip
     have hb := mp4 b2 b3 b6 b7
     rw [hb] at hF
     exact False.elim hF
    ·skip
     have hb := mp4 b2 b3 b6 b7
     rw [hb] at hF ⊢
     have H213 := hF
     dsimp only
     refine Gives.ofW (d := 61) rfl rfl (fun Q' hK => ?_)
     refine q_buildSlice (E := EOt) (l := ([⟨(otB ws ((5 * (0 + 0)) + 5 * zi)).p, (otB ws ((5 * (0 + 0)) + 5 * zi)).q, (otB ws ((5 * (0 + 0)) + 5 * zi)).r, (otB ws ((5 * (0 + 0)) + 5 * zi)).s, (otB ws ((5 * (0 + 0)) + 5 * zi)).ch⟩] : List Ot)) H213 sli50 zer41 (bLe rfl) (ps := [(0, .agg #[u64 ((otB ws ((5 * (0 + 0)) + 5 * zi)).p), u64 ((otB ws ((5 * (0 + 0)) + 5 * zi)).q), u64 ((otB ws ((5 * (0 + 0)) + 5 * zi)).r), u64 ((otB ws ((5 * (0 + 0)) + 5 * zi)).s), .bool ((otB ws ((5 * (0 + 0)) + 5 * zi)).ch)])]) rfl (by exact fillAll rfl rfl) rfl ?_
     intro b214 w216 hS215 H217 hE218
     exact hK _ _ (show ∃ (b139 : Nat), (_ : Value) = .slice (ownA (some b139)) 1 1 ∧ Sl EOt (some b139) ([⟨(otB ws ((5 * (0 + 0)) + 5 * zi)).p, (otB ws ((5 * (0 + 0)) + 5 * zi)).q, (otB ws ((5 * (0 + 0)) + 5 * zi)).r, (otB ws ((5 * (0 + 0)) + 5 * zi)).s, (otB ws ((5 * (0 + 0)) + 5 * zi)).ch⟩] : List Ot) 1 ([]) ∧ Hp No w₀ w216 (((some b139), sob EOt 41 ([⟨(otB ws ((5 * (0 + 0)) + 5 * zi)).p, (otB ws ((5 * (0 + 0)) + 5 * zi)).q, (otB ws ((5 * (0 + 0)) + 5 * zi)).r, (otB ws ((5 * (0 + 0)) + 5 * zi)).s, (otB ws ((5 * (0 + 0)) + 5 * zi)).ch⟩] : List Ot) ([])) :: (ky0, sob EOt 41 (rowsOf (otA ws) (5 * (0 + 0)) zi) zz0) :: (ky1, sob EOt 41 (rowsOf (otB ws) (5 * (0 + 0)) zi) zz1) :: (some b92, .cells #[u64 ((otA ws ((5 * (0 + 0)) + 5 * zi)).p), u64 ((otA ws ((5 * (0 + 0)) + 5 * zi)).q), u64 ((otA ws ((5 * (0 + 0)) + 5 * zi)).r), u64 ((otA ws ((5 * (0 + 0)) + 5 * zi)).s), .bool ((otA ws ((5 * (0 + 0)) + 5 * zi)).ch)] 41 (0, 0)) :: (some b112, .cells #[u64 ((otB ws ((5 * (0 + 0)) + 5 * zi)).p), u64 ((otB ws ((5 * (0 + 0)) + 5 * zi)).q), u64 ((otB ws ((5 * (0 + 0)) + 5 * zi)).r), u64 ((otB ws ((5 * (0 + 0)) + 5 * zi)).s), .bool ((otB ws ((5 * (0 + 0)) + 5 * zi)).ch)] 41 (0, 0)) :: RR) from ⟨b214, rfl, hS215, (((((H217.pull (k := 4) rfl).pull (k := 4) rfl).pull (k := 4) rfl).pull (k := 4) rfl).pull (k := 4) rfl)⟩)
  refine WalkP.eff 3 rfl (fun L r uw hLn hAn hDn hF => ?_) ?_
  ·skip
   have b2 := hAn 2 (by decide) rfl
   have b3 := hAn 3 (by decide) rfl
   have b6 := hAn 6 (by decide) rfl
   have b7 : L 7 = false := hLn
   have hb := mp4 b2 b3 b6 b7
   rw [hb] at hF ⊢
   obtain ⟨b122, key128, c129, sp130, b151, e2, e3, e6, hS152, hS123, hS136, H219⟩ := hF
   dsimp only
   rw [e2, e3, e6]
   refine Gives.ofW (d := 62) rfl rfl (fun Q' hK => ?_)
   refine q_append (E := EOt) (k := 3) (l := rowsOf (otB ws) (5 * (0 + 0)) zi) (l2 := ([⟨(otB ws ((5 * (0 + 0)) + 5 * zi)).p, (otB ws ((5 * (0 + 0)) + 5 * zi)).q, (otB ws ((5 * (0 + 0)) + 5 * zi)).r, (otB ws ((5 * (0 + 0)) + 5 * zi)).s, (otB ws ((5 * (0 + 0)) + 5 * zi)).ch⟩] : List Ot)) H219 rfl hs1 sli50 zer41 rfl byt41 (H219.rd (k := 0) rfl hS152) rfl (by rw [rowsOf_len]) rfl (by rfl) (by omega) ?_
   intro key220 c221 sp222 w224 hS223 hne226 H225
   have H225' := H225.as (L' := (((some b151), sob EOt 41 ([⟨(otB ws ((5 * (0 + 0)) + 5 * zi)).p, (otB ws ((5 * (0 + 0)) + 5 * zi)).q, (otB ws ((5 * (0 + 0)) + 5 * zi)).r, (otB ws ((5 * (0 + 0)) + 5 * zi)).s, (otB ws ((5 * (0 + 0)) + 5 * zi)).ch⟩] : List Ot) ([])) :: ((some b122), sob EOt 41 ([⟨(otA ws ((5 * (0 + 0)) + 5 * zi)).p, (otA ws ((5 * (0 + 0)) + 5 * zi)).q, (otA ws ((5 * (0 + 0)) + 5 * zi)).r, (otA ws ((5 * (0 + 0)) + 5 * zi)).s, (otA ws ((5 * (0 + 0)) + 5 * zi)).ch⟩] : List Ot) ([])) :: (key128, sob EOt 41 (rowsOf (otA ws) (5 * (0 + 0)) (zi + 1)) sp130) :: (key220, sob EOt 41 ((rowsOf (otB ws) (5 * (0 + 0)) zi) ++ ([⟨(otB ws ((5 * (0 + 0)) + 5 * zi)).p, (otB ws ((5 * (0 + 0)) + 5 * zi)).q, (otB ws ((5 * (0 + 0)) + 5 * zi)).r, (otB ws ((5 * (0 + 0)) + 5 * zi)).s, (otB ws ((5 * (0 + 0)) + 5 * zi)).ch⟩] : List Ot)) sp222) :: (some b92, .cells #[u64 ((otA ws ((5 * (0 + 0)) + 5 * zi)).p), u64 ((otA ws ((5 * (0 + 0)) + 5 * zi)).q), u64 ((otA ws ((5 * (0 + 0)) + 5 * zi)).r), u64 ((otA ws ((5 * (0 + 0)) + 5 * zi)).s), .bool ((otA ws ((5 * (0 + 0)) + 5 * zi)).ch)] 41 (0, 0)) :: (some b112, .cells #[u64 ((otB ws ((5 * (0 + 0)) + 5 * zi)).p), u64 ((otB ws ((5 * (0 + 0)) + 5 * zi)).q), u64 ((otB ws ((5 * (0 + 0)) + 5 * zi)).r), u64 ((otB ws ((5 * (0 + 0)) + 5 * zi)).s), .bool ((otB ws ((5 * (0 + 0)) + 5 * zi)).ch)] 41 (0, 0)) :: RR)) rfl
   clear H225
   have e227 : (rowsOf (otB ws) (5 * (0 + 0)) zi) ++ ([⟨(otB ws ((5 * (0 + 0)) + 5 * zi)).p, (otB ws ((5 * (0 + 0)) + 5 * zi)).q, (otB ws ((5 * (0 + 0)) + 5 * zi)).r, (otB ws ((5 * (0 + 0)) + 5 * zi)).s, (otB ws ((5 * (0 + 0)) + 5 * zi)).ch⟩] : List Ot) = rowsOf (otB ws) (5 * (0 + 0)) (zi + 1) := by exact rowsOf_succ.symm
   have hS228 := hS223
   rw [e227] at hS228
   have H229 := H225'.as (L' := (((some b151), sob EOt 41 ([⟨(otB ws ((5 * (0 + 0)) + 5 * zi)).p, (otB ws ((5 * (0 + 0)) + 5 * zi)).q, (otB ws ((5 * (0 + 0)) + 5 * zi)).r, (otB ws ((5 * (0 + 0)) + 5 * zi)).s, (otB ws ((5 * (0 + 0)) + 5 * zi)).ch⟩] : List Ot) ([])) :: ((some b122), sob EOt 41 ([⟨(otA ws ((5 * (0 + 0)) + 5 * zi)).p, (otA ws ((5 * (0 + 0)) + 5 * zi)).q, (otA ws ((5 * (0 + 0)) + 5 * zi)).r, (otA ws ((5 * (0 + 0)) + 5 * zi)).s, (otA ws ((5 * (0 + 0)) + 5 * zi)).ch⟩] : List Ot) ([])) :: (key128, sob EOt 41 (rowsOf (otA ws) (5 * (0 + 0)) (zi + 1)) sp130) :: (key220, sob EOt 41 (rowsOf (otB ws) (5 * (0 + 0)) (zi + 1)) sp222) :: (some b92, .cells #[u64 ((otA ws ((5 * (0 + 0)) + 5 * zi)).p), u64 ((otA ws ((5 * (0 + 0)) + 5 * zi)).q), u64 ((otA ws ((5 * (0 + 0)) + 5 * zi)).r), u64 ((otA ws ((5 * (0 + 0)) + 5 * zi)).s), .bool ((otA ws ((5 * (0 + 0)) + 5 * zi)).ch)] 41 (0, 0)) :: (some b112, .cells #[u64 ((otB ws ((5 * (0 + 0)) + 5 * zi)).p), u64 ((otB ws ((5 * (0 + 0)) + 5 * zi)).q), u64 ((otB ws ((5 * (0 + 0)) + 5 * zi)).r), u64 ((otB ws ((5 * (0 + 0)) + 5 * zi)).s), .bool ((otB ws ((5 * (0 + 0)) + 5 * zi)).ch)] 41 (0, 0)) :: RR)) (by rw [e227])
   exact hK _ _ (show ∃ (b122 : Nat) (key128 : Option Nat) (c129 : Nat) (sp130 : List Value) (b151 : Nat) (key157 : Option Nat) (c158 : Nat) (sp159 : List Value), r 2 = .slice (ownA (some b122)) 1 1 ∧ r 3 = .slice (ownA key128) (zi + 1) c129 ∧ r 6 = .slice (ownA (some b151)) 1 1 ∧ (_ : Value) = .slice (ownA key157) (zi + 1) c158 ∧ Sl EOt (some b151) ([⟨(otB ws ((5 * (0 + 0)) + 5 * zi)).p, (otB ws ((5 * (0 + 0)) + 5 * zi)).q, (otB ws ((5 * (0 + 0)) + 5 * zi)).r, (otB ws ((5 * (0 + 0)) + 5 * zi)).s, (otB ws ((5 * (0 + 0)) + 5 * zi)).ch⟩] : List Ot) 1 ([]) ∧ Sl EOt (some b122) ([⟨(otA ws ((5 * (0 + 0)) + 5 * zi)).p, (otA ws ((5 * (0 + 0)) + 5 * zi)).q, (otA ws ((5 * (0 + 0)) + 5 * zi)).r, (otA ws ((5 * (0 + 0)) + 5 * zi)).s, (otA ws ((5 * (0 + 0)) + 5 * zi)).ch⟩] : List Ot) 1 ([]) ∧ Sl EOt key128 (rowsOf (otA ws) (5 * (0 + 0)) (zi + 1)) c129 sp130 ∧ Sl EOt key157 (rowsOf (otB ws) (5 * (0 + 0)) (zi + 1)) c158 sp159 ∧ Hp No w₀ w224 (((some b151), sob EOt 41 ([⟨(otB ws ((5 * (0 + 0)) + 5 * zi)).p, (otB ws ((5 * (0 + 0)) + 5 * zi)).q, (otB ws ((5 * (0 + 0)) + 5 * zi)).r, (otB ws ((5 * (0 + 0)) + 5 * zi)).s, (otB ws ((5 * (0 + 0)) + 5 * zi)).ch⟩] : List Ot) ([])) :: ((some b122), sob EOt 41 ([⟨(otA ws ((5 * (0 + 0)) + 5 * zi)).p, (otA ws ((5 * (0 + 0)) + 5 * zi)).q, (otA ws ((5 * (0 + 0)) + 5 * zi)).r, (otA ws ((5 * (0 + 0)) + 5 * zi)).s, (otA ws ((5 * (0 + 0)) + 5 * zi)).ch⟩] : List Ot) ([])) :: (key128, sob EOt 41 (rowsOf (otA ws) (5 * (0 + 0)) (zi + 1)) sp130) :: (key157, sob EOt 41 (rowsOf (otB ws) (5 * (0 + 0)) (zi + 1)) sp159) :: (some b92, .cells #[u64 ((otA ws ((5 * (0 + 0)) + 5 * zi)).p), u64 ((otA ws ((5 * (0 + 0)) + 5 * zi)).q), u64 ((otA ws ((5 * (0 + 0)) + 5 * zi)).r), u64 ((otA ws ((5 * (0 + 0)) + 5 * zi)).s), .bool ((otA ws ((5 * (0 + 0)) + 5 * zi)).ch)] 41 (0, 0)) :: (some b112, .cells #[u64 ((otB ws ((5 * (0 + 0)) + 5 * zi)).p), u64 ((otB ws ((5 * (0 + 0)) + 5 * zi)).q), u64 ((otB ws ((5 * (0 + 0)) + 5 * zi)).r), u64 ((otB ws ((5 * (0 + 0)) + 5 * zi)).s), .bool ((otB ws ((5 * (0 + 0)) + 5 * zi)).ch)] 41 (0, 0)) :: RR) from ⟨b122, key128, c129, sp130, b151, key220, c221, sp222, e2, e3, e6, rfl, hS152, hS123, hS136, hS228, ((((((H229.pull (k := 5) rfl).pull (k := 5) rfl).pull (k := 5) rfl).pull (k := 5) rfl).pull (k := 5) rfl).pull (k := 5) rfl)⟩)
  refine WalkP.look rfl (fun r => r 3) (fun r r' h => h 3 (by decide) rfl) (fun L r uw _ _ _ => Gives.run rfl (r_assign rfl) ⟨rfl, rfl⟩) ?_
  refine WalkP.look rfl (fun r => r 7) (fun r r' h => h 7 (by decide) rfl) (fun L r uw _ _ _ => Gives.run rfl (r_assign rfl) ⟨rfl, rfl⟩) ?_
  refine WalkP.nil ?_
  intro r230 w231 hF
  obtain ⟨b122, key128, c129, sp130, b151, key157, c158, sp159, e2, e3, e6, e7, hS152, hS123, hS136, hS165, H232⟩ := hF
  dsimp only
  rw [e2, e3, e6, e7]
  subst hRR
  have H233 := H232.as (L' := [((some b151), sob EOt 41 ([⟨(otB ws ((5 * (0 + 0)) + 5 * zi)).p, (otB ws ((5 * (0 + 0)) + 5 * zi)).q, (otB ws ((5 * (0 + 0)) + 5 * zi)).r, (otB ws ((5 * (0 + 0)) + 5 * zi)).s, (otB ws ((5 * (0 + 0)) + 5 * zi)).ch⟩] : List Ot) ([])), ((some b122), sob EOt 41 ([⟨(otA ws ((5 * (0 + 0)) + 5 * zi)).p, (otA ws ((5 * (0 + 0)) + 5 * zi)).q, (otA ws ((5 * (0 + 0)) + 5 * zi)).r, (otA ws ((5 * (0 + 0)) + 5 * zi)).s, (otA ws ((5 * (0 + 0)) + 5 * zi)).ch⟩] : List Ot) ([])), (key128, sob EOt 41 (rowsOf (otA ws) (5 * (0 + 0)) (zi + 1)) sp130), (key157, sob EOt 41 (rowsOf (otB ws) (5 * (0 + 0)) (zi + 1)) sp159), (some b92, .cells #[u64 ((otA ws ((5 * (0 + 0)) + 5 * zi)).p), u64 ((otA ws ((5 * (0 + 0)) + 5 * zi)).q), u64 ((otA ws ((5 * (0 + 0)) + 5 * zi)).r), u64 ((otA ws ((5 * (0 + 0)) + 5 * zi)).s), .bool ((otA ws ((5 * (0 + 0)) + 5 * zi)).ch)] 41 (0, 0)), (some b112, .cells #[u64 ((otB ws ((5 * (0 + 0)) + 5 * zi)).p), u64 ((otB ws ((5 * (0 + 0)) + 5 * zi)).q), u64 ((otB ws ((5 * (0 + 0)) + 5 * zi)).r), u64 ((otB ws ((5 * (0 + 0)) + 5 * zi)).s), .bool ((otB ws ((5 * (0 + 0)) + 5 * zi)).ch)] 41 (0, 0)), (some b60, .cells #[.slice s102.t.a s102.t.l.length s102.t.c, .slice s102.b.a s102.b.l.length s102.b.c, .slice s102.o.a s102.o.l.length s102.o.c] 135 (0, 0)), (s102.t.key, sobP ETr 34 s102.t.pre s102.t.l s102.t.sp), (s102.b.key, sobP ETr 34 s102.b.pre s102.b.l s102.b.sp), (s102.o.key, sobP EOt 41 s102.o.pre s102.o.l s102.o.sp), (some b59, .cells #[.slice s82.t.a s82.t.l.length s82.t.c, .slice s82.b.a s82.b.l.length s82.b.c, .slice s82.o.a s82.o.l.length s82.o.c] 135 (0, 0)), (s82.t.key, sobP ETr 34 s82.t.pre s82.t.l s82.t.sp), (s82.b.key, sobP ETr 34 s82.b.pre s82.b.l s82.b.sp), (s82.o.key, sobP EOt 41 s82.o.pre s82.o.l s82.o.sp), (some b68, .cells #[pT b59, pT b60] 25 (0, 0)), (some b31, .cells #[u64 (δ.1), u64 (δ.2), .slice za zs.length zc, u64 (first)] 94 (0, 0))]) rfl
  refine wnil ?_
  refine blockNormal ?_
  refine thenNormal ?_
  refine oneRegion ?_
  refine sM (i64 (zi : Nat)) rfl ?_
  refine sq (r_addI (a := (zi : Nat)) (b := (1 : Int)) rfl rfl (by omega)) ?_
  refine sA (i64 ((zi : Nat) + (1 : Int))) rfl ?_
  refine wnil ?_
  refine thenNormal ?_
  exact ⟨(zi + 1, key128, c129, sp130, key157, c158, sp159, s82, s102), _, rfl, ⟨rfl, rfl, rfl, rfl, rfl, rfl, trivial⟩, ⟨⟨by omega, hS136, hS165, hok84, hok104, hf89, hf90, hf91, hf109, hf110, hf111⟩, (H233.pick 16 [2, 3, 14, 10, 11, 12, 13, 6, 7, 8, 9, 15] (by decide) (by decide))⟩, by show 64 - (zi + 1) < 64 - zi; omega⟩
 ·skip
  have hze : zi = 64 := by omega
  rw [hze] at HL hs0 hs1
  rw [hze]
  have H234 := HL.dropk 2
  have H234' := H234.as (L' := [(ky0, sob EOt 41 (rowsOf (otA ws) (5 * (0 + 0)) 64) zz0), (ky1, sob EOt 41 (rowsOf (otB ws) (5 * (0 + 0)) 64) zz1), (some b59, .cells #[.slice x1.t.a x1.t.l.length x1.t.c, .slice x1.b.a x1.b.l.length x1.b.c, .slice x1.o.a x1.o.l.length x1.o.c] 135 (0, 0)), (x1.t.key, sobP ETr 34 x1.t.pre x1.t.l x1.t.sp), (x1.b.key, sobP ETr 34 x1.b.pre x1.b.l x1.b.sp), (x1.o.key, sobP EOt 41 x1.o.pre x1.o.l x1.o.sp), (some b60, .cells #[.slice x2.t.a x2.t.l.length x2.t.c, .slice x2.b.a x2.b.l.length x2.b.c, .slice x2.o.a x2.o.l.length x2.o.c] 135 (0, 0)), (x2.t.key, sobP ETr 34 x2.t.pre x2.t.l x2.t.sp), (x2.b.key, sobP ETr 34 x2.b.pre x2.b.l x2.b.sp), (x2.o.key, sobP EOt 41 x2.o.pre x2.o.l x2.o.sp), (some b31, .cells #[u64 (δ.1), u64 (δ.2), .slice za zs.length zc, u64 (first)] 94 (0, 0))]) rfl
  have H235 := H234'.dropk 2
  have H235' := H235.as (L' := [(ky0, sob EOt 41 (rowsOf (otA ws) (5 * (0 + 0)) 64) zz0), (ky1, sob EOt 41 (rowsOf (otB ws) (5 * (0 + 0)) 64) zz1), (x1.t.key, sobP ETr 34 x1.t.pre x1.t.l x1.t.sp), (x1.b.key, sobP ETr 34 x1.b.pre x1.b.l x1.b.sp), (x1.o.key, sobP EOt 41 x1.o.pre x1.o.l x1.o.sp), (some b60, .cells #[.slice x2.t.a x2.t.l.length x2.t.c, .slice x2.b.a x2.b.l.length x2.b.c, .slice x2.o.a x2.o.l.length x2.o.c] 135 (0, 0)), (x2.t.key, sobP ETr 34 x2.t.pre x2.t.l x2.t.sp), (x2.b.key, sobP ETr 34 x2.b.pre x2.b.l x2.b.sp), (x2.o.key, sobP EOt 41 x2.o.pre x2.o.l x2.o.sp), (some b31, .cells #[u64 (δ.1), u64 (δ.2), .slice za zs.length zc, u64 (first)] 94 (0, 0))]) rfl
  have H236 := H235'.dropk 2
  have H236' := H236.as (L' := [(ky0, sob EOt 41 (rowsOf (otA ws) (5 * (0 + 0)) 64) zz0), (ky1, sob EOt 41 (rowsOf (otB ws) (5 * (0 + 0)) 64) zz1), (x1.b.key, sobP ETr 34 x1.b.pre x1.b.l x1.b.sp), (x1.o.key, sobP EOt 41 x1.o.pre x1.o.l x1.o.sp), (some b60, .cells #[.slice x2.t.a x2.t.l.length x2.t.c, .slice x2.b.a x2.b.l.length x2.b.c, .slice x2.o.a x2.o.l.length x2.o.c] 135 (0, 0)), (x2.t.key, sobP ETr 34 x2.t.pre x2.t.l x2.t.sp), (x2.b.key, sobP ETr 34 x2.b.pre x2.b.l x2.b.sp), (x2.o.key, sobP EOt 41 x2.o.pre x2.o.l x2.o.sp), (some b31, .cells #[u64 (δ.1), u64 (δ.2), .slice za zs.length zc, u64 (first)] 94 (0, 0))]) rfl
  have H237 := H236'.dropk 2
  have H237' := H237.as (L' := [(ky0, sob EOt 41 (rowsOf (otA ws) (5 * (0 + 0)) 64) zz0), (ky1, sob EOt 41 (rowsOf (otB ws) (5 * (0 + 0)) 64) zz1), (x1.o.key, sobP EOt 41 x1.o.pre x1.o.l x1.o.sp), (some b60, .cells #[.slice x2.t.a x2.t.l.length x2.t.c, .slice x2.b.a x2.b.l.length x2.b.c, .slice x2.o.a x2.o.l.length x2.o.c] 135 (0, 0)), (x2.t.key, sobP ETr 34 x2.t.pre x2.t.l x2.t.sp), (x2.b.key, sobP ETr 34 x2.b.pre x2.b.l x2.b.sp), (x2.o.key, sobP EOt 41 x2.o.pre x2.o.l x2.o.sp), (some b31, .cells #[u64 (δ.1), u64 (δ.2), .slice za zs.length zc, u64 (first)] 94 (0, 0))]) rfl
  have H238 := H237'.dropk 2
  have H238' := H238.as (L' := [(ky0, sob EOt 41 (rowsOf (otA ws) (5 * (0 + 0)) 64) zz0), (ky1, sob EOt 41 (rowsOf (otB ws) (5 * (0 + 0)) 64) zz1), (some b60, .cells #[.slice x2.t.a x2.t.l.length x2.t.c, .slice x2.b.a x2.b.l.length x2.b.c, .slice x2.o.a x2.o.l.length x2.o.c] 135 (0, 0)), (x2.t.key, sobP ETr 34 x2.t.pre x2.t.l x2.t.sp), (x2.b.key, sobP ETr 34 x2.b.pre x2.b.l x2.b.sp), (x2.o.key, sobP EOt 41 x2.o.pre x2.o.l x2.o.sp), (some b31, .cells #[u64 (δ.1), u64 (δ.2), .slice za zs.length zc, u64 (first)] 94 (0, 0))]) rfl
  have H239 := H238'.dropk 2
  have H239' := H239.as (L' := [(ky0, sob EOt 41 (rowsOf (otA ws) (5 * (0 + 0)) 64) zz0), (ky1, sob EOt 41 (rowsOf (otB ws) (5 * (0 + 0)) 64) zz1), (x2.t.key, sobP ETr 34 x2.t.pre x2.t.l x2.t.sp), (x2.b.key, sobP ETr 34 x2.b.pre x2.b.l x2.b.sp), (x2.o.key, sobP EOt 41 x2.o.pre x2.o.l x2.o.sp), (some b31, .cells #[u64 (δ.1), u64 (δ.2), .slice za zs.length zc, u64 (first)] 94 (0, 0))]) rfl
  have H240 := H239'.dropk 2
  have H240' := H240.as (L' := [(ky0, sob EOt 41 (rowsOf (otA ws) (5 * (0 + 0)) 64) zz0), (ky1, sob EOt 41 (rowsOf (otB ws) (5 * (0 + 0)) 64) zz1), (x2.b.key, sobP ETr 34 x2.b.pre x2.b.l x2.b.sp), (x2.o.key, sobP EOt 41 x2.o.pre x2.o.l x2.o.sp), (some b31, .cells #[u64 (δ.1), u64 (δ.2), .slice za zs.length zc, u64 (first)] 94 (0, 0))]) rfl
  have H241 := H240'.dropk 2
  have H241' := H241.as (L' := [(ky0, sob EOt 41 (rowsOf (otA ws) (5 * (0 + 0)) 64) zz0), (ky1, sob EOt 41 (rowsOf (otB ws) (5 * (0 + 0)) 64) zz1), (x2.o.key, sobP EOt 41 x2.o.pre x2.o.l x2.o.sp), (some b31, .cells #[u64 (δ.1), u64 (δ.2), .slice za zs.length zc, u64 (first)] 94 (0, 0))]) rfl
  have H242 := H241'.dropk 2
  have H242' := H242.as (L' := [(ky0, sob EOt 41 (rowsOf (otA ws) (5 * (0 + 0)) 64) zz0), (ky1, sob EOt 41 (rowsOf (otB ws) (5 * (0 + 0)) 64) zz1), (some b31, .cells #[u64 (δ.1), u64 (δ.2), .slice za zs.length zc, u64 (first)] 94 (0, 0))]) rfl
  obtain ⟨o1, ho1⟩ : ∃ x, x = rowsOf (otA ws) (5 * (0 + 0)) 64 := ⟨_, rfl⟩
  rw [← ho1] at H242' hs0
  have hlo1 : o1.length = 64 := by rw [ho1, rowsOf_len]
  obtain ⟨o2, ho2⟩ : ∃ x, x = rowsOf (otB ws) (5 * (0 + 0)) 64 := ⟨_, rfl⟩
  rw [← ho2] at H242' hs1
  have hlo2 : o2.length = 64 := by rw [ho2, rowsOf_len]
  refine exitAny ?_
  refine thenExit ?_
  refine thenExit ?_
  refine blockHere ?_
  refine thenNormal ?_
  refine sR ?_
  refine sq (r_loadA (cs' := #[u64 (δ.1), u64 (δ.2), .slice za zs.length zc, u64 (first)]) agg94 siz94 (H242'.get (k := 2) rfl) (off := 0) rfl (by exact bLe rfl) (by rfl)) ?_
  refine c_call (vs := [.agg #[u64 (δ.1), u64 (δ.2), .slice za zs.length zc, u64 (first)], i64 ((64 : Int))]) call44 rfl (zeros_ok (δ.1, δ.2) zs za zc hzc first (64 : Int) (by decide) w77 (hZ.ext H242'.chg)) ?_
  rintro _ w243 ⟨⟨key245, c246, sp247, rfl, hS248, hk249⟩, hE250⟩
  obtain ⟨z, hz⟩ : ∃ x, x = zerosS zs (64 : Int).toNat := ⟨_, rfl⟩
  have hzl : z.length = (64 : Int).toNat := by rw [hz, zerosS_len]
  rw [← hz] at hS248 hk249 ⊢
  have H251 := H242'.add hE250 hk249
  refine sA (.slice (ownA key245) z.length c246) rfl ?_
  have hz64 : z.length = 64 := by rw [hzl]; rfl
  refine wend ?_
  refine sR ?_
  refine sM (.slice (ownA ky1) 64 cc1) rfl ?_
  refine sM (u64 (xv)) rfl ?_
  refine c_call (vs := [.slice (ownA ky1) 64 cc1, u64 (xv)]) call56 rfl (ask_ok o2 (ownA ky1) 64 cc1 (by exact hlo2.symm) (by omega) xv w243 (H251.rd (k := 2) rfl hs1)) ?_
  rintro _ w252 ⟨rfl, hE253⟩
  have H254 := H251.ext hE253
  refine sM (.tuple #[u64 (askS o2 xv 64), .nilIface]) rfl ?_
  refine sq (r_extract (vs := #[u64 (askS o2 xv 64), .nilIface]) rfl rfl) ?_
  refine sq (r_extract (vs := #[u64 (askS o2 xv 64), .nilIface]) rfl rfl) ?_
  refine sA (u64 (askS o2 xv 64)) rfl ?_
  refine sA (.nilIface) rfl ?_
  obtain ⟨ak, hak⟩ : ∃ q, q = askS o2 xv 64 := ⟨_, rfl⟩
  rw [← hak]
  refine wend ?_
  refine sR ?_
  refine sM (.slice (ownA ky0) 64 cc0) rfl ?_
  refine sM (u64 (ak)) rfl ?_
  refine sM (.slice (ownA key245) z.length c246) rfl ?_
  refine sq (r_fieldAddr (off' := 0) fld94_0 (by decide) (b := b31) (off := 0) rfl (by omega)) ?_
  refine sq (r_loadA (cs' := (cel E64 [δ.1, δ.2]).toArray) agg38 siz38 (H254.get (k := 3) rfl) (off := 0) rfl (by exact bLe rfl) (by rfl)) ?_
  refine c_call (vs := [.slice (ownA ky0) 64 cc0, u64 (ak), .slice (ownA key245) z.length c246, .agg (cel E64 [δ.1, δ.2]).toArray]) call57 rfl (reply_ok o1 (ownA ky0) 64 cc0 (by exact hlo1.symm) (by omega) ak z (ownA key245) z.length c246 (by rfl) (by omega) (δ.1, δ.2) w252 (H254.rd (k := 1) rfl hs0) (H254.rd (k := 0) rfl hS248)) ?_
  rintro _ w255 ⟨k257, c258, z259, rfl, hS260, HN261⟩
  have H262 := (H254.join HN261).as (L' := [(k257, sob ELb 38 (repS o1 ak z (δ.1, δ.2) 64) z259), (key245, sob ELb 38 z sp247), (ky0, sob EOt 41 o1 zz0), (ky1, sob EOt 41 o2 zz1), (some b31, .cells #[u64 (δ.1), u64 (δ.2), .slice za zs.length zc, u64 (first)] 94 (0, 0))]) rfl
  refine sM (.tuple #[.slice (ownA k257) 128 c258, .nilIface]) rfl ?_
  refine sq (r_extract (vs := #[.slice (ownA k257) 128 c258, .nilIface]) rfl rfl) ?_
  refine sq (r_extract (vs := #[.slice (ownA k257) 128 c258, .nilIface]) rfl rfl) ?_
  refine sA (.slice (ownA k257) 128 c258) rfl ?_
  refine sA (.nilIface) rfl ?_
  obtain ⟨rp, hrp⟩ : ∃ x, x = repS o1 ak z δ 64 := ⟨_, rfl⟩
  rw [← hrp] at H262 hS260
  have hlrp : rp.length = 128 := by rw [hrp, repS_len]
  refine wend ?_
  refine sR ?_
  refine sM (.slice (ownA ky1) 64 cc1) rfl ?_
  refine sM (u64 (xv)) rfl ?_
  refine sM (.slice (ownA k257) 128 c258) rfl ?_
  refine c_call (vs := [.slice (ownA ky1) 64 cc1, u64 (xv), .slice (ownA k257) 128 c258]) call58 rfl (pick_ok o2 (ownA ky1) 64 cc1 (by exact hlo2.symm) (by omega) xv rp (ownA k257) 128 c258 (by exact hlrp.symm) (by omega) w255 (H262.rd (k := 3) rfl hs1) (H262.rd (k := 0) rfl hS260)) ?_
  rintro _ w263 ⟨k265, c266, z267, rfl, hS268, HN269⟩
  have H270 := (H262.join HN269).as (L' := [(k265, sob ELb 38 (pickS o2 xv rp 64) z267), (k257, sob ELb 38 rp z259), (key245, sob ELb 38 z sp247), (ky0, sob EOt 41 o1 zz0), (ky1, sob EOt 41 o2 zz1), (some b31, .cells #[u64 (δ.1), u64 (δ.2), .slice za zs.length zc, u64 (first)] 94 (0, 0))]) rfl
  refine sM (.tuple #[.slice (ownA k265) 64 c266, .nilIface]) rfl ?_
  refine sq (r_extract (vs := #[.slice (ownA k265) 64 c266, .nilIface]) rfl rfl) ?_
  refine sq (r_extract (vs := #[.slice (ownA k265) 64 c266, .nilIface]) rfl rfl) ?_
  refine sA (.slice (ownA k265) 64 c266) rfl ?_
  refine sA (.nilIface) rfl ?_
  obtain ⟨pl, hpl⟩ : ∃ x, x = pickS o2 xv rp 64 := ⟨_, rfl⟩
  rw [← hpl] at H270 hS268
  have hlpl : pl.length = 64 := by rw [hpl, pickS_len]
  have hright : ∀ q, q < 64 → pl.getD q lb0 = lx (z.getD q lb0) (lw (decide ((xv >>> q) % 2#64 = 1#64)) δ) := by rw [hpl, hrp, hak]; exact fun q hq => choose_right ws (5 * (0 + 0)) xv z δ o1 o2 ho1 ho2 q hq
  have hbit : ∀ q, q < 64 → (ak >>> q) % 2#64 = ((xv >>> q) % 2#64) ^^^ (if (o2.getD q ot0).ch = true then 1#64 else 0#64) := by rw [hak]; exact fun q hq => bit_right o2 xv q hq
  refine wend ?_
  refine seqAny ?_
  refine sR ?_
  refine sM (.nilIface) rfl ?_
  refine sq (r_neqNN isI27 rfl rfl) ?_
  refine sM (.bool (false)) rfl ?_
  refine sqAny (v := .nilIface) (w' := w263) (wantedSome (d' := 89) (b := false) rfl rfl rfl) (r_move (v := .nilIface) rfl) ?_
  refine sqAny (v := .bool (false)) (w' := w263) (wantedSome (d' := 89) (b := false) rfl rfl rfl) (r_neqNN isI27 rfl rfl) ?_
  refine sq (r_pickF (v := .bool (false)) rfl rfl) ?_
  refine sM (.bool (false)) rfl ?_
  refine sqAny (v := .nilIface) (w' := w263) (wantedSome (d' := 93) (b := false) rfl rfl rfl) (r_move (v := .nilIface) rfl) ?_
  refine sqAny (v := .bool (false)) (w' := w263) (wantedSome (d' := 93) (b := false) rfl rfl rfl) (r_neqNN isI27 rfl rfl) ?_
  refine sq (r_pickF (v := .bool (false)) rfl rfl) ?_
  refine sM (.bool (false)) rfl ?_
  refine sqAny (v := .slice (ownA k265) 64 c266) (w' := w263) (wantedSome (d' := 97) (b := false) rfl rfl rfl) (r_move (v := .slice (ownA k265) 64 c266) rfl) ?_
  refine sqAny (v := i64 (64 : Nat)) (w' := w263) (wantedSome (d' := 97) (b := false) rfl rfl rfl) (r_lenS sli92 (a := ownA k265) (m := 64) (c := c266) rfl) ?_
  refine sqAny (v := .bool (false)) (w' := w263) (wantedSome (d' := 97) (b := false) rfl rfl rfl) ((r_neqI (a := (64 : Nat)) (b := (64 : Int)) rfl rfl).as (v' := .bool (false)) (by rfl)) ?_
  refine sq (r_pickF (v := .bool (false)) rfl rfl) ?_
  refine sM (.bool (false)) rfl ?_
  refine sqAny (v := .slice (ownA k257) 128 c258) (w' := w263) (wantedSome (d' := 102) (b := false) rfl rfl rfl) (r_move (v := .slice (ownA k257) 128 c258) rfl) ?_
  refine sqAny (v := .slice (ownA ky0) 64 cc0) (w' := w263) (wantedSome (d' := 102) (b := false) rfl rfl rfl) (r_move (v := .slice (ownA ky0) 64 cc0) rfl) ?_
  refine sqAny (v := u64 (ak)) (w' := w263) (wantedSome (d' := 102) (b := false) rfl rfl rfl) (r_move (v := u64 (ak)) rfl) ?_
  refine sqAny (v := .slice (ownA key245) z.length c246) (w' := w263) (wantedSome (d' := 102) (b := false) rfl rfl rfl) (r_move (v := .slice (ownA key245) z.length c246) rfl) ?_
  refine sqAny (v := pT b31) (w' := w263) (wantedSome (d' := 102) (b := false) rfl rfl rfl) (r_fieldAddr (off' := 0) fld94_0 (by decide) (b := b31) (off := 0) rfl (by omega)) ?_
  refine sqAny (v := .agg (cel E64 [δ.1, δ.2]).toArray) (w' := w263) (wantedSome (d' := 102) (b := false) rfl rfl rfl) (r_loadA (cs' := (cel E64 [δ.1, δ.2]).toArray) agg38 siz38 (H270.get (k := 5) rfl) (off := 0) rfl (by exact bLe rfl) (by rfl)) ?_
  refine caAny (wantedSome (d' := 102) (b := false) rfl rfl rfl) (Enters.callL (vs := [.slice (ownA ky0) 64 cc0, u64 (ak), .slice (ownA key245) z.length c246, .agg (cel E64 [δ.1, δ.2]).toArray]) call59 rfl) (rreply_ok o1 (ownA ky0) 64 cc0 (by exact hlo1.symm) (by omega) ak z (ownA key245) z.length c246 (by rfl) (by omega) (δ.1, δ.2) w263 (H270.rd (k := 3) rfl hs0) (H270.rd (k := 2) rfl hS248)) ?_
  rintro _ w271 ⟨⟨key273, c274, sp275, rfl, hS276, hk277⟩, hE278⟩
  rw [show (repS o1 ak z (δ.1, δ.2) 64).length = 128 from repS_len _ _ _ _ _]
  have H279 := H270.add hE278 hk277
  refine caAny (wantedSome (d' := 102) (b := false) rfl rfl rfl) (Enters.callL (vs := [.slice (ownA k257) 128 c258, .slice (ownA key273) 128 c274]) call47 rfl) (same_ok rp (ownA k257) (ownA key273) 128 128 c258 c274 (by exact hlrp.symm) (by omega) w271 (H279.rd (k := 2) rfl hS260) (Eq.mp (congrArg (fun q => Rd ELb _ _ q) hrp.symm) (H279.rd (k := 0) rfl hS276)) (by omega)) ?_
  rintro _ w280 ⟨rfl, hE281⟩
  have H282 := H279.ext hE281
  refine sqAny (v := .bool (false)) (w' := w280) (wantedSome (d' := 102) (b := false) rfl rfl rfl) (r_notT rfl) ?_
  refine sq (r_pickF (v := .bool (false)) rfl rfl) ?_
  refine wend ?_
  refine condFalse rfl ?_
  refine skipAny ?_
  refine thenNormal ?_
  refine seqAny ?_
  refine sR ?_
  refine sM (.slice (ownA k265) 64 c266) rfl ?_
  refine sq (r_lenS sli92 (a := ownA k265) (m := 64) (c := c266) rfl) ?_
  refine sM (i64 ((0 : Int))) rfl ?_
  refine wend ?_
  refine blockAny ?_
  refine loopAny (σ := Nat) (fun q => [(1, u64 (xv)), (5, pT b31), (10, .slice (ownA ky0) 64 cc0), (11, .slice (ownA ky1) 64 cc1), (17, .slice (ownA key245) z.length c246), (18, u64 (ak)), (19, .slice (ownA k257) 128 c258), (21, .slice (ownA k265) 64 c266), (114, i64 (64 : Nat)), (115, i64 (q : Nat))]) (fun q w' => q ≤ 64 ∧ Hp No w₀ w' [(key273, sob ELb 38 (repS o1 ak z (δ.1, δ.2) 64) sp275), (k265, sob ELb 38 pl z267), (k257, sob ELb 38 rp z259), (key245, sob ELb 38 z sp247), (ky0, sob EOt 41 o1 zz0), (ky1, sob EOt 41 o2 zz1), (some b31, .cells #[u64 (δ.1), u64 (δ.2), .slice za zs.length zc, u64 (first)] 94 (0, 0))]) (fun q => 64 - q) (0) ?_ ?_ ?_
  ·exact ⟨rfl, rfl, rfl, rfl, rfl, rfl, rfl, rfl, rfl, rfl, trivial⟩
  ·exact ⟨Nat.zero_le _, H282⟩
  rintro q ρ w283 ⟨hq, HL2⟩
  refine sR ?_
  refine sq (r_lssI (a := (q : Nat)) (b := (64 : Nat)) rfl rfl) ?_
  refine wend ?_
  refine seqAny ?_
  refine condProp (((q : Nat) : Int) < (64 : Nat)) rfl (fun c116 => ?_) (fun c116 => ?_)
  ·skip
   have hx := hright q (by omega)
   have hb := hbit q (by omega)
   refine skipAny ?_
   refine thenNormal ?_
   refine seqAny ?_
   refine blockAny ?_
   refine sR ?_
   refine sM (i64 (q : Nat)) rfl ?_
   refine sA (i64 (q : Nat)) rfl ?_
   refine wend ?_
   refine sR ?_
   refine sA (u64 (0#64)) rfl ?_
   refine wend ?_
   refine seqAny ?_
   refine sR ?_
   refine sM (.slice (ownA ky1) 64 cc1) rfl ?_
   refine sM (i64 (q : Nat)) rfl ?_
   refine sq (r_idxS (E := EOt) (l := o2) (j := q) sli50 (HL2.rd (k := 5) rfl hs1) rfl rfl (by first | rfl | omega | (simp; omega)) (by exact hlo2.symm) (by omega)) ?_
   refine sq (r_fieldS (E := EOt) (l := o2) fld41_1 (by decide) (HL2.rd (k := 5) rfl hs1) (by omega) rfl rfl) ?_
   refine sq (r_ldP (E := EOt) (l := o2) (j := q) (o := 4) (v := (o2.getD q ot0)) (u := .bool ((o2.getD q ot0).ch)) one4 (HL2.rd (k := 5) rfl hs1) (at_getD (by omega)) rfl rfl rfl) ?_
   refine wend ?_
   refine condBool ((o2.getD q ot0).ch) rfl (fun c122 => ?_) (fun c122 => ?_)
   ·skip
    rw [if_pos c122] at hb
    refine oneRegion ?_
    refine sA (u64 (1#64)) rfl ?_
    refine wnil ?_
    refine thenNormal ?_
    refine seqAny ?_
    refine drawAny (K := [none, none, none, none, none, none, none, none, none, none, none, none, none, none, none, none, none, none, none, none, none, none, none, none, none, none, none]) [0, 0, 3, 7, 0, 0, 48, 112, 0, 256, 0, 0, 3072, 7168, 16368, 32767, 65535, 131071, 131071, 524287, 131071, 131071, 4194303, 131071, 16777215, 33554431, 67108863] (fun w' => Ext w283 w') (fun w' w'' => Ext w' w'') mixed (by kernel_rfl) (Ext.drew _) (fun _ _ h h' => h.trans h') ?_ ?_
    ·exact relNone (by decide)
    refine ⟨.slice (ownA k265) 64 c266, fun _ uw285 hC286 _ => Gives.run rfl (r_move (v := .slice (ownA k265) 64 c266) rfl) ⟨rfl, Chg.refl _ _⟩, ?_⟩
    refine ⟨i64 (q : Nat), fun _ uw287 hC288 _ => Gives.run rfl (r_move (v := i64 (q : Nat)) rfl) ⟨rfl, Chg.refl _ _⟩, ?_⟩
    refine ⟨.pointer (adr (ownA k265) (q * 2)), fun _ uw289 hC290 _ => Gives.run rfl (r_idxS (E := ELb) (l := pl) (j := q) sli92 ((HL2.ext hC290).rd (k := 1) rfl hS268) rfl rfl (by first | rfl | omega | (simp; omega)) (by exact hlpl.symm) (by omega)) ⟨rfl, Chg.refl _ _⟩, ?_⟩
    refine ⟨.agg (cel E64 [((pl).getD q lb0).1, ((pl).getD q lb0).2]).toArray, fun _ uw291 hC292 _ => Gives.run rfl ((r_ldS (E := ELb) (l := pl) (j := q) (v := (pl).getD q lb0) fits38 ((HL2.ext hC292).rd (k := 1) rfl hS268) rfl rfl (at_getD (by omega))).as (v' := .agg (cel E64 [((pl).getD q lb0).1, ((pl).getD q lb0).2]).toArray) rfl) ⟨rfl, Chg.refl _ _⟩, ?_⟩
    refine ⟨.slice (ownA key245) z.length c246, fun _ uw293 hC294 _ => Gives.run rfl (r_move (v := .slice (ownA key245) z.length c246) rfl) ⟨rfl, Chg.refl _ _⟩, ?_⟩
    refine ⟨i64 (q : Nat), fun _ uw295 hC296 _ => Gives.run rfl (r_move (v := i64 (q : Nat)) rfl) ⟨rfl, Chg.refl _ _⟩, ?_⟩
    refine ⟨.pointer (adr (ownA key245) (q * 2)), fun _ uw297 hC298 _ => Gives.run rfl (r_idxS (E := ELb) (l := z) (j := q) sli92 ((HL2.ext hC298).rd (k := 3) rfl hS248) rfl rfl (by first | rfl | omega | (simp; omega)) (by rfl) (by omega)) ⟨rfl, Chg.refl _ _⟩, ?_⟩
    refine ⟨.agg (cel E64 [((z).getD q lb0).1, ((z).getD q lb0).2]).toArray, fun _ uw299 hC300 _ => Gives.run rfl ((r_ldS (E := ELb) (l := z) (j := q) (v := (z).getD q lb0) fits38 ((HL2.ext hC300).rd (k := 3) rfl hS248) rfl rfl (at_getD (by omega))).as (v' := .agg (cel E64 [((z).getD q lb0).1, ((z).getD q lb0).2]).toArray) rfl) ⟨rfl, Chg.refl _ _⟩, ?_⟩
    refine ⟨pT b31, fun _ uw301 hC302 _ => Gives.run rfl (r_fieldAddr (off' := 0) fld94_0 (by decide) (b := b31) (off := 0) rfl (by omega)) ⟨rfl, Chg.refl _ _⟩, ?_⟩
    refine ⟨.agg (cel E64 [δ.1, δ.2]).toArray, fun _ uw303 hC304 _ => Gives.run rfl (r_loadA (cs' := (cel E64 [δ.1, δ.2]).toArray) agg38 siz38 ((HL2.ext hC304).get (k := 6) rfl) (off := 0) rfl (by exact bLe rfl) (by rfl)) ⟨rfl, Chg.refl _ _⟩, ?_⟩
    refine ⟨u64 (xv), fun _ uw305 hC306 _ => Gives.run rfl (r_move (v := u64 (xv)) rfl) ⟨rfl, Chg.refl _ _⟩, ?_⟩
    refine ⟨i64 (q : Nat), fun _ uw307 hC308 _ => Gives.run rfl (r_move (v := i64 (q : Nat)) rfl) ⟨rfl, Chg.refl _ _⟩, ?_⟩
    refine ⟨u64 ((xv >>> q) % 2#64), fun _ uw309 hC310 _ => Gives.call rfl (Enters.callL (vs := [u64 (xv), i64 (q : Nat)]) call60 rfl) (bit_ok xv q uw309), ?_⟩
    refine ⟨.bool (decide (((xv >>> q) % 2#64) = (1#64))), fun _ uw311 hC312 _ => Gives.run rfl (r_eql64 (a := (xv >>> q) % 2#64) (b := 1#64) rfl rfl) ⟨rfl, Chg.refl _ _⟩, ?_⟩
    refine ⟨.agg (cel E64 [(lx ((z).getD q lb0) (lw (decide (((xv >>> q) % 2#64) = (1#64))) (δ.1, δ.2))).1, (lx ((z).getD q lb0) (lw (decide (((xv >>> q) % 2#64) = (1#64))) (δ.1, δ.2))).2]).toArray, fun _ uw313 hC314 _ => Gives.call rfl (Enters.callL (vs := [.agg (cel E64 [((z).getD q lb0).1, ((z).getD q lb0).2]).toArray, .agg (cel E64 [δ.1, δ.2]).toArray, .bool (decide (((xv >>> q) % 2#64) = (1#64)))]) call48 rfl) (label_ok ((z).getD q lb0) (δ.1, δ.2) (decide (((xv >>> q) % 2#64) = (1#64))) uw313), ?_⟩
    refine ⟨.bool (false), fun _ uw315 hC316 _ => Gives.run rfl ((r_neqA (E := E64) (l := [((pl).getD q lb0).1, ((pl).getD q lb0).2]) (l' := [(lx ((z).getD q lb0) (lw (decide (((xv >>> q) % 2#64) = (1#64))) (δ.1, δ.2))).1, (lx ((z).getD q lb0) (lw (decide (((xv >>> q) % 2#64) = (1#64))) (δ.1, δ.2))).2]) gty38 und38 fits32 (eqAt64 und32) (rfl) (rfl) rfl rfl).as (v' := .bool (false)) (by rw [hx]; simp)) ⟨rfl, Chg.refl _ _⟩, ?_⟩
    refine ⟨.bool (false), fun _ uw317 hC318 _ => Gives.run rfl (r_move (v := .bool (false)) rfl) ⟨rfl, Chg.refl _ _⟩, ?_⟩
    refine ⟨u64 (ak), fun _ uw319 hC320 _ => Gives.runW (wantedSome (d' := 139) (b := false) rfl rfl rfl) (r_move (v := u64 (ak)) rfl) ⟨rfl, Chg.refl _ _⟩, ?_⟩
    refine ⟨i64 (q : Nat), fun _ uw321 hC322 _ => Gives.runW (wantedSome (d' := 139) (b := false) rfl rfl rfl) (r_move (v := i64 (q : Nat)) rfl) ⟨rfl, Chg.refl _ _⟩, ?_⟩
    refine ⟨u64 ((ak >>> q) % 2#64), fun _ uw323 hC324 _ => Gives.callW (wantedSome (d' := 139) (b := false) rfl rfl rfl) (Enters.callL (vs := [u64 (ak), i64 (q : Nat)]) call60 rfl) (bit_ok ak q uw323), ?_⟩
    refine ⟨u64 (xv), fun _ uw325 hC326 _ => Gives.runW (wantedSome (d' := 139) (b := false) rfl rfl rfl) (r_move (v := u64 (xv)) rfl) ⟨rfl, Chg.refl _ _⟩, ?_⟩
    refine ⟨i64 (q : Nat), fun _ uw327 hC328 _ => Gives.runW (wantedSome (d' := 139) (b := false) rfl rfl rfl) (r_move (v := i64 (q : Nat)) rfl) ⟨rfl, Chg.refl _ _⟩, ?_⟩
    refine ⟨u64 ((xv >>> q) % 2#64), fun _ uw329 hC330 _ => Gives.callW (wantedSome (d' := 139) (b := false) rfl rfl rfl) (Enters.callL (vs := [u64 (xv), i64 (q : Nat)]) call60 rfl) (bit_ok xv q uw329), ?_⟩
    refine ⟨u64 (1#64), fun _ uw331 hC332 _ => Gives.runW (wantedSome (d' := 139) (b := false) rfl rfl rfl) (r_move (v := u64 (1#64)) rfl) ⟨rfl, Chg.refl _ _⟩, ?_⟩
    refine ⟨u64 (((xv >>> q) % 2#64) ^^^ (1#64)), fun _ uw333 hC334 _ => Gives.runW (wantedSome (d' := 139) (b := false) rfl rfl rfl) (r_xor64 (a := (xv >>> q) % 2#64) (b := 1#64) rfl rfl) ⟨rfl, Chg.refl _ _⟩, ?_⟩
    refine ⟨.bool (false), fun _ uw335 hC336 _ => Gives.runW (wantedSome (d' := 139) (b := false) rfl rfl rfl) ((r_neq64 (a := (ak >>> q) % 2#64) (b := ((xv >>> q) % 2#64) ^^^ (1#64)) rfl rfl).as (v' := .bool (false)) (by rw [hb]; simp)) ⟨rfl, Chg.refl _ _⟩, ?_⟩
    refine ⟨.bool (false), fun _ uw337 hC338 _ => Gives.run rfl (r_pickF (v := .bool (false)) rfl rfl) ⟨rfl, Chg.refl _ _⟩, ?_⟩
    intro r342 w339 hE341 hF
    have H340 := HL2.ext hE341
    refine wnil ?_
    refine thenNormal ?_
    refine condFalse rfl ?_
    refine skipAny ?_
    refine blockNormal ?_
    refine thenNormal ?_
    refine oneRegion ?_
    refine sq (r_addI (a := (q : Nat)) (b := (1 : Int)) rfl rfl (by omega)) ?_
    refine sM (i64 ((q : Nat) + (1 : Int))) rfl ?_
    refine wnil ?_
    refine thenNormal ?_
    exact ⟨q + 1, _, rfl, ⟨rfl, rfl, rfl, rfl, rfl, rfl, rfl, rfl, rfl, rfl, trivial⟩, ⟨by omega, H340⟩, by show 64 - (q + 1) < 64 - q; omega⟩
   ·skip
    rw [if_neg (by rw [c122]; exact Bool.false_ne_true)] at hb
    refine skipAny ?_
    refine thenNormal ?_
    refine seqAny ?_
    refine drawAny (K := [none, none, none, none, none, none, none, none, none, none, none, none, none, none, none, none, none, none, none, none, none, none, none, none, none, none, none]) [0, 0, 3, 7, 0, 0, 48, 112, 0, 256, 0, 0, 3072, 7168, 16368, 32767, 65535, 131071, 131071, 524287, 131071, 131071, 4194303, 131071, 16777215, 33554431, 67108863] (fun w' => Ext w283 w') (fun w' w'' => Ext w' w'') mixed (by kernel_rfl) (Ext.drew _) (fun _ _ h h' => h.trans h') ?_ ?_
    ·exact relNone (by decide)
    refine ⟨.slice (ownA k265) 64 c266, fun _ uw343 hC344 _ => Gives.run rfl (r_move (v := .slice (ownA k265) 64 c266) rfl) ⟨rfl, Chg.refl _ _⟩, ?_⟩
    refine ⟨i64 (q : Nat), fun _ uw345 hC346 _ => Gives.run rfl (r_move (v := i64 (q : Nat)) rfl) ⟨rfl, Chg.refl _ _⟩, ?_⟩
    refine ⟨.pointer (adr (ownA k265) (q * 2)), fun _ uw347 hC348 _ => Gives.run rfl (r_idxS (E := ELb) (l := pl) (j := q) sli92 ((HL2.ext hC348).rd (k := 1) rfl hS268) rfl rfl (by first | rfl | omega | (simp; omega)) (by exact hlpl.symm) (by omega)) ⟨rfl, Chg.refl _ _⟩, ?_⟩
    refine ⟨.agg (cel E64 [((pl).getD q lb0).1, ((pl).getD q lb0).2]).toArray, fun _ uw349 hC350 _ => Gives.run rfl ((r_ldS (E := ELb) (l := pl) (j := q) (v := (pl).getD q lb0) fits38 ((HL2.ext hC350).rd (k := 1) rfl hS268) rfl rfl (at_getD (by omega))).as (v' := .agg (cel E64 [((pl).getD q lb0).1, ((pl).getD q lb0).2]).toArray) rfl) ⟨rfl, Chg.refl _ _⟩, ?_⟩
    refine ⟨.slice (ownA key245) z.length c246, fun _ uw351 hC352 _ => Gives.run rfl (r_move (v := .slice (ownA key245) z.length c246) rfl) ⟨rfl, Chg.refl _ _⟩, ?_⟩
    refine ⟨i64 (q : Nat), fun _ uw353 hC354 _ => Gives.run rfl (r_move (v := i64 (q : Nat)) rfl) ⟨rfl, Chg.refl _ _⟩, ?_⟩
    refine ⟨.pointer (adr (ownA key245) (q * 2)), fun _ uw355 hC356 _ => Gives.run rfl (r_idxS (E := ELb) (l := z) (j := q) sli92 ((HL2.ext hC356).rd (k := 3) rfl hS248) rfl rfl (by first | rfl | omega | (simp; omega)) (by rfl) (by omega)) ⟨rfl, Chg.refl _ _⟩, ?_⟩
    refine ⟨.agg (cel E64 [((z).getD q lb0).1, ((z).getD q lb0).2]).toArray, fun _ uw357 hC358 _ => Gives.run rfl ((r_ldS (E := ELb) (l := z) (j := q) (v := (z).getD q lb0) fits38 ((HL2.ext hC358).rd (k := 3) rfl hS248) rfl rfl (at_getD (by omega))).as (v' := .agg (cel E64 [((z).getD q lb0).1, ((z).getD q lb0).2]).toArray) rfl) ⟨rfl, Chg.refl _ _⟩, ?_⟩
    refine ⟨pT b31, fun _ uw359 hC360 _ => Gives.run rfl (r_fieldAddr (off' := 0) fld94_0 (by decide) (b := b31) (off := 0) rfl (by omega)) ⟨rfl, Chg.refl _ _⟩, ?_⟩
    refine ⟨.agg (cel E64 [δ.1, δ.2]).toArray, fun _ uw361 hC362 _ => Gives.run rfl (r_loadA (cs' := (cel E64 [δ.1, δ.2]).toArray) agg38 siz38 ((HL2.ext hC362).get (k := 6) rfl) (off := 0) rfl (by exact bLe rfl) (by rfl)) ⟨rfl, Chg.refl _ _⟩, ?_⟩
    refine ⟨u64 (xv), fun _ uw363 hC364 _ => Gives.run rfl (r_move (v := u64 (xv)) rfl) ⟨rfl, Chg.refl _ _⟩, ?_⟩
    refine ⟨i64 (q : Nat), fun _ uw365 hC366 _ => Gives.run rfl (r_move (v := i64 (q : Nat)) rfl) ⟨rfl, Chg.refl _ _⟩, ?_⟩
    refine ⟨u64 ((xv >>> q) % 2#64), fun _ uw367 hC368 _ => Gives.call rfl (Enters.callL (vs := [u64 (xv), i64 (q : Nat)]) call60 rfl) (bit_ok xv q uw367), ?_⟩
    refine ⟨.bool (decide (((xv >>> q) % 2#64) = (1#64))), fun _ uw369 hC370 _ => Gives.run rfl (r_eql64 (a := (xv >>> q) % 2#64) (b := 1#64) rfl rfl) ⟨rfl, Chg.refl _ _⟩, ?_⟩
    refine ⟨.agg (cel E64 [(lx ((z).getD q lb0) (lw (decide (((xv >>> q) % 2#64) = (1#64))) (δ.1, δ.2))).1, (lx ((z).getD q lb0) (lw (decide (((xv >>> q) % 2#64) = (1#64))) (δ.1, δ.2))).2]).toArray, fun _ uw371 hC372 _ => Gives.call rfl (Enters.callL (vs := [.agg (cel E64 [((z).getD q lb0).1, ((z).getD q lb0).2]).toArray, .agg (cel E64 [δ.1, δ.2]).toArray, .bool (decide (((xv >>> q) % 2#64) = (1#64)))]) call48 rfl) (label_ok ((z).getD q lb0) (δ.1, δ.2) (decide (((xv >>> q) % 2#64) = (1#64))) uw371), ?_⟩
    refine ⟨.bool (false), fun _ uw373 hC374 _ => Gives.run rfl ((r_neqA (E := E64) (l := [((pl).getD q lb0).1, ((pl).getD q lb0).2]) (l' := [(lx ((z).getD q lb0) (lw (decide (((xv >>> q) % 2#64) = (1#64))) (δ.1, δ.2))).1, (lx ((z).getD q lb0) (lw (decide (((xv >>> q) % 2#64) = (1#64))) (δ.1, δ.2))).2]) gty38 und38 fits32 (eqAt64 und32) (rfl) (rfl) rfl rfl).as (v' := .bool (false)) (by rw [hx]; simp)) ⟨rfl, Chg.refl _ _⟩, ?_⟩
    refine ⟨.bool (false), fun _ uw375 hC376 _ => Gives.run rfl (r_move (v := .bool (false)) rfl) ⟨rfl, Chg.refl _ _⟩, ?_⟩
    refine ⟨u64 (ak), fun _ uw377 hC378 _ => Gives.runW (wantedSome (d' := 139) (b := false) rfl rfl rfl) (r_move (v := u64 (ak)) rfl) ⟨rfl, Chg.refl _ _⟩, ?_⟩
    refine ⟨i64 (q : Nat), fun _ uw379 hC380 _ => Gives.runW (wantedSome (d' := 139) (b := false) rfl rfl rfl) (r_move (v := i64 (q : Nat)) rfl) ⟨rfl, Chg.refl _ _⟩, ?_⟩
    refine ⟨u64 ((ak >>> q) % 2#64), fun _ uw381 hC382 _ => Gives.callW (wantedSome (d' := 139) (b := false) rfl rfl rfl) (Enters.callL (vs := [u64 (ak), i64 (q : Nat)]) call60 rfl) (bit_ok ak q uw381), ?_⟩
    refine ⟨u64 (xv), fun _ uw383 hC384 _ => Gives.runW (wantedSome (d' := 139) (b := false) rfl rfl rfl) (r_move (v := u64 (xv)) rfl) ⟨rfl, Chg.refl _ _⟩, ?_⟩
    refine ⟨i64 (q : Nat), fun _ uw385 hC386 _ => Gives.runW (wantedSome (d' := 139) (b := false) rfl rfl rfl) (r_move (v := i64 (q : Nat)) rfl) ⟨rfl, Chg.refl _ _⟩, ?_⟩
    refine ⟨u64 ((xv >>> q) % 2#64), fun _ uw387 hC388 _ => Gives.callW (wantedSome (d' := 139) (b := false) rfl rfl rfl) (Enters.callL (vs := [u64 (xv), i64 (q : Nat)]) call60 rfl) (bit_ok xv q uw387), ?_⟩
    refine ⟨u64 (0#64), fun _ uw389 hC390 _ => Gives.runW (wantedSome (d' := 139) (b := false) rfl rfl rfl) (r_move (v := u64 (0#64)) rfl) ⟨rfl, Chg.refl _ _⟩, ?_⟩
    refine ⟨u64 (((xv >>> q) % 2#64) ^^^ (0#64)), fun _ uw391 hC392 _ => Gives.runW (wantedSome (d' := 139) (b := false) rfl rfl rfl) (r_xor64 (a := (xv >>> q) % 2#64) (b := 0#64) rfl rfl) ⟨rfl, Chg.refl _ _⟩, ?_⟩
    refine ⟨.bool (false), fun _ uw393 hC394 _ => Gives.runW (wantedSome (d' := 139) (b := false) rfl rfl rfl) ((r_neq64 (a := (ak >>> q) % 2#64) (b := ((xv >>> q) % 2#64) ^^^ (0#64)) rfl rfl).as (v' := .bool (false)) (by rw [hb]; simp)) ⟨rfl, Chg.refl _ _⟩, ?_⟩
    refine ⟨.bool (false), fun _ uw395 hC396 _ => Gives.run rfl (r_pickF (v := .bool (false)) rfl rfl) ⟨rfl, Chg.refl _ _⟩, ?_⟩
    intro r400 w397 hE399 hF
    have H398 := HL2.ext hE399
    refine wnil ?_
    refine thenNormal ?_
    refine condFalse rfl ?_
    refine skipAny ?_
    refine blockNormal ?_
    refine thenNormal ?_
    refine oneRegion ?_
    refine sq (r_addI (a := (q : Nat)) (b := (1 : Int)) rfl rfl (by omega)) ?_
    refine sM (i64 ((q : Nat) + (1 : Int))) rfl ?_
    refine wnil ?_
    refine thenNormal ?_
    exact ⟨q + 1, _, rfl, ⟨rfl, rfl, rfl, rfl, rfl, rfl, rfl, rfl, rfl, rfl, trivial⟩, ⟨by omega, H398⟩, by show 64 - (q + 1) < 64 - q; omega⟩
  ·skip
   have hcap11 := hs1.cap
   have hcap17 := hS248.cap
   have hcap19 := hS260.cap
   refine exitAny ?_
   refine thenExit ?_
   refine thenExit ?_
   refine blockHere ?_
   refine thenNormal ?_
   refine sR ?_
   refine sM (.slice (ownA ky1) 64 cc1) rfl ?_
   refine sq ((r_sliceS (l := 1) (h := 64) sli50 rfl (.inl ⟨_, _, _, rfl, rfl, by first | rfl | omega | (simp; omega)⟩) (.inr ⟨rfl, rfl⟩) (by omega) (by omega)).as (v' := .slice (if cc1 = 1 then ownA ky1 else adr (ownA ky1) (1 * 5)) 63 (cc1 - 1)) (by first | rfl | (congr 1; omega) | (simp; omega) | simp)) ?_
   refine sM (u64 (xv)) rfl ?_
   have := HL2.lt (List.mem_of_getElem? (i := 6) rfl) rfl
   refine c_call (vs := [.slice (if cc1 = 1 then ownA ky1 else adr (ownA ky1) (1 * 5)) 63 (cc1 - 1), u64 (xv)]) call56 rfl (ask_bad 63 (if cc1 = 1 then ownA ky1 else adr (ownA ky1) (1 * 5)) (cc1 - 1) xv w283 (Chg.gl HL2.chg (fun x => x) hG) (by omega)) ?_
   rintro _ w401 ⟨⟨v403, rfl, hEr404⟩, hE405⟩
   have H406 := HL2.ext hE405
   obtain ⟨T407, x408, rfl⟩ := hEr404.iface
   refine sM (.tuple #[u64 (0#64), .iface T407 (x408)]) rfl ?_
   refine sq (r_extract (vs := #[u64 (0#64), .iface T407 (x408)]) rfl rfl) ?_
   refine sq (r_extract (vs := #[u64 (0#64), .iface T407 (x408)]) rfl rfl) ?_
   refine sA (.iface T407 (x408)) rfl ?_
   refine wend ?_
   refine seqAny ?_
   refine drawC (m := 11) [0, 0, 0, 4, 0, 16, 63, 127, 255, 255, 1023] [6] (fun q vs w' => match q, vs with | 0, [] => Ext w401 w' ∧ Hp No w₀ w' [(key273, sob ELb 38 (repS o1 ak z (δ.1, δ.2) 64) sp275), (k265, sob ELb 38 pl z267), (k257, sob ELb 38 rp z259), (key245, sob ELb 38 z sp247), (ky0, sob EOt 41 o1 zz0), (ky1, sob EOt 41 o2 zz1), (some b31, .cells #[u64 (δ.1), u64 (δ.2), .slice za zs.length zc, u64 (first)] 94 (0, 0))] | 1, [v0] => ∃ (lo420 : Nat) (T418 : TypeId) (x419 : Value), v0 = .tuple #[.slice none 0 0, .iface T418 (x419)] ∧ Er lo420 w' 1 1 (.iface T418 x419) ∧ b31 < lo420 ∧ Ext w401 w' ∧ Hp No w₀ w' [(key273, sob ELb 38 (repS o1 ak z (δ.1, δ.2) 64) sp275), (k265, sob ELb 38 pl z267), (k257, sob ELb 38 rp z259), (key245, sob ELb 38 z sp247), (ky0, sob EOt 41 o1 zz0), (ky1, sob EOt 41 o2 zz1), (some b31, .cells #[u64 (δ.1), u64 (δ.2), .slice za zs.length zc, u64 (first)] 94 (0, 0))] | _, _ => False) mixed (by kernel_rfl) (by kernel_rfl) ⟨Ext.drew _, H406.drew⟩ ?_
   refine WalkC.look rfl (fun _ => .slice (ownA ky0) 64 cc0) (fun _ _ _ => rfl) (fun q r uw _ _ _ _ => Gives.run rfl (r_move (v := .slice (ownA ky0) 64 cc0) rfl) ⟨rfl, rfl⟩) ?_
   refine WalkC.look rfl (fun _ => u64 (ak)) (fun _ _ _ => rfl) (fun q r uw _ _ _ _ => Gives.run rfl (r_move (v := u64 (ak)) rfl) ⟨rfl, rfl⟩) ?_
   refine WalkC.look rfl (fun _ => .slice (ownA key245) z.length c246) (fun _ _ _ => rfl) (fun q r uw _ _ _ _ => Gives.run rfl (r_move (v := .slice (ownA key245) z.length c246) rfl) ⟨rfl, rfl⟩) ?_
   refine WalkC.look rfl (fun _ => .slice (if c246 = 1 then ownA key245 else adr (ownA key245) (1 * 2)) (z.length - 1) (c246 - 1)) (fun _ _ _ => rfl) (fun q r uw _ _ _ _ => Gives.run rfl ((r_sliceS (l := 1) (h := z.length) sli92 rfl (.inl ⟨_, _, _, rfl, rfl, by first | rfl | omega | (simp; omega)⟩) (.inr ⟨rfl, rfl⟩) (by omega) (by omega)).as (v' := .slice (if c246 = 1 then ownA key245 else adr (ownA key245) (1 * 2)) (z.length - 1) (c246 - 1)) (by first | rfl | (congr 1; omega) | (simp; omega) | simp)) ⟨rfl, rfl⟩) ?_
   refine WalkC.look rfl (fun _ => pT b31) (fun _ _ _ => rfl) (fun q r uw _ _ _ _ => Gives.run rfl (r_fieldAddr (off' := 0) fld94_0 (by decide) (b := b31) (off := 0) rfl (by omega)) ⟨rfl, rfl⟩) ?_
   refine WalkC.look rfl (fun _ => .agg (cel E64 [δ.1, δ.2]).toArray) (fun _ _ _ => rfl) (fun q r uw hlo hhi hle hF => ?_) ?_
   ·skip
    have h1 : 0 ≤ q := Nat.zero_le _
    have h2 : q ≤ 0 := hhi 0 6 rfl rfl
    rcases (show q = 0 by omega) with rfl
    ·skip
     obtain ⟨hX, HH⟩ := hF
     exact Gives.run rfl (r_loadA (cs' := (cel E64 [δ.1, δ.2]).toArray) agg38 siz38 (HH.get (k := 6) rfl) (off := 0) rfl (by exact bLe rfl) (by rfl)) ⟨rfl, rfl⟩
   refine WalkC.eff 0 rfl (fun r uw409 hF411 => ?_) ?_
   ·skip
    obtain ⟨hX, H410⟩ := hF411
    dsimp only [List.take, List.map, List.cons_append, List.nil_append]
    refine Gives.ofW (d := 165) rfl rfl (fun Q' hK => ?_)
    have := H410.lt (List.mem_of_getElem? (i := 6) rfl) rfl
    refine c_call (vs := [.slice (ownA ky0) 64 cc0, u64 (ak), .slice (if c246 = 1 then ownA key245 else adr (ownA key245) (1 * 2)) (z.length - 1) (c246 - 1), .agg (cel E64 [δ.1, δ.2]).toArray]) call57 rfl (reply_bad 64 (z.length - 1) (ownA ky0) (if c246 = 1 then ownA key245 else adr (ownA key245) (1 * 2)) cc0 (c246 - 1) ak (δ.1, δ.2) uw409 (Chg.gl H410.chg (fun x => x) hG) (by omega) (by omega)) ?_
    rintro _ w412 ⟨⟨v414, rfl, hEr415⟩, hE416⟩
    have H417 := H410.ext hE416
    obtain ⟨T418, x419, rfl⟩ := hEr415.iface
    obtain ⟨lo420, hlo421⟩ : ∃ lo, lo = uw409.heap.size := ⟨_, rfl⟩
    rw [← hlo421] at hEr415
    have hlt422 : b31 < lo420 := by omega
    exact hK _ _ ⟨lo420, T418, x419, rfl, hEr415, hlt422, (hX.trans hE416), H417⟩
   refine WalkC.look rfl (fun r => r 6) (fun r r' h => h 6 (by decide) rfl) (fun q r uw _ _ _ _ => Gives.run rfl (r_move rfl) ⟨rfl, rfl⟩) ?_
   refine WalkC.look rfl (fun r => proj (r 6) 0) (fun r r' h => by rw [h 6 (by decide) rfl]) (fun q r uw hlo hhi hle hF => ?_) ?_
   ·skip
    have h1 : 1 ≤ q := hlo 0 6 rfl rfl
    have h2 : q ≤ 1 := hle
    rcases (show q = 1 by omega) with rfl
    ·skip
     obtain ⟨lo420, T418, x419, e6, hEr415, hlt422, hX, HH⟩ := hF
     dsimp only
     rw [e6]
     exact Gives.run rfl (r_extract (vs := #[.slice none 0 0, .iface T418 (x419)]) rfl rfl) ⟨rfl, rfl⟩
   refine WalkC.look rfl (fun r => proj (r 6) 1) (fun r r' h => by rw [h 6 (by decide) rfl]) (fun q r uw hlo hhi hle hF => ?_) ?_
   ·skip
    have h1 : 1 ≤ q := hlo 0 6 rfl rfl
    have h2 : q ≤ 1 := hle
    rcases (show q = 1 by omega) with rfl
    ·skip
     obtain ⟨lo420, T418, x419, e6, hEr415, hlt422, hX, HH⟩ := hF
     dsimp only
     rw [e6]
     exact Gives.run rfl (r_extract (vs := #[.slice none 0 0, .iface T418 (x419)]) rfl rfl) ⟨rfl, rfl⟩
   refine WalkC.look rfl (fun r => proj (r 6) 1) (fun r r' h => by rw [h 6 (by decide) rfl]) (fun q r uw _ _ _ _ => Gives.run rfl (r_assign rfl) ⟨rfl, rfl⟩) ?_
   refine WalkC.nil ?_
   intro r423 w424 hF426
   obtain ⟨lo420, T418, x419, e6, hEr415, hlt422, hX, H425⟩ := hF426
   dsimp only
   rw [e6]
   refine wnil ?_
   refine thenNormal ?_
   refine sR ?_
   refine sM (.slice (ownA ky1) 64 cc1) rfl ?_
   refine sM (u64 (xv)) rfl ?_
   refine sM (.slice (ownA k257) 128 c258) rfl ?_
   refine sq ((r_sliceS (l := 1) (h := 128) sli92 rfl (.inl ⟨_, _, _, rfl, rfl, by first | rfl | omega | (simp; omega)⟩) (.inr ⟨rfl, rfl⟩) (by omega) (by omega)).as (v' := .slice (if c258 = 1 then ownA k257 else adr (ownA k257) (1 * 2)) 127 (c258 - 1)) (by first | rfl | (congr 1; omega) | (simp; omega) | simp)) ?_
   have := H425.lt (List.mem_of_getElem? (i := 6) rfl) rfl
   refine c_call (vs := [.slice (ownA ky1) 64 cc1, u64 (xv), .slice (if c258 = 1 then ownA k257 else adr (ownA k257) (1 * 2)) 127 (c258 - 1)]) call58 rfl (pick_bad 64 127 (ownA ky1) (if c258 = 1 then ownA k257 else adr (ownA k257) (1 * 2)) cc1 (c258 - 1) xv w424 (Chg.gl H425.chg (fun x => x) hG) (by omega) (by omega)) ?_
   rintro _ w427 ⟨⟨v429, rfl, hEr430⟩, hE431⟩
   have H432 := H425.ext hE431
   obtain ⟨T433, x434, rfl⟩ := hEr430.iface
   refine sM (.tuple #[.slice none 0 0, .iface T433 (x434)]) rfl ?_
   refine sq (r_extract (vs := #[.slice none 0 0, .iface T433 (x434)]) rfl rfl) ?_
   refine sq (r_extract (vs := #[.slice none 0 0, .iface T433 (x434)]) rfl rfl) ?_
   refine sA (.iface T433 (x434)) rfl ?_
   refine wend ?_
   refine sR ?_
   refine sM (.iface T407 (x408)) rfl ?_
   refine c_call (vs := [.iface T407 (x408), i64 ((1 : Int))]) call24 rfl (is_ok 1 (1 : Int) 1 (.iface T407 (x408)) w283.heap.size w427 (((hEr404.ext hX).ext hE431))) ?_
   rintro _ w435 ⟨rfl, hE436⟩
   have H437 := H432.ext hE436
   refine sM (.bool (true)) rfl ?_
   refine sqAny (v := .iface T418 (x419)) (w' := w435) (wantedSome (d' := 178) (b := true) rfl rfl rfl) (r_move (v := .iface T418 (x419)) rfl) ?_
   refine caAny (wantedSome (d' := 178) (b := true) rfl rfl rfl) (Enters.callL (vs := [.iface T418 (x419), i64 ((1 : Int))]) call24 rfl) (is_ok 1 (1 : Int) 1 (.iface T418 (x419)) lo420 w435 (((hEr415.ext hE431).ext hE436))) ?_
   rintro _ w438 ⟨rfl, hE439⟩
   have H440 := H437.ext hE439
   refine sq (r_pickT (u := .bool (true)) rfl rfl) ?_
   refine sM (.bool (true)) rfl ?_
   refine sqAny (v := .iface T433 (x434)) (w' := w438) (wantedSome (d' := 182) (b := true) rfl rfl rfl) (r_move (v := .iface T433 (x434)) rfl) ?_
   refine caAny (wantedSome (d' := 182) (b := true) rfl rfl rfl) (Enters.callL (vs := [.iface T433 (x434), i64 ((1 : Int))]) call24 rfl) (is_ok 1 (1 : Int) 1 (.iface T433 (x434)) w424.heap.size w438 (((hEr430.ext hE436).ext hE439))) ?_
   rintro _ w441 ⟨rfl, hE442⟩
   have H443 := H440.ext hE442
   refine sq (r_pickT (u := .bool (true)) rfl rfl) ?_
   refine sA (.bool (true)) rfl ?_
   refine wend ?_
   refine retAny ?_
   refine retG (rs := [.tmp 6]) (vs := [.bool (true)]) rfl ⟨⟨rfl, rfl⟩, trivial⟩ ?_
   exact ⟨_, rfl, rfl, H443.chg⟩
end Go.Proofs.YteofdmdpaejgaaaDoor.Gb
