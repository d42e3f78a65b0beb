/- What the claim has need of: Mi9, Mi10, Mi11, Cm9, Cm12, Mi12, Mi13. -/
import Derived.Test.YtohngnahcgbfmaaGreatDoorJr5
namespace Go.Proofs.YtohngnahcgbfmaaGreatDoor.Mi
open Go Go.Proofs.YtohngnahcgbfmaaGreatDoor.Vc Go.Proofs.YtohngnahcgbfmaaGreatDoor.Er Go.Proofs.YtohngnahcgbfmaaGreatDoor.Ek Go.Proofs.YtohngnahcgbfmaaGreatDoor.Circ
set_option linter.unusedVariables false
theorem agg24 : isAgg' Tryz.prog 24 = true := by kernel_rfl
theorem arr38 : arr Tryz.prog 38 = some (2, 1) := by kernel_rfl
theorem arr50 : arr Tryz.prog 50 = some (2, 1) := by kernel_rfl
theorem arr81 : arr Tryz.prog 81 = some (2, 1) := by kernel_rfl
theorem arr83 : arr Tryz.prog 83 = some (2, 1) := by kernel_rfl
theorem call27 : callable Tryz.prog 27 = true := by kernel_rfl
theorem call28 : callable Tryz.prog 28 = true := by kernel_rfl
theorem call29 : callable Tryz.prog 29 = true := by kernel_rfl
theorem fits91 : Fits Tryz.prog 91 EDr := fitsDr (by kernel_rfl) (by kernel_rfl)
theorem one37 : isOne Tryz.prog 37 = true := by kernel_rfl
theorem one48 : isOne Tryz.prog 48 = true := by kernel_rfl
theorem one80 : isOne Tryz.prog 80 = true := by kernel_rfl
theorem siz23 : siz Tryz.prog 23 = some 1 := by kernel_rfl
theorem siz24 : siz Tryz.prog 24 = some 2 := by kernel_rfl
theorem siz80 : siz Tryz.prog 80 = some 1 := by kernel_rfl
theorem zer24 : zer Tryz.prog 24 = some (.agg (List.replicate 2 sN0).toArray) := by kernel_rfl
theorem zer81 : zer Tryz.prog 81 = some (.agg (List.replicate 2 sN0).toArray) := by kernel_rfl
theorem zer92 : zer Tryz.prog 92 = some (.agg #[.int .u64 0, .int .u64 0, .int .u64 0, .int .u64 0, sN0, sN0, .int .u64 0, .int .u64 0, .int .u64 0, .int .u64 0, sN0, sN0]) := by kernel_rfl
theorem rxor_ok (a b c d : BitVec 64) (w : World) : Calls Tryz.prog 28 [.agg (cel E64 [a, b]).toArray, .agg (cel E64 [c, d]).toArray].toArray w (Ret fun v w' => v = .agg (cel E64 [(a ^^^ c), (b ^^^ d)]).toArray ∧ Ext w w') := by
 have H := Hp.start No w
 refine enter (n := 16) Tryz.func28 rfl rfl (bLe rfl) ?_
 refine sR ?_
 refine q_box (v := .agg (cel E64 [a, b]).toArray) (o := .cells (cel E64 ([a, b])).toArray 83 (0, 0)) H rfl (by rfl) ?_
 intro b1 w2 hb1 H3 hE4
 refine q_box (v := .agg (cel E64 [c, d]).toArray) (o := .cells (cel E64 ([c, d])).toArray 83 (0, 0)) H3 rfl (by rfl) ?_
 intro b5 w6 hb5 H7 hE8
 refine q_alloc (o := .cells (cel E64 ([0#64, 0#64])).toArray 83 (0, 0)) H7 zer83 (by kernel_rfl) ?_
 intro b9 w10 hb9 H11 hE12
 refine wS ?_
 refine sq (r_indexA (off' := 0) (j := 0) arr83 (b := b1) (off := 0) rfl rfl (by first | rfl | omega | (simp; omega)) (by omega) (by omega)) ?_
 refine sq (r_ld1 (E := E64) (l := [a, b]) (j := 0) (a := a) fits34 (H11.get (k := 2) rfl) (by rfl) rfl rfl) ?_
 refine sq (r_indexA (off' := 0) (j := 0) arr83 (b := b5) (off := 0) rfl rfl (by first | rfl | omega | (simp; omega)) (by omega) (by omega)) ?_
 refine sq (r_ld1 (E := E64) (l := [c, d]) (j := 0) (a := c) fits34 (H11.get (k := 1) rfl) (by rfl) rfl rfl) ?_
 refine sq (r_xor64 (a := a) (b := c) rfl rfl) ?_
 refine sq (r_indexA (off' := 1) (j := 1) arr83 (b := b1) (off := 0) rfl rfl (by first | rfl | omega | (simp; omega)) (by omega) (by omega)) ?_
 refine sq (r_ld1 (E := E64) (l := [a, b]) (j := 1) (a := b) fits34 (H11.get (k := 2) rfl) (by rfl) rfl rfl) ?_
 refine sq (r_indexA (off' := 1) (j := 1) arr83 (b := b5) (off := 0) rfl rfl (by first | rfl | omega | (simp; omega)) (by omega) (by omega)) ?_
 refine sq (r_ld1 (E := E64) (l := [c, d]) (j := 1) (a := d) fits34 (H11.get (k := 1) rfl) (by rfl) rfl rfl) ?_
 refine sq (r_xor64 (a := b) (b := d) rfl rfl) ?_
 refine sq (r_buildA (cs' := (cel E64 [a ^^^ c, b ^^^ d]).toArray) (ps := [(0, u64 (a ^^^ c)), (1, u64 (b ^^^ d))]) zer83 arr83 rfl (by rfl)) ?_
 refine d_store (k := 0) (v := .agg (cel E64 [a ^^^ c, b ^^^ d]).toArray) (cs' := (cel E64 ([a ^^^ c, b ^^^ d])).toArray) H11 rfl rfl rfl siz83 (by exact celSize (by first | rfl | (show _ * 1 = _; omega))) (by exact celOne _) (by rw [List.size_toArray, cel_length]; show _ ≤ _ * 1; first | omega | (simp only [List.length_set]; omega) | exact bLe rfl | (simp <;> omega)) (by exact putAll (by first | rfl | omega | (simp <;> omega))) ?_
 intro w13 H14 hC15
 have H14' := H14.as (L' := [_, _, _]) rfl
 clear H14
 refine wend ?_
 refine retAny ?_
 refine retG (rs := [.cell 4 83]) (vs := [.agg (cel E64 ([a ^^^ c, b ^^^ d])).toArray]) rfl ⟨r_loadA (cs' := (cel E64 ([a ^^^ c, b ^^^ d])).toArray) agg83 siz83 (H14'.get (k := 0) rfl) (off := 0) rfl (by exact bLe rfl) (by exact ext_all rfl), trivial⟩ ?_
 exact ⟨_, rfl, rfl, H14'.chg⟩
set_option maxHeartbeats 64000000 in
theorem sima_ok (ops : List Mo) (oa : Option Addr) (oc : Nat) (in0 in1 : List (BitVec 64)) (na0 na1 : Option Addr) (nc0 nc1 : Nat) (tb0 : Nat) (tk0 : Option Nat) (tc0 : Nat) (ts0 : List Value) (ws0 : List (BitVec 64)) (hSw0 : Sl E64 tk0 ws0 tc0 ts0) (hwl0 : ws0.length ≤ 140737488355328) (tb1 : Nat) (tk1 : Option Nat) (tc1 : Nat) (ts1 : List Value) (ws1 : List (BitVec 64)) (hSw1 : Sl E64 tk1 ws1 tc1 ts1) (hwl1 : ws1.length ≤ 140737488355328) (sb0 sb1 : Nat) (st0 st1 : Sk) (hst0 : st0.ok) (hst1 : st1.ok) (R : List (Option Nat × Obj)) (w₀ w : World) (hG : Gl w₀) (hgd : Good ops ((in0.length : Nat) : Int) ((in1.length : Nat) : Int)) (hkd : ∀ j, j < ops.length → KdA (ops.getD j mo0) in0.length in1.length) (hT0 : cntS (fIn ((0 : Nat) : Int)) ops ops.length ≤ ws0.length) (hA0 : cntS fA ops ops.length ≤ st0.t.l.length) (hB0 : cntS fB ops ops.length ≤ st0.b.l.length) (hT1 : cntS (fIn ((1 : Nat) : Int)) ops ops.length ≤ ws1.length) (hA1 : cntS fA ops ops.length ≤ st1.t.l.length) (hB1 : cntS fB ops ops.length ≤ st1.b.l.length) (hO : ∀ w', Ext w₀ w' → (∀ p ∈ R, ∀ b, p.1 = some b → w'.heap[b]? = some p.2) → Rd EMo w' oa ops) (hN0 : ∀ w', Ext w₀ w' → (∀ p ∈ R, ∀ b, p.1 = some b → w'.heap[b]? = some p.2) → Rd E64 w' na0 in0) (hN1 : ∀ w', Ext w₀ w' → (∀ p ∈ R, ∀ b, p.1 = some b → w'.heap[b]? = some p.2) → Rd E64 w' na1 in1) (H : Hp No w₀ w ((rc tb0 #[.slice (ownA tk0) ws0.length tc0, .pointer none, iN ws0.length, iN 0] 96) :: (tk0, sob E64 34 ws0 ts0) :: (rc tb1 #[.slice (ownA tk1) ws1.length tc1, .pointer none, iN ws1.length, iN 0] 96) :: (tk1, sob E64 34 ws1 ts1) :: (skR 66 121 114 sb0 st0 ++ (skR 66 121 114 sb1 st1 ++ R)))) : Calls Tryz.prog 10 [.slice oa ops.length oc, .agg (cel EI [((in0.length : Nat) : Int), ((in1.length : Nat) : Int)]).toArray, .agg #[.slice na0 in0.length nc0, .slice na1 in1.length nc1], .agg #[pT tb0, pT tb1], .agg #[pT sb0, pT sb1]].toArray w (Ret fun v w' => ∃ (k0 : Option Nat) (c0 : Nat) (z0 : List Value) (k1 : Option Nat) (c1 : Nat) (z1 : List Value) (u0 u1 : Sk), v = .tuple #[.agg #[.slice (ownA k0) ops.length c0, .slice (ownA k1) ops.length c1], .nilIface] ∧ Sl E64 k0 (simA ops in0 in1 (dwS ops ((0 : Nat) : Int) (fIn ((0 : Nat) : Int)) ws0 0) (dwS ops ((1 : Nat) : Int) (fIn ((1 : Nat) : Int)) ws1 0) (dtS ops st0.t.l st0.b.l) (dtS ops st1.t.l st1.b.l) ops.length).1 c0 z0 ∧ Sl E64 k1 (simA ops in0 in1 (dwS ops ((0 : Nat) : Int) (fIn ((0 : Nat) : Int)) ws0 0) (dwS ops ((1 : Nat) : Int) (fIn ((1 : Nat) : Int)) ws1 0) (dtS ops st0.t.l st0.b.l) (dtS ops st1.t.l st1.b.l) ops.length).2 c1 z1 ∧ Hp No w₀ w' ((k0, sob E64 34 (simA ops in0 in1 (dwS ops ((0 : Nat) : Int) (fIn ((0 : Nat) : Int)) ws0 0) (dwS ops ((1 : Nat) : Int) (fIn ((1 : Nat) : Int)) ws1 0) (dtS ops st0.t.l st0.b.l) (dtS ops st1.t.l st1.b.l) ops.length).1 z0) :: (k1, sob E64 34 (simA ops in0 in1 (dwS ops ((0 : Nat) : Int) (fIn ((0 : Nat) : Int)) ws0 0) (dwS ops ((1 : Nat) : Int) (fIn ((1 : Nat) : Int)) ws1 0) (dtS ops st0.t.l st0.b.l) (dtS ops st1.t.l st1.b.l) ops.length).2 z1) :: (skR 66 121 114 sb0 u0 ++ (skR 66 121 114 sb1 u1 ++ R)))) := by
 let x48 : Value := .agg (cel E64 ([0#64, 0#64])).toArray
 let x45 : Value := .slice oa ops.length oc
 let x44 := rc tb1 #[.slice (ownA tk1) ws1.length tc1, .pointer none, iN ws1.length, iN (0 + cntS (fIn ((1 : Nat) : Int)) ops ops.length)] 96
 let x41 : Array Value := #[.slice na0 in0.length nc0, .slice na1 in1.length nc1]
 let x38 : Value := .agg (cel E64 [0#64, 0#64]).toArray
 let x35 := rc tb0 #[.slice (ownA tk0) ws0.length tc0, .pointer none, iN ws0.length, iN 0] 96
 let x29 : Option Nat × Obj := (tk1, sob E64 34 ws1 ts1)
 let x22 : Option Nat × Obj := (tk0, sob E64 34 ws0 ts0)
 let x32 : List (Option Nat × Obj) := [x35, x22]
 let x13 := rc tb0 #[.slice (ownA tk0) ws0.length tc0, .pointer none, iN ws0.length, iN (0 + cntS (fIn ((0 : Nat) : Int)) ops ops.length)] 96
 let x4 := rc tb1 #[.slice (ownA tk1) ws1.length tc1, .pointer none, iN ws1.length, iN 0] 96
 have hop := hgd.len
 have hng : ∀ j, j < ops.length → (ops.getD j mo0).kd ≠ 17 := fun j hj e => by have := (hkd j hj).kd; omega
 refine enter (n := 149) Tryz.func10 rfl rfl (bLe rfl) ?_
 refine sR ?_
 refine q_box (v := .agg (cel EI [((in0.length : Nat) : Int), ((in1.length : Nat) : Int)]).toArray) (o := .cells (cel EI ([((in0.length : Nat) : Int), ((in1.length : Nat) : Int)])).toArray 29 (0, 0)) H rfl (by rfl) ?_
 intro b201 w202 hb201 H203 hE204
 let x7 := re b201 EI ([((in0.length : Nat) : Int), ((in1.length : Nat) : Int)]) 29
 refine q_box (v := .agg x41) (o := .cells x41 24 (0, 0)) H203 rfl (by rfl) ?_
 intro b205 w206 hb205 H207 hE208
 let x1 := rc b205 x41 24
 refine q_box (v := .agg #[pT tb0, pT tb1]) (o := .cells #[pT tb0, pT tb1] 50 (0, 0)) H207 rfl (by rfl) ?_
 intro b209 w210 hb209 H211 hE212
 let x9 := rc b209 #[pT tb0, pT tb1] 50
 refine q_box (v := .agg #[pT sb0, pT sb1]) (o := .cells #[pT sb0, pT sb1] 38 (0, 0)) H211 rfl (by rfl) ?_
 intro b213 w214 hb213 H215 hE216
 let x8 := rc b213 #[pT sb0, pT sb1] 38
 refine q_alloc (o := .cells #[sN0, sN0] 24 (0, 0)) H215 zer24 (by kernel_rfl) ?_
 intro b217 w218 hb217 H219 hE220
 let x5 := rc b217 #[sN0, sN0] 24
 refine sA (.nilIface) rfl ?_
 refine wend ?_
 refine seqAny ?_
 refine sR ?_
 refine sM (.slice oa ops.length oc) rfl ?_
 refine sq (r_loadA (cs' := (cel EI ([((in0.length : Nat) : Int), ((in1.length : Nat) : Int)])).toArray) agg29 siz29 (H219.get (k := 4) rfl) (off := 0) rfl (by exact bLe rfl) (by exact ext_all rfl)) ?_
 refine c_call (vs := [x45, .agg (cel EI ([((in0.length : Nat) : Int), ((in1.length : Nat) : Int)])).toArray]) call8 rfl (mcheck_yes ops oa oc ((in0.length : Nat) : Int) ((in1.length : Nat) : Int) ops.length (by rfl) w218 (Chg.gl H219.chg (fun x => x) hG) (hO _ H219.chg (fun p hp => H219.has p (List.mem_cons_of_mem _ (List.mem_cons_of_mem _ (List.mem_cons_of_mem _ (List.mem_cons_of_mem _ (List.mem_cons_of_mem _ (List.mem_cons_of_mem _ (List.mem_cons_of_mem _ (List.mem_cons_of_mem _ (List.mem_cons_of_mem _ ((List.mem_append_right _ (List.mem_append_right _ hp)))))))))))))) (by omega) hgd) ?_
 rintro _ w221 ⟨rfl, hE222⟩
 have H223 := H219.ext hE222
 refine sA (.nilIface) rfl ?_
 refine wS ?_
 refine sM (.nilIface) rfl ?_
 refine sq ((r_neqNN isI31 rfl rfl).as (v' := .bool false) (by rfl)) ?_
 refine wend ?_
 refine condFalse rfl ?_
 refine skipAny ?_
 refine thenNormal ?_
 refine seqAny ?_
 refine sR ?_
 refine sM (i64 0) rfl ?_
 refine wend ?_
 refine blockAny ?_
 refine loopAny (σ := Nat) (fun q => [(0, .slice oa ops.length oc), (6, pT b201), (7, pT b205), (8, pT b209), (9, pT b213), (10, pT b217), (11, .nilIface), (33, iN q)]) (fun q w' => q ≤ 2 ∧ Hp No w₀ w' (x5 :: x8 :: x9 :: x1 :: x7 :: x35 :: x22 :: x4 :: x29 :: (skR 66 121 114 sb0 st0 ++ (skR 66 121 114 sb1 st1 ++ R)))) (fun q => 2 - q) (0) ?_ ?_ ?_
 ·exact ⟨rfl, rfl, rfl, rfl, rfl, rfl, rfl, rfl, trivial⟩
 ·exact ⟨Nat.zero_le _, H223⟩
 rintro q ρ w224 ⟨hq, HL⟩
 rcases (show q = 0 ∨ q = 1 ∨ q = 2 by omega) with rfl | rfl | rfl
 ·refine sR ?_
  refine sq ((r_lssI (a := (0 : Nat)) (b := (2 : Int)) rfl rfl).as (v' := .bool true) (by rfl)) ?_
  refine wend ?_
  refine seqAny ?_
  refine condTrue rfl ?_
  refine skipAny ?_
  refine thenNormal ?_
  refine seqAny ?_
  refine blockAny ?_
  refine sR ?_
  refine sM (iN 0) rfl ?_
  refine sA (iN 0) rfl ?_
  refine wend ?_
  refine seqAny ?_
  refine drawAny (K := [none, none, none, none, none, none, none, none]) [0, 1, 3, 7, 0, 16, 48, 127] (fun w' => Ext w224 w') (fun w' w'' => Ext w' w'') mixed (by kernel_rfl) (Ext.drew _) (fun _ _ h h' => h.trans h') ?_ ?_
  ·exact relNone (by decide)
  refine ⟨iN 0, fun _ uw226 hC227 _ => Gives.run rfl (r_move (v := iN 0) rfl) ⟨rfl, Chg.refl _ _⟩, ?_⟩
  refine ⟨pT b205, fun _ uw228 hC229 _ => Gives.run rfl (r_indexA (off' := 0) (j := 0) arr24 (b := b205) (off := 0) rfl rfl (by first | rfl | omega | (simp; omega)) (by omega) (by omega)) ⟨rfl, Chg.refl _ _⟩, ?_⟩
  refine ⟨.slice na0 in0.length nc0, fun _ uw230 hC231 _ => Gives.run rfl (r_loadC (v := .slice na0 in0.length nc0) one23 ((HL.ext hC231).get (k := 3) rfl) (off := 0) rfl (by rfl)) ⟨rfl, Chg.refl _ _⟩, ?_⟩
  refine ⟨iN in0.length, fun _ uw232 hC233 _ => Gives.run rfl (r_lenS sli23 (a := na0) (m := in0.length) (c := nc0) rfl) ⟨rfl, Chg.refl _ _⟩, ?_⟩
  refine ⟨iN 0, fun _ uw234 hC235 _ => Gives.run rfl (r_move (v := iN 0) rfl) ⟨rfl, Chg.refl _ _⟩, ?_⟩
  refine ⟨pT b201, fun _ uw236 hC237 _ => Gives.run rfl (r_indexA (off' := 0) (j := 0) arr29 (b := b201) (off := 0) rfl rfl (by first | rfl | omega | (simp; omega)) (by omega) (by omega)) ⟨rfl, Chg.refl _ _⟩, ?_⟩
  refine ⟨i64 (((in0.length : Nat) : Int)), fun _ uw238 hC239 _ => Gives.run rfl (r_ld1 (E := EI) (l := [((in0.length : Nat) : Int), ((in1.length : Nat) : Int)]) (j := 0) (a := ((in0.length : Nat) : Int)) fits3 ((HL.ext hC239).get (k := 4) rfl) (by rfl) rfl rfl) ⟨rfl, Chg.refl _ _⟩, ?_⟩
  refine ⟨.bool false, fun _ uw240 hC241 _ => Gives.run rfl ((r_neqI (a := (in0.length : Nat)) (b := ((in0.length : Nat) : Int)) rfl rfl).as (v' := .bool false) (by exact congrArg Value.bool (decide_eq_false (by omega)))) ⟨rfl, Chg.refl _ _⟩, ?_⟩
  intro r245 w242 hE244 hF
  have H243 := HL.ext hE244
  refine wnil ?_
  refine thenNormal ?_
  refine condFalse rfl ?_
  refine skipAny ?_
  refine blockNormal ?_
  refine thenNormal ?_
  refine oneRegion ?_
  refine sq (r_addI (a := (0 : Nat)) (b := (1 : Int)) rfl rfl (by omega)) ?_
  refine sM (i64 ((0 : Nat) + (1 : Int))) rfl ?_
  refine wnil ?_
  refine thenNormal ?_
  exact ⟨0 + 1, _, rfl, ⟨rfl, rfl, rfl, rfl, rfl, rfl, rfl, rfl, trivial⟩, ⟨by omega, H243⟩, by show 2 - (0 + 1) < 2 - 0; omega⟩
 ·refine sR ?_
  refine sq ((r_lssI (a := (1 : Nat)) (b := (2 : Int)) rfl rfl).as (v' := .bool true) (by rfl)) ?_
  refine wend ?_
  refine seqAny ?_
  refine condTrue rfl ?_
  refine skipAny ?_
  refine thenNormal ?_
  refine seqAny ?_
  refine blockAny ?_
  refine sR ?_
  refine sM (iN 1) rfl ?_
  refine sA (iN 1) rfl ?_
  refine wend ?_
  refine seqAny ?_
  refine drawAny (K := [none, none, none, none, none, none, none, none]) [0, 1, 3, 7, 0, 16, 48, 127] (fun w' => Ext w224 w') (fun w' w'' => Ext w' w'') mixed (by kernel_rfl) (Ext.drew _) (fun _ _ h h' => h.trans h') ?_ ?_
  ·exact relNone (by decide)
  refine ⟨iN 1, fun _ uw246 hC247 _ => Gives.run rfl (r_move (v := iN 1) rfl) ⟨rfl, Chg.refl _ _⟩, ?_⟩
  refine ⟨.pointer (some ⟨b205, 1, none⟩), fun _ uw248 hC249 _ => Gives.run rfl (r_indexA (off' := 1) (j := 1) arr24 (b := b205) (off := 0) rfl rfl (by first | rfl | omega | (simp; omega)) (by omega) (by omega)) ⟨rfl, Chg.refl _ _⟩, ?_⟩
  refine ⟨.slice na1 in1.length nc1, fun _ uw250 hC251 _ => Gives.run rfl (r_loadC (v := .slice na1 in1.length nc1) one23 ((HL.ext hC251).get (k := 3) rfl) (off := 1) rfl (by rfl)) ⟨rfl, Chg.refl _ _⟩, ?_⟩
  refine ⟨iN in1.length, fun _ uw252 hC253 _ => Gives.run rfl (r_lenS sli23 (a := na1) (m := in1.length) (c := nc1) rfl) ⟨rfl, Chg.refl _ _⟩, ?_⟩
  refine ⟨iN 1, fun _ uw254 hC255 _ => Gives.run rfl (r_move (v := iN 1) rfl) ⟨rfl, Chg.refl _ _⟩, ?_⟩
  refine ⟨.pointer (some ⟨b201, 1, none⟩), fun _ uw256 hC257 _ => Gives.run rfl (r_indexA (off' := 1) (j := 1) arr29 (b := b201) (off := 0) rfl rfl (by first | rfl | omega | (simp; omega)) (by omega) (by omega)) ⟨rfl, Chg.refl _ _⟩, ?_⟩
  refine ⟨i64 (((in1.length : Nat) : Int)), fun _ uw258 hC259 _ => Gives.run rfl (r_ld1 (E := EI) (l := [((in0.length : Nat) : Int), ((in1.length : Nat) : Int)]) (j := 1) (a := ((in1.length : Nat) : Int)) fits3 ((HL.ext hC259).get (k := 4) rfl) (by rfl) rfl rfl) ⟨rfl, Chg.refl _ _⟩, ?_⟩
  refine ⟨.bool false, fun _ uw260 hC261 _ => Gives.run rfl ((r_neqI (a := (in1.length : Nat)) (b := ((in1.length : Nat) : Int)) rfl rfl).as (v' := .bool false) (by exact congrArg Value.bool (decide_eq_false (by omega)))) ⟨rfl, Chg.refl _ _⟩, ?_⟩
  intro r265 w262 hE264 hF
  have H263 := HL.ext hE264
  refine wnil ?_
  refine thenNormal ?_
  refine condFalse rfl ?_
  refine skipAny ?_
  refine blockNormal ?_
  refine thenNormal ?_
  refine oneRegion ?_
  refine sq (r_addI (a := (1 : Nat)) (b := (1 : Int)) rfl rfl (by omega)) ?_
  refine sM (i64 ((1 : Nat) + (1 : Int))) rfl ?_
  refine wnil ?_
  refine thenNormal ?_
  exact ⟨1 + 1, _, rfl, ⟨rfl, rfl, rfl, rfl, rfl, rfl, rfl, rfl, trivial⟩, ⟨by omega, H263⟩, by show 2 - (1 + 1) < 2 - 1; omega⟩
 ·refine sR ?_
  refine sq ((r_lssI (a := (2 : Nat)) (b := (2 : Int)) rfl rfl).as (v' := .bool false) (by rfl)) ?_
  refine wend ?_
  refine seqAny ?_
  refine condFalse rfl ?_
  refine exitAny ?_
  refine thenExit ?_
  refine thenExit ?_
  refine blockHere ?_
  refine thenNormal ?_
  refine sR ?_
  refine q_alloc (o := .cells #[sN0, sN0] 81 (0, 0)) HL zer81 (by kernel_rfl) ?_
  intro b266 w267 hb266 H268 hE269
  let x17 := rc b266 #[sN0, sN0] 81
  refine wS ?_
  refine q_alloc (o := .cells (cel E64 ([0#64, 0#64])).toArray 83 (0, 0)) H268 zer83 (by kernel_rfl) ?_
  intro b270 w271 hb270 H272 hE273
  let x23 := re b270 E64 ([0#64, 0#64]) 83
  let x15 := re b270 E64 ([((0#64) ^^^ (0#64)), ((0#64) ^^^ (0#64))]) 83
  let x2 := re b270 E64 ([((((0#64) ^^^ (0#64))) ^^^ (0#64)), ((((0#64) ^^^ (0#64))) ^^^ (0#64))]) 83
  refine wend ?_
  refine seqAny ?_
  refine sR ?_
  refine sM (i64 0) rfl ?_
  refine wend ?_
  refine blockAny ?_
  refine loopAny (σ := Nat × List (Option Nat × Obj)) (fun (q, LL) => [(0, .slice oa ops.length oc), (6, pT b201), (7, pT b205), (8, pT b209), (9, pT b213), (10, pT b217), (11, .nilIface), (14, pT b266), (15, pT b270), (49, iN q)]) (fun (q, LL) w' => (q ≤ 2 ∧ ((q = 0 ∧ LL = (x23 :: x17 :: x5 :: x8 :: x9 :: x1 :: (re b201 EI ([((in0.length : Nat) : Int), ((in1.length : Nat) : Int)]) 29) :: x35 :: x22 :: x4 :: x29 :: (skR 66 121 114 sb0 st0 ++ (skR 66 121 114 sb1 st1 ++ R)))) ∨ (q = 1 ∧ ∃ (kd0 : Option Nat) (cd0 : Nat) (sd0 : List Value) (ds0 : List Dr) (sk0 : Sk), (Sl EDr kd0 ds0 cd0 sd0) ∧ (DrN (dwS ops ((0 : Nat) : Int) (fIn ((0 : Nat) : Int)) ws0 0) (dtS ops st0.t.l st0.b.l) ops.length ds0 ops.length) ∧ (sk0.ok) ∧ (sk0.t.l = st0.t.l.drop (cntS fA ops ops.length)) ∧ (sk0.b.l = st0.b.l.drop (cntS fB ops ops.length)) ∧ (sk0.o = st0.o) ∧ LL = ((kd0, sob EDr 91 ds0 sd0) :: x15 :: (rc b266 #[.slice (ownA kd0) ops.length cd0, sN0] 81) :: x5 :: x8 :: x9 :: x1 :: (re b201 EI ([((in0.length : Nat) : Int), ((in1.length : Nat) : Int)]) 29) :: (rc tb0 #[.slice (ownA tk0) ws0.length tc0, .pointer none, iN ws0.length, iN (0 + cntS (fIn ((0 : Nat) : Int)) ops ops.length)] 96) :: x22 :: x4 :: x29 :: (skR 66 121 114 sb0 sk0 ++ (skR 66 121 114 sb1 st1 ++ R)))) ∨ (q = 2 ∧ ∃ (kd0 : Option Nat) (cd0 : Nat) (sd0 : List Value) (ds0 : List Dr) (sk0 : Sk) (kd1 : Option Nat) (cd1 : Nat) (sd1 : List Value) (ds1 : List Dr) (sk1 : Sk), (Sl EDr kd0 ds0 cd0 sd0) ∧ (DrN (dwS ops ((0 : Nat) : Int) (fIn ((0 : Nat) : Int)) ws0 0) (dtS ops st0.t.l st0.b.l) ops.length ds0 ops.length) ∧ (sk0.ok) ∧ (sk0.t.l = st0.t.l.drop (cntS fA ops ops.length)) ∧ (sk0.b.l = st0.b.l.drop (cntS fB ops ops.length)) ∧ (sk0.o = st0.o) ∧ (Sl EDr kd1 ds1 cd1 sd1) ∧ (DrN (dwS ops ((1 : Nat) : Int) (fIn ((1 : Nat) : Int)) ws1 0) (dtS ops st1.t.l st1.b.l) ops.length ds1 ops.length) ∧ (sk1.ok) ∧ (sk1.t.l = st1.t.l.drop (cntS fA ops ops.length)) ∧ (sk1.b.l = st1.b.l.drop (cntS fB ops ops.length)) ∧ (sk1.o = st1.o) ∧ LL = ((kd0, sob EDr 91 ds0 sd0) :: (kd1, sob EDr 91 ds1 sd1) :: x2 :: (rc b266 #[.slice (ownA kd0) ops.length cd0, .slice (ownA kd1) ops.length cd1] 81) :: x5 :: x8 :: x9 :: x1 :: (re b201 EI ([((in0.length : Nat) : Int), ((in1.length : Nat) : Int)]) 29) :: (rc tb0 #[.slice (ownA tk0) ws0.length tc0, .pointer none, iN ws0.length, iN (0 + cntS (fIn ((0 : Nat) : Int)) ops ops.length)] 96) :: x22 :: (rc tb1 #[.slice (ownA tk1) ws1.length tc1, .pointer none, iN ws1.length, iN (0 + cntS (fIn ((1 : Nat) : Int)) ops ops.length)] 96) :: x29 :: (skR 66 121 114 sb0 sk0 ++ (skR 66 121 114 sb1 sk1 ++ R)))))) ∧ Hp No w₀ w' LL) (fun (q, LL) => 2 - q) ((0, (x23 :: x17 :: x5 :: x8 :: x9 :: x1 :: (re b201 EI ([((in0.length : Nat) : Int), ((in1.length : Nat) : Int)]) 29) :: x35 :: x22 :: x4 :: x29 :: (skR 66 121 114 sb0 st0 ++ (skR 66 121 114 sb1 st1 ++ R))))) ?_ ?_ ?_
  ·exact ⟨rfl, rfl, rfl, rfl, rfl, rfl, rfl, rfl, rfl, rfl, trivial⟩
  ·exact ⟨⟨Nat.zero_le _, .inl ⟨rfl, rfl⟩⟩, H272⟩
  rintro ⟨q, LL⟩ ρ w274 ⟨⟨hq2, hstg⟩, HL⟩
  rcases hstg with ⟨rfl, rfl⟩ | ⟨rfl, kd0, cd0, sd0, ds0, sk0, hSd0, hdr0, hok0, hst0, hsb0, hso0, rfl⟩ | ⟨rfl, kd0, cd0, sd0, ds0, sk0, kd1, cd1, sd1, ds1, sk1, hSd0, hdr0, hok0, hst0, hsb0, hso0, hSd1, hdr1, hok1, hst1, hsb1, hso1, rfl⟩
  ·refine sR ?_
   refine sq ((r_lssI (a := (0 : Nat)) (b := (2 : Int)) rfl rfl).as (v' := .bool true) (by rfl)) ?_
   refine wend ?_
   refine seqAny ?_
   refine condTrue rfl ?_
   refine skipAny ?_
   refine thenNormal ?_
   refine seqAny ?_
   refine blockAny ?_
   refine sR ?_
   refine sM (iN 0) rfl ?_
   refine sA (iN 0) rfl ?_
   refine wend ?_
   refine seqAny ?_
   refine drawP (m := 17) [0, 0, 0, 4, 12, 0, 32, 96, 255, 511, 1023, 1023, 1023, 0, 10239, 28671, 65535] [8, 13, 15] (fun bs vs w' => match bs, vs with | [false, false, false], [_, _, _] => Hp No w₀ w' (x23 :: x17 :: x5 :: x8 :: x9 :: x1 :: (re b201 EI ([((in0.length : Nat) : Int), ((in1.length : Nat) : Int)]) 29) :: x35 :: x22 :: x4 :: x29 :: (skR 66 121 114 sb0 st0 ++ (skR 66 121 114 sb1 st1 ++ R))) | [true, false, false], [v8, _, _] => ∃ (kd281 : Option Nat) (cd282 : Nat) (sd283 : List Value) (ds284 : List Dr) (sk285 : Sk), v8 = .tuple #[.slice (ownA kd281) ops.length cd282, .agg (cel E64 [0#64, 0#64]).toArray, .nilIface] ∧ Sl EDr kd281 ds284 cd282 sd283 ∧ DrN (dwS ops ((0 : Nat) : Int) (fIn ((0 : Nat) : Int)) ws0 0) (dtS ops st0.t.l st0.b.l) ops.length ds284 ops.length ∧ sk285.ok ∧ sk285.t.l = st0.t.l.drop (cntS fA ops ops.length) ∧ sk285.b.l = st0.b.l.drop (cntS fB ops ops.length) ∧ sk285.o = st0.o ∧ Hp No w₀ w' ((kd281, sob EDr 91 ds284 sd283) :: (rc tb0 #[.slice (ownA tk0) ws0.length tc0, .pointer none, iN ws0.length, iN (0 + cntS (fIn ((0 : Nat) : Int)) ops ops.length)] 96) :: x22 :: x23 :: x17 :: x5 :: x8 :: x9 :: x1 :: (re b201 EI ([((in0.length : Nat) : Int), ((in1.length : Nat) : Int)]) 29) :: x4 :: x29 :: (skR 66 121 114 sb0 sk285 ++ (skR 66 121 114 sb1 st1 ++ R))) | [false, true, false], [_, v13, _] => ∃ (b295 : Nat), v13 = pT b295 ∧ Hp No w₀ w' ((re b295 E64 ([0#64, 0#64]) 83) :: x23 :: x17 :: x5 :: x8 :: x9 :: x1 :: (re b201 EI ([((in0.length : Nat) : Int), ((in1.length : Nat) : Int)]) 29) :: x35 :: x22 :: x4 :: x29 :: (skR 66 121 114 sb0 st0 ++ (skR 66 121 114 sb1 st1 ++ R))) | [true, true, false], [v8, v13, _] => ∃ (kd281 : Option Nat) (cd282 : Nat) (sd283 : List Value) (ds284 : List Dr) (sk285 : Sk) (b300 : Nat), v8 = .tuple #[.slice (ownA kd281) ops.length cd282, .agg (cel E64 [0#64, 0#64]).toArray, .nilIface] ∧ v13 = pT b300 ∧ Sl EDr kd281 ds284 cd282 sd283 ∧ DrN (dwS ops ((0 : Nat) : Int) (fIn ((0 : Nat) : Int)) ws0 0) (dtS ops st0.t.l st0.b.l) ops.length ds284 ops.length ∧ sk285.ok ∧ sk285.t.l = st0.t.l.drop (cntS fA ops ops.length) ∧ sk285.b.l = st0.b.l.drop (cntS fB ops ops.length) ∧ sk285.o = st0.o ∧ Hp No w₀ w' ((re b300 E64 ([0#64, 0#64]) 83) :: (kd281, sob EDr 91 ds284 sd283) :: (rc tb0 #[.slice (ownA tk0) ws0.length tc0, .pointer none, iN ws0.length, iN (0 + cntS (fIn ((0 : Nat) : Int)) ops ops.length)] 96) :: x22 :: x23 :: x17 :: x5 :: x8 :: x9 :: x1 :: (re b201 EI ([((in0.length : Nat) : Int), ((in1.length : Nat) : Int)]) 29) :: x4 :: x29 :: (skR 66 121 114 sb0 sk285 ++ (skR 66 121 114 sb1 st1 ++ R))) | [true, true, true], [v8, v13, _] => ∃ (kd281 : Option Nat) (cd282 : Nat) (sd283 : List Value) (ds284 : List Dr) (sk285 : Sk) (b300 : Nat), v8 = .tuple #[.slice (ownA kd281) ops.length cd282, .agg (cel E64 [0#64, 0#64]).toArray, .nilIface] ∧ v13 = pT b300 ∧ Sl EDr kd281 ds284 cd282 sd283 ∧ DrN (dwS ops ((0 : Nat) : Int) (fIn ((0 : Nat) : Int)) ws0 0) (dtS ops st0.t.l st0.b.l) ops.length ds284 ops.length ∧ sk285.ok ∧ sk285.t.l = st0.t.l.drop (cntS fA ops ops.length) ∧ sk285.b.l = st0.b.l.drop (cntS fB ops ops.length) ∧ sk285.o = st0.o ∧ Hp No w₀ w' ((re b300 E64 ([0#64, 0#64]) 83) :: (kd281, sob EDr 91 ds284 sd283) :: (rc tb0 #[.slice (ownA tk0) ws0.length tc0, .pointer none, iN ws0.length, iN (0 + cntS (fIn ((0 : Nat) : Int)) ops ops.length)] 96) :: x22 :: x23 :: x17 :: x5 :: x8 :: x9 :: x1 :: (re b201 EI ([((in0.length : Nat) : Int), ((in1.length : Nat) : Int)]) 29) :: x4 :: x29 :: (skR 66 121 114 sb0 sk285 ++ (skR 66 121 114 sb1 st1 ++ R))) | _, _ => False) mixed (by kernel_rfl) (by kernel_rfl) HL.drew ?_
   refine WalkP.look rfl (fun _ => .slice oa ops.length oc) (fun _ _ _ => rfl) (fun L r uw _ _ _ => Gives.run rfl (r_move (v := .slice oa ops.length oc) rfl) ⟨rfl, rfl⟩) ?_
   refine WalkP.look rfl (fun _ => iN 0) (fun _ _ _ => rfl) (fun L r uw _ _ _ => Gives.run rfl (r_move (v := iN 0) rfl) ⟨rfl, rfl⟩) ?_
   refine WalkP.look rfl (fun _ => iN 0) (fun _ _ _ => rfl) (fun L r uw _ _ _ => Gives.run rfl (r_move (v := iN 0) rfl) ⟨rfl, rfl⟩) ?_
   refine WalkP.look rfl (fun _ => pT b209) (fun _ _ _ => rfl) (fun L r uw _ _ _ => Gives.run rfl (r_indexA (off' := 0) (j := 0) arr50 (b := b209) (off := 0) rfl rfl (by first | rfl | omega | (simp; omega)) (by omega) (by omega)) ⟨rfl, rfl⟩) ?_
   refine WalkP.look rfl (fun _ => pT tb0) (fun _ _ _ => rfl) (fun L r uw hAn hDn hF => ?_) ?_
   ·have b8 := hDn 8 (by decide) rfl
    have b15 := hDn 15 (by decide) rfl
    rcases bTF (L 13) with b13 | b13
    ·have hb := mp3 b8 b13 b15
     rw [hb] at hF
     obtain ⟨b295, e13, HH⟩ := hF
     exact Gives.run rfl (r_loadC (v := pT tb0) one48 (HH.get (k := 5) rfl) (off := 0) rfl (by rfl)) ⟨rfl, rfl⟩
    ·have hb := mp3 b8 b13 b15
     rw [hb] at hF
     have HH := hF
     exact Gives.run rfl (r_loadC (v := pT tb0) one48 (HH.get (k := 4) rfl) (off := 0) rfl (by rfl)) ⟨rfl, rfl⟩
   refine WalkP.look rfl (fun _ => iN 0) (fun _ _ _ => rfl) (fun L r uw _ _ _ => Gives.run rfl (r_move (v := iN 0) rfl) ⟨rfl, rfl⟩) ?_
   refine WalkP.look rfl (fun _ => pT b213) (fun _ _ _ => rfl) (fun L r uw _ _ _ => Gives.run rfl (r_indexA (off' := 0) (j := 0) arr38 (b := b213) (off := 0) rfl rfl (by first | rfl | omega | (simp; omega)) (by omega) (by omega)) ⟨rfl, rfl⟩) ?_
   refine WalkP.look rfl (fun _ => pT sb0) (fun _ _ _ => rfl) (fun L r uw hAn hDn hF => ?_) ?_
   ·have b8 := hDn 8 (by decide) rfl
    have b15 := hDn 15 (by decide) rfl
    rcases bTF (L 13) with b13 | b13
    ·have hb := mp3 b8 b13 b15
     rw [hb] at hF
     obtain ⟨b295, e13, HH⟩ := hF
     exact Gives.run rfl (r_loadC (v := pT sb0) one37 (HH.get (k := 4) rfl) (off := 0) rfl (by rfl)) ⟨rfl, rfl⟩
    ·have hb := mp3 b8 b13 b15
     rw [hb] at hF
     have HH := hF
     exact Gives.run rfl (r_loadC (v := pT sb0) one37 (HH.get (k := 3) rfl) (off := 0) rfl (by rfl)) ⟨rfl, rfl⟩
   refine WalkP.eff 0 rfl (fun L r uw hLn hAn hDn hF => ?_) ?_
   ·have b8 : L 8 = false := hLn
    have b15 := hDn 15 (by decide) rfl
    rcases bTF (L 13) with b13 | b13
    ·have hb := mp3 b8 b13 b15
     rw [hb] at hF ⊢
     obtain ⟨b295, e13, H308⟩ := hF
     let x25 := re b295 E64 ([0#64, 0#64]) 83
     dsimp only
     refine Gives.ofW (d := 61) rfl rfl (fun Q' hK => ?_)
     have H310 := (Hp.midP (P := x32) (X := [x25, x23, x17, x5, x8, x9, x1, x7, x4, x29]) (A := skR 66 121 114 sb0 st0) (Y := skR 66 121 114 sb1 st1 ++ R) (H308.pick 12 [8, 9, 0, 1, 2, 3, 4, 5, 6, 7, 10, 11] (by decide) (by decide))).as (L' := (_ :: _ :: (skR 66 121 114 sb0 st0 ++ ([x25, x23, x17, x5, x8, x9, x1, x7, x4, x29] ++ (skR 66 121 114 sb1 st1 ++ R))))) rfl
     refine c_call (vs := [x45, iN 0, pT tb0, pT sb0]) call27 rfl (drawn_ok ops oa oc 0 tb0 tk0 tc0 ts0 ws0 hSw0 hwl0 sb0 st0 hst0 ([x25, x23, x17, x5, x8, x9, x1, x7, x4, x29] ++ (skR 66 121 114 sb1 st1 ++ R)) w₀ uw hng hop hT0 (by rw [show st0.t.l.length = st0.t.l.length from rfl]; exact hA0) (by rw [show st0.b.l.length = st0.b.l.length from rfl]; exact hB0) (fun w1 hE hp => hO w1 hE (fun p hp2 => hp p (List.mem_append_right _ (List.mem_append_right _ hp2)))) H310) ?_
     rintro _ w311 ⟨kd313, cd314, sd315, ds316, sk317, rfl, hSd318, hdr319, hok320, hst321, hsb322, hso323, HN324⟩
     have H325 := (Hp.midP (P := [(kd313, sob EDr 91 ds316 sd315), x13, x22]) (X := skR 66 121 114 sb0 sk317) (A := [x25, x23, x17, x5, x8, x9, x1, x7, x4, x29]) (Y := skR 66 121 114 sb1 st1 ++ R) HN324).as (L' := (_ :: _ :: _ :: _ :: _ :: _ :: _ :: _ :: _ :: _ :: _ :: _ :: _ :: (skR 66 121 114 sb0 sk317 ++ (skR 66 121 114 sb1 st1 ++ R)))) rfl
     exact hK _ _ (show ∃ (kd281 : Option Nat) (cd282 : Nat) (sd283 : List Value) (ds284 : List Dr) (sk285 : Sk) (b300 : Nat), (_ : Value) = .tuple #[.slice (ownA kd281) ops.length cd282, .agg (cel E64 [0#64, 0#64]).toArray, .nilIface] ∧ r 13 = pT b300 ∧ Sl EDr kd281 ds284 cd282 sd283 ∧ DrN (dwS ops ((0 : Nat) : Int) (fIn ((0 : Nat) : Int)) ws0 0) (dtS ops st0.t.l st0.b.l) ops.length ds284 ops.length ∧ sk285.ok ∧ sk285.t.l = st0.t.l.drop (cntS fA ops ops.length) ∧ sk285.b.l = st0.b.l.drop (cntS fB ops ops.length) ∧ sk285.o = st0.o ∧ Hp No w₀ w311 ((re b300 E64 ([0#64, 0#64]) 83) :: (kd281, sob EDr 91 ds284 sd283) :: (rc tb0 #[.slice (ownA tk0) ws0.length tc0, .pointer none, iN ws0.length, iN (0 + cntS (fIn ((0 : Nat) : Int)) ops ops.length)] 96) :: x22 :: x23 :: x17 :: x5 :: x8 :: x9 :: x1 :: (re b201 EI ([((in0.length : Nat) : Int), ((in1.length : Nat) : Int)]) 29) :: x4 :: x29 :: (skR 66 121 114 sb0 sk285 ++ (skR 66 121 114 sb1 st1 ++ R))) from ⟨kd313, cd314, sd315, ds316, sk317, b295, rfl, e13, hSd318, hdr319, hok320, hst321, hsb322, hso323, ((((H325.pull (k := 2) rfl).pull (k := 2) rfl).pull (k := 2) rfl).pull (k := 3) rfl)⟩)
    ·have hb := mp3 b8 b13 b15
     rw [hb] at hF ⊢
     have H326 := hF
     dsimp only
     refine Gives.ofW (d := 61) rfl rfl (fun Q' hK => ?_)
     have H328 := (Hp.midP (P := x32) (X := [x23, x17, x5, x8, x9, x1, x7, x4, x29]) (A := skR 66 121 114 sb0 st0) (Y := skR 66 121 114 sb1 st1 ++ R) (H326.pick 11 [7, 8, 0, 1, 2, 3, 4, 5, 6, 9, 10] (by decide) (by decide))).as (L' := (_ :: _ :: (skR 66 121 114 sb0 st0 ++ ([x23, x17, x5, x8, x9, x1, x7, x4, x29] ++ (skR 66 121 114 sb1 st1 ++ R))))) rfl
     refine c_call (vs := [x45, iN 0, pT tb0, pT sb0]) call27 rfl (drawn_ok ops oa oc 0 tb0 tk0 tc0 ts0 ws0 hSw0 hwl0 sb0 st0 hst0 ([x23, x17, x5, x8, x9, x1, x7, x4, x29] ++ (skR 66 121 114 sb1 st1 ++ R)) w₀ uw hng hop hT0 (by rw [show st0.t.l.length = st0.t.l.length from rfl]; exact hA0) (by rw [show st0.b.l.length = st0.b.l.length from rfl]; exact hB0) (fun w1 hE hp => hO w1 hE (fun p hp2 => hp p (List.mem_append_right _ (List.mem_append_right _ hp2)))) H328) ?_
     rintro _ w329 ⟨kd331, cd332, sd333, ds334, sk335, rfl, hSd336, hdr337, hok338, hst339, hsb340, hso341, HN342⟩
     have H343 := (Hp.midP (P := [(kd331, sob EDr 91 ds334 sd333), x13, x22]) (X := skR 66 121 114 sb0 sk335) (A := [x23, x17, x5, x8, x9, x1, x7, x4, x29]) (Y := skR 66 121 114 sb1 st1 ++ R) HN342).as (L' := (_ :: _ :: _ :: _ :: _ :: _ :: _ :: _ :: _ :: _ :: _ :: _ :: (skR 66 121 114 sb0 sk335 ++ (skR 66 121 114 sb1 st1 ++ R)))) rfl
     exact hK _ _ (show ∃ (kd281 : Option Nat) (cd282 : Nat) (sd283 : List Value) (ds284 : List Dr) (sk285 : Sk), (_ : Value) = .tuple #[.slice (ownA kd281) ops.length cd282, .agg (cel E64 [0#64, 0#64]).toArray, .nilIface] ∧ Sl EDr kd281 ds284 cd282 sd283 ∧ DrN (dwS ops ((0 : Nat) : Int) (fIn ((0 : Nat) : Int)) ws0 0) (dtS ops st0.t.l st0.b.l) ops.length ds284 ops.length ∧ sk285.ok ∧ sk285.t.l = st0.t.l.drop (cntS fA ops ops.length) ∧ sk285.b.l = st0.b.l.drop (cntS fB ops ops.length) ∧ sk285.o = st0.o ∧ Hp No w₀ w329 ((kd281, sob EDr 91 ds284 sd283) :: (rc tb0 #[.slice (ownA tk0) ws0.length tc0, .pointer none, iN ws0.length, iN (0 + cntS (fIn ((0 : Nat) : Int)) ops ops.length)] 96) :: x22 :: x23 :: x17 :: x5 :: x8 :: x9 :: x1 :: (re b201 EI ([((in0.length : Nat) : Int), ((in1.length : Nat) : Int)]) 29) :: x4 :: x29 :: (skR 66 121 114 sb0 sk285 ++ (skR 66 121 114 sb1 st1 ++ R))) from ⟨kd331, cd332, sd333, ds334, sk335, rfl, hSd336, hdr337, hok338, hst339, hsb340, hso341, H343⟩)
   refine WalkP.look rfl (fun r => r 8) (fun r r' h => h 8 (by decide) rfl) (fun L r uw _ _ _ => Gives.run rfl (r_move rfl) ⟨rfl, rfl⟩) ?_
   refine WalkP.look rfl (fun r => proj (r 8) 0) (fun r r' h => by rw [h 8 (by decide) rfl]) (fun L r uw hAn hDn hF => ?_) ?_
   ·have b8 := hAn 8 (by decide) rfl
    have b15 := hDn 15 (by decide) rfl
    rcases bTF (L 13) with b13 | b13
    ·have hb := mp3 b8 b13 b15
     rw [hb] at hF
     obtain ⟨kd281, cd282, sd283, ds284, sk285, b300, e8, e13, hSd286, hdr287, hok288, hst289, hsb290, hso291, HH⟩ := hF
     dsimp only
     rw [e8]
     exact Gives.run rfl (r_extract (vs := #[.slice (ownA kd281) ops.length cd282, x38, .nilIface]) rfl rfl) ⟨rfl, rfl⟩
    ·have hb := mp3 b8 b13 b15
     rw [hb] at hF
     obtain ⟨kd281, cd282, sd283, ds284, sk285, e8, hSd286, hdr287, hok288, hst289, hsb290, hso291, HH⟩ := hF
     dsimp only
     rw [e8]
     exact Gives.run rfl (r_extract (vs := #[.slice (ownA kd281) ops.length cd282, x38, .nilIface]) rfl rfl) ⟨rfl, rfl⟩
   refine WalkP.look rfl (fun r => proj (r 8) 1) (fun r r' h => by rw [h 8 (by decide) rfl]) (fun L r uw hAn hDn hF => ?_) ?_
   ·have b8 := hAn 8 (by decide) rfl
    have b15 := hDn 15 (by decide) rfl
    rcases bTF (L 13) with b13 | b13
    ·have hb := mp3 b8 b13 b15
     rw [hb] at hF
     obtain ⟨kd281, cd282, sd283, ds284, sk285, b300, e8, e13, hSd286, hdr287, hok288, hst289, hsb290, hso291, HH⟩ := hF
     dsimp only
     rw [e8]
     exact Gives.run rfl (r_extract (vs := #[.slice (ownA kd281) ops.length cd282, x38, .nilIface]) rfl rfl) ⟨rfl, rfl⟩
    ·have hb := mp3 b8 b13 b15
     rw [hb] at hF
     obtain ⟨kd281, cd282, sd283, ds284, sk285, e8, hSd286, hdr287, hok288, hst289, hsb290, hso291, HH⟩ := hF
     dsimp only
     rw [e8]
     exact Gives.run rfl (r_extract (vs := #[.slice (ownA kd281) ops.length cd282, x38, .nilIface]) rfl rfl) ⟨rfl, rfl⟩
   refine WalkP.look rfl (fun r => proj (r 8) 2) (fun r r' h => by rw [h 8 (by decide) rfl]) (fun L r uw hAn hDn hF => ?_) ?_
   ·have b8 := hAn 8 (by decide) rfl
    rcases bTF (L 13) with b13 | b13
    ·rcases bTF (L 15) with b15 | b15
     ·have hb := mp3 b8 b13 b15
      rw [hb] at hF
      obtain ⟨kd281, cd282, sd283, ds284, sk285, b300, e8, e13, hSd286, hdr287, hok288, hst289, hsb290, hso291, HH⟩ := hF
      dsimp only
      rw [e8]
      exact Gives.run rfl (r_extract (vs := #[.slice (ownA kd281) ops.length cd282, x38, .nilIface]) rfl rfl) ⟨rfl, rfl⟩
     ·have hb := mp3 b8 b13 b15
      rw [hb] at hF
      obtain ⟨kd281, cd282, sd283, ds284, sk285, b300, e8, e13, hSd286, hdr287, hok288, hst289, hsb290, hso291, HH⟩ := hF
      dsimp only
      rw [e8]
      exact Gives.run rfl (r_extract (vs := #[.slice (ownA kd281) ops.length cd282, x38, .nilIface]) rfl rfl) ⟨rfl, rfl⟩
    ·rcases bTF (L 15) with b15 | b15
     ·have hb := mp3 b8 b13 b15
      rw [hb] at hF
      exact False.elim hF
     ·have hb := mp3 b8 b13 b15
      rw [hb] at hF
      obtain ⟨kd281, cd282, sd283, ds284, sk285, e8, hSd286, hdr287, hok288, hst289, hsb290, hso291, HH⟩ := hF
      dsimp only
      rw [e8]
      exact Gives.run rfl (r_extract (vs := #[.slice (ownA kd281) ops.length cd282, x38, .nilIface]) rfl rfl) ⟨rfl, rfl⟩
   refine WalkP.eff 1 rfl (fun L r uw hLn hAn hDn hF => ?_) ?_
   ·have b13 : L 13 = false := hLn
    have b15 := hDn 15 (by decide) rfl
    rcases bTF (L 8) with b8 | b8
    ·have hb := mp3 b8 b13 b15
     rw [hb] at hF ⊢
     obtain ⟨kd281, cd282, sd283, ds284, sk285, e8, hSd286, hdr287, hok288, hst289, hsb290, hso291, H344⟩ := hF
     dsimp only
     rw [e8]
     refine Gives.ofW (d := 18) rfl rfl (fun Q' hK => ?_)
     refine q_alloc (o := .cells (cel E64 ([0#64, 0#64])).toArray 83 (0, 0)) H344 zer83 (by kernel_rfl) ?_
     intro b345 w346 hb345 H347 hE348
     exact hK _ _ (show ∃ (kd281 : Option Nat) (cd282 : Nat) (sd283 : List Value) (ds284 : List Dr) (sk285 : Sk) (b300 : Nat), r 8 = .tuple #[.slice (ownA kd281) ops.length cd282, .agg (cel E64 [0#64, 0#64]).toArray, .nilIface] ∧ (_ : Value) = pT b300 ∧ Sl EDr kd281 ds284 cd282 sd283 ∧ DrN (dwS ops ((0 : Nat) : Int) (fIn ((0 : Nat) : Int)) ws0 0) (dtS ops st0.t.l st0.b.l) ops.length ds284 ops.length ∧ sk285.ok ∧ sk285.t.l = st0.t.l.drop (cntS fA ops ops.length) ∧ sk285.b.l = st0.b.l.drop (cntS fB ops ops.length) ∧ sk285.o = st0.o ∧ Hp No w₀ w346 ((re b300 E64 ([0#64, 0#64]) 83) :: (kd281, sob EDr 91 ds284 sd283) :: (rc tb0 #[.slice (ownA tk0) ws0.length tc0, .pointer none, iN ws0.length, iN (0 + cntS (fIn ((0 : Nat) : Int)) ops ops.length)] 96) :: x22 :: x23 :: x17 :: x5 :: x8 :: x9 :: x1 :: (re b201 EI ([((in0.length : Nat) : Int), ((in1.length : Nat) : Int)]) 29) :: x4 :: x29 :: (skR 66 121 114 sb0 sk285 ++ (skR 66 121 114 sb1 st1 ++ R))) from ⟨kd281, cd282, sd283, ds284, sk285, b345, e8, rfl, hSd286, hdr287, hok288, hst289, hsb290, hso291, H347⟩)
    ·have hb := mp3 b8 b13 b15
     rw [hb] at hF ⊢
     have H349 := hF
     dsimp only
     refine Gives.ofW (d := 18) rfl rfl (fun Q' hK => ?_)
     refine q_alloc (o := .cells (cel E64 ([0#64, 0#64])).toArray 83 (0, 0)) H349 zer83 (by kernel_rfl) ?_
     intro b350 w351 hb350 H352 hE353
     exact hK _ _ (show ∃ (b295 : Nat), (_ : Value) = pT b295 ∧ Hp No w₀ w351 ((re b295 E64 ([0#64, 0#64]) 83) :: x23 :: x17 :: x5 :: x8 :: x9 :: x1 :: (re b201 EI ([((in0.length : Nat) : Int), ((in1.length : Nat) : Int)]) 29) :: x35 :: x22 :: x4 :: x29 :: (skR 66 121 114 sb0 st0 ++ (skR 66 121 114 sb1 st1 ++ R))) from ⟨b350, rfl, H352⟩)
   refine WalkP.look rfl (fun r => proj (r 8) 0) (fun r r' h => by rw [h 8 (by decide) rfl]) (fun L r uw _ _ _ => Gives.run rfl (r_assign rfl) ⟨rfl, rfl⟩) ?_
   refine WalkP.eff 2 rfl (fun L r uw hLn hAn hDn hF => ?_) ?_
   ·have b8 := hAn 8 (by decide) rfl
    have b13 := hAn 13 (by decide) rfl
    have b15 : L 15 = false := hLn
    have hb := mp3 b8 b13 b15
    rw [hb] at hF ⊢
    obtain ⟨kd281, cd282, sd283, ds284, sk285, b300, e8, e13, hSd286, hdr287, hok288, hst289, hsb290, hso291, H354⟩ := hF
    dsimp only
    rw [e8, e13]
    refine Gives.ofW0 rfl (fun Q' hK => ?_)
    refine d_store (k := 0) (v := .agg (cel E64 [0#64, 0#64]).toArray) (cs' := (cel E64 ([0#64, 0#64])).toArray) H354 rfl rfl rfl siz83 (by exact celSize (by first | rfl | (show _ * 1 = _; omega))) (by exact celOne _) (by rw [List.size_toArray, cel_length]; show _ ≤ _ * 1; first | omega | (simp only [List.length_set]; omega) | exact bLe rfl | (simp <;> omega)) (by exact putAll (by first | rfl | omega | (simp <;> omega))) ?_
    intro w355 H356 hC357
    have H356' := H356.as (L' := (_ :: _ :: _ :: _ :: _ :: _ :: _ :: _ :: _ :: _ :: _ :: _ :: _ :: (skR 66 121 114 sb0 sk285 ++ (skR 66 121 114 sb1 st1 ++ R)))) rfl
    clear H356
    exact hK _ (fun _ => (show ∃ (kd281 : Option Nat) (cd282 : Nat) (sd283 : List Value) (ds284 : List Dr) (sk285 : Sk) (b300 : Nat), r 8 = .tuple #[.slice (ownA kd281) ops.length cd282, .agg (cel E64 [0#64, 0#64]).toArray, .nilIface] ∧ r 13 = pT b300 ∧ Sl EDr kd281 ds284 cd282 sd283 ∧ DrN (dwS ops ((0 : Nat) : Int) (fIn ((0 : Nat) : Int)) ws0 0) (dtS ops st0.t.l st0.b.l) ops.length ds284 ops.length ∧ sk285.ok ∧ sk285.t.l = st0.t.l.drop (cntS fA ops ops.length) ∧ sk285.b.l = st0.b.l.drop (cntS fB ops ops.length) ∧ sk285.o = st0.o ∧ Hp No w₀ w355 ((re b300 E64 ([0#64, 0#64]) 83) :: (kd281, sob EDr 91 ds284 sd283) :: (rc tb0 #[.slice (ownA tk0) ws0.length tc0, .pointer none, iN ws0.length, iN (0 + cntS (fIn ((0 : Nat) : Int)) ops ops.length)] 96) :: x22 :: x23 :: x17 :: x5 :: x8 :: x9 :: x1 :: (re b201 EI ([((in0.length : Nat) : Int), ((in1.length : Nat) : Int)]) 29) :: x4 :: x29 :: (skR 66 121 114 sb0 sk285 ++ (skR 66 121 114 sb1 st1 ++ R))) from ⟨kd281, cd282, sd283, ds284, sk285, b300, e8, e13, hSd286, hdr287, hok288, hst289, hsb290, hso291, H356'⟩))
   refine WalkP.look rfl (fun r => proj (r 8) 2) (fun r r' h => by rw [h 8 (by decide) rfl]) (fun L r uw _ _ _ => Gives.run rfl (r_assign rfl) ⟨rfl, rfl⟩) ?_
   refine WalkP.nil ?_
   intro r358 w359 hF
   obtain ⟨kd281, cd282, sd283, ds284, sk285, b300, e8, e13, hSd286, hdr287, hok288, hst289, hsb290, hso291, H360⟩ := hF
   dsimp only
   rw [e8, e13]
   refine wnil ?_
   refine thenNormal ?_
   refine seqAny ?_
   refine sR ?_
   refine sM (.nilIface) rfl ?_
   refine sq ((r_neqNN isI31 rfl rfl).as (v' := .bool false) (by rfl)) ?_
   refine wend ?_
   refine condFalse rfl ?_
   refine skipAny ?_
   refine thenNormal ?_
   refine sR ?_
   refine sM (iN 0) rfl ?_
   refine sM (.slice (ownA kd281) ops.length cd282) rfl ?_
   refine sq (r_indexA (off' := 0) (j := 0) arr81 (b := b266) (off := 0) rfl rfl (by first | rfl | omega | (simp; omega)) (by omega) (by omega)) ?_
   refine d_store (k := 5) (v := .slice (ownA kd281) ops.length cd282) (cs' := #[.slice (ownA kd281) ops.length cd282, sN0]) H360 rfl rfl rfl siz80 (by rfl) (oneL rfl) (by exact bLe rfl) (by rfl) ?_
   intro w361 H362 hC363
   have H362' := H362.as (L' := (_ :: _ :: _ :: _ :: _ :: _ :: _ :: _ :: _ :: _ :: _ :: _ :: _ :: (skR 66 121 114 sb0 sk285 ++ (skR 66 121 114 sb1 st1 ++ R)))) rfl
   clear H362
   refine wend ?_
   refine oneRegion ?_
   refine sq (r_loadA (cs' := (cel E64 ([0#64, 0#64])).toArray) agg83 siz83 (H362'.get (k := 4) rfl) (off := 0) rfl (by exact bLe rfl) (by exact ext_all rfl)) ?_
   refine sq (r_loadA (cs' := (cel E64 ([0#64, 0#64])).toArray) agg83 siz83 (H362'.get (k := 0) rfl) (off := 0) rfl (by exact bLe rfl) (by exact ext_all rfl)) ?_
   refine c_call (vs := [x48, x48]) call28 rfl (rxor_ok (0#64) (0#64) (0#64) (0#64) w361) ?_
   rintro _ w364 ⟨rfl, hE365⟩
   have H366 := H362'.ext hE365
   refine d_store (k := 4) (v := .agg (cel E64 [((0#64) ^^^ (0#64)), ((0#64) ^^^ (0#64))]).toArray) (cs' := (cel E64 ([((0#64) ^^^ (0#64)), ((0#64) ^^^ (0#64))])).toArray) H366 rfl rfl rfl siz83 (by exact celSize (by first | rfl | (show _ * 1 = _; omega))) (by exact celOne _) (by rw [List.size_toArray, cel_length]; show _ ≤ _ * 1; first | omega | (simp only [List.length_set]; omega) | exact bLe rfl | (simp <;> omega)) (by exact putAll (by first | rfl | omega | (simp <;> omega))) ?_
   intro w367 H368 hC369
   have H368' := H368.as (L' := (_ :: _ :: _ :: _ :: _ :: _ :: _ :: _ :: _ :: _ :: _ :: _ :: _ :: (skR 66 121 114 sb0 sk285 ++ (skR 66 121 114 sb1 st1 ++ R)))) rfl
   clear H368
   refine wnil ?_
   refine blockNormal ?_
   refine thenNormal ?_
   refine oneRegion ?_
   refine sq (r_addI (a := (0 : Nat)) (b := (1 : Int)) rfl rfl (by omega)) ?_
   refine sM (i64 ((0 : Nat) + (1 : Int))) rfl ?_
   refine wnil ?_
   refine thenNormal ?_
   exact ⟨(0 + 1, _), _, rfl, ⟨rfl, rfl, rfl, rfl, rfl, rfl, rfl, rfl, rfl, rfl, trivial⟩, ⟨⟨by omega, .inr (.inl ⟨rfl, kd281, cd282, sd283, ds284, sk285, hSd286, hdr287, hok288, hst289, hsb290, hso291, rfl⟩)⟩, (H368'.pick 13 [1, 4, 5, 6, 7, 8, 9, 10, 2, 3, 11, 12] (by decide) (by decide))⟩, by show 2 - (0 + 1) < 2 - 0; omega⟩
  ·refine sR ?_
   refine sq ((r_lssI (a := (1 : Nat)) (b := (2 : Int)) rfl rfl).as (v' := .bool true) (by rfl)) ?_
   refine wend ?_
   refine seqAny ?_
   refine condTrue rfl ?_
   refine skipAny ?_
   refine thenNormal ?_
   refine seqAny ?_
   refine blockAny ?_
   refine sR ?_
   refine sM (iN 1) rfl ?_
   refine sA (iN 1) rfl ?_
   refine wend ?_
   refine seqAny ?_
   refine drawP (m := 17) [0, 0, 0, 4, 12, 0, 32, 96, 255, 511, 1023, 1023, 1023, 0, 10239, 28671, 65535] [8, 13, 15] (fun bs vs w' => match bs, vs with | [false, false, false], [_, _, _] => Hp No w₀ w' ((kd0, sob EDr 91 ds0 sd0) :: x15 :: (rc b266 #[.slice (ownA kd0) ops.length cd0, sN0] 81) :: x5 :: x8 :: x9 :: x1 :: (re b201 EI ([((in0.length : Nat) : Int), ((in1.length : Nat) : Int)]) 29) :: (rc tb0 #[.slice (ownA tk0) ws0.length tc0, .pointer none, iN ws0.length, iN (0 + cntS (fIn ((0 : Nat) : Int)) ops ops.length)] 96) :: x22 :: x4 :: x29 :: (skR 66 121 114 sb0 sk0 ++ (skR 66 121 114 sb1 st1 ++ R))) | [true, false, false], [v8, _, _] => ∃ (kd375 : Option Nat) (cd376 : Nat) (sd377 : List Value) (ds378 : List Dr) (sk379 : Sk), v8 = .tuple #[.slice (ownA kd375) ops.length cd376, .agg (cel E64 [0#64, 0#64]).toArray, .nilIface] ∧ Sl EDr kd375 ds378 cd376 sd377 ∧ DrN (dwS ops ((1 : Nat) : Int) (fIn ((1 : Nat) : Int)) ws1 0) (dtS ops st1.t.l st1.b.l) ops.length ds378 ops.length ∧ sk379.ok ∧ sk379.t.l = st1.t.l.drop (cntS fA ops ops.length) ∧ sk379.b.l = st1.b.l.drop (cntS fB ops ops.length) ∧ sk379.o = st1.o ∧ Hp No w₀ w' ((kd375, sob EDr 91 ds378 sd377) :: (rc tb1 #[.slice (ownA tk1) ws1.length tc1, .pointer none, iN ws1.length, iN (0 + cntS (fIn ((1 : Nat) : Int)) ops ops.length)] 96) :: x29 :: (kd0, sob EDr 91 ds0 sd0) :: x15 :: (rc b266 #[.slice (ownA kd0) ops.length cd0, sN0] 81) :: x5 :: x8 :: x9 :: x1 :: (re b201 EI ([((in0.length : Nat) : Int), ((in1.length : Nat) : Int)]) 29) :: (rc tb0 #[.slice (ownA tk0) ws0.length tc0, .pointer none, iN ws0.length, iN (0 + cntS (fIn ((0 : Nat) : Int)) ops ops.length)] 96) :: x22 :: (skR 66 121 114 sb0 sk0 ++ (skR 66 121 114 sb1 sk379 ++ R))) | [false, true, false], [_, v13, _] => ∃ (b389 : Nat), v13 = pT b389 ∧ Hp No w₀ w' ((re b389 E64 ([0#64, 0#64]) 83) :: (kd0, sob EDr 91 ds0 sd0) :: x15 :: (rc b266 #[.slice (ownA kd0) ops.length cd0, sN0] 81) :: x5 :: x8 :: x9 :: x1 :: (re b201 EI ([((in0.length : Nat) : Int), ((in1.length : Nat) : Int)]) 29) :: (rc tb0 #[.slice (ownA tk0) ws0.length tc0, .pointer none, iN ws0.length, iN (0 + cntS (fIn ((0 : Nat) : Int)) ops ops.length)] 96) :: x22 :: x4 :: x29 :: (skR 66 121 114 sb0 sk0 ++ (skR 66 121 114 sb1 st1 ++ R))) | [true, true, false], [v8, v13, _] => ∃ (kd375 : Option Nat) (cd376 : Nat) (sd377 : List Value) (ds378 : List Dr) (sk379 : Sk) (b394 : Nat), v8 = .tuple #[.slice (ownA kd375) ops.length cd376, .agg (cel E64 [0#64, 0#64]).toArray, .nilIface] ∧ v13 = pT b394 ∧ Sl EDr kd375 ds378 cd376 sd377 ∧ DrN (dwS ops ((1 : Nat) : Int) (fIn ((1 : Nat) : Int)) ws1 0) (dtS ops st1.t.l st1.b.l) ops.length ds378 ops.length ∧ sk379.ok ∧ sk379.t.l = st1.t.l.drop (cntS fA ops ops.length) ∧ sk379.b.l = st1.b.l.drop (cntS fB ops ops.length) ∧ sk379.o = st1.o ∧ Hp No w₀ w' ((re b394 E64 ([0#64, 0#64]) 83) :: (kd375, sob EDr 91 ds378 sd377) :: (rc tb1 #[.slice (ownA tk1) ws1.length tc1, .pointer none, iN ws1.length, iN (0 + cntS (fIn ((1 : Nat) : Int)) ops ops.length)] 96) :: x29 :: (kd0, sob EDr 91 ds0 sd0) :: x15 :: (rc b266 #[.slice (ownA kd0) ops.length cd0, sN0] 81) :: x5 :: x8 :: x9 :: x1 :: (re b201 EI ([((in0.length : Nat) : Int), ((in1.length : Nat) : Int)]) 29) :: (rc tb0 #[.slice (ownA tk0) ws0.length tc0, .pointer none, iN ws0.length, iN (0 + cntS (fIn ((0 : Nat) : Int)) ops ops.length)] 96) :: x22 :: (skR 66 121 114 sb0 sk0 ++ (skR 66 121 114 sb1 sk379 ++ R))) | [true, true, true], [v8, v13, _] => ∃ (kd375 : Option Nat) (cd376 : Nat) (sd377 : List Value) (ds378 : List Dr) (sk379 : Sk) (b394 : Nat), v8 = .tuple #[.slice (ownA kd375) ops.length cd376, .agg (cel E64 [0#64, 0#64]).toArray, .nilIface] ∧ v13 = pT b394 ∧ Sl EDr kd375 ds378 cd376 sd377 ∧ DrN (dwS ops ((1 : Nat) : Int) (fIn ((1 : Nat) : Int)) ws1 0) (dtS ops st1.t.l st1.b.l) ops.length ds378 ops.length ∧ sk379.ok ∧ sk379.t.l = st1.t.l.drop (cntS fA ops ops.length) ∧ sk379.b.l = st1.b.l.drop (cntS fB ops ops.length) ∧ sk379.o = st1.o ∧ Hp No w₀ w' ((re b394 E64 ([0#64, 0#64]) 83) :: (kd375, sob EDr 91 ds378 sd377) :: (rc tb1 #[.slice (ownA tk1) ws1.length tc1, .pointer none, iN ws1.length, iN (0 + cntS (fIn ((1 : Nat) : Int)) ops ops.length)] 96) :: x29 :: (kd0, sob EDr 91 ds0 sd0) :: x15 :: (rc b266 #[.slice (ownA kd0) ops.length cd0, sN0] 81) :: x5 :: x8 :: x9 :: x1 :: (re b201 EI ([((in0.length : Nat) : Int), ((in1.length : Nat) : Int)]) 29) :: (rc tb0 #[.slice (ownA tk0) ws0.length tc0, .pointer none, iN ws0.length, iN (0 + cntS (fIn ((0 : Nat) : Int)) ops ops.length)] 96) :: x22 :: (skR 66 121 114 sb0 sk0 ++ (skR 66 121 114 sb1 sk379 ++ R))) | _, _ => False) mixed (by kernel_rfl) (by kernel_rfl) HL.drew ?_
   refine WalkP.look rfl (fun _ => .slice oa ops.length oc) (fun _ _ _ => rfl) (fun L r uw _ _ _ => Gives.run rfl (r_move (v := .slice oa ops.length oc) rfl) ⟨rfl, rfl⟩) ?_
   refine WalkP.look rfl (fun _ => iN 1) (fun _ _ _ => rfl) (fun L r uw _ _ _ => Gives.run rfl (r_move (v := iN 1) rfl) ⟨rfl, rfl⟩) ?_
   refine WalkP.look rfl (fun _ => iN 1) (fun _ _ _ => rfl) (fun L r uw _ _ _ => Gives.run rfl (r_move (v := iN 1) rfl) ⟨rfl, rfl⟩) ?_
   refine WalkP.look rfl (fun _ => .pointer (some ⟨b209, 1, none⟩)) (fun _ _ _ => rfl) (fun L r uw _ _ _ => Gives.run rfl (r_indexA (off' := 1) (j := 1) arr50 (b := b209) (off := 0) rfl rfl (by first | rfl | omega | (simp; omega)) (by omega) (by omega)) ⟨rfl, rfl⟩) ?_
   refine WalkP.look rfl (fun _ => pT tb1) (fun _ _ _ => rfl) (fun L r uw hAn hDn hF => ?_) ?_
   ·have b8 := hDn 8 (by decide) rfl
    have b15 := hDn 15 (by decide) rfl
    rcases bTF (L 13) with b13 | b13
    ·have hb := mp3 b8 b13 b15
     rw [hb] at hF
     obtain ⟨b389, e13, HH⟩ := hF
     exact Gives.run rfl (r_loadC (v := pT tb1) one48 (HH.get (k := 6) rfl) (off := 1) rfl (by rfl)) ⟨rfl, rfl⟩
    ·have hb := mp3 b8 b13 b15
     rw [hb] at hF
     have HH := hF
     exact Gives.run rfl (r_loadC (v := pT tb1) one48 (HH.get (k := 5) rfl) (off := 1) rfl (by rfl)) ⟨rfl, rfl⟩
   refine WalkP.look rfl (fun _ => iN 1) (fun _ _ _ => rfl) (fun L r uw _ _ _ => Gives.run rfl (r_move (v := iN 1) rfl) ⟨rfl, rfl⟩) ?_
   refine WalkP.look rfl (fun _ => .pointer (some ⟨b213, 1, none⟩)) (fun _ _ _ => rfl) (fun L r uw _ _ _ => Gives.run rfl (r_indexA (off' := 1) (j := 1) arr38 (b := b213) (off := 0) rfl rfl (by first | rfl | omega | (simp; omega)) (by omega) (by omega)) ⟨rfl, rfl⟩) ?_
   refine WalkP.look rfl (fun _ => pT sb1) (fun _ _ _ => rfl) (fun L r uw hAn hDn hF => ?_) ?_
   ·have b8 := hDn 8 (by decide) rfl
    have b15 := hDn 15 (by decide) rfl
    rcases bTF (L 13) with b13 | b13
    ·have hb := mp3 b8 b13 b15
     rw [hb] at hF
     obtain ⟨b389, e13, HH⟩ := hF
     exact Gives.run rfl (r_loadC (v := pT sb1) one37 (HH.get (k := 5) rfl) (off := 1) rfl (by rfl)) ⟨rfl, rfl⟩
    ·have hb := mp3 b8 b13 b15
     rw [hb] at hF
     have HH := hF
     exact Gives.run rfl (r_loadC (v := pT sb1) one37 (HH.get (k := 4) rfl) (off := 1) rfl (by rfl)) ⟨rfl, rfl⟩
   refine WalkP.eff 0 rfl (fun L r uw hLn hAn hDn hF => ?_) ?_
   ·have b8 : L 8 = false := hLn
    have b15 := hDn 15 (by decide) rfl
    rcases bTF (L 13) with b13 | b13
    ·have hb := mp3 b8 b13 b15
     rw [hb] at hF ⊢
     obtain ⟨b389, e13, H402⟩ := hF
     let x26 := re b389 E64 ([0#64, 0#64]) 83
     dsimp only
     refine Gives.ofW (d := 61) rfl rfl (fun Q' hK => ?_)
     have H404 := (Hp.midPB (P := [x4, x29]) (X := [x26, (kd0, sob EDr 91 ds0 sd0), x15, (rc b266 #[.slice (ownA kd0) ops.length cd0, sN0] 81), x5, x8, x9, x1, x7, x13, x22]) (B := skR 66 121 114 sb0 sk0) (A := skR 66 121 114 sb1 st1) (Y := R) (H402.pick 13 [11, 12, 0, 1, 2, 3, 4, 5, 6, 7, 8, 9, 10] (by decide) (by decide))).as (L' := (_ :: _ :: (skR 66 121 114 sb1 st1 ++ ([x26, (kd0, sob EDr 91 ds0 sd0), x15, (rc b266 #[.slice (ownA kd0) ops.length cd0, sN0] 81), x5, x8, x9, x1, x7, x13, x22] ++ (skR 66 121 114 sb0 sk0 ++ R))))) rfl
     refine c_call (vs := [x45, iN 1, pT tb1, pT sb1]) call27 rfl (drawn_ok ops oa oc 1 tb1 tk1 tc1 ts1 ws1 hSw1 hwl1 sb1 st1 hst1 ([x26, (kd0, sob EDr 91 ds0 sd0), x15, (rc b266 #[.slice (ownA kd0) ops.length cd0, sN0] 81), x5, x8, x9, x1, x7, x13, x22] ++ (skR 66 121 114 sb0 sk0 ++ R)) w₀ uw hng hop hT1 (by rw [show st1.t.l.length = st1.t.l.length from rfl]; exact hA1) (by rw [show st1.b.l.length = st1.b.l.length from rfl]; exact hB1) (fun w1 hE hp => hO w1 hE (fun p hp2 => hp p (List.mem_append_right _ (List.mem_append_right _ hp2)))) H404) ?_
     rintro _ w405 ⟨kd407, cd408, sd409, ds410, sk411, rfl, hSd412, hdr413, hok414, hst415, hsb416, hso417, HN418⟩
     have H419 := (Hp.backPB (P := [(kd407, sob EDr 91 ds410 sd409), x44, x29]) (A := skR 66 121 114 sb1 sk411) (X := [x26, (kd0, sob EDr 91 ds0 sd0), x15, (rc b266 #[.slice (ownA kd0) ops.length cd0, sN0] 81), x5, x8, x9, x1, x7, x13, x22]) (B := skR 66 121 114 sb0 sk0) (Y := R) HN418).as (L' := (_ :: _ :: _ :: _ :: _ :: _ :: _ :: _ :: _ :: _ :: _ :: _ :: _ :: _ :: (skR 66 121 114 sb0 sk0 ++ (skR 66 121 114 sb1 sk411 ++ R)))) rfl
     exact hK _ _ (show ∃ (kd375 : Option Nat) (cd376 : Nat) (sd377 : List Value) (ds378 : List Dr) (sk379 : Sk) (b394 : Nat), (_ : Value) = .tuple #[.slice (ownA kd375) ops.length cd376, .agg (cel E64 [0#64, 0#64]).toArray, .nilIface] ∧ r 13 = pT b394 ∧ Sl EDr kd375 ds378 cd376 sd377 ∧ DrN (dwS ops ((1 : Nat) : Int) (fIn ((1 : Nat) : Int)) ws1 0) (dtS ops st1.t.l st1.b.l) ops.length ds378 ops.length ∧ sk379.ok ∧ sk379.t.l = st1.t.l.drop (cntS fA ops ops.length) ∧ sk379.b.l = st1.b.l.drop (cntS fB ops ops.length) ∧ sk379.o = st1.o ∧ Hp No w₀ w405 ((re b394 E64 ([0#64, 0#64]) 83) :: (kd375, sob EDr 91 ds378 sd377) :: (rc tb1 #[.slice (ownA tk1) ws1.length tc1, .pointer none, iN ws1.length, iN (0 + cntS (fIn ((1 : Nat) : Int)) ops ops.length)] 96) :: x29 :: (kd0, sob EDr 91 ds0 sd0) :: x15 :: (rc b266 #[.slice (ownA kd0) ops.length cd0, sN0] 81) :: x5 :: x8 :: x9 :: x1 :: (re b201 EI ([((in0.length : Nat) : Int), ((in1.length : Nat) : Int)]) 29) :: (rc tb0 #[.slice (ownA tk0) ws0.length tc0, .pointer none, iN ws0.length, iN (0 + cntS (fIn ((0 : Nat) : Int)) ops ops.length)] 96) :: x22 :: (skR 66 121 114 sb0 sk0 ++ (skR 66 121 114 sb1 sk379 ++ R))) from ⟨kd407, cd408, sd409, ds410, sk411, b389, rfl, e13, hSd412, hdr413, hok414, hst415, hsb416, hso417, ((((H419.pull (k := 2) rfl).pull (k := 2) rfl).pull (k := 2) rfl).pull (k := 3) rfl)⟩)
    ·have hb := mp3 b8 b13 b15
     rw [hb] at hF ⊢
     have H420 := hF
     dsimp only
     refine Gives.ofW (d := 61) rfl rfl (fun Q' hK => ?_)
     have H422 := (Hp.midPB (P := [x4, x29]) (X := [(kd0, sob EDr 91 ds0 sd0), x15, (rc b266 #[.slice (ownA kd0) ops.length cd0, sN0] 81), x5, x8, x9, x1, x7, x13, x22]) (B := skR 66 121 114 sb0 sk0) (A := skR 66 121 114 sb1 st1) (Y := R) (H420.pick 12 [10, 11, 0, 1, 2, 3, 4, 5, 6, 7, 8, 9] (by decide) (by decide))).as (L' := (_ :: _ :: (skR 66 121 114 sb1 st1 ++ ([(kd0, sob EDr 91 ds0 sd0), x15, (rc b266 #[.slice (ownA kd0) ops.length cd0, sN0] 81), x5, x8, x9, x1, x7, x13, x22] ++ (skR 66 121 114 sb0 sk0 ++ R))))) rfl
     refine c_call (vs := [x45, iN 1, pT tb1, pT sb1]) call27 rfl (drawn_ok ops oa oc 1 tb1 tk1 tc1 ts1 ws1 hSw1 hwl1 sb1 st1 hst1 ([(kd0, sob EDr 91 ds0 sd0), x15, (rc b266 #[.slice (ownA kd0) ops.length cd0, sN0] 81), x5, x8, x9, x1, x7, x13, x22] ++ (skR 66 121 114 sb0 sk0 ++ R)) w₀ uw hng hop hT1 (by rw [show st1.t.l.length = st1.t.l.length from rfl]; exact hA1) (by rw [show st1.b.l.length = st1.b.l.length from rfl]; exact hB1) (fun w1 hE hp => hO w1 hE (fun p hp2 => hp p (List.mem_append_right _ (List.mem_append_right _ hp2)))) H422) ?_
     rintro _ w423 ⟨kd425, cd426, sd427, ds428, sk429, rfl, hSd430, hdr431, hok432, hst433, hsb434, hso435, HN436⟩
     have H437 := (Hp.backPB (P := [(kd425, sob EDr 91 ds428 sd427), x44, x29]) (A := skR 66 121 114 sb1 sk429) (X := [(kd0, sob EDr 91 ds0 sd0), x15, (rc b266 #[.slice (ownA kd0) ops.length cd0, sN0] 81), x5, x8, x9, x1, x7, x13, x22]) (B := skR 66 121 114 sb0 sk0) (Y := R) HN436).as (L' := (_ :: _ :: _ :: _ :: _ :: _ :: _ :: _ :: _ :: _ :: _ :: _ :: _ :: (skR 66 121 114 sb0 sk0 ++ (skR 66 121 114 sb1 sk429 ++ R)))) rfl
     exact hK _ _ (show ∃ (kd375 : Option Nat) (cd376 : Nat) (sd377 : List Value) (ds378 : List Dr) (sk379 : Sk), (_ : Value) = .tuple #[.slice (ownA kd375) ops.length cd376, .agg (cel E64 [0#64, 0#64]).toArray, .nilIface] ∧ Sl EDr kd375 ds378 cd376 sd377 ∧ DrN (dwS ops ((1 : Nat) : Int) (fIn ((1 : Nat) : Int)) ws1 0) (dtS ops st1.t.l st1.b.l) ops.length ds378 ops.length ∧ sk379.ok ∧ sk379.t.l = st1.t.l.drop (cntS fA ops ops.length) ∧ sk379.b.l = st1.b.l.drop (cntS fB ops ops.length) ∧ sk379.o = st1.o ∧ Hp No w₀ w423 ((kd375, sob EDr 91 ds378 sd377) :: (rc tb1 #[.slice (ownA tk1) ws1.length tc1, .pointer none, iN ws1.length, iN (0 + cntS (fIn ((1 : Nat) : Int)) ops ops.length)] 96) :: x29 :: (kd0, sob EDr 91 ds0 sd0) :: x15 :: (rc b266 #[.slice (ownA kd0) ops.length cd0, sN0] 81) :: x5 :: x8 :: x9 :: x1 :: (re b201 EI ([((in0.length : Nat) : Int), ((in1.length : Nat) : Int)]) 29) :: (rc tb0 #[.slice (ownA tk0) ws0.length tc0, .pointer none, iN ws0.length, iN (0 + cntS (fIn ((0 : Nat) : Int)) ops ops.length)] 96) :: x22 :: (skR 66 121 114 sb0 sk0 ++ (skR 66 121 114 sb1 sk379 ++ R))) from ⟨kd425, cd426, sd427, ds428, sk429, rfl, hSd430, hdr431, hok432, hst433, hsb434, hso435, H437⟩)
   refine WalkP.look rfl (fun r => r 8) (fun r r' h => h 8 (by decide) rfl) (fun L r uw _ _ _ => Gives.run rfl (r_move rfl) ⟨rfl, rfl⟩) ?_
   refine WalkP.look rfl (fun r => proj (r 8) 0) (fun r r' h => by rw [h 8 (by decide) rfl]) (fun L r uw hAn hDn hF => ?_) ?_
   ·have b8 := hAn 8 (by decide) rfl
    have b15 := hDn 15 (by decide) rfl
    rcases bTF (L 13) with b13 | b13
    ·have hb := mp3 b8 b13 b15
     rw [hb] at hF
     obtain ⟨kd375, cd376, sd377, ds378, sk379, b394, e8, e13, hSd380, hdr381, hok382, hst383, hsb384, hso385, HH⟩ := hF
     dsimp only
     rw [e8]
     exact Gives.run rfl (r_extract (vs := #[.slice (ownA kd375) ops.length cd376, x38, .nilIface]) rfl rfl) ⟨rfl, rfl⟩
    ·have hb := mp3 b8 b13 b15
     rw [hb] at hF
     obtain ⟨kd375, cd376, sd377, ds378, sk379, e8, hSd380, hdr381, hok382, hst383, hsb384, hso385, HH⟩ := hF
     dsimp only
     rw [e8]
     exact Gives.run rfl (r_extract (vs := #[.slice (ownA kd375) ops.length cd376, x38, .nilIface]) rfl rfl) ⟨rfl, rfl⟩
   refine WalkP.look rfl (fun r => proj (r 8) 1) (fun r r' h => by rw [h 8 (by decide) rfl]) (fun L r uw hAn hDn hF => ?_) ?_
   ·have b8 := hAn 8 (by decide) rfl
    have b15 := hDn 15 (by decide) rfl
    rcases bTF (L 13) with b13 | b13
    ·have hb := mp3 b8 b13 b15
     rw [hb] at hF
     obtain ⟨kd375, cd376, sd377, ds378, sk379, b394, e8, e13, hSd380, hdr381, hok382, hst383, hsb384, hso385, HH⟩ := hF
     dsimp only
     rw [e8]
     exact Gives.run rfl (r_extract (vs := #[.slice (ownA kd375) ops.length cd376, x38, .nilIface]) rfl rfl) ⟨rfl, rfl⟩
    ·have hb := mp3 b8 b13 b15
     rw [hb] at hF
     obtain ⟨kd375, cd376, sd377, ds378, sk379, e8, hSd380, hdr381, hok382, hst383, hsb384, hso385, HH⟩ := hF
     dsimp only
     rw [e8]
     exact Gives.run rfl (r_extract (vs := #[.slice (ownA kd375) ops.length cd376, x38, .nilIface]) rfl rfl) ⟨rfl, rfl⟩
   refine WalkP.look rfl (fun r => proj (r 8) 2) (fun r r' h => by rw [h 8 (by decide) rfl]) (fun L r uw hAn hDn hF => ?_) ?_
   ·have b8 := hAn 8 (by decide) rfl
    rcases bTF (L 13) with b13 | b13
    ·rcases bTF (L 15) with b15 | b15
     ·have hb := mp3 b8 b13 b15
      rw [hb] at hF
      obtain ⟨kd375, cd376, sd377, ds378, sk379, b394, e8, e13, hSd380, hdr381, hok382, hst383, hsb384, hso385, HH⟩ := hF
      dsimp only
      rw [e8]
      exact Gives.run rfl (r_extract (vs := #[.slice (ownA kd375) ops.length cd376, x38, .nilIface]) rfl rfl) ⟨rfl, rfl⟩
     ·have hb := mp3 b8 b13 b15
      rw [hb] at hF
      obtain ⟨kd375, cd376, sd377, ds378, sk379, b394, e8, e13, hSd380, hdr381, hok382, hst383, hsb384, hso385, HH⟩ := hF
      dsimp only
      rw [e8]
      exact Gives.run rfl (r_extract (vs := #[.slice (ownA kd375) ops.length cd376, x38, .nilIface]) rfl rfl) ⟨rfl, rfl⟩
    ·rcases bTF (L 15) with b15 | b15
     ·have hb := mp3 b8 b13 b15
      rw [hb] at hF
      exact False.elim hF
     ·have hb := mp3 b8 b13 b15
      rw [hb] at hF
      obtain ⟨kd375, cd376, sd377, ds378, sk379, e8, hSd380, hdr381, hok382, hst383, hsb384, hso385, HH⟩ := hF
      dsimp only
      rw [e8]
      exact Gives.run rfl (r_extract (vs := #[.slice (ownA kd375) ops.length cd376, x38, .nilIface]) rfl rfl) ⟨rfl, rfl⟩
   refine WalkP.eff 1 rfl (fun L r uw hLn hAn hDn hF => ?_) ?_
   ·have b13 : L 13 = false := hLn
    have b15 := hDn 15 (by decide) rfl
    rcases bTF (L 8) with b8 | b8
    ·have hb := mp3 b8 b13 b15
     rw [hb] at hF ⊢
     obtain ⟨kd375, cd376, sd377, ds378, sk379, e8, hSd380, hdr381, hok382, hst383, hsb384, hso385, H438⟩ := hF
     dsimp only
     rw [e8]
     refine Gives.ofW (d := 18) rfl rfl (fun Q' hK => ?_)
     refine q_alloc (o := .cells (cel E64 ([0#64, 0#64])).toArray 83 (0, 0)) H438 zer83 (by kernel_rfl) ?_
     intro b439 w440 hb439 H441 hE442
     exact hK _ _ (show ∃ (kd375 : Option Nat) (cd376 : Nat) (sd377 : List Value) (ds378 : List Dr) (sk379 : Sk) (b394 : Nat), r 8 = .tuple #[.slice (ownA kd375) ops.length cd376, .agg (cel E64 [0#64, 0#64]).toArray, .nilIface] ∧ (_ : Value) = pT b394 ∧ Sl EDr kd375 ds378 cd376 sd377 ∧ DrN (dwS ops ((1 : Nat) : Int) (fIn ((1 : Nat) : Int)) ws1 0) (dtS ops st1.t.l st1.b.l) ops.length ds378 ops.length ∧ sk379.ok ∧ sk379.t.l = st1.t.l.drop (cntS fA ops ops.length) ∧ sk379.b.l = st1.b.l.drop (cntS fB ops ops.length) ∧ sk379.o = st1.o ∧ Hp No w₀ w440 ((re b394 E64 ([0#64, 0#64]) 83) :: (kd375, sob EDr 91 ds378 sd377) :: (rc tb1 #[.slice (ownA tk1) ws1.length tc1, .pointer none, iN ws1.length, iN (0 + cntS (fIn ((1 : Nat) : Int)) ops ops.length)] 96) :: x29 :: (kd0, sob EDr 91 ds0 sd0) :: x15 :: (rc b266 #[.slice (ownA kd0) ops.length cd0, sN0] 81) :: x5 :: x8 :: x9 :: x1 :: (re b201 EI ([((in0.length : Nat) : Int), ((in1.length : Nat) : Int)]) 29) :: (rc tb0 #[.slice (ownA tk0) ws0.length tc0, .pointer none, iN ws0.length, iN (0 + cntS (fIn ((0 : Nat) : Int)) ops ops.length)] 96) :: x22 :: (skR 66 121 114 sb0 sk0 ++ (skR 66 121 114 sb1 sk379 ++ R))) from ⟨kd375, cd376, sd377, ds378, sk379, b439, e8, rfl, hSd380, hdr381, hok382, hst383, hsb384, hso385, H441⟩)
    ·have hb := mp3 b8 b13 b15
     rw [hb] at hF ⊢
     have H443 := hF
     dsimp only
     refine Gives.ofW (d := 18) rfl rfl (fun Q' hK => ?_)
     refine q_alloc (o := .cells (cel E64 ([0#64, 0#64])).toArray 83 (0, 0)) H443 zer83 (by kernel_rfl) ?_
     intro b444 w445 hb444 H446 hE447
     exact hK _ _ (show ∃ (b389 : Nat), (_ : Value) = pT b389 ∧ Hp No w₀ w445 ((re b389 E64 ([0#64, 0#64]) 83) :: (kd0, sob EDr 91 ds0 sd0) :: x15 :: (rc b266 #[.slice (ownA kd0) ops.length cd0, sN0] 81) :: x5 :: x8 :: x9 :: x1 :: (re b201 EI ([((in0.length : Nat) : Int), ((in1.length : Nat) : Int)]) 29) :: (rc tb0 #[.slice (ownA tk0) ws0.length tc0, .pointer none, iN ws0.length, iN (0 + cntS (fIn ((0 : Nat) : Int)) ops ops.length)] 96) :: x22 :: x4 :: x29 :: (skR 66 121 114 sb0 sk0 ++ (skR 66 121 114 sb1 st1 ++ R))) from ⟨b444, rfl, H446⟩)
   refine WalkP.look rfl (fun r => proj (r 8) 0) (fun r r' h => by rw [h 8 (by decide) rfl]) (fun L r uw _ _ _ => Gives.run rfl (r_assign rfl) ⟨rfl, rfl⟩) ?_
   refine WalkP.eff 2 rfl (fun L r uw hLn hAn hDn hF => ?_) ?_
   ·have b8 := hAn 8 (by decide) rfl
    have b13 := hAn 13 (by decide) rfl
    have b15 : L 15 = false := hLn
    have hb := mp3 b8 b13 b15
    rw [hb] at hF ⊢
    obtain ⟨kd375, cd376, sd377, ds378, sk379, b394, e8, e13, hSd380, hdr381, hok382, hst383, hsb384, hso385, H448⟩ := hF
    dsimp only
    rw [e8, e13]
    refine Gives.ofW0 rfl (fun Q' hK => ?_)
    refine d_store (k := 0) (v := .agg (cel E64 [0#64, 0#64]).toArray) (cs' := (cel E64 ([0#64, 0#64])).toArray) H448 rfl rfl rfl siz83 (by exact celSize (by first | rfl | (show _ * 1 = _; omega))) (by exact celOne _) (by rw [List.size_toArray, cel_length]; show _ ≤ _ * 1; first | omega | (simp only [List.length_set]; omega) | exact bLe rfl | (simp <;> omega)) (by exact putAll (by first | rfl | omega | (simp <;> omega))) ?_
    intro w449 H450 hC451
    have H450' := H450.as (L' := (_ :: _ :: _ :: _ :: _ :: _ :: _ :: _ :: _ :: _ :: _ :: _ :: _ :: _ :: (skR 66 121 114 sb0 sk0 ++ (skR 66 121 114 sb1 sk379 ++ R)))) rfl
    clear H450
    exact hK _ (fun _ => (show ∃ (kd375 : Option Nat) (cd376 : Nat) (sd377 : List Value) (ds378 : List Dr) (sk379 : Sk) (b394 : Nat), r 8 = .tuple #[.slice (ownA kd375) ops.length cd376, .agg (cel E64 [0#64, 0#64]).toArray, .nilIface] ∧ r 13 = pT b394 ∧ Sl EDr kd375 ds378 cd376 sd377 ∧ DrN (dwS ops ((1 : Nat) : Int) (fIn ((1 : Nat) : Int)) ws1 0) (dtS ops st1.t.l st1.b.l) ops.length ds378 ops.length ∧ sk379.ok ∧ sk379.t.l = st1.t.l.drop (cntS fA ops ops.length) ∧ sk379.b.l = st1.b.l.drop (cntS fB ops ops.length) ∧ sk379.o = st1.o ∧ Hp No w₀ w449 ((re b394 E64 ([0#64, 0#64]) 83) :: (kd375, sob EDr 91 ds378 sd377) :: (rc tb1 #[.slice (ownA tk1) ws1.length tc1, .pointer none, iN ws1.length, iN (0 + cntS (fIn ((1 : Nat) : Int)) ops ops.length)] 96) :: x29 :: (kd0, sob EDr 91 ds0 sd0) :: x15 :: (rc b266 #[.slice (ownA kd0) ops.length cd0, sN0] 81) :: x5 :: x8 :: x9 :: x1 :: (re b201 EI ([((in0.length : Nat) : Int), ((in1.length : Nat) : Int)]) 29) :: (rc tb0 #[.slice (ownA tk0) ws0.length tc0, .pointer none, iN ws0.length, iN (0 + cntS (fIn ((0 : Nat) : Int)) ops ops.length)] 96) :: x22 :: (skR 66 121 114 sb0 sk0 ++ (skR 66 121 114 sb1 sk379 ++ R))) from ⟨kd375, cd376, sd377, ds378, sk379, b394, e8, e13, hSd380, hdr381, hok382, hst383, hsb384, hso385, H450'⟩))
   refine WalkP.look rfl (fun r => proj (r 8) 2) (fun r r' h => by rw [h 8 (by decide) rfl]) (fun L r uw _ _ _ => Gives.run rfl (r_assign rfl) ⟨rfl, rfl⟩) ?_
   refine WalkP.nil ?_
   intro r452 w453 hF
   obtain ⟨kd375, cd376, sd377, ds378, sk379, b394, e8, e13, hSd380, hdr381, hok382, hst383, hsb384, hso385, H454⟩ := hF
   dsimp only
   rw [e8, e13]
   refine wnil ?_
   refine thenNormal ?_
   refine seqAny ?_
   refine sR ?_
   refine sM (.nilIface) rfl ?_
   refine sq ((r_neqNN isI31 rfl rfl).as (v' := .bool false) (by rfl)) ?_
   refine wend ?_
   refine condFalse rfl ?_
   refine skipAny ?_
   refine thenNormal ?_
   refine sR ?_
   refine sM (iN 1) rfl ?_
   refine sM (.slice (ownA kd375) ops.length cd376) rfl ?_
   refine sq (r_indexA (off' := 1) (j := 1) arr81 (b := b266) (off := 0) rfl rfl (by first | rfl | omega | (simp; omega)) (by omega) (by omega)) ?_
   refine d_store (k := 6) (v := .slice (ownA kd375) ops.length cd376) (cs' := #[.slice (ownA kd0) ops.length cd0, .slice (ownA kd375) ops.length cd376]) H454 rfl rfl rfl siz80 (by rfl) (oneL rfl) (by exact bLe rfl) (by rfl) ?_
   intro w455 H456 hC457
   have H456' := H456.as (L' := (_ :: _ :: _ :: _ :: _ :: _ :: _ :: _ :: _ :: _ :: _ :: _ :: _ :: _ :: (skR 66 121 114 sb0 sk0 ++ (skR 66 121 114 sb1 sk379 ++ R)))) rfl
   clear H456
   refine wend ?_
   refine oneRegion ?_
   refine sq (r_loadA (cs' := (cel E64 ([((0#64) ^^^ (0#64)), ((0#64) ^^^ (0#64))])).toArray) agg83 siz83 (H456'.get (k := 5) rfl) (off := 0) rfl (by exact bLe rfl) (by exact ext_all rfl)) ?_
   refine sq (r_loadA (cs' := (cel E64 ([0#64, 0#64])).toArray) agg83 siz83 (H456'.get (k := 0) rfl) (off := 0) rfl (by exact bLe rfl) (by exact ext_all rfl)) ?_
   refine c_call (vs := [.agg (cel E64 ([((0#64) ^^^ (0#64)), ((0#64) ^^^ (0#64))])).toArray, x48]) call28 rfl (rxor_ok ((0#64) ^^^ (0#64)) ((0#64) ^^^ (0#64)) (0#64) (0#64) w455) ?_
   rintro _ w458 ⟨rfl, hE459⟩
   have H460 := H456'.ext hE459
   refine d_store (k := 5) (v := .agg (cel E64 [(((0#64) ^^^ (0#64)) ^^^ (0#64)), (((0#64) ^^^ (0#64)) ^^^ (0#64))]).toArray) (cs' := (cel E64 ([(((0#64) ^^^ (0#64)) ^^^ (0#64)), (((0#64) ^^^ (0#64)) ^^^ (0#64))])).toArray) H460 rfl rfl rfl siz83 (by exact celSize (by first | rfl | (show _ * 1 = _; omega))) (by exact celOne _) (by rw [List.size_toArray, cel_length]; show _ ≤ _ * 1; first | omega | (simp only [List.length_set]; omega) | exact bLe rfl | (simp <;> omega)) (by exact putAll (by first | rfl | omega | (simp <;> omega))) ?_
   intro w461 H462 hC463
   have H462' := H462.as (L' := (_ :: _ :: _ :: _ :: _ :: _ :: _ :: _ :: _ :: _ :: _ :: _ :: _ :: _ :: (skR 66 121 114 sb0 sk0 ++ (skR 66 121 114 sb1 sk379 ++ R)))) rfl
   clear H462
   refine wnil ?_
   refine blockNormal ?_
   refine thenNormal ?_
   refine oneRegion ?_
   refine sq (r_addI (a := (1 : Nat)) (b := (1 : Int)) rfl rfl (by omega)) ?_
   refine sM (i64 ((1 : Nat) + (1 : Int))) rfl ?_
   refine wnil ?_
   refine thenNormal ?_
   exact ⟨(1 + 1, _), _, rfl, ⟨rfl, rfl, rfl, rfl, rfl, rfl, rfl, rfl, rfl, rfl, trivial⟩, ⟨⟨by omega, .inr (.inr ⟨rfl, kd0, cd0, sd0, ds0, sk0, kd375, cd376, sd377, ds378, sk379, hSd0, hdr0, hok0, hst0, hsb0, hso0, hSd380, hdr381, hok382, hst383, hsb384, hso385, rfl⟩)⟩, (H462'.pick 14 [4, 1, 5, 6, 7, 8, 9, 10, 11, 12, 13, 2, 3] (by decide) (by decide))⟩, by show 2 - (1 + 1) < 2 - 1; omega⟩
  ·refine sR ?_
   refine sq ((r_lssI (a := (2 : Nat)) (b := (2 : Int)) rfl rfl).as (v' := .bool false) (by rfl)) ?_
   refine wend ?_
   refine seqAny ?_
   refine condFalse rfl ?_
   refine exitAny ?_
   refine thenExit ?_
   refine thenExit ?_
   refine blockHere ?_
   refine thenNormal ?_
   refine sR ?_
   refine q_alloc (o := .cells #[sN0, sN0] 24 (0, 0)) HL zer24 (by kernel_rfl) ?_
   intro b464 w465 hb464 H466 hE467
   let x27 : Option Addr := some ⟨b464, 1, none⟩
   refine wend ?_
   refine seqAny ?_
   refine sR ?_
   refine sM (.slice oa ops.length oc) rfl ?_
   refine sq (r_lenS sli22 (a := oa) (m := ops.length) (c := oc) rfl) ?_
   refine sM (i64 0) rfl ?_
   refine wend ?_
   refine blockAny ?_
   refine loopAny (σ := Nat × Option Nat × Nat × List Value × Option Nat × Nat × List Value) (fun (i, kw0, cw0, sw0, kw1, cw1, sw1) => [(7, pT b205), (10, pT b217), (11, .nilIface), (14, pT b266), (15, pT b270), (20, pT b464), (78, .slice oa ops.length oc), (79, iN ops.length), (80, iN i)]) (fun (i, kw0, cw0, sw0, kw1, cw1, sw1) w' => (i ≤ ops.length ∧ Sl E64 kw0 (simA ops in0 in1 (dwS ops ((0 : Nat) : Int) (fIn ((0 : Nat) : Int)) ws0 0) (dwS ops ((1 : Nat) : Int) (fIn ((1 : Nat) : Int)) ws1 0) (dtS ops st0.t.l st0.b.l) (dtS ops st1.t.l st1.b.l) i).1 cw0 sw0 ∧ Sl E64 kw1 (simA ops in0 in1 (dwS ops ((0 : Nat) : Int) (fIn ((0 : Nat) : Int)) ws0 0) (dwS ops ((1 : Nat) : Int) (fIn ((1 : Nat) : Int)) ws1 0) (dtS ops st0.t.l st0.b.l) (dtS ops st1.t.l st1.b.l) i).2 cw1 sw1) ∧ Hp No w₀ w' ((kw0, sob E64 34 ((simA ops in0 in1 (dwS ops ((0 : Nat) : Int) (fIn ((0 : Nat) : Int)) ws0 0) (dwS ops ((1 : Nat) : Int) (fIn ((1 : Nat) : Int)) ws1 0) (dtS ops st0.t.l st0.b.l) (dtS ops st1.t.l st1.b.l) i).1) sw0) :: (kw1, sob E64 34 ((simA ops in0 in1 (dwS ops ((0 : Nat) : Int) (fIn ((0 : Nat) : Int)) ws0 0) (dwS ops ((1 : Nat) : Int) (fIn ((1 : Nat) : Int)) ws1 0) (dtS ops st0.t.l st0.b.l) (dtS ops st1.t.l st1.b.l) i).2) sw1) :: (rc b464 #[.slice (ownA kw0) i cw0, .slice (ownA kw1) i cw1] 24) :: (kd0, sob EDr 91 ds0 sd0) :: (kd1, sob EDr 91 ds1 sd1) :: (rc b266 #[.slice (ownA kd0) ops.length cd0, .slice (ownA kd1) ops.length cd1] 81) :: x2 :: x1 :: x5 :: (skR 66 121 114 sb0 sk0 ++ (skR 66 121 114 sb1 sk1 ++ R)))) (fun (i, kw0, cw0, sw0, kw1, cw1, sw1) => ops.length - i) ((0, none, 0, [], none, 0, [])) ?_ ?_ ?_
   ·exact ⟨rfl, rfl, rfl, rfl, rfl, rfl, rfl, rfl, rfl, trivial⟩
   have H468 := ((H466.pick 14 [0, 1, 2, 4, 3, 8, 5] (by decide) (by decide)).nil (sob E64 34 [] [])).nil (sob E64 34 [] [])
   ·exact ⟨⟨Nat.zero_le _, Sl.none, Sl.none⟩, H468⟩
   rintro ⟨i, kw0, cw0, sw0, kw1, cw1, sw1⟩ ρ w469 ⟨⟨hq3, hSk0, hSk1⟩, HL3⟩
   let x19 : Array Value := #[.slice (ownA kw0) ops.length cw0, .slice (ownA kw1) ops.length cw1]
   have hdl0 := hdr0.len
   have hdl1 := hdr1.len
   obtain ⟨hwl0, hwl1⟩ := simA_len ops in0 in1 (dwS ops ((0 : Nat) : Int) (fIn ((0 : Nat) : Int)) ws0 0) (dwS ops ((1 : Nat) : Int) (fIn ((1 : Nat) : Int)) ws1 0) (dtS ops st0.t.l st0.b.l) (dtS ops st1.t.l st1.b.l) i
   refine sR ?_
   refine sq (r_lssI (a := (i : Nat)) (b := (ops.length : Nat)) rfl rfl) ?_
   refine wend ?_
   refine seqAny ?_
   refine condProp (((i : Nat) : Int) < (ops.length : Nat)) rfl (fun c81 => ?_) (fun c81 => ?_)
   ·refine skipAny ?_
    refine thenNormal ?_
    refine seqAny ?_
    refine blockAny ?_
    refine sR ?_
    refine sM (iN i) rfl ?_
    refine sq (r_idxS (E := EMo) (l := ops) (j := i) sli22 (hO _ HL3.chg (fun p hp => HL3.has p (List.mem_cons_of_mem _ (List.mem_cons_of_mem _ (List.mem_cons_of_mem _ (List.mem_cons_of_mem _ (List.mem_cons_of_mem _ (List.mem_cons_of_mem _ (List.mem_cons_of_mem _ (List.mem_cons_of_mem _ (List.mem_cons_of_mem _ ((List.mem_append_right _ (List.mem_append_right _ hp)))))))))))))) rfl rfl (by first | rfl | omega | (simp; omega)) (by rfl) (by omega)) ?_
    refine sq ((r_ldS (E := EMo) (l := ops) (j := i) (v := ops.getD i mo0) fits36 (hO _ HL3.chg (fun p hp => HL3.has p (List.mem_cons_of_mem _ (List.mem_cons_of_mem _ (List.mem_cons_of_mem _ (List.mem_cons_of_mem _ (List.mem_cons_of_mem _ (List.mem_cons_of_mem _ (List.mem_cons_of_mem _ (List.mem_cons_of_mem _ (List.mem_cons_of_mem _ ((List.mem_append_right _ (List.mem_append_right _ hp)))))))))))))) rfl rfl (at_getD (by omega))).as (v' := .agg #[i64 ((ops.getD i mo0).kd), i64 ((ops.getD i mo0).a), i64 ((ops.getD i mo0).b), i64 ((ops.getD i mo0).k), u64 ((ops.getD i mo0).c), i64 ((ops.getD i mo0).pt)]) rfl) ?_
    refine q_alloc (o := .cells #[i64 0, i64 0, i64 0, i64 0, u64 0#64, i64 0] 36 (0, 0)) HL3 zer36 (by kernel_rfl) ?_
    intro b471 w472 hb471 H473 hE474
    refine sA (iN i) rfl ?_
    refine d_store (k := 0) (v := .agg #[i64 ((ops.getD i mo0).kd), i64 ((ops.getD i mo0).a), i64 ((ops.getD i mo0).b), i64 ((ops.getD i mo0).k), u64 ((ops.getD i mo0).c), i64 ((ops.getD i mo0).pt)]) (cs' := #[i64 ((ops.getD i mo0).kd), i64 ((ops.getD i mo0).a), i64 ((ops.getD i mo0).b), i64 ((ops.getD i mo0).k), u64 ((ops.getD i mo0).c), i64 ((ops.getD i mo0).pt)]) H473 rfl rfl rfl siz36 (by rfl) (oneL rfl) (by exact bLe rfl) (by rfl) ?_
    intro w475 H476 hC477
    have H476' := H476.as (L' := (_ :: _ :: _ :: _ :: _ :: _ :: _ :: _ :: _ :: _ :: (skR 66 121 114 sb0 sk0 ++ (skR 66 121 114 sb1 sk1 ++ R)))) rfl
    clear H476
    obtain ⟨o, ho⟩ : ∃ q1, q1 = ops.getD i mo0 := ⟨_, rfl⟩
    let x50 : Value := .slice ((ds0.getD i dr0).zs.a) ((ds0.getD i dr0).zs.n) ((ds0.getD i dr0).zs.c)
    let x49 : Value := .slice ((ds0.getD i dr0).os.a) ((ds0.getD i dr0).os.n) ((ds0.getD i dr0).os.c)
    let x47 : Value := .slice ((ds1.getD i dr0).zs.a) ((ds1.getD i dr0).zs.n) ((ds1.getD i dr0).zs.c)
    let x46 : Value := .slice ((ds1.getD i dr0).os.a) ((ds1.getD i dr0).os.n) ((ds1.getD i dr0).os.c)
    let x42 : Option Nat × Obj := (kw1, sob E64 34 ((simA ops in0 in1 (dwS ops ((0 : Nat) : Int) (fIn ((0 : Nat) : Int)) ws0 0) (dwS ops ((1 : Nat) : Int) (fIn ((1 : Nat) : Int)) ws1 0) (dtS ops st0.t.l st0.b.l) (dtS ops st1.t.l st1.b.l) i).2) sw1)
    let x39 : Option Nat × Obj := (kw0, sob E64 34 ((simA ops in0 in1 (dwS ops ((0 : Nat) : Int) (fIn ((0 : Nat) : Int)) ws0 0) (dwS ops ((1 : Nat) : Int) (fIn ((1 : Nat) : Int)) ws1 0) (dtS ops st0.t.l st0.b.l) (dtS ops st1.t.l st1.b.l) i).1) sw0)
    let x36 := rc b464 #[.slice (ownA kw0) i cw0, .slice (ownA kw1) i cw1] 24
    let x33 : Array Value := #[u64 ((ds1.getD i dr0).w), u64 ((ds1.getD i dr0).t.a), u64 ((ds1.getD i dr0).t.b), u64 ((ds1.getD i dr0).t.c), x46, x47]
    let x28 : Array Value := #[u64 ((ds0.getD i dr0).w), u64 ((ds0.getD i dr0).t.a), u64 ((ds0.getD i dr0).t.b), u64 ((ds0.getD i dr0).t.c), x49, x50]
    let x20 : Array Value := #[i64 (o.kd), i64 (o.a), i64 (o.b), i64 (o.k), u64 (o.c), i64 (o.pt)]
    let x31 := rc b471 x20 36
    let x14 : Array Value := #[u64 ((ds0.getD i dr0).w), u64 ((ds0.getD i dr0).t.a), u64 ((ds0.getD i dr0).t.b), u64 ((ds0.getD i dr0).t.c), x49, x50, u64 ((ds1.getD i dr0).w), u64 ((ds1.getD i dr0).t.a), u64 ((ds1.getD i dr0).t.b), u64 ((ds1.getD i dr0).t.c), x46, x47]
    let x3 := rc b266 #[.slice (ownA kd0) ops.length cd0, .slice (ownA kd1) ops.length cd1] 81
    let x11 := x31 :: x39 :: x42 :: x36 :: (kd0, sob EDr 91 ds0 sd0) :: (kd1, sob EDr 91 ds1 sd1) :: x3 :: x2 :: x1 :: x5 :: (skR 66 121 114 sb0 sk0 ++ (skR 66 121 114 sb1 sk1 ++ R))
    rw [← ho] at H476' ⊢
    have hgo := hgd.at' i (by omega)
    rw [← ho] at hgo
    have hka := hkd i (by omega)
    rw [← ho] at hka
    have hra := good_rng hgo.a
    have hrb := good_rng hgo.b
    refine wS ?_
    refine q_alloc (o := .cells (cel E64 ([0#64, 0#64])).toArray 87 (0, 0)) H476' zer87 (by kernel_rfl) ?_
    intro b478 w479 hb478 H480 hE481
    let x16 := re b478 E64 ([((simA ops in0 in1 (dwS ops ((0 : Nat) : Int) (fIn ((0 : Nat) : Int)) ws0 0) (dwS ops ((1 : Nat) : Int) (fIn ((1 : Nat) : Int)) ws1 0) (dtS ops st0.t.l st0.b.l) (dtS ops st1.t.l st1.b.l) i).1).getD o.a.toNat 0#64, ((simA ops in0 in1 (dwS ops ((0 : Nat) : Int) (fIn ((0 : Nat) : Int)) ws0 0) (dwS ops ((1 : Nat) : Int) (fIn ((1 : Nat) : Int)) ws1 0) (dtS ops st0.t.l st0.b.l) (dtS ops st1.t.l st1.b.l) i).2).getD o.a.toNat 0#64]) 87
    refine q_alloc (o := .cells (cel E64 ([0#64, 0#64])).toArray 87 (0, 0)) H480 zer87 (by kernel_rfl) ?_
    intro b482 w483 hb482 H484 hE485
    refine wend ?_
    refine seqJoin (σ := W2 × W2) (fun (pa, pb) => [(7, pT b205), (10, pT b217), (11, .nilIface), (14, pT b266), (15, pT b270), (20, pT b464), (21, iN i), (22, pT b471), (23, pT b478), (24, pT b482), (78, .slice oa ops.length oc), (79, iN ops.length), (80, iN i)]) (fun (pa, pb) w' => (pa = ((simA ops in0 in1 (dwS ops ((0 : Nat) : Int) (fIn ((0 : Nat) : Int)) ws0 0) (dwS ops ((1 : Nat) : Int) (fIn ((1 : Nat) : Int)) ws1 0) (dtS ops st0.t.l st0.b.l) (dtS ops st1.t.l st1.b.l) i).1.getD o.a.toNat 0#64, (simA ops in0 in1 (dwS ops ((0 : Nat) : Int) (fIn ((0 : Nat) : Int)) ws0 0) (dwS ops ((1 : Nat) : Int) (fIn ((1 : Nat) : Int)) ws1 0) (dtS ops st0.t.l st0.b.l) (dtS ops st1.t.l st1.b.l) i).2.getD o.a.toNat 0#64) ∧ pb = ((simA ops in0 in1 (dwS ops ((0 : Nat) : Int) (fIn ((0 : Nat) : Int)) ws0 0) (dwS ops ((1 : Nat) : Int) (fIn ((1 : Nat) : Int)) ws1 0) (dtS ops st0.t.l st0.b.l) (dtS ops st1.t.l st1.b.l) i).1.getD o.b.toNat 0#64, (simA ops in0 in1 (dwS ops ((0 : Nat) : Int) (fIn ((0 : Nat) : Int)) ws0 0) (dwS ops ((1 : Nat) : Int) (fIn ((1 : Nat) : Int)) ws1 0) (dtS ops st0.t.l st0.b.l) (dtS ops st1.t.l st1.b.l) i).2.getD o.b.toNat 0#64)) ∧ Hp No w₀ w' (x39 :: x42 :: x36 :: (kd0, sob EDr 91 ds0 sd0) :: (kd1, sob EDr 91 ds1 sd1) :: x3 :: x2 :: x1 :: x5 :: x31 :: (re b478 E64 ([pa.1, pa.2]) 87) :: (re b482 E64 ([pb.1, pb.2]) 87) :: (skR 66 121 114 sb0 sk0 ++ (skR 66 121 114 sb1 sk1 ++ R)))) ?_ (fun hj486 => ?_)
    ·rintro ⟨pa, pb⟩ ρ w487 ⟨⟨hpa, hpb⟩, H488⟩
     let x24 := re b482 E64 ([pb.1, pb.2]) 87
     let x18 := re b478 E64 ([pa.1, pa.2]) 87
     let x10 : List Value := [.agg x20, iN i, .agg (cel E64 ([pa.1, pa.2])).toArray, .agg (cel E64 ([pb.1, pb.2])).toArray, .agg x41, .agg x14, .agg (cel E64 ([((((0#64) ^^^ (0#64))) ^^^ (0#64)), ((((0#64) ^^^ (0#64))) ^^^ (0#64))])).toArray]
     refine seqAny ?_
     refine drawP (m := 20) [0, 0, 0, 0, 0, 0, 32, 0, 224, 480, 0, 1024, 0, 7168, 15360, 32736, 0, 131071, 0, 524287] [17, 18, 19] (fun bs vs w' => match bs, vs with | [false, false, false], [_, _, _] => Hp No w₀ w' ((kw0, sob E64 34 ((simA ops in0 in1 (dwS ops ((0 : Nat) : Int) (fIn ((0 : Nat) : Int)) ws0 0) (dwS ops ((1 : Nat) : Int) (fIn ((1 : Nat) : Int)) ws1 0) (dtS ops st0.t.l st0.b.l) (dtS ops st1.t.l st1.b.l) i).1) sw0) :: (kw1, sob E64 34 ((simA ops in0 in1 (dwS ops ((0 : Nat) : Int) (fIn ((0 : Nat) : Int)) ws0 0) (dwS ops ((1 : Nat) : Int) (fIn ((1 : Nat) : Int)) ws1 0) (dtS ops st0.t.l st0.b.l) (dtS ops st1.t.l st1.b.l) i).2) sw1) :: x36 :: (kd0, sob EDr 91 ds0 sd0) :: (kd1, sob EDr 91 ds1 sd1) :: x3 :: x2 :: x1 :: x5 :: x31 :: x18 :: x24 :: (skR 66 121 114 sb0 sk0 ++ (skR 66 121 114 sb1 sk1 ++ R))) | [true, false, false], [v17, _, _] => v17 = .agg (cel E64 [(oneA o pa pb in0 in1 (ds0.getD i dr0).w (ds1.getD i dr0).w (ds0.getD i dr0).t (ds1.getD i dr0).t).1, (oneA o pa pb in0 in1 (ds0.getD i dr0).w (ds1.getD i dr0).w (ds0.getD i dr0).t (ds1.getD i dr0).t).2]).toArray ∧ Hp No w₀ w' ((kw0, sob E64 34 ((simA ops in0 in1 (dwS ops ((0 : Nat) : Int) (fIn ((0 : Nat) : Int)) ws0 0) (dwS ops ((1 : Nat) : Int) (fIn ((1 : Nat) : Int)) ws1 0) (dtS ops st0.t.l st0.b.l) (dtS ops st1.t.l st1.b.l) i).1) sw0) :: (kw1, sob E64 34 ((simA ops in0 in1 (dwS ops ((0 : Nat) : Int) (fIn ((0 : Nat) : Int)) ws0 0) (dwS ops ((1 : Nat) : Int) (fIn ((1 : Nat) : Int)) ws1 0) (dtS ops st0.t.l st0.b.l) (dtS ops st1.t.l st1.b.l) i).2) sw1) :: x36 :: (kd0, sob EDr 91 ds0 sd0) :: (kd1, sob EDr 91 ds1 sd1) :: x3 :: x2 :: x1 :: x5 :: x31 :: x18 :: x24 :: (skR 66 121 114 sb0 sk0 ++ (skR 66 121 114 sb1 sk1 ++ R))) | [false, true, false], [_, v18, _] => ∃ (b494 : Nat), v18 = pT b494 ∧ Hp No w₀ w' ((re b494 E64 ([0#64, 0#64]) 87) :: (kw0, sob E64 34 ((simA ops in0 in1 (dwS ops ((0 : Nat) : Int) (fIn ((0 : Nat) : Int)) ws0 0) (dwS ops ((1 : Nat) : Int) (fIn ((1 : Nat) : Int)) ws1 0) (dtS ops st0.t.l st0.b.l) (dtS ops st1.t.l st1.b.l) i).1) sw0) :: (kw1, sob E64 34 ((simA ops in0 in1 (dwS ops ((0 : Nat) : Int) (fIn ((0 : Nat) : Int)) ws0 0) (dwS ops ((1 : Nat) : Int) (fIn ((1 : Nat) : Int)) ws1 0) (dtS ops st0.t.l st0.b.l) (dtS ops st1.t.l st1.b.l) i).2) sw1) :: x36 :: (kd0, sob EDr 91 ds0 sd0) :: (kd1, sob EDr 91 ds1 sd1) :: x3 :: x2 :: x1 :: x5 :: x31 :: x18 :: x24 :: (skR 66 121 114 sb0 sk0 ++ (skR 66 121 114 sb1 sk1 ++ R))) | [true, true, false], [v17, v18, _] => ∃ (b499 : Nat), v17 = .agg (cel E64 [(oneA o pa pb in0 in1 (ds0.getD i dr0).w (ds1.getD i dr0).w (ds0.getD i dr0).t (ds1.getD i dr0).t).1, (oneA o pa pb in0 in1 (ds0.getD i dr0).w (ds1.getD i dr0).w (ds0.getD i dr0).t (ds1.getD i dr0).t).2]).toArray ∧ v18 = pT b499 ∧ Hp No w₀ w' ((re b499 E64 ([0#64, 0#64]) 87) :: (kw0, sob E64 34 ((simA ops in0 in1 (dwS ops ((0 : Nat) : Int) (fIn ((0 : Nat) : Int)) ws0 0) (dwS ops ((1 : Nat) : Int) (fIn ((1 : Nat) : Int)) ws1 0) (dtS ops st0.t.l st0.b.l) (dtS ops st1.t.l st1.b.l) i).1) sw0) :: (kw1, sob E64 34 ((simA ops in0 in1 (dwS ops ((0 : Nat) : Int) (fIn ((0 : Nat) : Int)) ws0 0) (dwS ops ((1 : Nat) : Int) (fIn ((1 : Nat) : Int)) ws1 0) (dtS ops st0.t.l st0.b.l) (dtS ops st1.t.l st1.b.l) i).2) sw1) :: x36 :: (kd0, sob EDr 91 ds0 sd0) :: (kd1, sob EDr 91 ds1 sd1) :: x3 :: x2 :: x1 :: x5 :: x31 :: x18 :: x24 :: (skR 66 121 114 sb0 sk0 ++ (skR 66 121 114 sb1 sk1 ++ R))) | [true, true, true], [v17, v18, _] => ∃ (b499 : Nat), v17 = .agg (cel E64 [(oneA o pa pb in0 in1 (ds0.getD i dr0).w (ds1.getD i dr0).w (ds0.getD i dr0).t (ds1.getD i dr0).t).1, (oneA o pa pb in0 in1 (ds0.getD i dr0).w (ds1.getD i dr0).w (ds0.getD i dr0).t (ds1.getD i dr0).t).2]).toArray ∧ v18 = pT b499 ∧ Hp No w₀ w' ((re b499 E64 ([(oneA o pa pb in0 in1 (ds0.getD i dr0).w (ds1.getD i dr0).w (ds0.getD i dr0).t (ds1.getD i dr0).t).1, (oneA o pa pb in0 in1 (ds0.getD i dr0).w (ds1.getD i dr0).w (ds0.getD i dr0).t (ds1.getD i dr0).t).2]) 87) :: (kw0, sob E64 34 ((simA ops in0 in1 (dwS ops ((0 : Nat) : Int) (fIn ((0 : Nat) : Int)) ws0 0) (dwS ops ((1 : Nat) : Int) (fIn ((1 : Nat) : Int)) ws1 0) (dtS ops st0.t.l st0.b.l) (dtS ops st1.t.l st1.b.l) i).1) sw0) :: (kw1, sob E64 34 ((simA ops in0 in1 (dwS ops ((0 : Nat) : Int) (fIn ((0 : Nat) : Int)) ws0 0) (dwS ops ((1 : Nat) : Int) (fIn ((1 : Nat) : Int)) ws1 0) (dtS ops st0.t.l st0.b.l) (dtS ops st1.t.l st1.b.l) i).2) sw1) :: x36 :: (kd0, sob EDr 91 ds0 sd0) :: (kd1, sob EDr 91 ds1 sd1) :: x3 :: x2 :: x1 :: x5 :: x31 :: x18 :: x24 :: (skR 66 121 114 sb0 sk0 ++ (skR 66 121 114 sb1 sk1 ++ R))) | _, _ => False) mixed (by kernel_rfl) (by kernel_rfl) H488.drew ?_
     refine WalkP.look rfl (fun _ => .agg x20) (fun _ _ _ => rfl) (fun L r uw hAn hDn hF => ?_) ?_
     ·have b17 := hDn 17 (by decide) rfl
      have b19 := hDn 19 (by decide) rfl
      rcases bTF (L 18) with b18 | b18
      ·have hb := mp3 b17 b18 b19
       rw [hb] at hF
       obtain ⟨b494, e18, HH⟩ := hF
       exact Gives.run rfl (r_loadA (cs' := x20) agg36 siz36 (HH.get (k := 10) rfl) (off := 0) rfl (by exact bLe rfl) (by rfl)) ⟨rfl, rfl⟩
      ·have hb := mp3 b17 b18 b19
       rw [hb] at hF
       have HH := hF
       exact Gives.run rfl (r_loadA (cs' := x20) agg36 siz36 (HH.get (k := 9) rfl) (off := 0) rfl (by exact bLe rfl) (by rfl)) ⟨rfl, rfl⟩
     refine WalkP.look rfl (fun _ => iN i) (fun _ _ _ => rfl) (fun L r uw _ _ _ => Gives.run rfl (r_move (v := iN i) rfl) ⟨rfl, rfl⟩) ?_
     refine WalkP.look rfl (fun _ => .agg (cel E64 ([pa.1, pa.2])).toArray) (fun _ _ _ => rfl) (fun L r uw hAn hDn hF => ?_) ?_
     ·have b17 := hDn 17 (by decide) rfl
      have b19 := hDn 19 (by decide) rfl
      rcases bTF (L 18) with b18 | b18
      ·have hb := mp3 b17 b18 b19
       rw [hb] at hF
       obtain ⟨b494, e18, HH⟩ := hF
       exact Gives.run rfl (r_loadA (cs' := (cel E64 ([pa.1, pa.2])).toArray) agg87 siz87 (HH.get (k := 11) rfl) (off := 0) rfl (by exact bLe rfl) (by exact ext_all rfl)) ⟨rfl, rfl⟩
      ·have hb := mp3 b17 b18 b19
       rw [hb] at hF
       have HH := hF
       exact Gives.run rfl (r_loadA (cs' := (cel E64 ([pa.1, pa.2])).toArray) agg87 siz87 (HH.get (k := 10) rfl) (off := 0) rfl (by exact bLe rfl) (by exact ext_all rfl)) ⟨rfl, rfl⟩
     refine WalkP.look rfl (fun _ => .agg (cel E64 ([pb.1, pb.2])).toArray) (fun _ _ _ => rfl) (fun L r uw hAn hDn hF => ?_) ?_
     ·have b17 := hDn 17 (by decide) rfl
      have b19 := hDn 19 (by decide) rfl
      rcases bTF (L 18) with b18 | b18
      ·have hb := mp3 b17 b18 b19
       rw [hb] at hF
       obtain ⟨b494, e18, HH⟩ := hF
       exact Gives.run rfl (r_loadA (cs' := (cel E64 ([pb.1, pb.2])).toArray) agg87 siz87 (HH.get (k := 12) rfl) (off := 0) rfl (by exact bLe rfl) (by exact ext_all rfl)) ⟨rfl, rfl⟩
      ·have hb := mp3 b17 b18 b19
       rw [hb] at hF
       have HH := hF
       exact Gives.run rfl (r_loadA (cs' := (cel E64 ([pb.1, pb.2])).toArray) agg87 siz87 (HH.get (k := 11) rfl) (off := 0) rfl (by exact bLe rfl) (by exact ext_all rfl)) ⟨rfl, rfl⟩
     refine WalkP.look rfl (fun _ => .agg x41) (fun _ _ _ => rfl) (fun L r uw hAn hDn hF => ?_) ?_
     ·have b17 := hDn 17 (by decide) rfl
      have b19 := hDn 19 (by decide) rfl
      rcases bTF (L 18) with b18 | b18
      ·have hb := mp3 b17 b18 b19
       rw [hb] at hF
       obtain ⟨b494, e18, HH⟩ := hF
       exact Gives.run rfl (r_loadA (cs' := x41) agg24 siz24 (HH.get (k := 8) rfl) (off := 0) rfl (by exact bLe rfl) (by rfl)) ⟨rfl, rfl⟩
      ·have hb := mp3 b17 b18 b19
       rw [hb] at hF
       have HH := hF
       exact Gives.run rfl (r_loadA (cs' := x41) agg24 siz24 (HH.get (k := 7) rfl) (off := 0) rfl (by exact bLe rfl) (by rfl)) ⟨rfl, rfl⟩
     refine WalkP.look rfl (fun _ => pT b266) (fun _ _ _ => rfl) (fun L r uw _ _ _ => Gives.run rfl (r_indexA (off' := 0) (j := 0) arr81 (b := b266) (off := 0) rfl rfl (by first | rfl | omega | (simp; omega)) (by omega) (by omega)) ⟨rfl, rfl⟩) ?_
     refine WalkP.look rfl (fun _ => .slice (ownA kd0) ops.length cd0) (fun _ _ _ => rfl) (fun L r uw hAn hDn hF => ?_) ?_
     ·have b17 := hDn 17 (by decide) rfl
      have b19 := hDn 19 (by decide) rfl
      rcases bTF (L 18) with b18 | b18
      ·have hb := mp3 b17 b18 b19
       rw [hb] at hF
       obtain ⟨b494, e18, HH⟩ := hF
       exact Gives.run rfl (r_loadC (v := .slice (ownA kd0) ops.length cd0) one80 (HH.get (k := 6) rfl) (off := 0) rfl (by rfl)) ⟨rfl, rfl⟩
      ·have hb := mp3 b17 b18 b19
       rw [hb] at hF
       have HH := hF
       exact Gives.run rfl (r_loadC (v := .slice (ownA kd0) ops.length cd0) one80 (HH.get (k := 5) rfl) (off := 0) rfl (by rfl)) ⟨rfl, rfl⟩
     refine WalkP.look rfl (fun _ => iN i) (fun _ _ _ => rfl) (fun L r uw _ _ _ => Gives.run rfl (r_move (v := iN i) rfl) ⟨rfl, rfl⟩) ?_
     refine WalkP.look rfl (fun _ => .pointer (adr (ownA kd0) (i * 6))) (fun _ _ _ => rfl) (fun L r uw hAn hDn hF => ?_) ?_
     ·have b17 := hDn 17 (by decide) rfl
      have b19 := hDn 19 (by decide) rfl
      rcases bTF (L 18) with b18 | b18
      ·have hb := mp3 b17 b18 b19
       rw [hb] at hF
       obtain ⟨b494, e18, HH⟩ := hF
       exact Gives.run rfl (r_idxS (E := EDr) (l := ds0) (j := i) sli80 (HH.rd (k := 4) rfl hSd0) rfl rfl (by first | rfl | omega | (simp; omega)) (by exact hdr0.len.symm) (by omega)) ⟨rfl, rfl⟩
      ·have hb := mp3 b17 b18 b19
       rw [hb] at hF
       have HH := hF
       exact Gives.run rfl (r_idxS (E := EDr) (l := ds0) (j := i) sli80 (HH.rd (k := 3) rfl hSd0) rfl rfl (by first | rfl | omega | (simp; omega)) (by exact hdr0.len.symm) (by omega)) ⟨rfl, rfl⟩
     refine WalkP.look rfl (fun _ => .agg x28) (fun _ _ _ => rfl) (fun L r uw hAn hDn hF => ?_) ?_
     ·have b17 := hDn 17 (by decide) rfl
      have b19 := hDn 19 (by decide) rfl
      rcases bTF (L 18) with b18 | b18
      ·have hb := mp3 b17 b18 b19
       rw [hb] at hF
       obtain ⟨b494, e18, HH⟩ := hF
       exact Gives.run rfl ((r_ldS (E := EDr) (l := ds0) (j := i) (v := ds0.getD i dr0) fits91 (HH.rd (k := 4) rfl hSd0) rfl rfl (at_getD (by omega))).as (v' := .agg x28) rfl) ⟨rfl, rfl⟩
      ·have hb := mp3 b17 b18 b19
       rw [hb] at hF
       have HH := hF
       exact Gives.run rfl ((r_ldS (E := EDr) (l := ds0) (j := i) (v := ds0.getD i dr0) fits91 (HH.rd (k := 3) rfl hSd0) rfl rfl (at_getD (by omega))).as (v' := .agg x28) rfl) ⟨rfl, rfl⟩
     refine WalkP.look rfl (fun _ => .pointer (some ⟨b266, 1, none⟩)) (fun _ _ _ => rfl) (fun L r uw _ _ _ => Gives.run rfl (r_indexA (off' := 1) (j := 1) arr81 (b := b266) (off := 0) rfl rfl (by first | rfl | omega | (simp; omega)) (by omega) (by omega)) ⟨rfl, rfl⟩) ?_
     refine WalkP.look rfl (fun _ => .slice (ownA kd1) ops.length cd1) (fun _ _ _ => rfl) (fun L r uw hAn hDn hF => ?_) ?_
     ·have b17 := hDn 17 (by decide) rfl
      have b19 := hDn 19 (by decide) rfl
      rcases bTF (L 18) with b18 | b18
      ·have hb := mp3 b17 b18 b19
       rw [hb] at hF
       obtain ⟨b494, e18, HH⟩ := hF
       exact Gives.run rfl (r_loadC (v := .slice (ownA kd1) ops.length cd1) one80 (HH.get (k := 6) rfl) (off := 1) rfl (by rfl)) ⟨rfl, rfl⟩
      ·have hb := mp3 b17 b18 b19
       rw [hb] at hF
       have HH := hF
       exact Gives.run rfl (r_loadC (v := .slice (ownA kd1) ops.length cd1) one80 (HH.get (k := 5) rfl) (off := 1) rfl (by rfl)) ⟨rfl, rfl⟩
     refine WalkP.look rfl (fun _ => iN i) (fun _ _ _ => rfl) (fun L r uw _ _ _ => Gives.run rfl (r_move (v := iN i) rfl) ⟨rfl, rfl⟩) ?_
     refine WalkP.look rfl (fun _ => .pointer (adr (ownA kd1) (i * 6))) (fun _ _ _ => rfl) (fun L r uw hAn hDn hF => ?_) ?_
     ·have b17 := hDn 17 (by decide) rfl
      have b19 := hDn 19 (by decide) rfl
      rcases bTF (L 18) with b18 | b18
      ·have hb := mp3 b17 b18 b19
       rw [hb] at hF
       obtain ⟨b494, e18, HH⟩ := hF
       exact Gives.run rfl (r_idxS (E := EDr) (l := ds1) (j := i) sli80 (HH.rd (k := 5) rfl hSd1) rfl rfl (by first | rfl | omega | (simp; omega)) (by exact hdr1.len.symm) (by omega)) ⟨rfl, rfl⟩
      ·have hb := mp3 b17 b18 b19
       rw [hb] at hF
       have HH := hF
       exact Gives.run rfl (r_idxS (E := EDr) (l := ds1) (j := i) sli80 (HH.rd (k := 4) rfl hSd1) rfl rfl (by first | rfl | omega | (simp; omega)) (by exact hdr1.len.symm) (by omega)) ⟨rfl, rfl⟩
     refine WalkP.look rfl (fun _ => .agg x33) (fun _ _ _ => rfl) (fun L r uw hAn hDn hF => ?_) ?_
     ·have b17 := hDn 17 (by decide) rfl
      have b19 := hDn 19 (by decide) rfl
      rcases bTF (L 18) with b18 | b18
      ·have hb := mp3 b17 b18 b19
       rw [hb] at hF
       obtain ⟨b494, e18, HH⟩ := hF
       exact Gives.run rfl ((r_ldS (E := EDr) (l := ds1) (j := i) (v := ds1.getD i dr0) fits91 (HH.rd (k := 5) rfl hSd1) rfl rfl (at_getD (by omega))).as (v' := .agg x33) rfl) ⟨rfl, rfl⟩
      ·have hb := mp3 b17 b18 b19
       rw [hb] at hF
       have HH := hF
       exact Gives.run rfl ((r_ldS (E := EDr) (l := ds1) (j := i) (v := ds1.getD i dr0) fits91 (HH.rd (k := 4) rfl hSd1) rfl rfl (at_getD (by omega))).as (v' := .agg x33) rfl) ⟨rfl, rfl⟩
     refine WalkP.look rfl (fun _ => .agg x14) (fun _ _ _ => rfl) (fun L r uw _ _ _ => Gives.run rfl (r_buildA (cs' := x14) (ps := [(0, .agg x28), (1, .agg x33)]) zer92 arr92 rfl (by kernel_rfl)) ⟨rfl, rfl⟩) ?_
     refine WalkP.look rfl (fun _ => .agg (cel E64 ([((((0#64) ^^^ (0#64))) ^^^ (0#64)), ((((0#64) ^^^ (0#64))) ^^^ (0#64))])).toArray) (fun _ _ _ => rfl) (fun L r uw hAn hDn hF => ?_) ?_
     ·have b17 := hDn 17 (by decide) rfl
      have b19 := hDn 19 (by decide) rfl
      rcases bTF (L 18) with b18 | b18
      ·have hb := mp3 b17 b18 b19
       rw [hb] at hF
       obtain ⟨b494, e18, HH⟩ := hF
       exact Gives.run rfl (r_loadA (cs' := (cel E64 ([((((0#64) ^^^ (0#64))) ^^^ (0#64)), ((((0#64) ^^^ (0#64))) ^^^ (0#64))])).toArray) agg83 siz83 (HH.get (k := 7) rfl) (off := 0) rfl (by exact bLe rfl) (by exact ext_all rfl)) ⟨rfl, rfl⟩
      ·have hb := mp3 b17 b18 b19
       rw [hb] at hF
       have HH := hF
       exact Gives.run rfl (r_loadA (cs' := (cel E64 ([((((0#64) ^^^ (0#64))) ^^^ (0#64)), ((((0#64) ^^^ (0#64))) ^^^ (0#64))])).toArray) agg83 siz83 (HH.get (k := 6) rfl) (off := 0) rfl (by exact bLe rfl) (by exact ext_all rfl)) ⟨rfl, rfl⟩
     refine WalkP.eff 0 rfl (fun L r uw hLn hAn hDn hF => ?_) ?_
     ·have b17 : L 17 = false := hLn
      have b19 := hDn 19 (by decide) rfl
      rcases bTF (L 18) with b18 | b18
      ·have hb := mp3 b17 b18 b19
       rw [hb] at hF ⊢
       obtain ⟨b494, e18, H507⟩ := hF
       dsimp only
       refine Gives.ofW (d := 132) rfl rfl (fun Q' hK => ?_)
       refine c_call (vs := x10) call29 rfl (onea_ok o (i : Nat) pa pb in0 in1 na0 na1 nc0 nc1 (ds0.getD i dr0) (ds1.getD i dr0) (((((0#64) ^^^ (0#64))) ^^^ (0#64)), ((((0#64) ^^^ (0#64))) ^^^ (0#64))) hka uw (hN0 _ H507.chg (fun p hp => H507.has p (List.mem_cons_of_mem _ (List.mem_cons_of_mem _ (List.mem_cons_of_mem _ (List.mem_cons_of_mem _ (List.mem_cons_of_mem _ (List.mem_cons_of_mem _ (List.mem_cons_of_mem _ (List.mem_cons_of_mem _ (List.mem_cons_of_mem _ (List.mem_cons_of_mem _ (List.mem_cons_of_mem _ (List.mem_cons_of_mem _ (List.mem_cons_of_mem _ ((List.mem_append_right _ (List.mem_append_right _ hp)))))))))))))))))) (hN1 _ H507.chg (fun p hp => H507.has p (List.mem_cons_of_mem _ (List.mem_cons_of_mem _ (List.mem_cons_of_mem _ (List.mem_cons_of_mem _ (List.mem_cons_of_mem _ (List.mem_cons_of_mem _ (List.mem_cons_of_mem _ (List.mem_cons_of_mem _ (List.mem_cons_of_mem _ (List.mem_cons_of_mem _ (List.mem_cons_of_mem _ (List.mem_cons_of_mem _ (List.mem_cons_of_mem _ ((List.mem_append_right _ (List.mem_append_right _ hp))))))))))))))))))) ?_
       rintro _ w508 ⟨rfl, hE509⟩
       have H510 := H507.ext hE509
       exact hK _ _ (show ∃ (b499 : Nat), (_ : Value) = .agg (cel E64 [(oneA o pa pb in0 in1 (ds0.getD i dr0).w (ds1.getD i dr0).w (ds0.getD i dr0).t (ds1.getD i dr0).t).1, (oneA o pa pb in0 in1 (ds0.getD i dr0).w (ds1.getD i dr0).w (ds0.getD i dr0).t (ds1.getD i dr0).t).2]).toArray ∧ r 18 = pT b499 ∧ Hp No w₀ w508 ((re b499 E64 ([0#64, 0#64]) 87) :: (kw0, sob E64 34 ((simA ops in0 in1 (dwS ops ((0 : Nat) : Int) (fIn ((0 : Nat) : Int)) ws0 0) (dwS ops ((1 : Nat) : Int) (fIn ((1 : Nat) : Int)) ws1 0) (dtS ops st0.t.l st0.b.l) (dtS ops st1.t.l st1.b.l) i).1) sw0) :: (kw1, sob E64 34 ((simA ops in0 in1 (dwS ops ((0 : Nat) : Int) (fIn ((0 : Nat) : Int)) ws0 0) (dwS ops ((1 : Nat) : Int) (fIn ((1 : Nat) : Int)) ws1 0) (dtS ops st0.t.l st0.b.l) (dtS ops st1.t.l st1.b.l) i).2) sw1) :: x36 :: (kd0, sob EDr 91 ds0 sd0) :: (kd1, sob EDr 91 ds1 sd1) :: x3 :: x2 :: x1 :: x5 :: x31 :: x18 :: x24 :: (skR 66 121 114 sb0 sk0 ++ (skR 66 121 114 sb1 sk1 ++ R))) from ⟨b494, rfl, e18, H510⟩)
      ·have hb := mp3 b17 b18 b19
       rw [hb] at hF ⊢
       have H511 := hF
       dsimp only
       refine Gives.ofW (d := 132) rfl rfl (fun Q' hK => ?_)
       refine c_call (vs := x10) call29 rfl (onea_ok o (i : Nat) pa pb in0 in1 na0 na1 nc0 nc1 (ds0.getD i dr0) (ds1.getD i dr0) (((((0#64) ^^^ (0#64))) ^^^ (0#64)), ((((0#64) ^^^ (0#64))) ^^^ (0#64))) hka uw (hN0 _ H511.chg (fun p hp => H511.has p (List.mem_cons_of_mem _ (List.mem_cons_of_mem _ (List.mem_cons_of_mem _ (List.mem_cons_of_mem _ (List.mem_cons_of_mem _ (List.mem_cons_of_mem _ (List.mem_cons_of_mem _ (List.mem_cons_of_mem _ (List.mem_cons_of_mem _ (List.mem_cons_of_mem _ (List.mem_cons_of_mem _ (List.mem_cons_of_mem _ ((List.mem_append_right _ (List.mem_append_right _ hp))))))))))))))))) (hN1 _ H511.chg (fun p hp => H511.has p (List.mem_cons_of_mem _ (List.mem_cons_of_mem _ (List.mem_cons_of_mem _ (List.mem_cons_of_mem _ (List.mem_cons_of_mem _ (List.mem_cons_of_mem _ (List.mem_cons_of_mem _ (List.mem_cons_of_mem _ (List.mem_cons_of_mem _ (List.mem_cons_of_mem _ (List.mem_cons_of_mem _ (List.mem_cons_of_mem _ ((List.mem_append_right _ (List.mem_append_right _ hp)))))))))))))))))) ?_
       rintro _ w512 ⟨rfl, hE513⟩
       have H514 := H511.ext hE513
       exact hK _ _ (show (_ : Value) = .agg (cel E64 [(oneA o pa pb in0 in1 (ds0.getD i dr0).w (ds1.getD i dr0).w (ds0.getD i dr0).t (ds1.getD i dr0).t).1, (oneA o pa pb in0 in1 (ds0.getD i dr0).w (ds1.getD i dr0).w (ds0.getD i dr0).t (ds1.getD i dr0).t).2]).toArray ∧ Hp No w₀ w512 (x39 :: x42 :: x36 :: (kd0, sob EDr 91 ds0 sd0) :: (kd1, sob EDr 91 ds1 sd1) :: x3 :: x2 :: x1 :: x5 :: x31 :: x18 :: x24 :: (skR 66 121 114 sb0 sk0 ++ (skR 66 121 114 sb1 sk1 ++ R))) from ⟨rfl, H514⟩)
     refine WalkP.eff 1 rfl (fun L r uw hLn hAn hDn hF => ?_) ?_
     ·have b18 : L 18 = false := hLn
      have b19 := hDn 19 (by decide) rfl
      rcases bTF (L 17) with b17 | b17
      ·have hb := mp3 b17 b18 b19
       rw [hb] at hF ⊢
       obtain ⟨e17, H515⟩ := hF
       dsimp only
       rw [e17]
       refine Gives.ofW (d := 25) rfl rfl (fun Q' hK => ?_)
       refine q_alloc (o := .cells (cel E64 ([0#64, 0#64])).toArray 87 (0, 0)) H515 zer87 (by kernel_rfl) ?_
       intro b516 w517 hb516 H518 hE519
       exact hK _ _ (show ∃ (b499 : Nat), r 17 = .agg (cel E64 [(oneA o pa pb in0 in1 (ds0.getD i dr0).w (ds1.getD i dr0).w (ds0.getD i dr0).t (ds1.getD i dr0).t).1, (oneA o pa pb in0 in1 (ds0.getD i dr0).w (ds1.getD i dr0).w (ds0.getD i dr0).t (ds1.getD i dr0).t).2]).toArray ∧ (_ : Value) = pT b499 ∧ Hp No w₀ w517 ((re b499 E64 ([0#64, 0#64]) 87) :: (kw0, sob E64 34 ((simA ops in0 in1 (dwS ops ((0 : Nat) : Int) (fIn ((0 : Nat) : Int)) ws0 0) (dwS ops ((1 : Nat) : Int) (fIn ((1 : Nat) : Int)) ws1 0) (dtS ops st0.t.l st0.b.l) (dtS ops st1.t.l st1.b.l) i).1) sw0) :: (kw1, sob E64 34 ((simA ops in0 in1 (dwS ops ((0 : Nat) : Int) (fIn ((0 : Nat) : Int)) ws0 0) (dwS ops ((1 : Nat) : Int) (fIn ((1 : Nat) : Int)) ws1 0) (dtS ops st0.t.l st0.b.l) (dtS ops st1.t.l st1.b.l) i).2) sw1) :: x36 :: (kd0, sob EDr 91 ds0 sd0) :: (kd1, sob EDr 91 ds1 sd1) :: x3 :: x2 :: x1 :: x5 :: x31 :: x18 :: x24 :: (skR 66 121 114 sb0 sk0 ++ (skR 66 121 114 sb1 sk1 ++ R))) from ⟨b516, e17, rfl, H518⟩)
      ·have hb := mp3 b17 b18 b19
       rw [hb] at hF ⊢
       have H520 := hF
       dsimp only
       refine Gives.ofW (d := 25) rfl rfl (fun Q' hK => ?_)
       refine q_alloc (o := .cells (cel E64 ([0#64, 0#64])).toArray 87 (0, 0)) H520 zer87 (by kernel_rfl) ?_
       intro b521 w522 hb521 H523 hE524
       exact hK _ _ (show ∃ (b494 : Nat), (_ : Value) = pT b494 ∧ Hp No w₀ w522 ((re b494 E64 ([0#64, 0#64]) 87) :: (kw0, sob E64 34 ((simA ops in0 in1 (dwS ops ((0 : Nat) : Int) (fIn ((0 : Nat) : Int)) ws0 0) (dwS ops ((1 : Nat) : Int) (fIn ((1 : Nat) : Int)) ws1 0) (dtS ops st0.t.l st0.b.l) (dtS ops st1.t.l st1.b.l) i).1) sw0) :: (kw1, sob E64 34 ((simA ops in0 in1 (dwS ops ((0 : Nat) : Int) (fIn ((0 : Nat) : Int)) ws0 0) (dwS ops ((1 : Nat) : Int) (fIn ((1 : Nat) : Int)) ws1 0) (dtS ops st0.t.l st0.b.l) (dtS ops st1.t.l st1.b.l) i).2) sw1) :: x36 :: (kd0, sob EDr 91 ds0 sd0) :: (kd1, sob EDr 91 ds1 sd1) :: x3 :: x2 :: x1 :: x5 :: x31 :: x18 :: x24 :: (skR 66 121 114 sb0 sk0 ++ (skR 66 121 114 sb1 sk1 ++ R))) from ⟨b521, rfl, H523⟩)
     refine WalkP.eff 2 rfl (fun L r uw hLn hAn hDn hF => ?_) ?_
     ·have b17 := hAn 17 (by decide) rfl
      have b18 := hAn 18 (by decide) rfl
      have b19 : L 19 = false := hLn
      have hb := mp3 b17 b18 b19
      rw [hb] at hF ⊢
      obtain ⟨b499, e17, e18, H525⟩ := hF
      dsimp only
      rw [e17, e18]
      refine Gives.ofW0 rfl (fun Q' hK => ?_)
      refine d_store (k := 0) (v := .agg (cel E64 [(oneA o pa pb in0 in1 (ds0.getD i dr0).w (ds1.getD i dr0).w (ds0.getD i dr0).t (ds1.getD i dr0).t).1, (oneA o pa pb in0 in1 (ds0.getD i dr0).w (ds1.getD i dr0).w (ds0.getD i dr0).t (ds1.getD i dr0).t).2]).toArray) (cs' := (cel E64 ([(oneA o pa pb in0 in1 (ds0.getD i dr0).w (ds1.getD i dr0).w (ds0.getD i dr0).t (ds1.getD i dr0).t).1, (oneA o pa pb in0 in1 (ds0.getD i dr0).w (ds1.getD i dr0).w (ds0.getD i dr0).t (ds1.getD i dr0).t).2])).toArray) H525 rfl rfl rfl siz87 (by exact celSize (by first | rfl | (show _ * 1 = _; omega))) (by exact celOne _) (by rw [List.size_toArray, cel_length]; show _ ≤ _ * 1; first | omega | (simp only [List.length_set]; omega) | exact bLe rfl | (simp <;> omega)) (by exact putAll (by first | rfl | omega | (simp <;> omega))) ?_
      intro w526 H527 hC528
      have H527' := H527.as (L' := (_ :: _ :: _ :: _ :: _ :: _ :: _ :: _ :: _ :: _ :: _ :: _ :: _ :: (skR 66 121 114 sb0 sk0 ++ (skR 66 121 114 sb1 sk1 ++ R)))) rfl
      clear H527
      exact hK _ (fun _ => (show ∃ (b499 : Nat), r 17 = .agg (cel E64 [(oneA o pa pb in0 in1 (ds0.getD i dr0).w (ds1.getD i dr0).w (ds0.getD i dr0).t (ds1.getD i dr0).t).1, (oneA o pa pb in0 in1 (ds0.getD i dr0).w (ds1.getD i dr0).w (ds0.getD i dr0).t (ds1.getD i dr0).t).2]).toArray ∧ r 18 = pT b499 ∧ Hp No w₀ w526 ((re b499 E64 ([(oneA o pa pb in0 in1 (ds0.getD i dr0).w (ds1.getD i dr0).w (ds0.getD i dr0).t (ds1.getD i dr0).t).1, (oneA o pa pb in0 in1 (ds0.getD i dr0).w (ds1.getD i dr0).w (ds0.getD i dr0).t (ds1.getD i dr0).t).2]) 87) :: (kw0, sob E64 34 ((simA ops in0 in1 (dwS ops ((0 : Nat) : Int) (fIn ((0 : Nat) : Int)) ws0 0) (dwS ops ((1 : Nat) : Int) (fIn ((1 : Nat) : Int)) ws1 0) (dtS ops st0.t.l st0.b.l) (dtS ops st1.t.l st1.b.l) i).1) sw0) :: (kw1, sob E64 34 ((simA ops in0 in1 (dwS ops ((0 : Nat) : Int) (fIn ((0 : Nat) : Int)) ws0 0) (dwS ops ((1 : Nat) : Int) (fIn ((1 : Nat) : Int)) ws1 0) (dtS ops st0.t.l st0.b.l) (dtS ops st1.t.l st1.b.l) i).2) sw1) :: x36 :: (kd0, sob EDr 91 ds0 sd0) :: (kd1, sob EDr 91 ds1 sd1) :: x3 :: x2 :: x1 :: x5 :: x31 :: x18 :: x24 :: (skR 66 121 114 sb0 sk0 ++ (skR 66 121 114 sb1 sk1 ++ R))) from ⟨b499, e17, e18, H527'⟩))
     refine WalkP.nil ?_
     intro r529 w530 hF
     obtain ⟨b499, e17, e18, H531⟩ := hF
     dsimp only
     rw [e17, e18]
     obtain ⟨xp, hxp⟩ : ∃ q, q = (oneA o pa pb in0 in1 (ds0.getD i dr0).w (ds1.getD i dr0).w (ds0.getD i dr0).t (ds1.getD i dr0).t) := ⟨_, rfl⟩
     let x43 : Option Nat × Obj := (kd1, sob EDr 91 ds1 sd1)
     let x40 : Option Nat × Obj := (kd0, sob EDr 91 ds0 sd0)
     let x37 := re b482 E64 ([pb.1, pb.2]) 87
     let x34 := re b478 E64 ([pa.1, pa.2]) 87
     let x30 := re b499 E64 ([xp.1, xp.2]) 87
     let x21 := rc b464 #[.slice (ownA kw0) i cw0, .slice (ownA kw1) i cw1] 24
     let x12 := rc b205 #[.slice na0 in0.length nc0, .slice na1 in1.length nc1] 24
     let x6 := rc b471 #[i64 (o.kd), i64 (o.a), i64 (o.b), i64 (o.k), u64 (o.c), i64 (o.pt)] 36
     rw [← hxp] at H531
     have hsx : simA ops in0 in1 (dwS ops ((0 : Nat) : Int) (fIn ((0 : Nat) : Int)) ws0 0) (dwS ops ((1 : Nat) : Int) (fIn ((1 : Nat) : Int)) ws1 0) (dtS ops st0.t.l st0.b.l) (dtS ops st1.t.l st1.b.l) (i + 1) = ((simA ops in0 in1 (dwS ops ((0 : Nat) : Int) (fIn ((0 : Nat) : Int)) ws0 0) (dwS ops ((1 : Nat) : Int) (fIn ((1 : Nat) : Int)) ws1 0) (dtS ops st0.t.l st0.b.l) (dtS ops st1.t.l st1.b.l) i).1 ++ [xp.1], (simA ops in0 in1 (dwS ops ((0 : Nat) : Int) (fIn ((0 : Nat) : Int)) ws0 0) (dwS ops ((1 : Nat) : Int) (fIn ((1 : Nat) : Int)) ws1 0) (dtS ops st0.t.l st0.b.l) (dtS ops st1.t.l st1.b.l) i).2 ++ [xp.2]) := by rw [simA, ← ho, hxp, hpa, hpb, hdr0.w i (by omega), hdr1.w i (by omega), hdr0.t i (by omega), hdr1.t i (by omega)]
     refine wnil ?_
     refine thenNormal ?_
     refine drawP (m := 16) [0, 1, 0, 4, 12, 31, 0, 64, 0, 256, 768, 2047, 255, 8191, 16383, 32767] [4, 5, 10, 11, 13, 15] (fun bs vs w' => match bs, vs with | [false, false, false, false, false, false], [_, _, _, _, _, _] => Hp No w₀ w' (x30 :: (kw0, sob E64 34 ((simA ops in0 in1 (dwS ops ((0 : Nat) : Int) (fIn ((0 : Nat) : Int)) ws0 0) (dwS ops ((1 : Nat) : Int) (fIn ((1 : Nat) : Int)) ws1 0) (dtS ops st0.t.l st0.b.l) (dtS ops st1.t.l st1.b.l) i).1) sw0) :: (kw1, sob E64 34 ((simA ops in0 in1 (dwS ops ((0 : Nat) : Int) (fIn ((0 : Nat) : Int)) ws0 0) (dwS ops ((1 : Nat) : Int) (fIn ((1 : Nat) : Int)) ws1 0) (dtS ops st0.t.l st0.b.l) (dtS ops st1.t.l st1.b.l) i).2) sw1) :: x21 :: x40 :: x43 :: x3 :: x2 :: x12 :: x5 :: x6 :: x34 :: x37 :: (skR 66 121 114 sb0 sk0 ++ (skR 66 121 114 sb1 sk1 ++ R))) | [true, false, false, false, false, false], [v4, _, _, _, _, _] => ∃ (b533 : Nat), v4 = .slice (ownA (some b533)) 1 1 ∧ Sl E64 (some b533) ([xp.1]) 1 ([]) ∧ Hp No w₀ w' (((some b533), sob E64 34 ([xp.1]) ([])) :: x30 :: (kw0, sob E64 34 ((simA ops in0 in1 (dwS ops ((0 : Nat) : Int) (fIn ((0 : Nat) : Int)) ws0 0) (dwS ops ((1 : Nat) : Int) (fIn ((1 : Nat) : Int)) ws1 0) (dtS ops st0.t.l st0.b.l) (dtS ops st1.t.l st1.b.l) i).1) sw0) :: (kw1, sob E64 34 ((simA ops in0 in1 (dwS ops ((0 : Nat) : Int) (fIn ((0 : Nat) : Int)) ws0 0) (dwS ops ((1 : Nat) : Int) (fIn ((1 : Nat) : Int)) ws1 0) (dtS ops st0.t.l st0.b.l) (dtS ops st1.t.l st1.b.l) i).2) sw1) :: x21 :: x40 :: x43 :: x3 :: x2 :: x12 :: x5 :: x6 :: x34 :: x37 :: (skR 66 121 114 sb0 sk0 ++ (skR 66 121 114 sb1 sk1 ++ R))) | [true, true, false, false, false, false], [v4, v5, _, _, _, _] => ∃ (b533 : Nat) (key539 : Option Nat) (c540 : Nat) (sp541 : List Value), v4 = .slice (ownA (some b533)) 1 1 ∧ v5 = .slice (ownA key539) (i + 1) c540 ∧ Sl E64 (some b533) ([xp.1]) 1 ([]) ∧ Sl E64 key539 (((simA ops in0 in1 (dwS ops ((0 : Nat) : Int) (fIn ((0 : Nat) : Int)) ws0 0) (dwS ops ((1 : Nat) : Int) (fIn ((1 : Nat) : Int)) ws1 0) (dtS ops st0.t.l st0.b.l) (dtS ops st1.t.l st1.b.l) i).1) ++ ([xp.1])) c540 sp541 ∧ Hp No w₀ w' (((some b533), sob E64 34 ([xp.1]) ([])) :: x30 :: (key539, sob E64 34 (((simA ops in0 in1 (dwS ops ((0 : Nat) : Int) (fIn ((0 : Nat) : Int)) ws0 0) (dwS ops ((1 : Nat) : Int) (fIn ((1 : Nat) : Int)) ws1 0) (dtS ops st0.t.l st0.b.l) (dtS ops st1.t.l st1.b.l) i).1) ++ ([xp.1])) sp541) :: (kw1, sob E64 34 ((simA ops in0 in1 (dwS ops ((0 : Nat) : Int) (fIn ((0 : Nat) : Int)) ws0 0) (dwS ops ((1 : Nat) : Int) (fIn ((1 : Nat) : Int)) ws1 0) (dtS ops st0.t.l st0.b.l) (dtS ops st1.t.l st1.b.l) i).2) sw1) :: x21 :: x40 :: x43 :: x3 :: x2 :: x12 :: x5 :: x6 :: x34 :: x37 :: (skR 66 121 114 sb0 sk0 ++ (skR 66 121 114 sb1 sk1 ++ R))) | [false, false, true, false, false, false], [_, _, v10, _, _, _] => ∃ (b547 : Nat), v10 = .slice (ownA (some b547)) 1 1 ∧ Sl E64 (some b547) ([xp.2]) 1 ([]) ∧ Hp No w₀ w' (((some b547), sob E64 34 ([xp.2]) ([])) :: x30 :: (kw0, sob E64 34 ((simA ops in0 in1 (dwS ops ((0 : Nat) : Int) (fIn ((0 : Nat) : Int)) ws0 0) (dwS ops ((1 : Nat) : Int) (fIn ((1 : Nat) : Int)) ws1 0) (dtS ops st0.t.l st0.b.l) (dtS ops st1.t.l st1.b.l) i).1) sw0) :: (kw1, sob E64 34 ((simA ops in0 in1 (dwS ops ((0 : Nat) : Int) (fIn ((0 : Nat) : Int)) ws0 0) (dwS ops ((1 : Nat) : Int) (fIn ((1 : Nat) : Int)) ws1 0) (dtS ops st0.t.l st0.b.l) (dtS ops st1.t.l st1.b.l) i).2) sw1) :: x21 :: x40 :: x43 :: x3 :: x2 :: x12 :: x5 :: x6 :: x34 :: x37 :: (skR 66 121 114 sb0 sk0 ++ (skR 66 121 114 sb1 sk1 ++ R))) | [true, false, true, false, false, false], [v4, _, v10, _, _, _] => ∃ (b533 : Nat) (b553 : Nat), v4 = .slice (ownA (some b533)) 1 1 ∧ v10 = .slice (ownA (some b553)) 1 1 ∧ Sl E64 (some b553) ([xp.2]) 1 ([]) ∧ Sl E64 (some b533) ([xp.1]) 1 ([]) ∧ Hp No w₀ w' (((some b553), sob E64 34 ([xp.2]) ([])) :: ((some b533), sob E64 34 ([xp.1]) ([])) :: x30 :: (kw0, sob E64 34 ((simA ops in0 in1 (dwS ops ((0 : Nat) : Int) (fIn ((0 : Nat) : Int)) ws0 0) (dwS ops ((1 : Nat) : Int) (fIn ((1 : Nat) : Int)) ws1 0) (dtS ops st0.t.l st0.b.l) (dtS ops st1.t.l st1.b.l) i).1) sw0) :: (kw1, sob E64 34 ((simA ops in0 in1 (dwS ops ((0 : Nat) : Int) (fIn ((0 : Nat) : Int)) ws0 0) (dwS ops ((1 : Nat) : Int) (fIn ((1 : Nat) : Int)) ws1 0) (dtS ops st0.t.l st0.b.l) (dtS ops st1.t.l st1.b.l) i).2) sw1) :: x21 :: x40 :: x43 :: x3 :: x2 :: x12 :: x5 :: x6 :: x34 :: x37 :: (skR 66 121 114 sb0 sk0 ++ (skR 66 121 114 sb1 sk1 ++ R))) | [true, true, true, false, false, false], [v4, v5, v10, _, _, _] => ∃ (b533 : Nat) (key539 : Option Nat) (c540 : Nat) (sp541 : List Value) (b559 : Nat), v4 = .slice (ownA (some b533)) 1 1 ∧ v5 = .slice (ownA key539) (i + 1) c540 ∧ v10 = .slice (ownA (some b559)) 1 1 ∧ Sl E64 (some b559) ([xp.2]) 1 ([]) ∧ Sl E64 (some b533) ([xp.1]) 1 ([]) ∧ Sl E64 key539 (((simA ops in0 in1 (dwS ops ((0 : Nat) : Int) (fIn ((0 : Nat) : Int)) ws0 0) (dwS ops ((1 : Nat) : Int) (fIn ((1 : Nat) : Int)) ws1 0) (dtS ops st0.t.l st0.b.l) (dtS ops st1.t.l st1.b.l) i).1) ++ ([xp.1])) c540 sp541 ∧ Hp No w₀ w' (((some b559), sob E64 34 ([xp.2]) ([])) :: ((some b533), sob E64 34 ([xp.1]) ([])) :: x30 :: (key539, sob E64 34 (((simA ops in0 in1 (dwS ops ((0 : Nat) : Int) (fIn ((0 : Nat) : Int)) ws0 0) (dwS ops ((1 : Nat) : Int) (fIn ((1 : Nat) : Int)) ws1 0) (dtS ops st0.t.l st0.b.l) (dtS ops st1.t.l st1.b.l) i).1) ++ ([xp.1])) sp541) :: (kw1, sob E64 34 ((simA ops in0 in1 (dwS ops ((0 : Nat) : Int) (fIn ((0 : Nat) : Int)) ws0 0) (dwS ops ((1 : Nat) : Int) (fIn ((1 : Nat) : Int)) ws1 0) (dtS ops st0.t.l st0.b.l) (dtS ops st1.t.l st1.b.l) i).2) sw1) :: x21 :: x40 :: x43 :: x3 :: x2 :: x12 :: x5 :: x6 :: x34 :: x37 :: (skR 66 121 114 sb0 sk0 ++ (skR 66 121 114 sb1 sk1 ++ R))) | [true, true, true, true, false, false], [v4, v5, v10, v11, _, _] => ∃ (b533 : Nat) (key539 : Option Nat) (c540 : Nat) (sp541 : List Value) (b559 : Nat) (key565 : Option Nat) (c566 : Nat) (sp567 : List Value), v4 = .slice (ownA (some b533)) 1 1 ∧ v5 = .slice (ownA key539) (i + 1) c540 ∧ v10 = .slice (ownA (some b559)) 1 1 ∧ v11 = .slice (ownA key565) (i + 1) c566 ∧ Sl E64 (some b559) ([xp.2]) 1 ([]) ∧ Sl E64 (some b533) ([xp.1]) 1 ([]) ∧ Sl E64 key539 (((simA ops in0 in1 (dwS ops ((0 : Nat) : Int) (fIn ((0 : Nat) : Int)) ws0 0) (dwS ops ((1 : Nat) : Int) (fIn ((1 : Nat) : Int)) ws1 0) (dtS ops st0.t.l st0.b.l) (dtS ops st1.t.l st1.b.l) i).1) ++ ([xp.1])) c540 sp541 ∧ Sl E64 key565 (((simA ops in0 in1 (dwS ops ((0 : Nat) : Int) (fIn ((0 : Nat) : Int)) ws0 0) (dwS ops ((1 : Nat) : Int) (fIn ((1 : Nat) : Int)) ws1 0) (dtS ops st0.t.l st0.b.l) (dtS ops st1.t.l st1.b.l) i).2) ++ ([xp.2])) c566 sp567 ∧ Hp No w₀ w' (((some b559), sob E64 34 ([xp.2]) ([])) :: ((some b533), sob E64 34 ([xp.1]) ([])) :: x30 :: (key539, sob E64 34 (((simA ops in0 in1 (dwS ops ((0 : Nat) : Int) (fIn ((0 : Nat) : Int)) ws0 0) (dwS ops ((1 : Nat) : Int) (fIn ((1 : Nat) : Int)) ws1 0) (dtS ops st0.t.l st0.b.l) (dtS ops st1.t.l st1.b.l) i).1) ++ ([xp.1])) sp541) :: (key565, sob E64 34 (((simA ops in0 in1 (dwS ops ((0 : Nat) : Int) (fIn ((0 : Nat) : Int)) ws0 0) (dwS ops ((1 : Nat) : Int) (fIn ((1 : Nat) : Int)) ws1 0) (dtS ops st0.t.l st0.b.l) (dtS ops st1.t.l st1.b.l) i).2) ++ ([xp.2])) sp567) :: x21 :: x40 :: x43 :: x3 :: x2 :: x12 :: x5 :: x6 :: x34 :: x37 :: (skR 66 121 114 sb0 sk0 ++ (skR 66 121 114 sb1 sk1 ++ R))) | [true, true, true, true, true, false], [v4, v5, v10, v11, _, _] => ∃ (b533 : Nat) (key539 : Option Nat) (c540 : Nat) (sp541 : List Value) (b559 : Nat) (key565 : Option Nat) (c566 : Nat) (sp567 : List Value), v4 = .slice (ownA (some b533)) 1 1 ∧ v5 = .slice (ownA key539) (i + 1) c540 ∧ v10 = .slice (ownA (some b559)) 1 1 ∧ v11 = .slice (ownA key565) (i + 1) c566 ∧ Sl E64 (some b559) ([xp.2]) 1 ([]) ∧ Sl E64 (some b533) ([xp.1]) 1 ([]) ∧ Sl E64 key539 (((simA ops in0 in1 (dwS ops ((0 : Nat) : Int) (fIn ((0 : Nat) : Int)) ws0 0) (dwS ops ((1 : Nat) : Int) (fIn ((1 : Nat) : Int)) ws1 0) (dtS ops st0.t.l st0.b.l) (dtS ops st1.t.l st1.b.l) i).1) ++ ([xp.1])) c540 sp541 ∧ Sl E64 key565 (((simA ops in0 in1 (dwS ops ((0 : Nat) : Int) (fIn ((0 : Nat) : Int)) ws0 0) (dwS ops ((1 : Nat) : Int) (fIn ((1 : Nat) : Int)) ws1 0) (dtS ops st0.t.l st0.b.l) (dtS ops st1.t.l st1.b.l) i).2) ++ ([xp.2])) c566 sp567 ∧ Hp No w₀ w' (((some b559), sob E64 34 ([xp.2]) ([])) :: ((some b533), sob E64 34 ([xp.1]) ([])) :: x30 :: (key539, sob E64 34 (((simA ops in0 in1 (dwS ops ((0 : Nat) : Int) (fIn ((0 : Nat) : Int)) ws0 0) (dwS ops ((1 : Nat) : Int) (fIn ((1 : Nat) : Int)) ws1 0) (dtS ops st0.t.l st0.b.l) (dtS ops st1.t.l st1.b.l) i).1) ++ ([xp.1])) sp541) :: (key565, sob E64 34 (((simA ops in0 in1 (dwS ops ((0 : Nat) : Int) (fIn ((0 : Nat) : Int)) ws0 0) (dwS ops ((1 : Nat) : Int) (fIn ((1 : Nat) : Int)) ws1 0) (dtS ops st0.t.l st0.b.l) (dtS ops st1.t.l st1.b.l) i).2) ++ ([xp.2])) sp567) :: (rc b464 #[.slice (ownA key539) (i + 1) c540, .slice (ownA kw1) i cw1] 24) :: x40 :: x43 :: x3 :: x2 :: x12 :: x5 :: x6 :: x34 :: x37 :: (skR 66 121 114 sb0 sk0 ++ (skR 66 121 114 sb1 sk1 ++ R))) | [true, true, true, true, true, true], [v4, v5, v10, v11, _, _] => ∃ (b533 : Nat) (key539 : Option Nat) (c540 : Nat) (sp541 : List Value) (b559 : Nat) (key565 : Option Nat) (c566 : Nat) (sp567 : List Value), v4 = .slice (ownA (some b533)) 1 1 ∧ v5 = .slice (ownA key539) (i + 1) c540 ∧ v10 = .slice (ownA (some b559)) 1 1 ∧ v11 = .slice (ownA key565) (i + 1) c566 ∧ Sl E64 (some b559) ([xp.2]) 1 ([]) ∧ Sl E64 (some b533) ([xp.1]) 1 ([]) ∧ Sl E64 key539 (((simA ops in0 in1 (dwS ops ((0 : Nat) : Int) (fIn ((0 : Nat) : Int)) ws0 0) (dwS ops ((1 : Nat) : Int) (fIn ((1 : Nat) : Int)) ws1 0) (dtS ops st0.t.l st0.b.l) (dtS ops st1.t.l st1.b.l) i).1) ++ ([xp.1])) c540 sp541 ∧ Sl E64 key565 (((simA ops in0 in1 (dwS ops ((0 : Nat) : Int) (fIn ((0 : Nat) : Int)) ws0 0) (dwS ops ((1 : Nat) : Int) (fIn ((1 : Nat) : Int)) ws1 0) (dtS ops st0.t.l st0.b.l) (dtS ops st1.t.l st1.b.l) i).2) ++ ([xp.2])) c566 sp567 ∧ Hp No w₀ w' (((some b559), sob E64 34 ([xp.2]) ([])) :: ((some b533), sob E64 34 ([xp.1]) ([])) :: x30 :: (key539, sob E64 34 (((simA ops in0 in1 (dwS ops ((0 : Nat) : Int) (fIn ((0 : Nat) : Int)) ws0 0) (dwS ops ((1 : Nat) : Int) (fIn ((1 : Nat) : Int)) ws1 0) (dtS ops st0.t.l st0.b.l) (dtS ops st1.t.l st1.b.l) i).1) ++ ([xp.1])) sp541) :: (key565, sob E64 34 (((simA ops in0 in1 (dwS ops ((0 : Nat) : Int) (fIn ((0 : Nat) : Int)) ws0 0) (dwS ops ((1 : Nat) : Int) (fIn ((1 : Nat) : Int)) ws1 0) (dtS ops st0.t.l st0.b.l) (dtS ops st1.t.l st1.b.l) i).2) ++ ([xp.2])) sp567) :: (rc b464 #[.slice (ownA key539) (i + 1) c540, .slice (ownA key565) (i + 1) c566] 24) :: x40 :: x43 :: x3 :: x2 :: x12 :: x5 :: x6 :: x34 :: x37 :: (skR 66 121 114 sb0 sk0 ++ (skR 66 121 114 sb1 sk1 ++ R))) | _, _ => False) mixed (by kernel_rfl) (by kernel_rfl) H531.drew ?_
     refine WalkP.look rfl (fun _ => pT b464) (fun _ _ _ => rfl) (fun L r uw _ _ _ => Gives.run rfl (r_indexA (off' := 0) (j := 0) arr24 (b := b464) (off := 0) rfl rfl (by first | rfl | omega | (simp; omega)) (by omega) (by omega)) ⟨rfl, rfl⟩) ?_
     refine WalkP.look rfl (fun _ => .slice (ownA kw0) i cw0) (fun _ _ _ => rfl) (fun L r uw hAn hDn hF => ?_) ?_
     ·have b5 := hDn 5 (by decide) rfl
      have b11 := hDn 11 (by decide) rfl
      have b13 := hDn 13 (by decide) rfl
      have b15 := hDn 15 (by decide) rfl
      rcases bTF (L 4) with b4 | b4
      ·rcases bTF (L 10) with b10 | b10
       ·have hb : List.map L [4, 5, 10, 11, 13, 15] = [true, false, true, false, false, false] := by simp only [List.map_cons, List.map_nil, b4, b5, b10, b11, b13, b15]
        rw [hb] at hF
        obtain ⟨b533, b553, e4, e10, hS554, hS534, HH⟩ := hF
        exact Gives.run rfl (r_loadC (v := .slice (ownA kw0) i cw0) one23 (HH.get (k := 5) rfl) (off := 0) rfl (by rfl)) ⟨rfl, rfl⟩
       ·have hb : List.map L [4, 5, 10, 11, 13, 15] = [true, false, false, false, false, false] := by simp only [List.map_cons, List.map_nil, b4, b5, b10, b11, b13, b15]
        rw [hb] at hF
        obtain ⟨b533, e4, hS534, HH⟩ := hF
        exact Gives.run rfl (r_loadC (v := .slice (ownA kw0) i cw0) one23 (HH.get (k := 4) rfl) (off := 0) rfl (by rfl)) ⟨rfl, rfl⟩
      ·rcases bTF (L 10) with b10 | b10
       ·have hb : List.map L [4, 5, 10, 11, 13, 15] = [false, false, true, false, false, false] := by simp only [List.map_cons, List.map_nil, b4, b5, b10, b11, b13, b15]
        rw [hb] at hF
        obtain ⟨b547, e10, hS548, HH⟩ := hF
        exact Gives.run rfl (r_loadC (v := .slice (ownA kw0) i cw0) one23 (HH.get (k := 4) rfl) (off := 0) rfl (by rfl)) ⟨rfl, rfl⟩
       ·have hb : List.map L [4, 5, 10, 11, 13, 15] = [false, false, false, false, false, false] := by simp only [List.map_cons, List.map_nil, b4, b5, b10, b11, b13, b15]
        rw [hb] at hF
        have HH := hF
        exact Gives.run rfl (r_loadC (v := .slice (ownA kw0) i cw0) one23 (HH.get (k := 3) rfl) (off := 0) rfl (by rfl)) ⟨rfl, rfl⟩
     refine WalkP.look rfl (fun _ => pT b499) (fun _ _ _ => rfl) (fun L r uw _ _ _ => Gives.run rfl (r_indexA (off' := 0) (j := 0) arr87 (b := b499) (off := 0) rfl rfl (by first | rfl | omega | (simp; omega)) (by omega) (by omega)) ⟨rfl, rfl⟩) ?_
     refine WalkP.look rfl (fun _ => u64 (xp.1)) (fun _ _ _ => rfl) (fun L r uw hAn hDn hF => ?_) ?_
     ·have b4 := hDn 4 (by decide) rfl
      have b5 := hDn 5 (by decide) rfl
      have b11 := hDn 11 (by decide) rfl
      have b13 := hDn 13 (by decide) rfl
      have b15 := hDn 15 (by decide) rfl
      rcases bTF (L 10) with b10 | b10
      ·have hb : List.map L [4, 5, 10, 11, 13, 15] = [false, false, true, false, false, false] := by simp only [List.map_cons, List.map_nil, b4, b5, b10, b11, b13, b15]
       rw [hb] at hF
       obtain ⟨b547, e10, hS548, HH⟩ := hF
       exact Gives.run rfl (r_ld1 (E := E64) (l := [xp.1, xp.2]) (j := 0) (a := xp.1) fits34 (HH.get (k := 1) rfl) (by rfl) rfl rfl) ⟨rfl, rfl⟩
      ·have hb : List.map L [4, 5, 10, 11, 13, 15] = [false, false, false, false, false, false] := by simp only [List.map_cons, List.map_nil, b4, b5, b10, b11, b13, b15]
       rw [hb] at hF
       have HH := hF
       exact Gives.run rfl (r_ld1 (E := E64) (l := [xp.1, xp.2]) (j := 0) (a := xp.1) fits34 (HH.get (k := 0) rfl) (by rfl) rfl rfl) ⟨rfl, rfl⟩
     refine WalkP.eff 0 rfl (fun L r uw hLn hAn hDn hF => ?_) ?_
     ·have b4 : L 4 = false := hLn
      have b5 := hDn 5 (by decide) rfl
      have b11 := hDn 11 (by decide) rfl
      have b13 := hDn 13 (by decide) rfl
      have b15 := hDn 15 (by decide) rfl
      rcases bTF (L 10) with b10 | b10
      ·have hb : List.map L [4, 5, 10, 11, 13, 15] = [false, false, true, false, false, false] := by simp only [List.map_cons, List.map_nil, b4, b5, b10, b11, b13, b15]
       rw [hb] at hF ⊢
       obtain ⟨b547, e10, hS548, H580⟩ := hF
       dsimp only
       refine Gives.ofW (d := 137) rfl rfl (fun Q' hK => ?_)
       refine q_buildSlice (E := E64) (l := [xp.1]) H580 sli23 zer34 (bLe rfl) (ps := [(0, u64 (xp.1))]) rfl (by exact fillAll rfl rfl) rfl ?_
       intro b581 w583 hS582 H584 hE585
       exact hK _ _ (show ∃ (b533 : Nat) (b553 : Nat), (_ : Value) = .slice (ownA (some b533)) 1 1 ∧ r 10 = .slice (ownA (some b553)) 1 1 ∧ Sl E64 (some b553) ([xp.2]) 1 ([]) ∧ Sl E64 (some b533) ([xp.1]) 1 ([]) ∧ Hp No w₀ w583 (((some b553), sob E64 34 ([xp.2]) ([])) :: ((some b533), sob E64 34 ([xp.1]) ([])) :: x30 :: (kw0, sob E64 34 ((simA ops in0 in1 (dwS ops ((0 : Nat) : Int) (fIn ((0 : Nat) : Int)) ws0 0) (dwS ops ((1 : Nat) : Int) (fIn ((1 : Nat) : Int)) ws1 0) (dtS ops st0.t.l st0.b.l) (dtS ops st1.t.l st1.b.l) i).1) sw0) :: (kw1, sob E64 34 ((simA ops in0 in1 (dwS ops ((0 : Nat) : Int) (fIn ((0 : Nat) : Int)) ws0 0) (dwS ops ((1 : Nat) : Int) (fIn ((1 : Nat) : Int)) ws1 0) (dtS ops st0.t.l st0.b.l) (dtS ops st1.t.l st1.b.l) i).2) sw1) :: x21 :: x40 :: x43 :: x3 :: x2 :: x12 :: x5 :: x6 :: x34 :: x37 :: (skR 66 121 114 sb0 sk0 ++ (skR 66 121 114 sb1 sk1 ++ R))) from ⟨b581, b547, rfl, e10, hS548, hS582, (H584.pull (k := 1) rfl)⟩)
      ·have hb : List.map L [4, 5, 10, 11, 13, 15] = [false, false, false, false, false, false] := by simp only [List.map_cons, List.map_nil, b4, b5, b10, b11, b13, b15]
       rw [hb] at hF ⊢
       have H586 := hF
       dsimp only
       refine Gives.ofW (d := 137) rfl rfl (fun Q' hK => ?_)
       refine q_buildSlice (E := E64) (l := [xp.1]) H586 sli23 zer34 (bLe rfl) (ps := [(0, u64 (xp.1))]) rfl (by exact fillAll rfl rfl) rfl ?_
       intro b587 w589 hS588 H590 hE591
       exact hK _ _ (show ∃ (b533 : Nat), (_ : Value) = .slice (ownA (some b533)) 1 1 ∧ Sl E64 (some b533) ([xp.1]) 1 ([]) ∧ Hp No w₀ w589 (((some b533), sob E64 34 ([xp.1]) ([])) :: x30 :: (kw0, sob E64 34 ((simA ops in0 in1 (dwS ops ((0 : Nat) : Int) (fIn ((0 : Nat) : Int)) ws0 0) (dwS ops ((1 : Nat) : Int) (fIn ((1 : Nat) : Int)) ws1 0) (dtS ops st0.t.l st0.b.l) (dtS ops st1.t.l st1.b.l) i).1) sw0) :: (kw1, sob E64 34 ((simA ops in0 in1 (dwS ops ((0 : Nat) : Int) (fIn ((0 : Nat) : Int)) ws0 0) (dwS ops ((1 : Nat) : Int) (fIn ((1 : Nat) : Int)) ws1 0) (dtS ops st0.t.l st0.b.l) (dtS ops st1.t.l st1.b.l) i).2) sw1) :: x21 :: x40 :: x43 :: x3 :: x2 :: x12 :: x5 :: x6 :: x34 :: x37 :: (skR 66 121 114 sb0 sk0 ++ (skR 66 121 114 sb1 sk1 ++ R))) from ⟨b587, rfl, hS588, H590⟩)
     refine WalkP.eff 1 rfl (fun L r uw hLn hAn hDn hF => ?_) ?_
     ·have b4 := hAn 4 (by decide) rfl
      have b5 : L 5 = false := hLn
      have b11 := hDn 11 (by decide) rfl
      have b13 := hDn 13 (by decide) rfl
      have b15 := hDn 15 (by decide) rfl
      rcases bTF (L 10) with b10 | b10
      ·have hb : List.map L [4, 5, 10, 11, 13, 15] = [true, false, true, false, false, false] := by simp only [List.map_cons, List.map_nil, b4, b5, b10, b11, b13, b15]
       rw [hb] at hF ⊢
       obtain ⟨b533, b553, e4, e10, hS554, hS534, H592⟩ := hF
       dsimp only
       rw [e4]
       refine Gives.ofW (d := 138) rfl rfl (fun Q' hK => ?_)
       refine q_append (E := E64) (k := 3) (l := (simA ops in0 in1 (dwS ops ((0 : Nat) : Int) (fIn ((0 : Nat) : Int)) ws0 0) (dwS ops ((1 : Nat) : Int) (fIn ((1 : Nat) : Int)) ws1 0) (dtS ops st0.t.l st0.b.l) (dtS ops st1.t.l st1.b.l) i).1) (l2 := [xp.1]) H592 rfl hSk0 sli23 zer34 rfl byt34 (H592.rd (k := 1) rfl hS534) rfl (by exact hwl0.symm) rfl (by rfl) (by omega) ?_
       intro key593 c594 sp595 w597 hS596 hne599 H598
       have H598' := H598.as (L' := (_ :: _ :: _ :: _ :: _ :: _ :: _ :: _ :: _ :: _ :: _ :: _ :: _ :: _ :: _ :: (skR 66 121 114 sb0 sk0 ++ (skR 66 121 114 sb1 sk1 ++ R)))) rfl
       clear H598
       exact hK _ _ (show ∃ (b533 : Nat) (key539 : Option Nat) (c540 : Nat) (sp541 : List Value) (b559 : Nat), r 4 = .slice (ownA (some b533)) 1 1 ∧ (_ : Value) = .slice (ownA key539) (i + 1) c540 ∧ r 10 = .slice (ownA (some b559)) 1 1 ∧ Sl E64 (some b559) ([xp.2]) 1 ([]) ∧ Sl E64 (some b533) ([xp.1]) 1 ([]) ∧ Sl E64 key539 (((simA ops in0 in1 (dwS ops ((0 : Nat) : Int) (fIn ((0 : Nat) : Int)) ws0 0) (dwS ops ((1 : Nat) : Int) (fIn ((1 : Nat) : Int)) ws1 0) (dtS ops st0.t.l st0.b.l) (dtS ops st1.t.l st1.b.l) i).1) ++ ([xp.1])) c540 sp541 ∧ Hp No w₀ w597 (((some b559), sob E64 34 ([xp.2]) ([])) :: ((some b533), sob E64 34 ([xp.1]) ([])) :: x30 :: (key539, sob E64 34 (((simA ops in0 in1 (dwS ops ((0 : Nat) : Int) (fIn ((0 : Nat) : Int)) ws0 0) (dwS ops ((1 : Nat) : Int) (fIn ((1 : Nat) : Int)) ws1 0) (dtS ops st0.t.l st0.b.l) (dtS ops st1.t.l st1.b.l) i).1) ++ ([xp.1])) sp541) :: (kw1, sob E64 34 ((simA ops in0 in1 (dwS ops ((0 : Nat) : Int) (fIn ((0 : Nat) : Int)) ws0 0) (dwS ops ((1 : Nat) : Int) (fIn ((1 : Nat) : Int)) ws1 0) (dtS ops st0.t.l st0.b.l) (dtS ops st1.t.l st1.b.l) i).2) sw1) :: x21 :: x40 :: x43 :: x3 :: x2 :: x12 :: x5 :: x6 :: x34 :: x37 :: (skR 66 121 114 sb0 sk0 ++ (skR 66 121 114 sb1 sk1 ++ R))) from ⟨b533, key593, c594, sp595, b553, e4, rfl, e10, hS554, hS534, hS596, H598'⟩)
      ·have hb : List.map L [4, 5, 10, 11, 13, 15] = [true, false, false, false, false, false] := by simp only [List.map_cons, List.map_nil, b4, b5, b10, b11, b13, b15]
       rw [hb] at hF ⊢
       obtain ⟨b533, e4, hS534, H600⟩ := hF
       dsimp only
       rw [e4]
       refine Gives.ofW (d := 138) rfl rfl (fun Q' hK => ?_)
       refine q_append (E := E64) (k := 2) (l := (simA ops in0 in1 (dwS ops ((0 : Nat) : Int) (fIn ((0 : Nat) : Int)) ws0 0) (dwS ops ((1 : Nat) : Int) (fIn ((1 : Nat) : Int)) ws1 0) (dtS ops st0.t.l st0.b.l) (dtS ops st1.t.l st1.b.l) i).1) (l2 := [xp.1]) H600 rfl hSk0 sli23 zer34 rfl byt34 (H600.rd (k := 0) rfl hS534) rfl (by exact hwl0.symm) rfl (by rfl) (by omega) ?_
       intro key601 c602 sp603 w605 hS604 hne607 H606
       have H606' := H606.as (L' := (_ :: _ :: _ :: _ :: _ :: _ :: _ :: _ :: _ :: _ :: _ :: _ :: _ :: _ :: (skR 66 121 114 sb0 sk0 ++ (skR 66 121 114 sb1 sk1 ++ R)))) rfl
       clear H606
       exact hK _ _ (show ∃ (b533 : Nat) (key539 : Option Nat) (c540 : Nat) (sp541 : List Value), r 4 = .slice (ownA (some b533)) 1 1 ∧ (_ : Value) = .slice (ownA key539) (i + 1) c540 ∧ Sl E64 (some b533) ([xp.1]) 1 ([]) ∧ Sl E64 key539 (((simA ops in0 in1 (dwS ops ((0 : Nat) : Int) (fIn ((0 : Nat) : Int)) ws0 0) (dwS ops ((1 : Nat) : Int) (fIn ((1 : Nat) : Int)) ws1 0) (dtS ops st0.t.l st0.b.l) (dtS ops st1.t.l st1.b.l) i).1) ++ ([xp.1])) c540 sp541 ∧ Hp No w₀ w605 (((some b533), sob E64 34 ([xp.1]) ([])) :: x30 :: (key539, sob E64 34 (((simA ops in0 in1 (dwS ops ((0 : Nat) : Int) (fIn ((0 : Nat) : Int)) ws0 0) (dwS ops ((1 : Nat) : Int) (fIn ((1 : Nat) : Int)) ws1 0) (dtS ops st0.t.l st0.b.l) (dtS ops st1.t.l st1.b.l) i).1) ++ ([xp.1])) sp541) :: (kw1, sob E64 34 ((simA ops in0 in1 (dwS ops ((0 : Nat) : Int) (fIn ((0 : Nat) : Int)) ws0 0) (dwS ops ((1 : Nat) : Int) (fIn ((1 : Nat) : Int)) ws1 0) (dtS ops st0.t.l st0.b.l) (dtS ops st1.t.l st1.b.l) i).2) sw1) :: x21 :: x40 :: x43 :: x3 :: x2 :: x12 :: x5 :: x6 :: x34 :: x37 :: (skR 66 121 114 sb0 sk0 ++ (skR 66 121 114 sb1 sk1 ++ R))) from ⟨b533, key601, c602, sp603, e4, rfl, hS534, hS604, H606'⟩)
     refine WalkP.look rfl (fun _ => .pointer x27) (fun _ _ _ => rfl) (fun L r uw _ _ _ => Gives.run rfl (r_indexA (off' := 1) (j := 1) arr24 (b := b464) (off := 0) rfl rfl (by first | rfl | omega | (simp; omega)) (by omega) (by omega)) ⟨rfl, rfl⟩) ?_
     refine WalkP.look rfl (fun _ => .slice (ownA kw1) i cw1) (fun _ _ _ => rfl) (fun L r uw hAn hDn hF => ?_) ?_
     ·have b11 := hDn 11 (by decide) rfl
      have b13 := hDn 13 (by decide) rfl
      have b15 := hDn 15 (by decide) rfl
      rcases bTF (L 4) with b4 | b4
      ·rcases bTF (L 5) with b5 | b5
       ·rcases bTF (L 10) with b10 | b10
        ·have hb : List.map L [4, 5, 10, 11, 13, 15] = [true, true, true, false, false, false] := by simp only [List.map_cons, List.map_nil, b4, b5, b10, b11, b13, b15]
         rw [hb] at hF
         obtain ⟨b533, key539, c540, sp541, b559, e4, e5, e10, hS560, hS534, hS542, HH⟩ := hF
         exact Gives.run rfl (r_loadC (v := .slice (ownA kw1) i cw1) one23 (HH.get (k := 5) rfl) (off := 1) rfl (by rfl)) ⟨rfl, rfl⟩
        ·have hb : List.map L [4, 5, 10, 11, 13, 15] = [true, true, false, false, false, false] := by simp only [List.map_cons, List.map_nil, b4, b5, b10, b11, b13, b15]
         rw [hb] at hF
         obtain ⟨b533, key539, c540, sp541, e4, e5, hS534, hS542, HH⟩ := hF
         exact Gives.run rfl (r_loadC (v := .slice (ownA kw1) i cw1) one23 (HH.get (k := 4) rfl) (off := 1) rfl (by rfl)) ⟨rfl, rfl⟩
       ·rcases bTF (L 10) with b10 | b10
        ·have hb : List.map L [4, 5, 10, 11, 13, 15] = [true, false, true, false, false, false] := by simp only [List.map_cons, List.map_nil, b4, b5, b10, b11, b13, b15]
         rw [hb] at hF
         obtain ⟨b533, b553, e4, e10, hS554, hS534, HH⟩ := hF
         exact Gives.run rfl (r_loadC (v := .slice (ownA kw1) i cw1) one23 (HH.get (k := 5) rfl) (off := 1) rfl (by rfl)) ⟨rfl, rfl⟩
        ·have hb : List.map L [4, 5, 10, 11, 13, 15] = [true, false, false, false, false, false] := by simp only [List.map_cons, List.map_nil, b4, b5, b10, b11, b13, b15]
         rw [hb] at hF
         obtain ⟨b533, e4, hS534, HH⟩ := hF
         exact Gives.run rfl (r_loadC (v := .slice (ownA kw1) i cw1) one23 (HH.get (k := 4) rfl) (off := 1) rfl (by rfl)) ⟨rfl, rfl⟩
      ·rcases bTF (L 5) with b5 | b5
       ·rcases bTF (L 10) with b10 | b10
        ·have hb : List.map L [4, 5, 10, 11, 13, 15] = [false, true, true, false, false, false] := by simp only [List.map_cons, List.map_nil, b4, b5, b10, b11, b13, b15]
         rw [hb] at hF
         exact False.elim hF
        ·have hb : List.map L [4, 5, 10, 11, 13, 15] = [false, true, false, false, false, false] := by simp only [List.map_cons, List.map_nil, b4, b5, b10, b11, b13, b15]
         rw [hb] at hF
         exact False.elim hF
       ·rcases bTF (L 10) with b10 | b10
        ·have hb : List.map L [4, 5, 10, 11, 13, 15] = [false, false, true, false, false, false] := by simp only [List.map_cons, List.map_nil, b4, b5, b10, b11, b13, b15]
         rw [hb] at hF
         obtain ⟨b547, e10, hS548, HH⟩ := hF
         exact Gives.run rfl (r_loadC (v := .slice (ownA kw1) i cw1) one23 (HH.get (k := 4) rfl) (off := 1) rfl (by rfl)) ⟨rfl, rfl⟩
        ·have hb : List.map L [4, 5, 10, 11, 13, 15] = [false, false, false, false, false, false] := by simp only [List.map_cons, List.map_nil, b4, b5, b10, b11, b13, b15]
         rw [hb] at hF
         have HH := hF
         exact Gives.run rfl (r_loadC (v := .slice (ownA kw1) i cw1) one23 (HH.get (k := 3) rfl) (off := 1) rfl (by rfl)) ⟨rfl, rfl⟩
     refine WalkP.look rfl (fun _ => .pointer (some ⟨b499, 1, none⟩)) (fun _ _ _ => rfl) (fun L r uw _ _ _ => Gives.run rfl (r_indexA (off' := 1) (j := 1) arr87 (b := b499) (off := 0) rfl rfl (by first | rfl | omega | (simp; omega)) (by omega) (by omega)) ⟨rfl, rfl⟩) ?_
     refine WalkP.look rfl (fun _ => u64 (xp.2)) (fun _ _ _ => rfl) (fun L r uw hAn hDn hF => ?_) ?_
     ·have b10 := hDn 10 (by decide) rfl
      have b11 := hDn 11 (by decide) rfl
      have b13 := hDn 13 (by decide) rfl
      have b15 := hDn 15 (by decide) rfl
      rcases bTF (L 4) with b4 | b4
      ·rcases bTF (L 5) with b5 | b5
       ·have hb : List.map L [4, 5, 10, 11, 13, 15] = [true, true, false, false, false, false] := by simp only [List.map_cons, List.map_nil, b4, b5, b10, b11, b13, b15]
        rw [hb] at hF
        obtain ⟨b533, key539, c540, sp541, e4, e5, hS534, hS542, HH⟩ := hF
        exact Gives.run rfl (r_ld1 (E := E64) (l := [xp.1, xp.2]) (j := 1) (a := xp.2) fits34 (HH.get (k := 1) rfl) (by rfl) rfl rfl) ⟨rfl, rfl⟩
       ·have hb : List.map L [4, 5, 10, 11, 13, 15] = [true, false, false, false, false, false] := by simp only [List.map_cons, List.map_nil, b4, b5, b10, b11, b13, b15]
        rw [hb] at hF
        obtain ⟨b533, e4, hS534, HH⟩ := hF
        exact Gives.run rfl (r_ld1 (E := E64) (l := [xp.1, xp.2]) (j := 1) (a := xp.2) fits34 (HH.get (k := 1) rfl) (by rfl) rfl rfl) ⟨rfl, rfl⟩
      ·rcases bTF (L 5) with b5 | b5
       ·have hb : List.map L [4, 5, 10, 11, 13, 15] = [false, true, false, false, false, false] := by simp only [List.map_cons, List.map_nil, b4, b5, b10, b11, b13, b15]
        rw [hb] at hF
        exact False.elim hF
       ·have hb : List.map L [4, 5, 10, 11, 13, 15] = [false, false, false, false, false, false] := by simp only [List.map_cons, List.map_nil, b4, b5, b10, b11, b13, b15]
        rw [hb] at hF
        have HH := hF
        exact Gives.run rfl (r_ld1 (E := E64) (l := [xp.1, xp.2]) (j := 1) (a := xp.2) fits34 (HH.get (k := 0) rfl) (by rfl) rfl rfl) ⟨rfl, rfl⟩
     refine WalkP.eff 2 rfl (fun L r uw hLn hAn hDn hF => ?_) ?_
     ·have b10 : L 10 = false := hLn
      have b11 := hDn 11 (by decide) rfl
      have b13 := hDn 13 (by decide) rfl
      have b15 := hDn 15 (by decide) rfl
      rcases bTF (L 4) with b4 | b4
      ·rcases bTF (L 5) with b5 | b5
       ·have hb : List.map L [4, 5, 10, 11, 13, 15] = [true, true, false, false, false, false] := by simp only [List.map_cons, List.map_nil, b4, b5, b10, b11, b13, b15]
        rw [hb] at hF ⊢
        obtain ⟨b533, key539, c540, sp541, e4, e5, hS534, hS542, H608⟩ := hF
        dsimp only
        rw [e4, e5]
        refine Gives.ofW (d := 143) rfl rfl (fun Q' hK => ?_)
        refine q_buildSlice (E := E64) (l := [xp.2]) H608 sli23 zer34 (bLe rfl) (ps := [(0, u64 (xp.2))]) rfl (by exact fillAll rfl rfl) rfl ?_
        intro b609 w611 hS610 H612 hE613
        exact hK _ _ (show ∃ (b533 : Nat) (key539 : Option Nat) (c540 : Nat) (sp541 : List Value) (b559 : Nat), r 4 = .slice (ownA (some b533)) 1 1 ∧ r 5 = .slice (ownA key539) (i + 1) c540 ∧ (_ : Value) = .slice (ownA (some b559)) 1 1 ∧ Sl E64 (some b559) ([xp.2]) 1 ([]) ∧ Sl E64 (some b533) ([xp.1]) 1 ([]) ∧ Sl E64 key539 (((simA ops in0 in1 (dwS ops ((0 : Nat) : Int) (fIn ((0 : Nat) : Int)) ws0 0) (dwS ops ((1 : Nat) : Int) (fIn ((1 : Nat) : Int)) ws1 0) (dtS ops st0.t.l st0.b.l) (dtS ops st1.t.l st1.b.l) i).1) ++ ([xp.1])) c540 sp541 ∧ Hp No w₀ w611 (((some b559), sob E64 34 ([xp.2]) ([])) :: ((some b533), sob E64 34 ([xp.1]) ([])) :: x30 :: (key539, sob E64 34 (((simA ops in0 in1 (dwS ops ((0 : Nat) : Int) (fIn ((0 : Nat) : Int)) ws0 0) (dwS ops ((1 : Nat) : Int) (fIn ((1 : Nat) : Int)) ws1 0) (dtS ops st0.t.l st0.b.l) (dtS ops st1.t.l st1.b.l) i).1) ++ ([xp.1])) sp541) :: (kw1, sob E64 34 ((simA ops in0 in1 (dwS ops ((0 : Nat) : Int) (fIn ((0 : Nat) : Int)) ws0 0) (dwS ops ((1 : Nat) : Int) (fIn ((1 : Nat) : Int)) ws1 0) (dtS ops st0.t.l st0.b.l) (dtS ops st1.t.l st1.b.l) i).2) sw1) :: x21 :: x40 :: x43 :: x3 :: x2 :: x12 :: x5 :: x6 :: x34 :: x37 :: (skR 66 121 114 sb0 sk0 ++ (skR 66 121 114 sb1 sk1 ++ R))) from ⟨b533, key539, c540, sp541, b609, e4, e5, rfl, hS610, hS534, hS542, H612⟩)
       ·have hb : List.map L [4, 5, 10, 11, 13, 15] = [true, false, false, false, false, false] := by simp only [List.map_cons, List.map_nil, b4, b5, b10, b11, b13, b15]
        rw [hb] at hF ⊢
        obtain ⟨b533, e4, hS534, H614⟩ := hF
        dsimp only
        rw [e4]
        refine Gives.ofW (d := 143) rfl rfl (fun Q' hK => ?_)
        refine q_buildSlice (E := E64) (l := [xp.2]) H614 sli23 zer34 (bLe rfl) (ps := [(0, u64 (xp.2))]) rfl (by exact fillAll rfl rfl) rfl ?_
        intro b615 w617 hS616 H618 hE619
        exact hK _ _ (show ∃ (b533 : Nat) (b553 : Nat), r 4 = .slice (ownA (some b533)) 1 1 ∧ (_ : Value) = .slice (ownA (some b553)) 1 1 ∧ Sl E64 (some b553) ([xp.2]) 1 ([]) ∧ Sl E64 (some b533) ([xp.1]) 1 ([]) ∧ Hp No w₀ w617 (((some b553), sob E64 34 ([xp.2]) ([])) :: ((some b533), sob E64 34 ([xp.1]) ([])) :: x30 :: (kw0, sob E64 34 ((simA ops in0 in1 (dwS ops ((0 : Nat) : Int) (fIn ((0 : Nat) : Int)) ws0 0) (dwS ops ((1 : Nat) : Int) (fIn ((1 : Nat) : Int)) ws1 0) (dtS ops st0.t.l st0.b.l) (dtS ops st1.t.l st1.b.l) i).1) sw0) :: (kw1, sob E64 34 ((simA ops in0 in1 (dwS ops ((0 : Nat) : Int) (fIn ((0 : Nat) : Int)) ws0 0) (dwS ops ((1 : Nat) : Int) (fIn ((1 : Nat) : Int)) ws1 0) (dtS ops st0.t.l st0.b.l) (dtS ops st1.t.l st1.b.l) i).2) sw1) :: x21 :: x40 :: x43 :: x3 :: x2 :: x12 :: x5 :: x6 :: x34 :: x37 :: (skR 66 121 114 sb0 sk0 ++ (skR 66 121 114 sb1 sk1 ++ R))) from ⟨b533, b615, e4, rfl, hS616, hS534, H618⟩)
      ·rcases bTF (L 5) with b5 | b5
       ·have hb : List.map L [4, 5, 10, 11, 13, 15] = [false, true, false, false, false, false] := by simp only [List.map_cons, List.map_nil, b4, b5, b10, b11, b13, b15]
        rw [hb] at hF
        exact False.elim hF
       ·have hb : List.map L [4, 5, 10, 11, 13, 15] = [false, false, false, false, false, false] := by simp only [List.map_cons, List.map_nil, b4, b5, b10, b11, b13, b15]
        rw [hb] at hF ⊢
        have H620 := hF
        dsimp only
        refine Gives.ofW (d := 143) rfl rfl (fun Q' hK => ?_)
        refine q_buildSlice (E := E64) (l := [xp.2]) H620 sli23 zer34 (bLe rfl) (ps := [(0, u64 (xp.2))]) rfl (by exact fillAll rfl rfl) rfl ?_
        intro b621 w623 hS622 H624 hE625
        exact hK _ _ (show ∃ (b547 : Nat), (_ : Value) = .slice (ownA (some b547)) 1 1 ∧ Sl E64 (some b547) ([xp.2]) 1 ([]) ∧ Hp No w₀ w623 (((some b547), sob E64 34 ([xp.2]) ([])) :: x30 :: (kw0, sob E64 34 ((simA ops in0 in1 (dwS ops ((0 : Nat) : Int) (fIn ((0 : Nat) : Int)) ws0 0) (dwS ops ((1 : Nat) : Int) (fIn ((1 : Nat) : Int)) ws1 0) (dtS ops st0.t.l st0.b.l) (dtS ops st1.t.l st1.b.l) i).1) sw0) :: (kw1, sob E64 34 ((simA ops in0 in1 (dwS ops ((0 : Nat) : Int) (fIn ((0 : Nat) : Int)) ws0 0) (dwS ops ((1 : Nat) : Int) (fIn ((1 : Nat) : Int)) ws1 0) (dtS ops st0.t.l st0.b.l) (dtS ops st1.t.l st1.b.l) i).2) sw1) :: x21 :: x40 :: x43 :: x3 :: x2 :: x12 :: x5 :: x6 :: x34 :: x37 :: (skR 66 121 114 sb0 sk0 ++ (skR 66 121 114 sb1 sk1 ++ R))) from ⟨b621, rfl, hS622, H624⟩)
     refine WalkP.eff 3 rfl (fun L r uw hLn hAn hDn hF => ?_) ?_
     ·have b4 := hAn 4 (by decide) rfl
      have b5 := hAn 5 (by decide) rfl
      have b10 := hAn 10 (by decide) rfl
      have b11 : L 11 = false := hLn
      have b13 := hDn 13 (by decide) rfl
      have b15 := hDn 15 (by decide) rfl
      have hb : List.map L [4, 5, 10, 11, 13, 15] = [true, true, true, false, false, false] := by simp only [List.map_cons, List.map_nil, b4, b5, b10, b11, b13, b15]
      rw [hb] at hF ⊢
      obtain ⟨b533, key539, c540, sp541, b559, e4, e5, e10, hS560, hS534, hS542, H626⟩ := hF
      dsimp only
      rw [e4, e5, e10]
      refine Gives.ofW (d := 144) rfl rfl (fun Q' hK => ?_)
      refine q_append (E := E64) (k := 4) (l := (simA ops in0 in1 (dwS ops ((0 : Nat) : Int) (fIn ((0 : Nat) : Int)) ws0 0) (dwS ops ((1 : Nat) : Int) (fIn ((1 : Nat) : Int)) ws1 0) (dtS ops st0.t.l st0.b.l) (dtS ops st1.t.l st1.b.l) i).2) (l2 := [xp.2]) H626 rfl hSk1 sli23 zer34 rfl byt34 (H626.rd (k := 0) rfl hS560) rfl (by exact hwl1.symm) rfl (by rfl) (by omega) ?_
      intro key627 c628 sp629 w631 hS630 hne633 H632
      have H632' := H632.as (L' := (_ :: _ :: _ :: _ :: _ :: _ :: _ :: _ :: _ :: _ :: _ :: _ :: _ :: _ :: _ :: (skR 66 121 114 sb0 sk0 ++ (skR 66 121 114 sb1 sk1 ++ R)))) rfl
      clear H632
      exact hK _ _ (show ∃ (b533 : Nat) (key539 : Option Nat) (c540 : Nat) (sp541 : List Value) (b559 : Nat) (key565 : Option Nat) (c566 : Nat) (sp567 : List Value), r 4 = .slice (ownA (some b533)) 1 1 ∧ r 5 = .slice (ownA key539) (i + 1) c540 ∧ r 10 = .slice (ownA (some b559)) 1 1 ∧ (_ : Value) = .slice (ownA key565) (i + 1) c566 ∧ Sl E64 (some b559) ([xp.2]) 1 ([]) ∧ Sl E64 (some b533) ([xp.1]) 1 ([]) ∧ Sl E64 key539 (((simA ops in0 in1 (dwS ops ((0 : Nat) : Int) (fIn ((0 : Nat) : Int)) ws0 0) (dwS ops ((1 : Nat) : Int) (fIn ((1 : Nat) : Int)) ws1 0) (dtS ops st0.t.l st0.b.l) (dtS ops st1.t.l st1.b.l) i).1) ++ ([xp.1])) c540 sp541 ∧ Sl E64 key565 (((simA ops in0 in1 (dwS ops ((0 : Nat) : Int) (fIn ((0 : Nat) : Int)) ws0 0) (dwS ops ((1 : Nat) : Int) (fIn ((1 : Nat) : Int)) ws1 0) (dtS ops st0.t.l st0.b.l) (dtS ops st1.t.l st1.b.l) i).2) ++ ([xp.2])) c566 sp567 ∧ Hp No w₀ w631 (((some b559), sob E64 34 ([xp.2]) ([])) :: ((some b533), sob E64 34 ([xp.1]) ([])) :: x30 :: (key539, sob E64 34 (((simA ops in0 in1 (dwS ops ((0 : Nat) : Int) (fIn ((0 : Nat) : Int)) ws0 0) (dwS ops ((1 : Nat) : Int) (fIn ((1 : Nat) : Int)) ws1 0) (dtS ops st0.t.l st0.b.l) (dtS ops st1.t.l st1.b.l) i).1) ++ ([xp.1])) sp541) :: (key565, sob E64 34 (((simA ops in0 in1 (dwS ops ((0 : Nat) : Int) (fIn ((0 : Nat) : Int)) ws0 0) (dwS ops ((1 : Nat) : Int) (fIn ((1 : Nat) : Int)) ws1 0) (dtS ops st0.t.l st0.b.l) (dtS ops st1.t.l st1.b.l) i).2) ++ ([xp.2])) sp567) :: x21 :: x40 :: x43 :: x3 :: x2 :: x12 :: x5 :: x6 :: x34 :: x37 :: (skR 66 121 114 sb0 sk0 ++ (skR 66 121 114 sb1 sk1 ++ R))) from ⟨b533, key539, c540, sp541, b559, key627, c628, sp629, e4, e5, e10, rfl, hS560, hS534, hS542, hS630, H632'⟩)
     refine WalkP.look rfl (fun _ => pT b464) (fun _ _ _ => rfl) (fun L r uw _ _ _ => Gives.run rfl (r_indexA (off' := 0) (j := 0) arr24 (b := b464) (off := 0) rfl rfl (by first | rfl | omega | (simp; omega)) (by omega) (by omega)) ⟨rfl, rfl⟩) ?_
     refine WalkP.eff 4 rfl (fun L r uw hLn hAn hDn hF => ?_) ?_
     ·have b4 := hAn 4 (by decide) rfl
      have b5 := hAn 5 (by decide) rfl
      have b10 := hAn 10 (by decide) rfl
      have b11 := hAn 11 (by decide) rfl
      have b13 : L 13 = false := hLn
      have b15 := hDn 15 (by decide) rfl
      have hb : List.map L [4, 5, 10, 11, 13, 15] = [true, true, true, true, false, false] := by simp only [List.map_cons, List.map_nil, b4, b5, b10, b11, b13, b15]
      rw [hb] at hF ⊢
      obtain ⟨b533, key539, c540, sp541, b559, key565, c566, sp567, e4, e5, e10, e11, hS560, hS534, hS542, hS568, H634⟩ := hF
      dsimp only
      rw [e4, e5, e10, e11]
      refine Gives.ofW0 rfl (fun Q' hK => ?_)
      refine d_store (k := 5) (v := .slice (ownA key539) (i + 1) c540) (cs' := #[.slice (ownA key539) (i + 1) c540, .slice (ownA kw1) i cw1]) H634 rfl rfl rfl siz23 (by rfl) (oneL rfl) (by exact bLe rfl) (by rfl) ?_
      intro w635 H636 hC637
      have H636' := H636.as (L' := (_ :: _ :: _ :: _ :: _ :: _ :: _ :: _ :: _ :: _ :: _ :: _ :: _ :: _ :: _ :: (skR 66 121 114 sb0 sk0 ++ (skR 66 121 114 sb1 sk1 ++ R)))) rfl
      clear H636
      exact hK _ (fun _ => (show ∃ (b533 : Nat) (key539 : Option Nat) (c540 : Nat) (sp541 : List Value) (b559 : Nat) (key565 : Option Nat) (c566 : Nat) (sp567 : List Value), r 4 = .slice (ownA (some b533)) 1 1 ∧ r 5 = .slice (ownA key539) (i + 1) c540 ∧ r 10 = .slice (ownA (some b559)) 1 1 ∧ r 11 = .slice (ownA key565) (i + 1) c566 ∧ Sl E64 (some b559) ([xp.2]) 1 ([]) ∧ Sl E64 (some b533) ([xp.1]) 1 ([]) ∧ Sl E64 key539 (((simA ops in0 in1 (dwS ops ((0 : Nat) : Int) (fIn ((0 : Nat) : Int)) ws0 0) (dwS ops ((1 : Nat) : Int) (fIn ((1 : Nat) : Int)) ws1 0) (dtS ops st0.t.l st0.b.l) (dtS ops st1.t.l st1.b.l) i).1) ++ ([xp.1])) c540 sp541 ∧ Sl E64 key565 (((simA ops in0 in1 (dwS ops ((0 : Nat) : Int) (fIn ((0 : Nat) : Int)) ws0 0) (dwS ops ((1 : Nat) : Int) (fIn ((1 : Nat) : Int)) ws1 0) (dtS ops st0.t.l st0.b.l) (dtS ops st1.t.l st1.b.l) i).2) ++ ([xp.2])) c566 sp567 ∧ Hp No w₀ w635 (((some b559), sob E64 34 ([xp.2]) ([])) :: ((some b533), sob E64 34 ([xp.1]) ([])) :: x30 :: (key539, sob E64 34 (((simA ops in0 in1 (dwS ops ((0 : Nat) : Int) (fIn ((0 : Nat) : Int)) ws0 0) (dwS ops ((1 : Nat) : Int) (fIn ((1 : Nat) : Int)) ws1 0) (dtS ops st0.t.l st0.b.l) (dtS ops st1.t.l st1.b.l) i).1) ++ ([xp.1])) sp541) :: (key565, sob E64 34 (((simA ops in0 in1 (dwS ops ((0 : Nat) : Int) (fIn ((0 : Nat) : Int)) ws0 0) (dwS ops ((1 : Nat) : Int) (fIn ((1 : Nat) : Int)) ws1 0) (dtS ops st0.t.l st0.b.l) (dtS ops st1.t.l st1.b.l) i).2) ++ ([xp.2])) sp567) :: (rc b464 #[.slice (ownA key539) (i + 1) c540, .slice (ownA kw1) i cw1] 24) :: x40 :: x43 :: x3 :: x2 :: x12 :: x5 :: x6 :: x34 :: x37 :: (skR 66 121 114 sb0 sk0 ++ (skR 66 121 114 sb1 sk1 ++ R))) from ⟨b533, key539, c540, sp541, b559, key565, c566, sp567, e4, e5, e10, e11, hS560, hS534, hS542, hS568, H636'⟩))
     refine WalkP.look rfl (fun _ => .pointer x27) (fun _ _ _ => rfl) (fun L r uw _ _ _ => Gives.run rfl (r_indexA (off' := 1) (j := 1) arr24 (b := b464) (off := 0) rfl rfl (by first | rfl | omega | (simp; omega)) (by omega) (by omega)) ⟨rfl, rfl⟩) ?_
     refine WalkP.eff 5 rfl (fun L r uw hLn hAn hDn hF => ?_) ?_
     ·have b4 := hAn 4 (by decide) rfl
      have b5 := hAn 5 (by decide) rfl
      have b10 := hAn 10 (by decide) rfl
      have b11 := hAn 11 (by decide) rfl
      have b13 := hAn 13 (by decide) rfl
      have b15 : L 15 = false := hLn
      have hb : List.map L [4, 5, 10, 11, 13, 15] = [true, true, true, true, true, false] := by simp only [List.map_cons, List.map_nil, b4, b5, b10, b11, b13, b15]
      rw [hb] at hF ⊢
      obtain ⟨b533, key539, c540, sp541, b559, key565, c566, sp567, e4, e5, e10, e11, hS560, hS534, hS542, hS568, H638⟩ := hF
      dsimp only
      rw [e4, e5, e10, e11]
      refine Gives.ofW0 rfl (fun Q' hK => ?_)
      refine d_store (k := 5) (v := .slice (ownA key565) (i + 1) c566) (cs' := #[.slice (ownA key539) (i + 1) c540, .slice (ownA key565) (i + 1) c566]) H638 rfl rfl rfl siz23 (by rfl) (oneL rfl) (by exact bLe rfl) (by rfl) ?_
      intro w639 H640 hC641
      have H640' := H640.as (L' := (_ :: _ :: _ :: _ :: _ :: _ :: _ :: _ :: _ :: _ :: _ :: _ :: _ :: _ :: _ :: (skR 66 121 114 sb0 sk0 ++ (skR 66 121 114 sb1 sk1 ++ R)))) rfl
      clear H640
      exact hK _ (fun _ => (show ∃ (b533 : Nat) (key539 : Option Nat) (c540 : Nat) (sp541 : List Value) (b559 : Nat) (key565 : Option Nat) (c566 : Nat) (sp567 : List Value), r 4 = .slice (ownA (some b533)) 1 1 ∧ r 5 = .slice (ownA key539) (i + 1) c540 ∧ r 10 = .slice (ownA (some b559)) 1 1 ∧ r 11 = .slice (ownA key565) (i + 1) c566 ∧ Sl E64 (some b559) ([xp.2]) 1 ([]) ∧ Sl E64 (some b533) ([xp.1]) 1 ([]) ∧ Sl E64 key539 (((simA ops in0 in1 (dwS ops ((0 : Nat) : Int) (fIn ((0 : Nat) : Int)) ws0 0) (dwS ops ((1 : Nat) : Int) (fIn ((1 : Nat) : Int)) ws1 0) (dtS ops st0.t.l st0.b.l) (dtS ops st1.t.l st1.b.l) i).1) ++ ([xp.1])) c540 sp541 ∧ Sl E64 key565 (((simA ops in0 in1 (dwS ops ((0 : Nat) : Int) (fIn ((0 : Nat) : Int)) ws0 0) (dwS ops ((1 : Nat) : Int) (fIn ((1 : Nat) : Int)) ws1 0) (dtS ops st0.t.l st0.b.l) (dtS ops st1.t.l st1.b.l) i).2) ++ ([xp.2])) c566 sp567 ∧ Hp No w₀ w639 (((some b559), sob E64 34 ([xp.2]) ([])) :: ((some b533), sob E64 34 ([xp.1]) ([])) :: x30 :: (key539, sob E64 34 (((simA ops in0 in1 (dwS ops ((0 : Nat) : Int) (fIn ((0 : Nat) : Int)) ws0 0) (dwS ops ((1 : Nat) : Int) (fIn ((1 : Nat) : Int)) ws1 0) (dtS ops st0.t.l st0.b.l) (dtS ops st1.t.l st1.b.l) i).1) ++ ([xp.1])) sp541) :: (key565, sob E64 34 (((simA ops in0 in1 (dwS ops ((0 : Nat) : Int) (fIn ((0 : Nat) : Int)) ws0 0) (dwS ops ((1 : Nat) : Int) (fIn ((1 : Nat) : Int)) ws1 0) (dtS ops st0.t.l st0.b.l) (dtS ops st1.t.l st1.b.l) i).2) ++ ([xp.2])) sp567) :: (rc b464 #[.slice (ownA key539) (i + 1) c540, .slice (ownA key565) (i + 1) c566] 24) :: x40 :: x43 :: x3 :: x2 :: x12 :: x5 :: x6 :: x34 :: x37 :: (skR 66 121 114 sb0 sk0 ++ (skR 66 121 114 sb1 sk1 ++ R))) from ⟨b533, key539, c540, sp541, b559, key565, c566, sp567, e4, e5, e10, e11, hS560, hS534, hS542, hS568, H640'⟩))
     refine WalkP.nil ?_
     intro r642 w643 hF
     obtain ⟨b533, key539, c540, sp541, b559, key565, c566, sp567, e4, e5, e10, e11, hS560, hS534, hS542, hS568, H644⟩ := hF
     dsimp only
     rw [e4, e5, e10, e11]
     refine wnil ?_
     refine blockNormal ?_
     refine thenNormal ?_
     refine oneRegion ?_
     refine sq (r_addI (a := (i : Nat)) (b := (1 : Int)) rfl rfl (by omega)) ?_
     refine sM (i64 ((i : Nat) + (1 : Int))) rfl ?_
     refine wnil ?_
     refine thenNormal ?_
     have e645 : ((simA ops in0 in1 (dwS ops ((0 : Nat) : Int) (fIn ((0 : Nat) : Int)) ws0 0) (dwS ops ((1 : Nat) : Int) (fIn ((1 : Nat) : Int)) ws1 0) (dtS ops st0.t.l st0.b.l) (dtS ops st1.t.l st1.b.l) i).1) ++ ([xp.1]) = (simA ops in0 in1 (dwS ops ((0 : Nat) : Int) (fIn ((0 : Nat) : Int)) ws0 0) (dwS ops ((1 : Nat) : Int) (fIn ((1 : Nat) : Int)) ws1 0) (dtS ops st0.t.l st0.b.l) (dtS ops st1.t.l st1.b.l) (i + 1)).1 := by rw [hsx]
     have hS646 := hS542
     rw [e645] at hS646
     have H647 := H644.as (L' := (((some b559), sob E64 34 ([xp.2]) ([])) :: ((some b533), sob E64 34 ([xp.1]) ([])) :: (re b499 E64 ([xp.1, xp.2]) 87) :: (key539, sob E64 34 ((simA ops in0 in1 (dwS ops ((0 : Nat) : Int) (fIn ((0 : Nat) : Int)) ws0 0) (dwS ops ((1 : Nat) : Int) (fIn ((1 : Nat) : Int)) ws1 0) (dtS ops st0.t.l st0.b.l) (dtS ops st1.t.l st1.b.l) (i + 1)).1) sp541) :: (key565, sob E64 34 (((simA ops in0 in1 (dwS ops ((0 : Nat) : Int) (fIn ((0 : Nat) : Int)) ws0 0) (dwS ops ((1 : Nat) : Int) (fIn ((1 : Nat) : Int)) ws1 0) (dtS ops st0.t.l st0.b.l) (dtS ops st1.t.l st1.b.l) i).2) ++ ([xp.2])) sp567) :: (rc b464 #[.slice (ownA key539) (i + 1) c540, .slice (ownA key565) (i + 1) c566] 24) :: (kd0, sob EDr 91 ds0 sd0) :: (kd1, sob EDr 91 ds1 sd1) :: (rc b266 #[.slice (ownA kd0) ops.length cd0, .slice (ownA kd1) ops.length cd1] 81) :: (re b270 E64 ([((((0#64) ^^^ (0#64))) ^^^ (0#64)), ((((0#64) ^^^ (0#64))) ^^^ (0#64))]) 83) :: (rc b205 #[.slice na0 in0.length nc0, .slice na1 in1.length nc1] 24) :: (rc b217 #[sN0, sN0] 24) :: (rc b471 #[i64 (o.kd), i64 (o.a), i64 (o.b), i64 (o.k), u64 (o.c), i64 (o.pt)] 36) :: (re b478 E64 ([pa.1, pa.2]) 87) :: (re b482 E64 ([pb.1, pb.2]) 87) :: (skR 66 121 114 sb0 sk0 ++ (skR 66 121 114 sb1 sk1 ++ R)))) (by rw [e645])
     have e648 : ((simA ops in0 in1 (dwS ops ((0 : Nat) : Int) (fIn ((0 : Nat) : Int)) ws0 0) (dwS ops ((1 : Nat) : Int) (fIn ((1 : Nat) : Int)) ws1 0) (dtS ops st0.t.l st0.b.l) (dtS ops st1.t.l st1.b.l) i).2) ++ ([xp.2]) = (simA ops in0 in1 (dwS ops ((0 : Nat) : Int) (fIn ((0 : Nat) : Int)) ws0 0) (dwS ops ((1 : Nat) : Int) (fIn ((1 : Nat) : Int)) ws1 0) (dtS ops st0.t.l st0.b.l) (dtS ops st1.t.l st1.b.l) (i + 1)).2 := by rw [hsx]
     have hS649 := hS568
     rw [e648] at hS649
     have H650 := H647.as (L' := (((some b559), sob E64 34 ([xp.2]) ([])) :: ((some b533), sob E64 34 ([xp.1]) ([])) :: (re b499 E64 ([xp.1, xp.2]) 87) :: (key539, sob E64 34 ((simA ops in0 in1 (dwS ops ((0 : Nat) : Int) (fIn ((0 : Nat) : Int)) ws0 0) (dwS ops ((1 : Nat) : Int) (fIn ((1 : Nat) : Int)) ws1 0) (dtS ops st0.t.l st0.b.l) (dtS ops st1.t.l st1.b.l) (i + 1)).1) sp541) :: (key565, sob E64 34 ((simA ops in0 in1 (dwS ops ((0 : Nat) : Int) (fIn ((0 : Nat) : Int)) ws0 0) (dwS ops ((1 : Nat) : Int) (fIn ((1 : Nat) : Int)) ws1 0) (dtS ops st0.t.l st0.b.l) (dtS ops st1.t.l st1.b.l) (i + 1)).2) sp567) :: (rc b464 #[.slice (ownA key539) (i + 1) c540, .slice (ownA key565) (i + 1) c566] 24) :: (kd0, sob EDr 91 ds0 sd0) :: (kd1, sob EDr 91 ds1 sd1) :: (rc b266 #[.slice (ownA kd0) ops.length cd0, .slice (ownA kd1) ops.length cd1] 81) :: (re b270 E64 ([((((0#64) ^^^ (0#64))) ^^^ (0#64)), ((((0#64) ^^^ (0#64))) ^^^ (0#64))]) 83) :: (rc b205 #[.slice na0 in0.length nc0, .slice na1 in1.length nc1] 24) :: (rc b217 #[sN0, sN0] 24) :: (rc b471 #[i64 (o.kd), i64 (o.a), i64 (o.b), i64 (o.k), u64 (o.c), i64 (o.pt)] 36) :: (re b478 E64 ([pa.1, pa.2]) 87) :: (re b482 E64 ([pb.1, pb.2]) 87) :: (skR 66 121 114 sb0 sk0 ++ (skR 66 121 114 sb1 sk1 ++ R)))) (by rw [e648])
     exact ⟨(i + 1, key539, c540, sp541, key565, c566, sp567), _, rfl, ⟨rfl, rfl, rfl, rfl, rfl, rfl, rfl, rfl, rfl, trivial⟩, ⟨⟨by omega, hS646, hS649⟩, ((((((H650.dropk 14).dropk 13).dropk 12).dropk 2).dropk 1).dropk 0)⟩, by show ops.length - (i + 1) < ops.length - i; omega⟩
    ·refine sR ?_
     refine sq (r_indexA (off' := 0) (j := 0) arr24 (b := b464) (off := 0) rfl rfl (by first | rfl | omega | (simp; omega)) (by omega) (by omega)) ?_
     refine sq (r_loadC (v := .slice (ownA kw0) i cw0) one23 (H484.get (k := 5) rfl) (off := 0) rfl (by rfl)) ?_
     refine sq (r_lenS sli23 (a := ownA kw0) (m := i) (c := cw0) rfl) ?_
     refine sq (r_gtrI (a := (i : Nat)) (b := (0 : Int)) rfl rfl) ?_
     refine wend ?_
     refine condProp (((0 : Int) : Int) < (i : Nat)) rfl (fun c88 => ?_) (fun c88 => ?_)
     ·refine drawC (m := 28) [0, 1, 0, 4, 15, 31, 0, 64, 0, 256, 960, 1984, 4095, 0, 8192, 0, 32768, 122880, 253952, 0, 524288, 0, 2097152, 7864320, 16252928, 33546240, 8191, 134217727] [26, 27] (fun q vs w' => match q, vs with | 0, [] => Hp No w₀ w' ((re b482 E64 ([0#64, 0#64]) 87) :: (re b478 E64 ([0#64, 0#64]) 87) :: x11) | 1, [_] => True ∧ Hp No w₀ w' ((re b482 E64 ([0#64, 0#64]) 87) :: x16 :: x11) | 2, [_, _] => True ∧ True ∧ Hp No w₀ w' ((re b482 E64 ([((simA ops in0 in1 (dwS ops ((0 : Nat) : Int) (fIn ((0 : Nat) : Int)) ws0 0) (dwS ops ((1 : Nat) : Int) (fIn ((1 : Nat) : Int)) ws1 0) (dtS ops st0.t.l st0.b.l) (dtS ops st1.t.l st1.b.l) i).1).getD o.b.toNat 0#64, ((simA ops in0 in1 (dwS ops ((0 : Nat) : Int) (fIn ((0 : Nat) : Int)) ws0 0) (dwS ops ((1 : Nat) : Int) (fIn ((1 : Nat) : Int)) ws1 0) (dtS ops st0.t.l st0.b.l) (dtS ops st1.t.l st1.b.l) i).2).getD o.b.toNat 0#64]) 87) :: x16 :: x11) | _, _ => False) mixed (by kernel_rfl) (by kernel_rfl) H484.drew ?_
      refine WalkC.look rfl (fun _ => pT b464) (fun _ _ _ => rfl) (fun q r uw _ _ _ _ => Gives.run rfl (r_indexA (off' := 0) (j := 0) arr24 (b := b464) (off := 0) rfl rfl (by first | rfl | omega | (simp; omega)) (by omega) (by omega)) ⟨rfl, rfl⟩) ?_
      refine WalkC.look rfl (fun _ => .slice (ownA kw0) i cw0) (fun _ _ _ => rfl) (fun q r uw hlo hhi hle hF => ?_) ?_
      ·have h1 : 0 ≤ q := Nat.zero_le _
       have h2 : q ≤ 0 := hhi 0 26 rfl rfl
       rcases (show q = 0 by omega) with rfl
       ·have HH := hF
        exact Gives.run rfl (r_loadC (v := .slice (ownA kw0) i cw0) one23 (HH.get (k := 5) rfl) (off := 0) rfl (by rfl)) ⟨rfl, rfl⟩
      refine WalkC.look rfl (fun _ => .pointer (some ⟨b471, 1, none⟩)) (fun _ _ _ => rfl) (fun q r uw _ _ _ _ => Gives.run rfl (r_fieldAddr (off' := 1) fld36_1 (by decide) (b := b471) (off := 0) rfl (by omega)) ⟨rfl, rfl⟩) ?_
      refine WalkC.look rfl (fun _ => i64 (o.a)) (fun _ _ _ => rfl) (fun q r uw hlo hhi hle hF => ?_) ?_
      ·have h1 : 0 ≤ q := Nat.zero_le _
       have h2 : q ≤ 0 := hhi 0 26 rfl rfl
       rcases (show q = 0 by omega) with rfl
       ·have HH := hF
        exact Gives.run rfl (r_loadC (v := i64 (o.a)) one3 (HH.get (k := 2) rfl) (off := 1) rfl (by rfl)) ⟨rfl, rfl⟩
      refine WalkC.look rfl (fun _ => .pointer (adr (ownA kw0) (o.a.toNat * 1))) (fun _ _ _ => rfl) (fun q r uw hlo hhi hle hF => ?_) ?_
      ·have h1 : 0 ≤ q := Nat.zero_le _
       have h2 : q ≤ 0 := hhi 0 26 rfl rfl
       rcases (show q = 0 by omega) with rfl
       ·have HH := hF
        exact Gives.run rfl (r_idxS (E := E64) (l := (simA ops in0 in1 (dwS ops ((0 : Nat) : Int) (fIn ((0 : Nat) : Int)) ws0 0) (dwS ops ((1 : Nat) : Int) (fIn ((1 : Nat) : Int)) ws1 0) (dtS ops st0.t.l st0.b.l) (dtS ops st1.t.l st1.b.l) i).1) (j := o.a.toNat) sli23 (HH.rd (k := 3) rfl hSk0) rfl rfl (by omega) (by exact hwl0.symm) (by omega)) ⟨rfl, rfl⟩
      refine WalkC.look rfl (fun _ => u64 (((simA ops in0 in1 (dwS ops ((0 : Nat) : Int) (fIn ((0 : Nat) : Int)) ws0 0) (dwS ops ((1 : Nat) : Int) (fIn ((1 : Nat) : Int)) ws1 0) (dtS ops st0.t.l st0.b.l) (dtS ops st1.t.l st1.b.l) i).1).getD o.a.toNat 0#64)) (fun _ _ _ => rfl) (fun q r uw hlo hhi hle hF => ?_) ?_
      ·have h1 : 0 ≤ q := Nat.zero_le _
       have h2 : q ≤ 0 := hhi 0 26 rfl rfl
       rcases (show q = 0 by omega) with rfl
       ·have HH := hF
        exact Gives.run rfl (r_ldS (E := E64) (l := (simA ops in0 in1 (dwS ops ((0 : Nat) : Int) (fIn ((0 : Nat) : Int)) ws0 0) (dwS ops ((1 : Nat) : Int) (fIn ((1 : Nat) : Int)) ws1 0) (dtS ops st0.t.l st0.b.l) (dtS ops st1.t.l st1.b.l) i).1) (j := o.a.toNat) (v := ((simA ops in0 in1 (dwS ops ((0 : Nat) : Int) (fIn ((0 : Nat) : Int)) ws0 0) (dwS ops ((1 : Nat) : Int) (fIn ((1 : Nat) : Int)) ws1 0) (dtS ops st0.t.l st0.b.l) (dtS ops st1.t.l st1.b.l) i).1).getD o.a.toNat 0#64) fits34 (HH.rd (k := 3) rfl hSk0) rfl rfl (at_getD (by omega))) ⟨rfl, rfl⟩
      refine WalkC.look rfl (fun _ => .pointer x27) (fun _ _ _ => rfl) (fun q r uw _ _ _ _ => Gives.run rfl (r_indexA (off' := 1) (j := 1) arr24 (b := b464) (off := 0) rfl rfl (by first | rfl | omega | (simp; omega)) (by omega) (by omega)) ⟨rfl, rfl⟩) ?_
      refine WalkC.look rfl (fun _ => .slice (ownA kw1) i cw1) (fun _ _ _ => rfl) (fun q r uw hlo hhi hle hF => ?_) ?_
      ·have h1 : 0 ≤ q := Nat.zero_le _
       have h2 : q ≤ 0 := hhi 0 26 rfl rfl
       rcases (show q = 0 by omega) with rfl
       ·have HH := hF
        exact Gives.run rfl (r_loadC (v := .slice (ownA kw1) i cw1) one23 (HH.get (k := 5) rfl) (off := 1) rfl (by rfl)) ⟨rfl, rfl⟩
      refine WalkC.look rfl (fun _ => .pointer (some ⟨b471, 1, none⟩)) (fun _ _ _ => rfl) (fun q r uw _ _ _ _ => Gives.run rfl (r_fieldAddr (off' := 1) fld36_1 (by decide) (b := b471) (off := 0) rfl (by omega)) ⟨rfl, rfl⟩) ?_
      refine WalkC.look rfl (fun _ => i64 (o.a)) (fun _ _ _ => rfl) (fun q r uw hlo hhi hle hF => ?_) ?_
      ·have h1 : 0 ≤ q := Nat.zero_le _
       have h2 : q ≤ 0 := hhi 0 26 rfl rfl
       rcases (show q = 0 by omega) with rfl
       ·have HH := hF
        exact Gives.run rfl (r_loadC (v := i64 (o.a)) one3 (HH.get (k := 2) rfl) (off := 1) rfl (by rfl)) ⟨rfl, rfl⟩
      refine WalkC.look rfl (fun _ => .pointer (adr (ownA kw1) (o.a.toNat * 1))) (fun _ _ _ => rfl) (fun q r uw hlo hhi hle hF => ?_) ?_
      ·have h1 : 0 ≤ q := Nat.zero_le _
       have h2 : q ≤ 0 := hhi 0 26 rfl rfl
       rcases (show q = 0 by omega) with rfl
       ·have HH := hF
        exact Gives.run rfl (r_idxS (E := E64) (l := (simA ops in0 in1 (dwS ops ((0 : Nat) : Int) (fIn ((0 : Nat) : Int)) ws0 0) (dwS ops ((1 : Nat) : Int) (fIn ((1 : Nat) : Int)) ws1 0) (dtS ops st0.t.l st0.b.l) (dtS ops st1.t.l st1.b.l) i).2) (j := o.a.toNat) sli23 (HH.rd (k := 4) rfl hSk1) rfl rfl (by omega) (by exact hwl1.symm) (by omega)) ⟨rfl, rfl⟩
      refine WalkC.look rfl (fun _ => u64 (((simA ops in0 in1 (dwS ops ((0 : Nat) : Int) (fIn ((0 : Nat) : Int)) ws0 0) (dwS ops ((1 : Nat) : Int) (fIn ((1 : Nat) : Int)) ws1 0) (dtS ops st0.t.l st0.b.l) (dtS ops st1.t.l st1.b.l) i).2).getD o.a.toNat 0#64)) (fun _ _ _ => rfl) (fun q r uw hlo hhi hle hF => ?_) ?_
      ·have h1 : 0 ≤ q := Nat.zero_le _
       have h2 : q ≤ 0 := hhi 0 26 rfl rfl
       rcases (show q = 0 by omega) with rfl
       ·have HH := hF
        exact Gives.run rfl (r_ldS (E := E64) (l := (simA ops in0 in1 (dwS ops ((0 : Nat) : Int) (fIn ((0 : Nat) : Int)) ws0 0) (dwS ops ((1 : Nat) : Int) (fIn ((1 : Nat) : Int)) ws1 0) (dtS ops st0.t.l st0.b.l) (dtS ops st1.t.l st1.b.l) i).2) (j := o.a.toNat) (v := ((simA ops in0 in1 (dwS ops ((0 : Nat) : Int) (fIn ((0 : Nat) : Int)) ws0 0) (dwS ops ((1 : Nat) : Int) (fIn ((1 : Nat) : Int)) ws1 0) (dtS ops st0.t.l st0.b.l) (dtS ops st1.t.l st1.b.l) i).2).getD o.a.toNat 0#64) fits34 (HH.rd (k := 4) rfl hSk1) rfl rfl (at_getD (by omega))) ⟨rfl, rfl⟩
      refine WalkC.look rfl (fun _ => .agg (cel E64 [((simA ops in0 in1 (dwS ops ((0 : Nat) : Int) (fIn ((0 : Nat) : Int)) ws0 0) (dwS ops ((1 : Nat) : Int) (fIn ((1 : Nat) : Int)) ws1 0) (dtS ops st0.t.l st0.b.l) (dtS ops st1.t.l st1.b.l) i).1).getD o.a.toNat 0#64, ((simA ops in0 in1 (dwS ops ((0 : Nat) : Int) (fIn ((0 : Nat) : Int)) ws0 0) (dwS ops ((1 : Nat) : Int) (fIn ((1 : Nat) : Int)) ws1 0) (dtS ops st0.t.l st0.b.l) (dtS ops st1.t.l st1.b.l) i).2).getD o.a.toNat 0#64]).toArray) (fun _ _ _ => rfl) (fun q r uw _ _ _ _ => Gives.run rfl (r_buildA (cs' := (cel E64 [((simA ops in0 in1 (dwS ops ((0 : Nat) : Int) (fIn ((0 : Nat) : Int)) ws0 0) (dwS ops ((1 : Nat) : Int) (fIn ((1 : Nat) : Int)) ws1 0) (dtS ops st0.t.l st0.b.l) (dtS ops st1.t.l st1.b.l) i).1).getD o.a.toNat 0#64, ((simA ops in0 in1 (dwS ops ((0 : Nat) : Int) (fIn ((0 : Nat) : Int)) ws0 0) (dwS ops ((1 : Nat) : Int) (fIn ((1 : Nat) : Int)) ws1 0) (dtS ops st0.t.l st0.b.l) (dtS ops st1.t.l st1.b.l) i).2).getD o.a.toNat 0#64]).toArray) (ps := [(0, u64 (((simA ops in0 in1 (dwS ops ((0 : Nat) : Int) (fIn ((0 : Nat) : Int)) ws0 0) (dwS ops ((1 : Nat) : Int) (fIn ((1 : Nat) : Int)) ws1 0) (dtS ops st0.t.l st0.b.l) (dtS ops st1.t.l st1.b.l) i).1).getD o.a.toNat 0#64)), (1, u64 (((simA ops in0 in1 (dwS ops ((0 : Nat) : Int) (fIn ((0 : Nat) : Int)) ws0 0) (dwS ops ((1 : Nat) : Int) (fIn ((1 : Nat) : Int)) ws1 0) (dtS ops st0.t.l st0.b.l) (dtS ops st1.t.l st1.b.l) i).2).getD o.a.toNat 0#64))]) zer87 arr87 rfl (by rfl)) ⟨rfl, rfl⟩) ?_
      refine WalkC.look rfl (fun _ => pT b464) (fun _ _ _ => rfl) (fun q r uw _ _ _ _ => Gives.run rfl (r_indexA (off' := 0) (j := 0) arr24 (b := b464) (off := 0) rfl rfl (by first | rfl | omega | (simp; omega)) (by omega) (by omega)) ⟨rfl, rfl⟩) ?_
      refine WalkC.look rfl (fun _ => .slice (ownA kw0) i cw0) (fun _ _ _ => rfl) (fun q r uw hlo hhi hle hF => ?_) ?_
      ·have h1 : 0 ≤ q := Nat.zero_le _
       have h2 : q ≤ 1 := hhi 1 27 rfl rfl
       rcases (show q = 0 ∨ q = 1 by omega) with rfl | rfl
       ·have HH := hF
        exact Gives.run rfl (r_loadC (v := .slice (ownA kw0) i cw0) one23 (HH.get (k := 5) rfl) (off := 0) rfl (by rfl)) ⟨rfl, rfl⟩
       ·obtain ⟨e26, HH⟩ := hF
        exact Gives.run rfl (r_loadC (v := .slice (ownA kw0) i cw0) one23 (HH.get (k := 5) rfl) (off := 0) rfl (by rfl)) ⟨rfl, rfl⟩
      refine WalkC.look rfl (fun _ => .pointer (some ⟨b471, 2, none⟩)) (fun _ _ _ => rfl) (fun q r uw _ _ _ _ => Gives.run rfl (r_fieldAddr (off' := 2) fld36_2 (by decide) (b := b471) (off := 0) rfl (by omega)) ⟨rfl, rfl⟩) ?_
      refine WalkC.look rfl (fun _ => i64 (o.b)) (fun _ _ _ => rfl) (fun q r uw hlo hhi hle hF => ?_) ?_
      ·have h1 : 0 ≤ q := Nat.zero_le _
       have h2 : q ≤ 1 := hhi 1 27 rfl rfl
       rcases (show q = 0 ∨ q = 1 by omega) with rfl | rfl
       ·have HH := hF
        exact Gives.run rfl (r_loadC (v := i64 (o.b)) one3 (HH.get (k := 2) rfl) (off := 2) rfl (by rfl)) ⟨rfl, rfl⟩
       ·obtain ⟨e26, HH⟩ := hF
        exact Gives.run rfl (r_loadC (v := i64 (o.b)) one3 (HH.get (k := 2) rfl) (off := 2) rfl (by rfl)) ⟨rfl, rfl⟩
      refine WalkC.look rfl (fun _ => .pointer (adr (ownA kw0) (o.b.toNat * 1))) (fun _ _ _ => rfl) (fun q r uw hlo hhi hle hF => ?_) ?_
      ·have h1 : 0 ≤ q := Nat.zero_le _
       have h2 : q ≤ 1 := hhi 1 27 rfl rfl
       rcases (show q = 0 ∨ q = 1 by omega) with rfl | rfl
       ·have HH := hF
        exact Gives.run rfl (r_idxS (E := E64) (l := (simA ops in0 in1 (dwS ops ((0 : Nat) : Int) (fIn ((0 : Nat) : Int)) ws0 0) (dwS ops ((1 : Nat) : Int) (fIn ((1 : Nat) : Int)) ws1 0) (dtS ops st0.t.l st0.b.l) (dtS ops st1.t.l st1.b.l) i).1) (j := o.b.toNat) sli23 (HH.rd (k := 3) rfl hSk0) rfl rfl (by omega) (by exact hwl0.symm) (by omega)) ⟨rfl, rfl⟩
       ·obtain ⟨e26, HH⟩ := hF
        exact Gives.run rfl (r_idxS (E := E64) (l := (simA ops in0 in1 (dwS ops ((0 : Nat) : Int) (fIn ((0 : Nat) : Int)) ws0 0) (dwS ops ((1 : Nat) : Int) (fIn ((1 : Nat) : Int)) ws1 0) (dtS ops st0.t.l st0.b.l) (dtS ops st1.t.l st1.b.l) i).1) (j := o.b.toNat) sli23 (HH.rd (k := 3) rfl hSk0) rfl rfl (by omega) (by exact hwl0.symm) (by omega)) ⟨rfl, rfl⟩
      refine WalkC.look rfl (fun _ => u64 (((simA ops in0 in1 (dwS ops ((0 : Nat) : Int) (fIn ((0 : Nat) : Int)) ws0 0) (dwS ops ((1 : Nat) : Int) (fIn ((1 : Nat) : Int)) ws1 0) (dtS ops st0.t.l st0.b.l) (dtS ops st1.t.l st1.b.l) i).1).getD o.b.toNat 0#64)) (fun _ _ _ => rfl) (fun q r uw hlo hhi hle hF => ?_) ?_
      ·have h1 : 0 ≤ q := Nat.zero_le _
       have h2 : q ≤ 1 := hhi 1 27 rfl rfl
       rcases (show q = 0 ∨ q = 1 by omega) with rfl | rfl
       ·have HH := hF
        exact Gives.run rfl (r_ldS (E := E64) (l := (simA ops in0 in1 (dwS ops ((0 : Nat) : Int) (fIn ((0 : Nat) : Int)) ws0 0) (dwS ops ((1 : Nat) : Int) (fIn ((1 : Nat) : Int)) ws1 0) (dtS ops st0.t.l st0.b.l) (dtS ops st1.t.l st1.b.l) i).1) (j := o.b.toNat) (v := ((simA ops in0 in1 (dwS ops ((0 : Nat) : Int) (fIn ((0 : Nat) : Int)) ws0 0) (dwS ops ((1 : Nat) : Int) (fIn ((1 : Nat) : Int)) ws1 0) (dtS ops st0.t.l st0.b.l) (dtS ops st1.t.l st1.b.l) i).1).getD o.b.toNat 0#64) fits34 (HH.rd (k := 3) rfl hSk0) rfl rfl (at_getD (by omega))) ⟨rfl, rfl⟩
       ·obtain ⟨e26, HH⟩ := hF
        exact Gives.run rfl (r_ldS (E := E64) (l := (simA ops in0 in1 (dwS ops ((0 : Nat) : Int) (fIn ((0 : Nat) : Int)) ws0 0) (dwS ops ((1 : Nat) : Int) (fIn ((1 : Nat) : Int)) ws1 0) (dtS ops st0.t.l st0.b.l) (dtS ops st1.t.l st1.b.l) i).1) (j := o.b.toNat) (v := ((simA ops in0 in1 (dwS ops ((0 : Nat) : Int) (fIn ((0 : Nat) : Int)) ws0 0) (dwS ops ((1 : Nat) : Int) (fIn ((1 : Nat) : Int)) ws1 0) (dtS ops st0.t.l st0.b.l) (dtS ops st1.t.l st1.b.l) i).1).getD o.b.toNat 0#64) fits34 (HH.rd (k := 3) rfl hSk0) rfl rfl (at_getD (by omega))) ⟨rfl, rfl⟩
      refine WalkC.look rfl (fun _ => .pointer x27) (fun _ _ _ => rfl) (fun q r uw _ _ _ _ => Gives.run rfl (r_indexA (off' := 1) (j := 1) arr24 (b := b464) (off := 0) rfl rfl (by first | rfl | omega | (simp; omega)) (by omega) (by omega)) ⟨rfl, rfl⟩) ?_
      refine WalkC.look rfl (fun _ => .slice (ownA kw1) i cw1) (fun _ _ _ => rfl) (fun q r uw hlo hhi hle hF => ?_) ?_
      ·have h1 : 0 ≤ q := Nat.zero_le _
       have h2 : q ≤ 1 := hhi 1 27 rfl rfl
       rcases (show q = 0 ∨ q = 1 by omega) with rfl | rfl
       ·have HH := hF
        exact Gives.run rfl (r_loadC (v := .slice (ownA kw1) i cw1) one23 (HH.get (k := 5) rfl) (off := 1) rfl (by rfl)) ⟨rfl, rfl⟩
       ·obtain ⟨e26, HH⟩ := hF
        exact Gives.run rfl (r_loadC (v := .slice (ownA kw1) i cw1) one23 (HH.get (k := 5) rfl) (off := 1) rfl (by rfl)) ⟨rfl, rfl⟩
      refine WalkC.look rfl (fun _ => .pointer (some ⟨b471, 2, none⟩)) (fun _ _ _ => rfl) (fun q r uw _ _ _ _ => Gives.run rfl (r_fieldAddr (off' := 2) fld36_2 (by decide) (b := b471) (off := 0) rfl (by omega)) ⟨rfl, rfl⟩) ?_
      refine WalkC.look rfl (fun _ => i64 (o.b)) (fun _ _ _ => rfl) (fun q r uw hlo hhi hle hF => ?_) ?_
      ·have h1 : 0 ≤ q := Nat.zero_le _
       have h2 : q ≤ 1 := hhi 1 27 rfl rfl
       rcases (show q = 0 ∨ q = 1 by omega) with rfl | rfl
       ·have HH := hF
        exact Gives.run rfl (r_loadC (v := i64 (o.b)) one3 (HH.get (k := 2) rfl) (off := 2) rfl (by rfl)) ⟨rfl, rfl⟩
       ·obtain ⟨e26, HH⟩ := hF
        exact Gives.run rfl (r_loadC (v := i64 (o.b)) one3 (HH.get (k := 2) rfl) (off := 2) rfl (by rfl)) ⟨rfl, rfl⟩
      refine WalkC.look rfl (fun _ => .pointer (adr (ownA kw1) (o.b.toNat * 1))) (fun _ _ _ => rfl) (fun q r uw hlo hhi hle hF => ?_) ?_
      ·have h1 : 0 ≤ q := Nat.zero_le _
       have h2 : q ≤ 1 := hhi 1 27 rfl rfl
       rcases (show q = 0 ∨ q = 1 by omega) with rfl | rfl
       ·have HH := hF
        exact Gives.run rfl (r_idxS (E := E64) (l := (simA ops in0 in1 (dwS ops ((0 : Nat) : Int) (fIn ((0 : Nat) : Int)) ws0 0) (dwS ops ((1 : Nat) : Int) (fIn ((1 : Nat) : Int)) ws1 0) (dtS ops st0.t.l st0.b.l) (dtS ops st1.t.l st1.b.l) i).2) (j := o.b.toNat) sli23 (HH.rd (k := 4) rfl hSk1) rfl rfl (by omega) (by exact hwl1.symm) (by omega)) ⟨rfl, rfl⟩
       ·obtain ⟨e26, HH⟩ := hF
        exact Gives.run rfl (r_idxS (E := E64) (l := (simA ops in0 in1 (dwS ops ((0 : Nat) : Int) (fIn ((0 : Nat) : Int)) ws0 0) (dwS ops ((1 : Nat) : Int) (fIn ((1 : Nat) : Int)) ws1 0) (dtS ops st0.t.l st0.b.l) (dtS ops st1.t.l st1.b.l) i).2) (j := o.b.toNat) sli23 (HH.rd (k := 4) rfl hSk1) rfl rfl (by omega) (by exact hwl1.symm) (by omega)) ⟨rfl, rfl⟩
      refine WalkC.look rfl (fun _ => u64 (((simA ops in0 in1 (dwS ops ((0 : Nat) : Int) (fIn ((0 : Nat) : Int)) ws0 0) (dwS ops ((1 : Nat) : Int) (fIn ((1 : Nat) : Int)) ws1 0) (dtS ops st0.t.l st0.b.l) (dtS ops st1.t.l st1.b.l) i).2).getD o.b.toNat 0#64)) (fun _ _ _ => rfl) (fun q r uw hlo hhi hle hF => ?_) ?_
      ·have h1 : 0 ≤ q := Nat.zero_le _
       have h2 : q ≤ 1 := hhi 1 27 rfl rfl
       rcases (show q = 0 ∨ q = 1 by omega) with rfl | rfl
       ·have HH := hF
        exact Gives.run rfl (r_ldS (E := E64) (l := (simA ops in0 in1 (dwS ops ((0 : Nat) : Int) (fIn ((0 : Nat) : Int)) ws0 0) (dwS ops ((1 : Nat) : Int) (fIn ((1 : Nat) : Int)) ws1 0) (dtS ops st0.t.l st0.b.l) (dtS ops st1.t.l st1.b.l) i).2) (j := o.b.toNat) (v := ((simA ops in0 in1 (dwS ops ((0 : Nat) : Int) (fIn ((0 : Nat) : Int)) ws0 0) (dwS ops ((1 : Nat) : Int) (fIn ((1 : Nat) : Int)) ws1 0) (dtS ops st0.t.l st0.b.l) (dtS ops st1.t.l st1.b.l) i).2).getD o.b.toNat 0#64) fits34 (HH.rd (k := 4) rfl hSk1) rfl rfl (at_getD (by omega))) ⟨rfl, rfl⟩
       ·obtain ⟨e26, HH⟩ := hF
        exact Gives.run rfl (r_ldS (E := E64) (l := (simA ops in0 in1 (dwS ops ((0 : Nat) : Int) (fIn ((0 : Nat) : Int)) ws0 0) (dwS ops ((1 : Nat) : Int) (fIn ((1 : Nat) : Int)) ws1 0) (dtS ops st0.t.l st0.b.l) (dtS ops st1.t.l st1.b.l) i).2) (j := o.b.toNat) (v := ((simA ops in0 in1 (dwS ops ((0 : Nat) : Int) (fIn ((0 : Nat) : Int)) ws0 0) (dwS ops ((1 : Nat) : Int) (fIn ((1 : Nat) : Int)) ws1 0) (dtS ops st0.t.l st0.b.l) (dtS ops st1.t.l st1.b.l) i).2).getD o.b.toNat 0#64) fits34 (HH.rd (k := 4) rfl hSk1) rfl rfl (at_getD (by omega))) ⟨rfl, rfl⟩
      refine WalkC.look rfl (fun _ => .agg (cel E64 [((simA ops in0 in1 (dwS ops ((0 : Nat) : Int) (fIn ((0 : Nat) : Int)) ws0 0) (dwS ops ((1 : Nat) : Int) (fIn ((1 : Nat) : Int)) ws1 0) (dtS ops st0.t.l st0.b.l) (dtS ops st1.t.l st1.b.l) i).1).getD o.b.toNat 0#64, ((simA ops in0 in1 (dwS ops ((0 : Nat) : Int) (fIn ((0 : Nat) : Int)) ws0 0) (dwS ops ((1 : Nat) : Int) (fIn ((1 : Nat) : Int)) ws1 0) (dtS ops st0.t.l st0.b.l) (dtS ops st1.t.l st1.b.l) i).2).getD o.b.toNat 0#64]).toArray) (fun _ _ _ => rfl) (fun q r uw _ _ _ _ => Gives.run rfl (r_buildA (cs' := (cel E64 [((simA ops in0 in1 (dwS ops ((0 : Nat) : Int) (fIn ((0 : Nat) : Int)) ws0 0) (dwS ops ((1 : Nat) : Int) (fIn ((1 : Nat) : Int)) ws1 0) (dtS ops st0.t.l st0.b.l) (dtS ops st1.t.l st1.b.l) i).1).getD o.b.toNat 0#64, ((simA ops in0 in1 (dwS ops ((0 : Nat) : Int) (fIn ((0 : Nat) : Int)) ws0 0) (dwS ops ((1 : Nat) : Int) (fIn ((1 : Nat) : Int)) ws1 0) (dtS ops st0.t.l st0.b.l) (dtS ops st1.t.l st1.b.l) i).2).getD o.b.toNat 0#64]).toArray) (ps := [(0, u64 (((simA ops in0 in1 (dwS ops ((0 : Nat) : Int) (fIn ((0 : Nat) : Int)) ws0 0) (dwS ops ((1 : Nat) : Int) (fIn ((1 : Nat) : Int)) ws1 0) (dtS ops st0.t.l st0.b.l) (dtS ops st1.t.l st1.b.l) i).1).getD o.b.toNat 0#64)), (1, u64 (((simA ops in0 in1 (dwS ops ((0 : Nat) : Int) (fIn ((0 : Nat) : Int)) ws0 0) (dwS ops ((1 : Nat) : Int) (fIn ((1 : Nat) : Int)) ws1 0) (dtS ops st0.t.l st0.b.l) (dtS ops st1.t.l st1.b.l) i).2).getD o.b.toNat 0#64))]) zer87 arr87 rfl (by rfl)) ⟨rfl, rfl⟩) ?_
      refine WalkC.eff 0 rfl (fun r uw651 hF653 => ?_) ?_
      ·have H652 := hF653
       dsimp only [List.take, List.map, List.cons_append, List.nil_append]
       refine Gives.ofW0 rfl (fun Q' hK => ?_)
       refine d_store (k := 1) (v := .agg (cel E64 [((simA ops in0 in1 (dwS ops ((0 : Nat) : Int) (fIn ((0 : Nat) : Int)) ws0 0) (dwS ops ((1 : Nat) : Int) (fIn ((1 : Nat) : Int)) ws1 0) (dtS ops st0.t.l st0.b.l) (dtS ops st1.t.l st1.b.l) i).1).getD o.a.toNat 0#64, ((simA ops in0 in1 (dwS ops ((0 : Nat) : Int) (fIn ((0 : Nat) : Int)) ws0 0) (dwS ops ((1 : Nat) : Int) (fIn ((1 : Nat) : Int)) ws1 0) (dtS ops st0.t.l st0.b.l) (dtS ops st1.t.l st1.b.l) i).2).getD o.a.toNat 0#64]).toArray) (cs' := (cel E64 ([((simA ops in0 in1 (dwS ops ((0 : Nat) : Int) (fIn ((0 : Nat) : Int)) ws0 0) (dwS ops ((1 : Nat) : Int) (fIn ((1 : Nat) : Int)) ws1 0) (dtS ops st0.t.l st0.b.l) (dtS ops st1.t.l st1.b.l) i).1).getD o.a.toNat 0#64, ((simA ops in0 in1 (dwS ops ((0 : Nat) : Int) (fIn ((0 : Nat) : Int)) ws0 0) (dwS ops ((1 : Nat) : Int) (fIn ((1 : Nat) : Int)) ws1 0) (dtS ops st0.t.l st0.b.l) (dtS ops st1.t.l st1.b.l) i).2).getD o.a.toNat 0#64])).toArray) H652 rfl rfl rfl siz87 (by exact celSize (by first | rfl | (show _ * 1 = _; omega))) (by exact celOne _) (by rw [List.size_toArray, cel_length]; show _ ≤ _ * 1; first | omega | (simp only [List.length_set]; omega) | exact bLe rfl | (simp <;> omega)) (by exact putAll (by first | rfl | omega | (simp <;> omega))) ?_
       intro w654 H655 hC656
       have H655' := H655.as (L' := (_ :: _ :: _ :: _ :: _ :: _ :: _ :: _ :: _ :: _ :: _ :: _ :: (skR 66 121 114 sb0 sk0 ++ (skR 66 121 114 sb1 sk1 ++ R)))) rfl
       clear H655
       exact hK _ (fun _ => ⟨trivial, H655'⟩)
      refine WalkC.eff 1 rfl (fun r uw657 hF659 => ?_) ?_
      ·obtain ⟨e26, H658⟩ := hF659
       dsimp only [List.take, List.map, List.cons_append, List.nil_append]
       refine Gives.ofW0 rfl (fun Q' hK => ?_)
       refine d_store (k := 0) (v := .agg (cel E64 [((simA ops in0 in1 (dwS ops ((0 : Nat) : Int) (fIn ((0 : Nat) : Int)) ws0 0) (dwS ops ((1 : Nat) : Int) (fIn ((1 : Nat) : Int)) ws1 0) (dtS ops st0.t.l st0.b.l) (dtS ops st1.t.l st1.b.l) i).1).getD o.b.toNat 0#64, ((simA ops in0 in1 (dwS ops ((0 : Nat) : Int) (fIn ((0 : Nat) : Int)) ws0 0) (dwS ops ((1 : Nat) : Int) (fIn ((1 : Nat) : Int)) ws1 0) (dtS ops st0.t.l st0.b.l) (dtS ops st1.t.l st1.b.l) i).2).getD o.b.toNat 0#64]).toArray) (cs' := (cel E64 ([((simA ops in0 in1 (dwS ops ((0 : Nat) : Int) (fIn ((0 : Nat) : Int)) ws0 0) (dwS ops ((1 : Nat) : Int) (fIn ((1 : Nat) : Int)) ws1 0) (dtS ops st0.t.l st0.b.l) (dtS ops st1.t.l st1.b.l) i).1).getD o.b.toNat 0#64, ((simA ops in0 in1 (dwS ops ((0 : Nat) : Int) (fIn ((0 : Nat) : Int)) ws0 0) (dwS ops ((1 : Nat) : Int) (fIn ((1 : Nat) : Int)) ws1 0) (dtS ops st0.t.l st0.b.l) (dtS ops st1.t.l st1.b.l) i).2).getD o.b.toNat 0#64])).toArray) H658 rfl rfl rfl siz87 (by exact celSize (by first | rfl | (show _ * 1 = _; omega))) (by exact celOne _) (by rw [List.size_toArray, cel_length]; show _ ≤ _ * 1; first | omega | (simp only [List.length_set]; omega) | exact bLe rfl | (simp <;> omega)) (by exact putAll (by first | rfl | omega | (simp <;> omega))) ?_
       intro w660 H661 hC662
       have H661' := H661.as (L' := (_ :: _ :: _ :: _ :: _ :: _ :: _ :: _ :: _ :: _ :: _ :: _ :: (skR 66 121 114 sb0 sk0 ++ (skR 66 121 114 sb1 sk1 ++ R)))) rfl
       clear H661
       exact hK _ (fun _ => ⟨trivial, trivial, H661'⟩)
      refine WalkC.nil ?_
      intro r663 w664 hF666
      obtain ⟨e26, e27, H665⟩ := hF666
      dsimp only
      refine wnil ?_
      refine thenNormal ?_
      exact hj486 (((simA ops in0 in1 (dwS ops ((0 : Nat) : Int) (fIn ((0 : Nat) : Int)) ws0 0) (dwS ops ((1 : Nat) : Int) (fIn ((1 : Nat) : Int)) ws1 0) (dtS ops st0.t.l st0.b.l) (dtS ops st1.t.l st1.b.l) i).1.getD o.a.toNat 0#64, (simA ops in0 in1 (dwS ops ((0 : Nat) : Int) (fIn ((0 : Nat) : Int)) ws0 0) (dwS ops ((1 : Nat) : Int) (fIn ((1 : Nat) : Int)) ws1 0) (dtS ops st0.t.l st0.b.l) (dtS ops st1.t.l st1.b.l) i).2.getD o.a.toNat 0#64), ((simA ops in0 in1 (dwS ops ((0 : Nat) : Int) (fIn ((0 : Nat) : Int)) ws0 0) (dwS ops ((1 : Nat) : Int) (fIn ((1 : Nat) : Int)) ws1 0) (dtS ops st0.t.l st0.b.l) (dtS ops st1.t.l st1.b.l) i).1.getD o.b.toNat 0#64, (simA ops in0 in1 (dwS ops ((0 : Nat) : Int) (fIn ((0 : Nat) : Int)) ws0 0) (dwS ops ((1 : Nat) : Int) (fIn ((1 : Nat) : Int)) ws1 0) (dtS ops st0.t.l st0.b.l) (dtS ops st1.t.l st1.b.l) i).2.getD o.b.toNat 0#64)) _ _ ⟨rfl, rfl, rfl, rfl, rfl, rfl, rfl, rfl, rfl, rfl, rfl, rfl, rfl, trivial⟩ ⟨⟨rfl, rfl⟩, (H665.pick 12 [3, 4, 5, 6, 7, 8, 9, 10, 11, 2, 1, 0] (by decide) (by decide))⟩
     ·refine skipAny ?_
      refine thenNormal ?_
      have he0 : i = 0 := by omega
      have hz1 : ((0#64, 0#64) : W2) = ((simA ops in0 in1 (dwS ops ((0 : Nat) : Int) (fIn ((0 : Nat) : Int)) ws0 0) (dwS ops ((1 : Nat) : Int) (fIn ((1 : Nat) : Int)) ws1 0) (dtS ops st0.t.l st0.b.l) (dtS ops st1.t.l st1.b.l) i).1.getD o.a.toNat 0#64, (simA ops in0 in1 (dwS ops ((0 : Nat) : Int) (fIn ((0 : Nat) : Int)) ws0 0) (dwS ops ((1 : Nat) : Int) (fIn ((1 : Nat) : Int)) ws1 0) (dtS ops st0.t.l st0.b.l) (dtS ops st1.t.l st1.b.l) i).2.getD o.a.toNat 0#64) := by subst he0; rfl
      have hz2 : ((0#64, 0#64) : W2) = ((simA ops in0 in1 (dwS ops ((0 : Nat) : Int) (fIn ((0 : Nat) : Int)) ws0 0) (dwS ops ((1 : Nat) : Int) (fIn ((1 : Nat) : Int)) ws1 0) (dtS ops st0.t.l st0.b.l) (dtS ops st1.t.l st1.b.l) i).1.getD o.b.toNat 0#64, (simA ops in0 in1 (dwS ops ((0 : Nat) : Int) (fIn ((0 : Nat) : Int)) ws0 0) (dwS ops ((1 : Nat) : Int) (fIn ((1 : Nat) : Int)) ws1 0) (dtS ops st0.t.l st0.b.l) (dtS ops st1.t.l st1.b.l) i).2.getD o.b.toNat 0#64) := by subst he0; rfl
      exact hj486 ((0#64, 0#64), (0#64, 0#64)) _ _ ⟨rfl, rfl, rfl, rfl, rfl, rfl, rfl, rfl, rfl, rfl, rfl, rfl, rfl, trivial⟩ ⟨⟨hz1, hz2⟩, (H484.pick 12 [3, 4, 5, 6, 7, 8, 9, 10, 11, 2, 1, 0] (by decide) (by decide))⟩
   ·have hie : i = ops.length := by omega
    subst hie
    refine exitAny ?_
    refine thenExit ?_
    refine thenExit ?_
    refine blockHere ?_
    refine thenNormal ?_
    refine sR ?_
    refine sq (r_loadA (cs' := x19) agg24 siz24 (HL3.get (k := 2) rfl) (off := 0) rfl (by exact bLe rfl) (by rfl)) ?_
    refine d_store (k := 8) (v := .agg x19) (cs' := x19) HL3 rfl rfl rfl siz24 (by rfl) (oneL rfl) (by exact bLe rfl) (by rfl) ?_
    intro w667 H668 hC669
    have H668' := H668.as (L' := (_ :: _ :: _ :: _ :: _ :: _ :: _ :: _ :: _ :: (skR 66 121 114 sb0 sk0 ++ (skR 66 121 114 sb1 sk1 ++ R)))) rfl
    clear H668
    refine sA (.nilIface) rfl ?_
    refine wend ?_
    refine retAny ?_
    refine retG (rs := [.cell 10 24, .tmp 11]) (vs := [.agg x19, .nilIface]) rfl ⟨r_loadA (cs' := x19) agg24 siz24 (H668'.get (k := 8) rfl) (off := 0) rfl (by exact bLe rfl) (by rfl), ⟨rfl, rfl⟩, trivial⟩ ?_
    exact ⟨_, rfl, kw0, cw0, sw0, kw1, cw1, sw1, sk0, sk1, rfl, hSk0, hSk1, (((((((H668'.dropk 8).dropk 7).dropk 6).dropk 5).dropk 4).dropk 3).dropk 2)⟩
end Go.Proofs.YtohngnahcgbfmaaGreatDoor.Mi
namespace Go.Proofs.YtohngnahcgbfmaaGreatDoor.Mi
open Go Go.Proofs.YtohngnahcgbfmaaGreatDoor.Vc Go.Proofs.YtohngnahcgbfmaaGreatDoor.Er Go.Proofs.YtohngnahcgbfmaaGreatDoor.Ek Go.Proofs.YtohngnahcgbfmaaGreatDoor.Circ
set_option linter.unusedVariables false
open Go.Proofs.YtohngnahcgbfmaaGreatDoor.Co Go.Proofs.YtohngnahcgbfmaaGreatDoor.Cm
theorem agg38 : isAgg' Tryz.prog 38 = true := by kernel_rfl
theorem call10 : callable Tryz.prog 10 = true := by kernel_rfl
theorem call11 : callable Tryz.prog 11 = true := by kernel_rfl
theorem call13 : callable Tryz.prog 13 = true := by kernel_rfl
theorem call15 : callable Tryz.prog 15 = true := by kernel_rfl
theorem call21 : callable Tryz.prog 21 = true := by kernel_rfl
theorem gty29 : Tryz.prog.eqGuardType Tryz.prog.depth 29 = false := by kernel_rfl
theorem pls36 : pls Tryz.prog 36 = some #[(0, 1), (1, 1), (2, 1), (3, 1), (4, 1), (5, 1)] := by kernel_rfl
theorem siz38 : siz Tryz.prog 38 = some 2 := by kernel_rfl
theorem und3 : Tryz.prog.underlying 3 = some (.int .i64) := by kernel_rfl
theorem zer38 : zer Tryz.prog 38 = some (.agg (List.replicate 2 (.pointer none)).toArray) := by kernel_rfl
theorem zer50 : zer Tryz.prog 50 = some (.agg (List.replicate 2 (.pointer none)).toArray) := by kernel_rfl
set_option maxHeartbeats 64000000 in
theorem awake_ok (w : World) (hG : Gl w) : Calls Tryz.prog 6 [].toArray w (Ret fun v w' => v = .bool true ∧ Ext w w') := by
 have H := Hp.start No w
 refine enter (n := 87) Tryz.func6 rfl rfl (bLe rfl) ?_
 refine sR ?_
 refine sA (.bool false) rfl ?_
 refine wS ?_
 refine sq (r_build (cs' := #[i64 1, i64 0, i64 0, i64 0, u64 0#64, i64 0]) (ps := [(0, i64 1)]) zer36 pls36 rfl (by rfl)) ?_
 refine sq (r_build (cs' := #[i64 1, i64 0, i64 0, i64 0, u64 0#64, i64 1]) (ps := [(0, i64 1), (5, i64 1)]) zer36 pls36 rfl (by rfl)) ?_
 refine sq (r_build (cs' := #[i64 6, i64 0, i64 1, i64 0, u64 0#64, i64 0]) (ps := [(0, i64 6), (1, i64 0), (2, i64 1)]) zer36 pls36 rfl (by rfl)) ?_
 refine sq (r_build (cs' := #[i64 18, i64 2, i64 0, i64 0, u64 0#64, i64 0]) (ps := [(0, i64 18), (1, i64 2)]) zer36 pls36 rfl (by rfl)) ?_
 refine q_buildSlice (E := EMo) (l := ([⟨(1 : Int), (0 : Int), (0 : Int), (0 : Int), 0#64, (0 : Int)⟩, ⟨(1 : Int), (0 : Int), (0 : Int), (0 : Int), 0#64, (1 : Int)⟩, ⟨(6 : Int), (0 : Int), (1 : Int), (0 : Int), 0#64, (0 : Int)⟩, ⟨(18 : Int), (2 : Int), (0 : Int), (0 : Int), 0#64, (0 : Int)⟩] : List Mo)) H sli22 zer36 (bLe rfl) (ps := [(0, .agg #[i64 1, i64 0, i64 0, i64 0, u64 0#64, i64 0]), (1, .agg #[i64 1, i64 0, i64 0, i64 0, u64 0#64, i64 1]), (2, .agg #[i64 6, i64 0, i64 1, i64 0, u64 0#64, i64 0]), (3, .agg #[i64 18, i64 2, i64 0, i64 0, u64 0#64, i64 0])]) rfl (by exact fillAll rfl rfl) rfl ?_
 intro b1 w3 hS2 H4 hE5
 let x15 : Value := .slice (ownA (some b1)) 4 4
 refine sA (.slice (ownA (some b1)) 4 4) rfl ?_
 have e6 : ([⟨(1 : Int), (0 : Int), (0 : Int), (0 : Int), 0#64, (0 : Int)⟩, ⟨(1 : Int), (0 : Int), (0 : Int), (0 : Int), 0#64, (1 : Int)⟩, ⟨(6 : Int), (0 : Int), (1 : Int), (0 : Int), 0#64, (0 : Int)⟩, ⟨(18 : Int), (2 : Int), (0 : Int), (0 : Int), 0#64, (0 : Int)⟩] : List Mo) = opsW := by rfl
 have hS7 := hS2
 rw [e6] at hS7
 have H8 := H4.as (L' := [((some b1), sob EMo 36 opsW ([]))]) (by rw [e6])
 refine wS ?_
 refine q_buildSlice (E := E64) (l := [1#64, 2#64, 3#64, 4#64, 5#64]) H8 sli23 zer34 (bLe rfl) (ps := [(0, u64 1#64), (1, u64 2#64), (2, u64 3#64), (3, u64 4#64), (4, u64 5#64)]) rfl (by exact fillAll rfl rfl) rfl ?_
 intro b9 w11 hS10 H12 hE13
 refine c_call (vs := [.slice (ownA (some b9)) 5 5]) call11 rfl (load_ok ([1#64, 2#64, 3#64, 4#64, 5#64]) (by decide) (ownA (some b9)) 5 5 (by decide) w11 (H12.rd (k := 0) rfl hS10)) ?_
 rintro _ w14 ⟨⟨b16, key17, c18, sp19, rfl, hS20, HN21⟩, hE22⟩
 have H23 := (H12.join HN21).as (L' := [_, _, _, _]) rfl
 have H24 := H23.as (L' := (_ :: _ :: _)) rfl
 refine c_call (vs := [pT b16, i64 1, i64 0, i64 0]) call21 rfl (deal_ok b16 key17 c18 sp19 ([1#64, 2#64, 3#64, 4#64, 5#64]) hS20 (by decide) 1 0 0 (by decide) (by decide) (by decide) (by decide) [((some b9), sob E64 34 ([1#64, 2#64, 3#64, 4#64, 5#64]) ([])), ((some b1), sob EMo 36 opsW ([]))] w w14 H24) ?_
 rintro _ w25 ⟨b27, b28, s29, s30, rfl, hok31, hok32, hD33, HN34⟩
 let x14 : Array Value := #[pT b27, pT b28]
 let x6 : Array Value := #[.agg x14, .nilIface]
 have H35 := HN34.as (L' := [_, _, _, _, _, _, _, _, _, _, _, _]) rfl
 refine sM (.tuple x6) rfl ?_
 refine sq (r_extract (vs := x6) rfl rfl) ?_
 refine sq (r_extract (vs := x6) rfl rfl) ?_
 refine q_alloc (o := .cells #[.pointer none, .pointer none] 38 (0, 0)) H35 zer38 (by kernel_rfl) ?_
 intro b36 w37 hb36 H38 hE39
 refine d_store (k := 0) (v := .agg x14) (cs' := x14) H38 rfl rfl rfl siz38 (by rfl) (oneL rfl) (by exact bLe rfl) (by rfl) ?_
 intro w40 H41 hC42
 have H41' := H41.as (L' := [_, _, _, _, _, _, _, _, _, _, _, _, _]) rfl
 clear H41
 refine sA (.nilIface) rfl ?_
 refine wend ?_
 refine seqAny ?_
 refine sR ?_
 refine sM (.nilIface) rfl ?_
 refine sq (r_neqNN isI31 rfl rfl) ?_
 refine sM (.bool false) rfl ?_
 refine sqAny (v := .slice (ownA (some b1)) 4 4) (w' := w40) (wantedSome (d' := 20) (b := false) rfl rfl rfl) (r_move (v := .slice (ownA (some b1)) 4 4) rfl) ?_
 refine sqAny (v := .agg (cel EI [(1 : Int), (1 : Int)]).toArray) (w' := w40) (wantedSome (d' := 20) (b := false) rfl rfl rfl) (r_buildA (cs' := (cel EI [(1 : Int), (1 : Int)]).toArray) (ps := [(0, i64 1), (1, i64 1)]) zer29 arr29 rfl (by rfl)) ?_
 refine caAny (wantedSome (d' := 20) (b := false) rfl rfl rfl) (Enters.callL (vs := [x15, .agg (cel EI [(1 : Int), (1 : Int)]).toArray]) call8 rfl) (mcheck_yes opsW (ownA (some b1)) 4 (1 : Int) (1 : Int) 4 (by rfl) w40 (Chg.gl H41'.chg (fun x => x) hG) (H41'.rd (k := 12) rfl hS7) (by decide) goodW) ?_
 rintro _ w43 ⟨rfl, hE44⟩
 have H45 := H41'.ext hE44
 refine sqAny (v := .bool false) (w' := w43) (wantedSome (d' := 20) (b := false) rfl rfl rfl) (r_neqNN isI31 rfl rfl) ?_
 refine sq ((r_pickF (v := .bool false) rfl rfl).as (v' := .bool false) (by rfl)) ?_
 refine wend ?_
 refine condFalse rfl ?_
 refine skipAny ?_
 refine thenNormal ?_
 refine seqAny ?_
 have HA := ((H45.pick 13 [0, 12, 1, 2, 3, 4, 5, 6, 7, 8] (by decide) (by decide))).as (L' := List.flatten [[], [], [], [], [], [], [], [(rc b36 x14 38), ((some b1), sob EMo 36 opsW ([]))], skR 66 121 114 b27 s29, skR 66 121 114 b28 s30]) rfl
 obtain ⟨X, hX⟩ : ∃ X, X = (simA opsW [3#64] [5#64] (dwS opsW ((0 : Nat) : Int) (fIn ((0 : Nat) : Int)) [10#64] 0) (dwS opsW ((1 : Nat) : Int) (fIn ((1 : Nat) : Int)) [20#64] 0) (dtS opsW s29.t.l s29.b.l) (dtS opsW s30.t.l s30.b.l) opsW.length) := ⟨_, rfl⟩
 let x13 : Array Value := #[iN (nA opsW), iN (nB opsW), iN (nO opsW), iN (nT0 opsW), iN (nT1 opsW), i64 (nR opsW), iN (nW0 opsW), iN (nW1 opsW)]
 let x1 : List (Option Nat × Obj) := [(rc b36 x14 38), ((some b1), sob EMo 36 opsW ([]))]
 have hXv : X.1.getD 0 0#64 = 10#64 ∧ X.1.getD 3 0#64 = 15#64 := by rw [hX]; exact simW rfl rfl (by rw [dtS, if_pos (by decide), hD33.t1]; rfl) (by rw [dtS, if_pos (by decide), hD33.t2]; rfl)
 have hXl : X.1.length = 4 ∧ X.2.length = 4 := by rw [hX]; exact simA_len _ _ _ _ _ _ _ _
 have hl0 : s29.t.l.length = 1 := by rw [hD33.t1]; rfl
 have hl1 : s30.t.l.length = 1 := by rw [hD33.t2]; rfl
 refine drawP (m := 18) [0, 0, 0, 0, 12, 0, 32, 0, 224, 480, 0, 2047, 4095, 8191, 8191, 0, 49151, 131071] [2, 3, 5, 6, 7, 8, 11, 15, 16] (fun bs vs w' => match bs, vs with | [b2, b3, b5, b6, b7, b8, b11, b15, b16], [v2, v3, v5, v6, v7, v8, v11, v15, _] => (b11 = false ∧ b16 = false ∧ ∃ P2 P3 P5 P6 P7 P8 P15 : List (Option Nat × Obj), Opt b2 (fun P => ∃ p : Nat, v2 = .slice (ownA (some p)) 1 1 ∧ Sl E64 (some p) [3#64] 1 [] ∧ P = [(some p, sob E64 34 [3#64] [])]) P2 ∧ Opt b3 (fun P => ∃ p : Nat, v3 = .slice (ownA (some p)) 1 1 ∧ Sl E64 (some p) [5#64] 1 [] ∧ P = [(some p, sob E64 34 [5#64] [])]) P3 ∧ Opt b5 (fun P => ∃ p : Nat, v5 = .slice (ownA (some p)) 1 1 ∧ Sl E64 (some p) [10#64] 1 [] ∧ P = [(some p, sob E64 34 [10#64] [])]) P5 ∧ Opt b6 (fun P => ∃ (b : Nat) (key : Option Nat) (c : Nat) (sp : List Value), v6 = pT b ∧ Sl E64 key [10#64] c sp ∧ P = [(rc b #[.slice (ownA key) ([10#64].length) c, .pointer none, iN ([10#64].length), iN 0] 96), (key, sob E64 34 [10#64] sp)]) P6 ∧ Opt b7 (fun P => ∃ p : Nat, v7 = .slice (ownA (some p)) 1 1 ∧ Sl E64 (some p) [20#64] 1 [] ∧ P = [(some p, sob E64 34 [20#64] [])]) P7 ∧ Opt b8 (fun P => ∃ (b : Nat) (key : Option Nat) (c : Nat) (sp : List Value), v8 = pT b ∧ Sl E64 key [20#64] c sp ∧ P = [(rc b #[.slice (ownA key) ([20#64].length) c, .pointer none, iN ([20#64].length), iN 0] 96), (key, sob E64 34 [20#64] sp)]) P8 ∧ Opt b15 (fun P => ∃ b : Nat, v15 = pT b ∧ P = [(rc b #[sN0, sN0] 24)]) P15 ∧ Hp No w w' (List.flatten [P2, P3, P5, P6, P7, P8, P15, x1, skR 66 121 114 b27 s29, skR 66 121 114 b28 s30])) ∨ (b11 = true ∧ ∃ (k0 : Option Nat) (c0 : Nat) (z0 : List Value) (k1 : Option Nat) (c1 : Nat) (z1 : List Value), v11 = .tuple #[.agg #[.slice (ownA k0) opsW.length c0, .slice (ownA k1) opsW.length c1], .nilIface] ∧ Sl E64 k0 X.1 c0 z0 ∧ Sl E64 k1 X.2 c1 z1 ∧ ((b16 = false ∧ ∃ P15, Opt b15 (fun P => ∃ b : Nat, v15 = pT b ∧ P = [(rc b #[sN0, sN0] 24)]) P15 ∧ Hp No w w' (List.flatten [[(k0, sob E64 34 X.1 z0), (k1, sob E64 34 X.2 z1)], P15, x1])) ∨ (b16 = true ∧ ∃ b : Nat, v15 = pT b ∧ Hp No w w' (List.flatten [[(k0, sob E64 34 X.1 z0), (k1, sob E64 34 X.2 z1)], [(rc b #[.slice (ownA k0) opsW.length c0, .slice (ownA k1) opsW.length c1] 24)], x1])))) | _, _ => False) mixed (by kernel_rfl) (by kernel_rfl) (by exact Or.inl ⟨rfl, rfl, [], [], [], [], [], [], [], rfl, rfl, rfl, rfl, rfl, rfl, rfl, HA.drew⟩) ?_
 refine WalkP.look rfl (fun _ => .slice (ownA (some b1)) 4 4) (fun _ _ _ => rfl) (fun L r uw _ _ _ => Gives.run rfl (r_move (v := .slice (ownA (some b1)) 4 4) rfl) ⟨rfl, rfl⟩) ?_
 refine WalkP.look rfl (fun _ => .agg (cel EI [(1 : Int), (1 : Int)]).toArray) (fun _ _ _ => rfl) (fun L r uw _ _ _ => Gives.run rfl (r_buildA (cs' := (cel EI [(1 : Int), (1 : Int)]).toArray) (ps := [(0, i64 1), (1, i64 1)]) zer29 arr29 rfl (by rfl)) ⟨rfl, rfl⟩) ?_
 refine WalkP.eff 0 rfl (fun L r uw hLn hAn hDn hF => ?_) ?_
 ·have b11 := hDn 11 (by decide) rfl
  have b16 := hDn 16 (by decide) rfl
  have b2 : L 2 = false := hLn
  have hb : List.map L [2, 3, 5, 6, 7, 8, 11, 15, 16] = [false, L 3, L 5, L 6, L 7, L 8, false, L 15, false] := by simp only [List.map_cons, List.map_nil, b2, b11, b16]
  rw [hb] at hF ⊢
  obtain ⟨hn11, hn16, P2, P3, P5, P6, P7, P8, P15, o2, o3, o5, o6, o7, o8, o15, HH⟩ | ⟨hn11, k0, c0, z0, k1, c1, z1, e11, hz0, hz1, ⟨hn16, P15, o15, HH⟩ | ⟨hn16, b, e15, HH⟩⟩ := hF
  ·obtain rfl := (show P2 = [] from o2)
   have H1 := Hp.segsD (S := [[], P3, P5, P6, P7, P8, P15, x1, skR 66 121 114 b27 s29, skR 66 121 114 b28 s30]) HH 10 rfl [1, 2, 3, 4, 5, 6, 7, 8, 9] [0] (by decide)
   have H2 := H1.as (L' := ((List.flatten [P3, P5, P6, P7, P8, P15, x1, skR 66 121 114 b27 s29, skR 66 121 114 b28 s30]))) rfl
   dsimp only
   refine Gives.ofW (d := 29) rfl rfl (fun Q' hK => ?_)
   refine q_buildSlice (E := E64) (l := [3#64]) H2 sli23 zer34 (bLe rfl) (ps := [(0, u64 3#64)]) rfl (by exact fillAll rfl rfl) rfl ?_
   intro b46 w48 hS47 H49 hE50
   let x9 : Option Nat × Obj := ((some b46), sob E64 34 ([3#64]) ([]))
   have H8 := H49.as (L' := List.flatten [[x9], P3, P5, P6, P7, P8, P15, x1, skR 66 121 114 b27 s29, skR 66 121 114 b28 s30]) rfl
   have H9 := Hp.segsD (S := [[x9], P3, P5, P6, P7, P8, P15, x1, skR 66 121 114 b27 s29, skR 66 121 114 b28 s30]) H8 10 rfl [0, 1, 2, 3, 4, 5, 6, 7, 8, 9] [] (by decide)
   exact hK _ _ (Or.inl ⟨hn11, hn16, [x9], P3, P5, P6, P7, P8, P15, ⟨b46, rfl, hS47, rfl⟩, o3, o5, o6, o7, o8, o15, H9⟩)
  ·cases hn11
  ·cases hn11
 refine WalkP.eff 1 rfl (fun L r uw hLn hAn hDn hF => ?_) ?_
 ·have b11 := hDn 11 (by decide) rfl
  have b16 := hDn 16 (by decide) rfl
  have b3 : L 3 = false := hLn
  have hb : List.map L [2, 3, 5, 6, 7, 8, 11, 15, 16] = [L 2, false, L 5, L 6, L 7, L 8, false, L 15, false] := by simp only [List.map_cons, List.map_nil, b3, b11, b16]
  rw [hb] at hF ⊢
  obtain ⟨hn11, hn16, P2, P3, P5, P6, P7, P8, P15, o2, o3, o5, o6, o7, o8, o15, HH⟩ | ⟨hn11, k0, c0, z0, k1, c1, z1, e11, hz0, hz1, ⟨hn16, P15, o15, HH⟩ | ⟨hn16, b, e15, HH⟩⟩ := hF
  ·obtain rfl := (show P3 = [] from o3)
   have H1 := Hp.segsD (S := [P2, [], P5, P6, P7, P8, P15, x1, skR 66 121 114 b27 s29, skR 66 121 114 b28 s30]) HH 10 rfl [0, 2, 3, 4, 5, 6, 7, 8, 9] [1] (by decide)
   have H2 := H1.as (L' := ((List.flatten [P2, P5, P6, P7, P8, P15, x1, skR 66 121 114 b27 s29, skR 66 121 114 b28 s30]))) rfl
   dsimp only
   refine Gives.ofW (d := 30) rfl rfl (fun Q' hK => ?_)
   refine q_buildSlice (E := E64) (l := [5#64]) H2 sli23 zer34 (bLe rfl) (ps := [(0, u64 5#64)]) rfl (by exact fillAll rfl rfl) rfl ?_
   intro b51 w53 hS52 H54 hE55
   let x10 : Option Nat × Obj := ((some b51), sob E64 34 ([5#64]) ([]))
   have H8 := H54.as (L' := List.flatten [[x10], P2, P5, P6, P7, P8, P15, x1, skR 66 121 114 b27 s29, skR 66 121 114 b28 s30]) rfl
   have H9 := Hp.segsD (S := [[x10], P2, P5, P6, P7, P8, P15, x1, skR 66 121 114 b27 s29, skR 66 121 114 b28 s30]) H8 10 rfl [1, 0, 2, 3, 4, 5, 6, 7, 8, 9] [] (by decide)
   exact hK _ _ (Or.inl ⟨hn11, hn16, P2, [x10], P5, P6, P7, P8, P15, o2, ⟨b51, rfl, hS52, rfl⟩, o5, o6, o7, o8, o15, H9⟩)
  ·cases hn11
  ·cases hn11
 refine WalkP.look rfl (fun r => bld (r 2) (r 3)) (fun r r' h => by rw [h 2 (by decide) rfl, h 3 (by decide) rfl]) (fun L r uw hAn hDn hF => ?_) ?_
 ·have b2 := hAn 2 (by decide) rfl
  have b3 := hAn 3 (by decide) rfl
  have b11 := hDn 11 (by decide) rfl
  have b16 := hDn 16 (by decide) rfl
  have hb : List.map L [2, 3, 5, 6, 7, 8, 11, 15, 16] = [true, true, L 5, L 6, L 7, L 8, false, L 15, false] := by simp only [List.map_cons, List.map_nil, b2, b3, b11, b16]
  rw [hb] at hF
  obtain ⟨hn11, hn16, P2, P3, P5, P6, P7, P8, P15, o2, o3, o5, o6, o7, o8, o15, HH⟩ | ⟨hn11, _⟩ := hF
  ·obtain ⟨p2, e2, _⟩ := o2
   obtain ⟨p3, e3, _⟩ := o3
   dsimp only
   rw [e2, e3]
   exact Gives.run rfl (r_buildA (cs' := #[.slice (ownA (some p2)) 1 1, .slice (ownA (some p3)) 1 1]) (ps := [(0, .slice (ownA (some p2)) 1 1), (1, .slice (ownA (some p3)) 1 1)]) zer24 arr24 rfl (by rfl)) ⟨rfl, rfl⟩
  ·cases hn11
 refine WalkP.eff 2 rfl (fun L r uw hLn hAn hDn hF => ?_) ?_
 ·have b6 := hDn 6 (by decide) rfl
  have b8 := hDn 8 (by decide) rfl
  have b11 := hDn 11 (by decide) rfl
  have b16 := hDn 16 (by decide) rfl
  have b5 : L 5 = false := hLn
  have hb : List.map L [2, 3, 5, 6, 7, 8, 11, 15, 16] = [L 2, L 3, false, false, L 7, false, false, L 15, false] := by simp only [List.map_cons, List.map_nil, b5, b6, b8, b11, b16]
  rw [hb] at hF ⊢
  obtain ⟨hn11, hn16, P2, P3, P5, P6, P7, P8, P15, o2, o3, o5, o6, o7, o8, o15, HH⟩ | ⟨hn11, k0, c0, z0, k1, c1, z1, e11, hz0, hz1, ⟨hn16, P15, o15, HH⟩ | ⟨hn16, b, e15, HH⟩⟩ := hF
  ·obtain rfl := (show P5 = [] from o5)
   have H1 := Hp.segsD (S := [P2, P3, [], P6, P7, P8, P15, x1, skR 66 121 114 b27 s29, skR 66 121 114 b28 s30]) HH 10 rfl [0, 1, 3, 4, 5, 6, 7, 8, 9] [2] (by decide)
   have H2 := H1.as (L' := ((List.flatten [P2, P3, P6, P7, P8, P15, x1, skR 66 121 114 b27 s29, skR 66 121 114 b28 s30]))) rfl
   dsimp only
   refine Gives.ofW (d := 32) rfl rfl (fun Q' hK => ?_)
   refine q_buildSlice (E := E64) (l := [10#64]) H2 sli23 zer34 (bLe rfl) (ps := [(0, u64 10#64)]) rfl (by exact fillAll rfl rfl) rfl ?_
   intro b56 w58 hS57 H59 hE60
   let x7 : Option Nat × Obj := ((some b56), sob E64 34 ([10#64]) ([]))
   have H8 := H59.as (L' := List.flatten [[x7], P2, P3, P6, P7, P8, P15, x1, skR 66 121 114 b27 s29, skR 66 121 114 b28 s30]) rfl
   have H9 := Hp.segsD (S := [[x7], P2, P3, P6, P7, P8, P15, x1, skR 66 121 114 b27 s29, skR 66 121 114 b28 s30]) H8 10 rfl [1, 2, 0, 3, 4, 5, 6, 7, 8, 9] [] (by decide)
   exact hK _ _ (Or.inl ⟨hn11, hn16, P2, P3, [x7], P6, P7, P8, P15, o2, o3, ⟨b56, rfl, hS57, rfl⟩, o6, o7, o8, o15, H9⟩)
  ·cases hn11
  ·cases hn11
 refine WalkP.eff 3 rfl (fun L r uw hLn hAn hDn hF => ?_) ?_
 ·have b5 := hAn 5 (by decide) rfl
  have b8 := hDn 8 (by decide) rfl
  have b11 := hDn 11 (by decide) rfl
  have b16 := hDn 16 (by decide) rfl
  have b6 : L 6 = false := hLn
  have hb : List.map L [2, 3, 5, 6, 7, 8, 11, 15, 16] = [L 2, L 3, true, false, L 7, false, false, L 15, false] := by simp only [List.map_cons, List.map_nil, b5, b6, b8, b11, b16]
  rw [hb] at hF ⊢
  obtain ⟨hn11, hn16, P2, P3, P5, P6, P7, P8, P15, o2, o3, o5, o6, o7, o8, o15, HH⟩ | ⟨hn11, k0, c0, z0, k1, c1, z1, e11, hz0, hz1, ⟨hn16, P15, o15, HH⟩ | ⟨hn16, b, e15, HH⟩⟩ := hF
  ·obtain rfl := (show P6 = [] from o6)
   obtain ⟨p5, e5, hq5, rfl⟩ := o5
   have H1 := Hp.segsD (S := [P2, P3, [(some p5, sob E64 34 [10#64] [])], [], P7, P8, P15, x1, skR 66 121 114 b27 s29, skR 66 121 114 b28 s30]) HH 10 rfl [2, 0, 1, 4, 5, 6, 7, 8, 9] [3] (by decide)
   have H2 := H1.as (L' := (_ :: _)) rfl
   rw [e5]
   dsimp only
   refine Gives.ofW (d := 33) rfl rfl (fun Q' hK => ?_)
   refine c_call (vs := [.slice (ownA (some p5)) 1 1]) call11 rfl (load_ok ([10#64]) (by decide) (ownA (some p5)) 1 1 (by decide) uw (H2.rd (k := 0) rfl hq5)) ?_
   rintro _ w61 ⟨⟨b63, key64, c65, sp66, rfl, hS67, HN68⟩, hE69⟩
   let x11 : Option Nat × Obj := (key64, sob E64 34 ([10#64]) sp66)
   have H70 := (H2.join HN68).as (L' := (_ :: _ :: _ :: _)) rfl
   have H8 := H70.as (L' := List.flatten [[(rc b63 #[.slice (ownA key64) (([10#64]).length) c65, .pointer none, iN (([10#64]).length), iN 0] 96), x11], [(some p5, sob E64 34 [10#64] [])], P2, P3, P7, P8, P15, x1, skR 66 121 114 b27 s29, skR 66 121 114 b28 s30]) rfl
   have H9 := Hp.segsD (S := [[(rc b63 #[.slice (ownA key64) (([10#64]).length) c65, .pointer none, iN (([10#64]).length), iN 0] 96), x11], [(some p5, sob E64 34 [10#64] [])], P2, P3, P7, P8, P15, x1, skR 66 121 114 b27 s29, skR 66 121 114 b28 s30]) H8 10 rfl [2, 3, 1, 0, 4, 5, 6, 7, 8, 9] [] (by decide)
   exact hK _ _ (Or.inl ⟨hn11, hn16, P2, P3, _, [(rc b63 #[.slice (ownA key64) (([10#64]).length) c65, .pointer none, iN (([10#64]).length), iN 0] 96), x11], P7, P8, P15, o2, o3, ⟨p5, e5, hq5, rfl⟩, ⟨b63, key64, c65, sp66, rfl, hS67, rfl⟩, o7, o8, o15, H9⟩)
  ·cases hn11
  ·cases hn11
 refine WalkP.eff 4 rfl (fun L r uw hLn hAn hDn hF => ?_) ?_
 ·have b8 := hDn 8 (by decide) rfl
  have b11 := hDn 11 (by decide) rfl
  have b16 := hDn 16 (by decide) rfl
  have b7 : L 7 = false := hLn
  have hb : List.map L [2, 3, 5, 6, 7, 8, 11, 15, 16] = [L 2, L 3, L 5, L 6, false, false, false, L 15, false] := by simp only [List.map_cons, List.map_nil, b7, b8, b11, b16]
  rw [hb] at hF ⊢
  obtain ⟨hn11, hn16, P2, P3, P5, P6, P7, P8, P15, o2, o3, o5, o6, o7, o8, o15, HH⟩ | ⟨hn11, k0, c0, z0, k1, c1, z1, e11, hz0, hz1, ⟨hn16, P15, o15, HH⟩ | ⟨hn16, b, e15, HH⟩⟩ := hF
  ·obtain rfl := (show P7 = [] from o7)
   have H1 := Hp.segsD (S := [P2, P3, P5, P6, [], P8, P15, x1, skR 66 121 114 b27 s29, skR 66 121 114 b28 s30]) HH 10 rfl [0, 1, 2, 3, 5, 6, 7, 8, 9] [4] (by decide)
   have H2 := H1.as (L' := ((List.flatten [P2, P3, P5, P6, P8, P15, x1, skR 66 121 114 b27 s29, skR 66 121 114 b28 s30]))) rfl
   dsimp only
   refine Gives.ofW (d := 34) rfl rfl (fun Q' hK => ?_)
   refine q_buildSlice (E := E64) (l := [20#64]) H2 sli23 zer34 (bLe rfl) (ps := [(0, u64 20#64)]) rfl (by exact fillAll rfl rfl) rfl ?_
   intro b71 w73 hS72 H74 hE75
   let x8 : Option Nat × Obj := ((some b71), sob E64 34 ([20#64]) ([]))
   have H8 := H74.as (L' := List.flatten [[x8], P2, P3, P5, P6, P8, P15, x1, skR 66 121 114 b27 s29, skR 66 121 114 b28 s30]) rfl
   have H9 := Hp.segsD (S := [[x8], P2, P3, P5, P6, P8, P15, x1, skR 66 121 114 b27 s29, skR 66 121 114 b28 s30]) H8 10 rfl [1, 2, 3, 4, 0, 5, 6, 7, 8, 9] [] (by decide)
   exact hK _ _ (Or.inl ⟨hn11, hn16, P2, P3, P5, P6, [x8], P8, P15, o2, o3, o5, o6, ⟨b71, rfl, hS72, rfl⟩, o8, o15, H9⟩)
  ·cases hn11
  ·cases hn11
 refine WalkP.eff 5 rfl (fun L r uw hLn hAn hDn hF => ?_) ?_
 ·have b5 := hAn 5 (by decide) rfl
  have b6 := hAn 6 (by decide) rfl
  have b7 := hAn 7 (by decide) rfl
  have b11 := hDn 11 (by decide) rfl
  have b16 := hDn 16 (by decide) rfl
  have b8 : L 8 = false := hLn
  have hb : List.map L [2, 3, 5, 6, 7, 8, 11, 15, 16] = [L 2, L 3, true, true, true, false, false, L 15, false] := by simp only [List.map_cons, List.map_nil, b5, b6, b7, b8, b11, b16]
  rw [hb] at hF ⊢
  obtain ⟨hn11, hn16, P2, P3, P5, P6, P7, P8, P15, o2, o3, o5, o6, o7, o8, o15, HH⟩ | ⟨hn11, k0, c0, z0, k1, c1, z1, e11, hz0, hz1, ⟨hn16, P15, o15, HH⟩ | ⟨hn16, b, e15, HH⟩⟩ := hF
  ·obtain rfl := (show P8 = [] from o8)
   obtain ⟨p7, e7, hq7, rfl⟩ := o7
   have H1 := Hp.segsD (S := [P2, P3, P5, P6, [(some p7, sob E64 34 [20#64] [])], [], P15, x1, skR 66 121 114 b27 s29, skR 66 121 114 b28 s30]) HH 10 rfl [4, 0, 1, 2, 3, 6, 7, 8, 9] [5] (by decide)
   have H2 := H1.as (L' := (_ :: _)) rfl
   rw [e7]
   dsimp only
   refine Gives.ofW (d := 35) rfl rfl (fun Q' hK => ?_)
   refine c_call (vs := [.slice (ownA (some p7)) 1 1]) call11 rfl (load_ok ([20#64]) (by decide) (ownA (some p7)) 1 1 (by decide) uw (H2.rd (k := 0) rfl hq7)) ?_
   rintro _ w76 ⟨⟨b78, key79, c80, sp81, rfl, hS82, HN83⟩, hE84⟩
   let x12 : Option Nat × Obj := (key79, sob E64 34 ([20#64]) sp81)
   have H85 := (H2.join HN83).as (L' := (_ :: _ :: _ :: _)) rfl
   have H8 := H85.as (L' := List.flatten [[(rc b78 #[.slice (ownA key79) (([20#64]).length) c80, .pointer none, iN (([20#64]).length), iN 0] 96), x12], [(some p7, sob E64 34 [20#64] [])], P2, P3, P5, P6, P15, x1, skR 66 121 114 b27 s29, skR 66 121 114 b28 s30]) rfl
   have H9 := Hp.segsD (S := [[(rc b78 #[.slice (ownA key79) (([20#64]).length) c80, .pointer none, iN (([20#64]).length), iN 0] 96), x12], [(some p7, sob E64 34 [20#64] [])], P2, P3, P5, P6, P15, x1, skR 66 121 114 b27 s29, skR 66 121 114 b28 s30]) H8 10 rfl [2, 3, 4, 5, 1, 0, 6, 7, 8, 9] [] (by decide)
   exact hK _ _ (Or.inl ⟨hn11, hn16, P2, P3, P5, P6, _, [(rc b78 #[.slice (ownA key79) (([20#64]).length) c80, .pointer none, iN (([20#64]).length), iN 0] 96), x12], P15, o2, o3, o5, o6, ⟨p7, e7, hq7, rfl⟩, ⟨b78, key79, c80, sp81, rfl, hS82, rfl⟩, o15, H9⟩)
  ·cases hn11
  ·cases hn11
 refine WalkP.look rfl (fun r => bld (r 6) (r 8)) (fun r r' h => by rw [h 6 (by decide) rfl, h 8 (by decide) rfl]) (fun L r uw hAn hDn hF => ?_) ?_
 ·have b5 := hAn 5 (by decide) rfl
  have b6 := hAn 6 (by decide) rfl
  have b7 := hAn 7 (by decide) rfl
  have b8 := hAn 8 (by decide) rfl
  have b11 := hDn 11 (by decide) rfl
  have b16 := hDn 16 (by decide) rfl
  have hb : List.map L [2, 3, 5, 6, 7, 8, 11, 15, 16] = [L 2, L 3, true, true, true, true, false, L 15, false] := by simp only [List.map_cons, List.map_nil, b5, b6, b7, b8, b11, b16]
  rw [hb] at hF
  obtain ⟨hn11, hn16, P2, P3, P5, P6, P7, P8, P15, o2, o3, o5, o6, o7, o8, o15, HH⟩ | ⟨hn11, _⟩ := hF
  ·obtain ⟨p6, _, _, _, e6, _⟩ := o6
   obtain ⟨p8, _, _, _, e8, _⟩ := o8
   dsimp only
   rw [e6, e8]
   exact Gives.run rfl (r_buildA (cs' := #[pT p6, pT p8]) (ps := [(0, pT p6), (1, pT p8)]) zer50 arr50 rfl (by rfl)) ⟨rfl, rfl⟩
  ·cases hn11
 refine WalkP.look rfl (fun _ => .agg x14) (fun _ _ _ => rfl) (fun L r uw hAn hDn hF => ?_) ?_
 ·have b11 := hDn 11 (by decide) rfl
  have b16 := hDn 16 (by decide) rfl
  have hb : List.map L [2, 3, 5, 6, 7, 8, 11, 15, 16] = [L 2, L 3, L 5, L 6, L 7, L 8, false, L 15, false] := by simp only [List.map_cons, List.map_nil, b11, b16]
  rw [hb] at hF
  obtain ⟨hn11, hn16, P2, P3, P5, P6, P7, P8, P15, o2, o3, o5, o6, o7, o8, o15, HH⟩ | ⟨hn11, _⟩ := hF
  ·have H1 := Hp.segsD (S := [P2, P3, P5, P6, P7, P8, P15, x1, skR 66 121 114 b27 s29, skR 66 121 114 b28 s30]) HH 10 rfl [7, 0, 1, 2, 3, 4, 5, 6, 8, 9] [] (by decide)
   have H2 := H1.as (L' := (_ :: _ :: _)) rfl
   exact Gives.run rfl (r_loadA (cs' := x14) agg38 siz38 (H2.get (k := 0) rfl) (off := 0) rfl (by exact bLe rfl) (by rfl)) ⟨rfl, rfl⟩
  ·cases hn11
 refine WalkP.eff 6 rfl (fun L r uw hLn hAn hDn hF => ?_) ?_
 ·have b2 := hAn 2 (by decide) rfl
  have b3 := hAn 3 (by decide) rfl
  have b5 := hAn 5 (by decide) rfl
  have b6 := hAn 6 (by decide) rfl
  have b7 := hAn 7 (by decide) rfl
  have b8 := hAn 8 (by decide) rfl
  have b16 := hDn 16 (by decide) rfl
  have b11 : L 11 = false := hLn
  have hb : List.map L [2, 3, 5, 6, 7, 8, 11, 15, 16] = [true, true, true, true, true, true, false, L 15, false] := by simp only [List.map_cons, List.map_nil, b2, b3, b5, b6, b7, b8, b11, b16]
  rw [hb] at hF ⊢
  obtain ⟨hn11, hn16, P2, P3, P5, P6, P7, P8, P15, o2, o3, o5, o6, o7, o8, o15, HH⟩ | ⟨hn11, _⟩ := hF
  ·obtain ⟨p2, e2, hq2, rfl⟩ := o2
   let x4 : List (Option Nat × Obj) := [(some p2, sob E64 34 [3#64] [])]
   obtain ⟨p3, e3, hq3, rfl⟩ := o3
   let x5 : List (Option Nat × Obj) := [(some p3, sob E64 34 [5#64] [])]
   obtain ⟨p5, e5, hq5, rfl⟩ := o5
   let x2 : List (Option Nat × Obj) := [(some p5, sob E64 34 [10#64] [])]
   obtain ⟨p7, e7, hq7, rfl⟩ := o7
   let x3 : List (Option Nat × Obj) := [(some p7, sob E64 34 [20#64] [])]
   obtain ⟨b6x, key6, c6, sp6, e6, hq6, rfl⟩ := o6
   obtain ⟨b8x, key8, c8, sp8, e8, hq8, rfl⟩ := o8
   have H1 := Hp.segsD (S := [x4, x5, x2, [(rc b6x #[.slice (ownA key6) ([10#64].length) c6, .pointer none, iN ([10#64].length), iN 0] 96), (key6, sob E64 34 [10#64] sp6)], x3, [(rc b8x #[.slice (ownA key8) ([20#64].length) c8, .pointer none, iN ([20#64].length), iN 0] 96), (key8, sob E64 34 [20#64] sp8)], P15, x1, skR 66 121 114 b27 s29, skR 66 121 114 b28 s30]) HH 10 rfl [3, 5, 8, 9, 0, 1, 7, 2, 4, 6] [] (by decide)
   have H2 := H1.as (L' := (_ :: _ :: _ :: _ :: (skR 66 121 114 b27 s29 ++ (skR 66 121 114 b28 s30 ++ List.flatten [x4, x5, x1, x2, x3, P15])))) rfl
   rw [e2, e3, e6, e8]
   dsimp only
   refine Gives.ofW (d := 38) rfl rfl (fun Q' hK => ?_)
   refine c_call (vs := [x15, .agg (cel EI [(1 : Int), (1 : Int)]).toArray, .agg #[.slice (ownA (some p2)) 1 1, .slice (ownA (some p3)) 1 1], .agg #[pT b6x, pT b8x], .agg x14]) call10 rfl (sima_ok opsW (ownA (some b1)) 4 [3#64] [5#64] (ownA (some p2)) (ownA (some p3)) 1 1 b6x key6 c6 sp6 [10#64] hq6 (by decide) b8x key8 c8 sp8 [20#64] hq8 (by decide) b27 b28 s29 s30 hok31 hok32 (List.flatten [x4, x5, x1, x2, x3, P15]) w uw hG goodW kdaW (by decide) (by rw [hl0]; decide) (by rw [show cntS fB opsW opsW.length = 0 from by decide]; exact Nat.zero_le _) (by decide) (by rw [hl1]; decide) (by rw [show cntS fB opsW opsW.length = 0 from by decide]; exact Nat.zero_le _) (fun w1 _ hp => Rd.mine hS7 fun g hg => hp _ (List.Mem.tail _ (List.Mem.tail _ (List.Mem.tail _ (List.Mem.head _)))) g hg) (fun w1 _ hp => Rd.mine hq2 fun g hg => hp _ (List.Mem.head _) g hg) (fun w1 _ hp => Rd.mine hq3 fun g hg => hp _ (List.Mem.tail _ (List.Mem.head _)) g hg) H2) ?_
   rintro _ w2 ⟨k0, c0, z0, k1, c1, z1, u0, u1, rfl, hz0, hz1, H3⟩
   rw [← hX] at hz0 hz1 H3
   have H8 := H3.as (L' := List.flatten [[(k0, sob E64 34 X.1 z0), (k1, sob E64 34 X.2 z1)], skR 66 121 114 b27 u0, skR 66 121 114 b28 u1, x4, x5, x1, x2, x3, P15]) rfl
   have H9 := Hp.segsD (S := [[(k0, sob E64 34 X.1 z0), (k1, sob E64 34 X.2 z1)], skR 66 121 114 b27 u0, skR 66 121 114 b28 u1, x4, x5, x1, x2, x3, P15]) H8 9 rfl [0, 8, 5] [1, 2, 3, 4, 6, 7] (by decide)
   exact hK _ _ (Or.inr ⟨rfl, k0, c0, z0, k1, c1, z1, rfl, hz0, hz1, Or.inl ⟨rfl, P15, o15, H9⟩⟩)
  ·cases hn11
 refine WalkP.look rfl (fun r => r 11) (fun r r' h => h 11 (by decide) rfl) (fun L r uw _ _ _ => Gives.run rfl (r_move rfl) ⟨rfl, rfl⟩) ?_
 refine WalkP.look rfl (fun r => proj (r 11) 0) (fun r r' h => by rw [h 11 (by decide) rfl]) (fun L r uw hAn hDn hF => ?_) ?_
 ·have b2 := hAn 2 (by decide) rfl
  have b3 := hAn 3 (by decide) rfl
  have b5 := hAn 5 (by decide) rfl
  have b6 := hAn 6 (by decide) rfl
  have b7 := hAn 7 (by decide) rfl
  have b8 := hAn 8 (by decide) rfl
  have b11 := hAn 11 (by decide) rfl
  have b16 := hDn 16 (by decide) rfl
  have hb : List.map L [2, 3, 5, 6, 7, 8, 11, 15, 16] = [true, true, true, true, true, true, true, L 15, false] := by simp only [List.map_cons, List.map_nil, b2, b3, b5, b6, b7, b8, b11, b16]
  rw [hb] at hF
  obtain ⟨hn11, _⟩ | ⟨hn11, k0, c0, z0, k1, c1, z1, e11, _⟩ := hF
  ·cases hn11
  ·dsimp only
   rw [e11]
   exact Gives.run rfl (r_extract (vs := #[.agg #[.slice (ownA k0) opsW.length c0, .slice (ownA k1) opsW.length c1], .nilIface]) rfl rfl) ⟨rfl, rfl⟩
 refine WalkP.look rfl (fun r => proj (r 11) 1) (fun r r' h => by rw [h 11 (by decide) rfl]) (fun L r uw hAn hDn hF => ?_) ?_
 ·have b2 := hAn 2 (by decide) rfl
  have b3 := hAn 3 (by decide) rfl
  have b5 := hAn 5 (by decide) rfl
  have b6 := hAn 6 (by decide) rfl
  have b7 := hAn 7 (by decide) rfl
  have b8 := hAn 8 (by decide) rfl
  have b11 := hAn 11 (by decide) rfl
  have hb : List.map L [2, 3, 5, 6, 7, 8, 11, 15, 16] = [true, true, true, true, true, true, true, L 15, L 16] := by simp only [List.map_cons, List.map_nil, b2, b3, b5, b6, b7, b8, b11]
  rw [hb] at hF
  obtain ⟨hn11, _⟩ | ⟨hn11, k0, c0, z0, k1, c1, z1, e11, _⟩ := hF
  ·cases hn11
  ·dsimp only
   rw [e11]
   exact Gives.run rfl (r_extract (vs := #[.agg #[.slice (ownA k0) opsW.length c0, .slice (ownA k1) opsW.length c1], .nilIface]) rfl rfl) ⟨rfl, rfl⟩
 refine WalkP.eff 7 rfl (fun L r uw hLn hAn hDn hF => ?_) ?_
 ·have b16 := hDn 16 (by decide) rfl
  have b15 : L 15 = false := hLn
  have hb : List.map L [2, 3, 5, 6, 7, 8, 11, 15, 16] = [L 2, L 3, L 5, L 6, L 7, L 8, L 11, false, false] := by simp only [List.map_cons, List.map_nil, b15, b16]
  rw [hb] at hF ⊢
  obtain ⟨hn11, hn16, P2, P3, P5, P6, P7, P8, P15, o2, o3, o5, o6, o7, o8, o15, HH⟩ | ⟨hn11, k0, c0, z0, k1, c1, z1, e11, hz0, hz1, ⟨hn16, P15, o15, HH⟩ | ⟨hn16, b, e15, HH⟩⟩ := hF
  ·obtain rfl := (show P15 = [] from o15)
   have H1 := Hp.segsD (S := [P2, P3, P5, P6, P7, P8, [], x1, skR 66 121 114 b27 s29, skR 66 121 114 b28 s30]) HH 10 rfl [0, 1, 2, 3, 4, 5, 7, 8, 9] [6] (by decide)
   have H2 := H1.as (L' := ((List.flatten [P2, P3, P5, P6, P7, P8, x1, skR 66 121 114 b27 s29, skR 66 121 114 b28 s30]))) rfl
   dsimp only
   refine Gives.ofW (d := 4) rfl rfl (fun Q' hK => ?_)
   refine q_alloc (o := .cells #[sN0, sN0] 24 (0, 0)) H2 zer24 (by kernel_rfl) ?_
   intro b86 w87 hb86 H88 hE89
   have H8 := H88.as (L' := List.flatten [[(rc b86 #[sN0, sN0] 24)], P2, P3, P5, P6, P7, P8, x1, skR 66 121 114 b27 s29, skR 66 121 114 b28 s30]) rfl
   have H9 := Hp.segsD (S := [[(rc b86 #[sN0, sN0] 24)], P2, P3, P5, P6, P7, P8, x1, skR 66 121 114 b27 s29, skR 66 121 114 b28 s30]) H8 10 rfl [1, 2, 3, 4, 5, 6, 0, 7, 8, 9] [] (by decide)
   exact hK _ _ (Or.inl ⟨hn11, hn16, P2, P3, P5, P6, P7, P8, [(rc b86 #[sN0, sN0] 24)], o2, o3, o5, o6, o7, o8, ⟨b86, rfl, rfl⟩, H9⟩)
  ·obtain rfl := (show P15 = [] from o15)
   have H1 := Hp.segsD (S := [[(k0, sob E64 34 X.1 z0), (k1, sob E64 34 X.2 z1)], [], x1]) HH 3 rfl [0, 2] [1] (by decide)
   have H2 := H1.as (L' := ((List.flatten [[(k0, sob E64 34 X.1 z0), (k1, sob E64 34 X.2 z1)], x1]))) rfl
   dsimp only
   refine Gives.ofW (d := 4) rfl rfl (fun Q' hK => ?_)
   refine q_alloc (o := .cells #[sN0, sN0] 24 (0, 0)) H2 zer24 (by kernel_rfl) ?_
   intro b90 w91 hb90 H92 hE93
   have H8 := H92.as (L' := List.flatten [[(rc b90 #[sN0, sN0] 24)], [(k0, sob E64 34 X.1 z0), (k1, sob E64 34 X.2 z1)], x1]) rfl
   have H9 := Hp.segsD (S := [[(rc b90 #[sN0, sN0] 24)], [(k0, sob E64 34 X.1 z0), (k1, sob E64 34 X.2 z1)], x1]) H8 3 rfl [1, 0, 2] [] (by decide)
   exact hK _ _ (Or.inr ⟨hn11, k0, c0, z0, k1, c1, z1, e11, hz0, hz1, Or.inl ⟨hn16, [(rc b90 #[sN0, sN0] 24)], ⟨b90, rfl, rfl⟩, H9⟩⟩)
  ·cases hn16
 refine WalkP.eff 8 rfl (fun L r uw hLn hAn hDn hF => ?_) ?_
 ·have b2 := hAn 2 (by decide) rfl
  have b3 := hAn 3 (by decide) rfl
  have b5 := hAn 5 (by decide) rfl
  have b6 := hAn 6 (by decide) rfl
  have b7 := hAn 7 (by decide) rfl
  have b8 := hAn 8 (by decide) rfl
  have b11 := hAn 11 (by decide) rfl
  have b15 := hAn 15 (by decide) rfl
  have b16 : L 16 = false := hLn
  have hb : List.map L [2, 3, 5, 6, 7, 8, 11, 15, 16] = [true, true, true, true, true, true, true, true, false] := by simp only [List.map_cons, List.map_nil, b2, b3, b5, b6, b7, b8, b11, b15, b16]
  rw [hb] at hF ⊢
  obtain ⟨hn11, _⟩ | ⟨hn11, k0, c0, z0, k1, c1, z1, e11, hz0, hz1, ⟨hn16, P15, o15, HH⟩ | ⟨hn16, _⟩⟩ := hF
  ·cases hn11
  ·obtain ⟨b, e15, rfl⟩ := o15
   have H1 := Hp.segsD (S := [[(k0, sob E64 34 X.1 z0), (k1, sob E64 34 X.2 z1)], [(rc b #[sN0, sN0] 24)], x1]) HH 3 rfl [1, 0, 2] [] (by decide)
   have H2 := H1.as (L' := (_ :: _)) rfl
   rw [e11, e15]
   dsimp only
   refine Gives.ofW0 rfl (fun Q' hK => ?_)
   refine d_store (k := 0) (v := .agg #[.slice (ownA k0) opsW.length c0, .slice (ownA k1) opsW.length c1]) (cs' := #[.slice (ownA k0) opsW.length c0, .slice (ownA k1) opsW.length c1]) H2 rfl rfl rfl siz24 (by rfl) (oneL rfl) (by exact bLe rfl) (by rfl) ?_
   intro w94 H95 hC96
   have H95' := H95.as (L' := (_ :: _)) rfl
   clear H95
   have H8 := H95'.as (L' := List.flatten [[(rc b #[.slice (ownA k0) opsW.length c0, .slice (ownA k1) opsW.length c1] 24)], [(k0, sob E64 34 X.1 z0), (k1, sob E64 34 X.2 z1)], x1]) rfl
   have H9 := Hp.segsD (S := [[(rc b #[.slice (ownA k0) opsW.length c0, .slice (ownA k1) opsW.length c1] 24)], [(k0, sob E64 34 X.1 z0), (k1, sob E64 34 X.2 z1)], x1]) H8 3 rfl [1, 0, 2] [] (by decide)
   exact hK _ (fun _ => (Or.inr ⟨rfl, k0, c0, z0, k1, c1, z1, e11, hz0, hz1, Or.inr ⟨rfl, b, e15, H9⟩⟩))
  ·cases hn16
 refine WalkP.look rfl (fun r => proj (r 11) 1) (fun r r' h => by rw [h 11 (by decide) rfl]) (fun L r uw _ _ _ => Gives.run rfl (r_assign rfl) ⟨rfl, rfl⟩) ?_
 refine WalkP.nil ?_
 intro r w3 hF
 obtain ⟨hn11, _⟩ | ⟨hn11, k0, c0, z0, k1, c1, z1, e11, hz0, hz1, ⟨hn16, _⟩ | ⟨hn16, b, e15, HH⟩⟩ := hF
 ·cases hn11
 ·cases hn16
 have H3 := HH.as (L' := [_, _, _, _, _]) rfl
 dsimp only
 rw [e11, e15]
 refine wnil ?_
 refine thenNormal ?_
 refine seqAny ?_
 refine sR ?_
 refine sM (.nilIface) rfl ?_
 refine sq (r_neqNN isI31 rfl rfl) ?_
 refine sM (.bool false) rfl ?_
 refine sqAny (v := pT b) (w' := w3) (wantedSome (d' := 43) (b := false) rfl rfl rfl) (r_indexA (off' := 0) (j := 0) arr24 (b := b) (off := 0) rfl rfl (by first | rfl | omega | (simp; omega)) (by omega) (by omega)) ?_
 refine sqAny (v := .slice (ownA k0) 4 c0) (w' := w3) (wantedSome (d' := 43) (b := false) rfl rfl rfl) (r_loadC (v := .slice (ownA k0) 4 c0) one23 (H3.get (k := 2) rfl) (off := 0) rfl (by rfl)) ?_
 refine sqAny (v := iN 4) (w' := w3) (wantedSome (d' := 43) (b := false) rfl rfl rfl) (r_lenS sli23 (a := ownA k0) (m := 4) (c := c0) rfl) ?_
 refine sqAny (v := .bool false) (w' := w3) (wantedSome (d' := 43) (b := false) rfl rfl rfl) ((r_neqI (a := (4 : Nat)) (b := (4 : Int)) rfl rfl).as (v' := .bool false) (by exact congrArg Value.bool (by decide))) ?_
 refine sq (r_pickF (v := .bool false) rfl rfl) ?_
 refine sM (.bool false) rfl ?_
 refine sqAny (v := pT b) (w' := w3) (wantedSome (d' := 49) (b := false) rfl rfl rfl) (r_indexA (off' := 0) (j := 0) arr24 (b := b) (off := 0) rfl rfl (by first | rfl | omega | (simp; omega)) (by omega) (by omega)) ?_
 refine sqAny (v := .slice (ownA k0) 4 c0) (w' := w3) (wantedSome (d' := 49) (b := false) rfl rfl rfl) (r_loadC (v := .slice (ownA k0) 4 c0) one23 (H3.get (k := 2) rfl) (off := 0) rfl (by rfl)) ?_
 refine sqAny (v := .pointer (adr (ownA k0) (0 * 1))) (w' := w3) (wantedSome (d' := 49) (b := false) rfl rfl rfl) (r_idxS (E := E64) (l := X.1) (j := 0) sli23 (H3.rd (k := 0) rfl hz0) rfl rfl (by first | rfl | omega | (simp; omega)) (by exact hXl.1.symm) (by omega)) ?_
 refine sqAny (v := u64 ((X.1).getD 0 0#64)) (w' := w3) (wantedSome (d' := 49) (b := false) rfl rfl rfl) (r_ldS (E := E64) (l := X.1) (j := 0) (v := (X.1).getD 0 0#64) fits34 (H3.rd (k := 0) rfl hz0) rfl rfl (at_getD (by omega))) ?_
 refine sqAny (v := .bool false) (w' := w3) (wantedSome (d' := 49) (b := false) rfl rfl rfl) ((r_neq64 (a := (X.1).getD 0 0#64) (b := 10#64) rfl rfl).as (v' := .bool false) (by rw [hXv.1]; rfl)) ?_
 refine sq (r_pickF (v := .bool false) rfl rfl) ?_
 refine sM (.bool false) rfl ?_
 refine sqAny (v := pT b) (w' := w3) (wantedSome (d' := 56) (b := false) rfl rfl rfl) (r_indexA (off' := 0) (j := 0) arr24 (b := b) (off := 0) rfl rfl (by first | rfl | omega | (simp; omega)) (by omega) (by omega)) ?_
 refine sqAny (v := .slice (ownA k0) 4 c0) (w' := w3) (wantedSome (d' := 56) (b := false) rfl rfl rfl) (r_loadC (v := .slice (ownA k0) 4 c0) one23 (H3.get (k := 2) rfl) (off := 0) rfl (by rfl)) ?_
 refine sqAny (v := .pointer (adr (ownA k0) (3 * 1))) (w' := w3) (wantedSome (d' := 56) (b := false) rfl rfl rfl) (r_idxS (E := E64) (l := X.1) (j := 3) sli23 (H3.rd (k := 0) rfl hz0) rfl rfl (by first | rfl | omega | (simp; omega)) (by exact hXl.1.symm) (by omega)) ?_
 refine sqAny (v := u64 ((X.1).getD 3 0#64)) (w' := w3) (wantedSome (d' := 56) (b := false) rfl rfl rfl) (r_ldS (E := E64) (l := X.1) (j := 3) (v := (X.1).getD 3 0#64) fits34 (H3.rd (k := 0) rfl hz0) rfl rfl (at_getD (by omega))) ?_
 refine sqAny (v := .bool false) (w' := w3) (wantedSome (d' := 56) (b := false) rfl rfl rfl) ((r_neq64 (a := (X.1).getD 3 0#64) (b := 15#64) rfl rfl).as (v' := .bool false) (by rw [hXv.2]; rfl)) ?_
 refine sq (r_pickF (v := .bool false) rfl rfl) ?_
 refine wend ?_
 refine condFalse rfl ?_
 refine skipAny ?_
 refine thenNormal ?_
 refine sR ?_
 refine sM (.slice (ownA (some b1)) 4 4) rfl ?_
 refine c_call (vs := [x15]) call15 rfl (need_ok opsW (ownA (some b1)) 4 w3 (Chg.gl H3.chg (fun x => x) hG) (H3.rd (k := 4) rfl hS7) (by decide) goodW66) ?_
 rintro _ w97 ⟨rfl, hE98⟩
 have H99 := H3.ext hE98
 refine q_alloc (o := .cells #[i64 0, i64 0, i64 0, i64 0, i64 0, i64 0, i64 0, i64 0] 57 (0, 0)) H99 zer57 (by kernel_rfl) ?_
 intro b100 w101 hb100 H102 hE103
 refine d_store (k := 0) (v := .agg x13) (cs' := x13) H102 rfl rfl rfl siz57 (by rfl) (oneL rfl) (by exact bLe rfl) (by rfl) ?_
 intro w104 H105 hC106
 have H105' := H105.as (L' := [_, _, _, _, _, _]) rfl
 clear H105
 refine wS ?_
 refine sq (r_fieldAddr (off' := 0) fld57_0 (by decide) (b := b100) (off := 0) rfl (by omega)) ?_
 refine sq (r_loadC (v := iN (nA opsW)) one3 (H105'.get (k := 0) rfl) (off := 0) rfl (by rfl)) ?_
 refine sq ((r_eqlI (a := (nA opsW : Nat)) (b := (1 : Int)) rfl rfl).as (v' := .bool true) (by exact congrArg Value.bool (by decide))) ?_
 refine sM (.bool true) rfl ?_
 refine sqAny (v := .pointer (some ⟨b100, 5, none⟩)) (w' := w104) (wantedSome (d' := 68) (b := true) rfl rfl rfl) (r_fieldAddr (off' := 5) fld57_4 (by decide) (b := b100) (off := 0) rfl (by omega)) ?_
 refine sqAny (v := i64 (nR opsW)) (w' := w104) (wantedSome (d' := 68) (b := true) rfl rfl rfl) (r_loadC (v := i64 (nR opsW)) one3 (H105'.get (k := 0) rfl) (off := 5) rfl (by rfl)) ?_
 refine sqAny (v := .bool true) (w' := w104) (wantedSome (d' := 68) (b := true) rfl rfl rfl) ((r_eqlI (a := nR opsW) (b := (3 : Int)) rfl rfl).as (v' := .bool true) (by exact congrArg Value.bool (by decide))) ?_
 refine sq (r_pickT (u := .bool true) rfl rfl) ?_
 refine sM (.bool true) rfl ?_
 refine sqAny (v := .pointer (some ⟨b100, 6, none⟩)) (w' := w104) (wantedSome (d' := 73) (b := true) rfl rfl rfl) (r_fieldAddr (off' := 6) fld57_5 (by decide) (b := b100) (off := 0) rfl (by omega)) ?_
 refine sqAny (v := .agg (cel EI [4, 4]).toArray) (w' := w104) (wantedSome (d' := 73) (b := true) rfl rfl rfl) ((r_loadA (cs' := (cel EI [(nW0 opsW : Nat), (nW1 opsW : Nat)]).toArray) agg29 siz29 (H105'.get (k := 0) rfl) (off := 6) rfl (by exact bLe rfl) (by rfl)).as (v' := .agg (cel EI [4, 4]).toArray) (by rw [show nW0 opsW = 4 from by decide, show nW1 opsW = 4 from by decide]; rfl)) ?_
 refine sqAny (v := .agg (cel EI [(4 : Int), (4 : Int)]).toArray) (w' := w104) (wantedSome (d' := 73) (b := true) rfl rfl rfl) (r_buildA (cs' := (cel EI [(4 : Int), (4 : Int)]).toArray) (ps := [(0, i64 4), (1, i64 4)]) zer29 arr29 rfl (by rfl)) ?_
 refine sqAny (v := .bool true) (w' := w104) (wantedSome (d' := 73) (b := true) rfl rfl rfl) ((r_eqlA (E := EI) (l := [4, 4]) (l' := [(4 : Int), (4 : Int)]) gty29 und29 fits3 (eqAtI und3) rfl rfl rfl rfl).as (v' := .bool true) (by rfl)) ?_
 refine sq (r_pickT (u := .bool true) rfl rfl) ?_
 refine sM (.bool true) rfl ?_
 refine sqAny (v := .slice (ownA (some b1)) 4 4) (w' := w104) (wantedSome (d' := 79) (b := true) rfl rfl rfl) (r_move (v := .slice (ownA (some b1)) 4 4) rfl) ?_
 refine sqAny (v := .pointer (some ⟨b, 1, none⟩)) (w' := w104) (wantedSome (d' := 79) (b := true) rfl rfl rfl) (r_indexA (off' := 1) (j := 1) arr24 (b := b) (off := 0) rfl rfl (by first | rfl | omega | (simp; omega)) (by omega) (by omega)) ?_
 refine sqAny (v := .slice (ownA k1) 4 c1) (w' := w104) (wantedSome (d' := 79) (b := true) rfl rfl rfl) (r_loadC (v := .slice (ownA k1) 4 c1) one23 (H105'.get (k := 3) rfl) (off := 1) rfl (by rfl)) ?_
 refine caAny (wantedSome (d' := 79) (b := true) rfl rfl rfl) (Enters.callL (vs := [.slice (ownA (some b1)) 4 4, .slice (ownA k1) 4 c1]) call13 rfl) (outs_ok opsW (ownA (some b1)) 4 X.2 (ownA k1) c1 4 4 (by decide) (by rw [hXl.2]) w104 (Chg.gl H105'.chg (fun x => x) hG) (H105'.rd (k := 5) rfl hS7) (by decide) (H105'.rd (k := 2) rfl hz1) (by rw [hXl.2]; decide) goodW66) ?_
 rintro _ w107 ⟨⟨a109, rfl, hR110⟩, hE111⟩
 have H112 := H105'.ext hE111
 refine sqAny (v := iN (outsS opsW)) (w' := w107) (wantedSome (d' := 79) (b := true) rfl rfl rfl) (r_lenS sli23 (a := a109) (m := outsS opsW) (c := outsS opsW) rfl) ?_
 refine sqAny (v := .bool true) (w' := w107) (wantedSome (d' := 79) (b := true) rfl rfl rfl) ((r_eqlI (a := (outsS opsW : Nat)) (b := (1 : Int)) rfl rfl).as (v' := .bool true) (by exact congrArg Value.bool (by decide))) ?_
 refine sq (r_pickT (u := .bool true) rfl rfl) ?_
 refine sA (.bool true) rfl ?_
 refine wend ?_
 refine retAny ?_
 refine rG1 0 (.bool true) rfl ⟨rfl, rfl⟩ ?_
 exact ⟨_, rfl, rfl, H112.chg⟩
end Go.Proofs.YtohngnahcgbfmaaGreatDoor.Mi
namespace Go.Proofs.YtohngnahcgbfmaaGreatDoor.Mi
open Go Go.Proofs.YtohngnahcgbfmaaGreatDoor.Vc Go.Proofs.YtohngnahcgbfmaaGreatDoor.Er Go.Proofs.YtohngnahcgbfmaaGreatDoor.Ek Go.Proofs.YtohngnahcgbfmaaGreatDoor.Circ
set_option linter.unusedVariables false
open Go.Proofs.YtohngnahcgbfmaaGreatDoor.Co Go.Proofs.YtohngnahcgbfmaaGreatDoor.Cm
theorem light_ok (ops : List Mo) (oa : Option Addr) (oc : Nat) (w : World) (hG : Gl w) (hO : Rd EMo w oa ops) (hol : ops.length ≤ 140737488355328) : Calls Tryz.prog 7 [.slice oa ops.length oc].toArray w (Ret fun v w' => v = .bool ((decide (((ops.length : Nat) : Int) ≤ (400 : Int)) && decide (((cntS fG ops ops.length : Nat) : Int) ≤ (3 : Int)))) ∧ Ext w w') := by
 have H := Hp.start No w
 refine enter (n := 26) Tryz.func7 rfl rfl (bLe rfl) ?_
 refine sR ?_
 refine sA (.bool false) rfl ?_
 refine wS ?_
 refine sA (i64 0) rfl ?_
 refine wend ?_
 refine seqAny ?_
 refine sR ?_
 refine sM (.slice oa ops.length oc) rfl ?_
 refine sq (r_lenS sli22 (a := oa) (m := ops.length) (c := oc) rfl) ?_
 refine sM (i64 0) rfl ?_
 refine wend ?_
 refine blockAny ?_
 refine loopAny (σ := Nat) (fun i => [(0, .slice oa ops.length oc), (3, iN (cntS fG ops i)), (6, iN ops.length), (7, iN i)]) (fun i w' => i ≤ ops.length ∧ Hp No w w' []) (fun i => ops.length - i) (0) ?_ ?_ ?_
 ·exact ⟨rfl, rfl, rfl, rfl, trivial⟩
 ·exact ⟨Nat.zero_le _, H⟩
 rintro i ρ w1 ⟨hk, H2⟩
 have hct := cnt_bound (f := fG) (c := 1) (fun o => by unfold fG; split <;> omega) ops i
 refine sR ?_
 refine sq (r_lssI (a := (i : Nat)) (b := (ops.length : Nat)) rfl rfl) ?_
 refine wend ?_
 refine seqAny ?_
 refine condProp (((i : Nat) : Int) < (ops.length : Nat)) rfl (fun c8 => ?_) (fun c8 => ?_)
 ·refine skipAny ?_
  refine thenNormal ?_
  refine seqAny ?_
  refine blockAny ?_
  refine sR ?_
  refine sM (iN i) rfl ?_
  refine sA (iN i) rfl ?_
  refine wS ?_
  refine sM (.slice oa ops.length oc) rfl ?_
  refine sM (iN i) rfl ?_
  refine sq (r_idxS (E := EMo) (l := ops) (j := i) sli22 (hO.ext H2.chg) rfl rfl (by first | rfl | omega | (simp; omega)) (by rfl) (by omega)) ?_
  refine sq (r_fieldS (E := EMo) (l := ops) fld36_0 (by decide) (hO.ext H2.chg) (by omega) rfl rfl) ?_
  refine sq (r_ldP (E := EMo) (l := ops) (j := i) (o := 0) (v := (ops.getD i mo0)) (u := i64 ((ops.getD i mo0).kd)) one33 (hO.ext H2.chg) (at_getD (by omega)) rfl rfl rfl) ?_
  refine sq (r_eqlI (a := (ops.getD i mo0).kd) (b := (17 : Int)) rfl rfl) ?_
  refine wend ?_
  refine condProp (((ops.getD i mo0).kd : Int) = (17 : Int)) rfl (fun c15 => ?_) (fun c15 => ?_)
  ·refine oneRegion ?_
   refine sM (iN (cntS fG ops i)) rfl ?_
   refine sq (r_addI (a := ((cntS fG ops i) : Nat)) (b := (1 : Int)) rfl rfl (by omega)) ?_
   refine sA (i64 (((cntS fG ops i) : Nat) + (1 : Int))) rfl ?_
   refine wnil ?_
   refine blockNormal ?_
   refine thenNormal ?_
   refine oneRegion ?_
   refine sq (r_addI (a := (i : Nat)) (b := (1 : Int)) rfl rfl (by omega)) ?_
   refine sM (i64 ((i : Nat) + (1 : Int))) rfl ?_
   refine wnil ?_
   refine thenNormal ?_
   exact ⟨i + 1, _, rfl, ⟨rfl, congrArg i64 (by rw [cntS, fG, if_pos c15] <;> omega), rfl, rfl, trivial⟩, ⟨by omega, H2⟩, by show ops.length - (i + 1) < ops.length - i; omega⟩
  ·refine skipAny ?_
   refine blockNormal ?_
   refine thenNormal ?_
   refine oneRegion ?_
   refine sq (r_addI (a := (i : Nat)) (b := (1 : Int)) rfl rfl (by omega)) ?_
   refine sM (i64 ((i : Nat) + (1 : Int))) rfl ?_
   refine wnil ?_
   refine thenNormal ?_
   exact ⟨i + 1, _, rfl, ⟨rfl, congrArg i64 (by rw [cntS, fG, if_neg c15] <;> omega), rfl, rfl, trivial⟩, ⟨by omega, H2⟩, by show ops.length - (i + 1) < ops.length - i; omega⟩
 ·have hie : i = ops.length := by omega
  subst hie
  refine exitAny ?_
  refine thenExit ?_
  refine thenExit ?_
  refine blockHere ?_
  refine thenNormal ?_
  refine sR ?_
  refine sM (.slice oa ops.length oc) rfl ?_
  refine sq (r_lenS sli22 (a := oa) (m := ops.length) (c := oc) rfl) ?_
  refine sq (r_leqI (a := (ops.length : Nat)) (b := (400 : Int)) rfl rfl) ?_
  refine sM (.bool (decide (((ops.length : Nat) : Int) ≤ (400 : Int)))) rfl ?_
  refine sqGv (B := (decide (((ops.length : Nat) : Int) ≤ (400 : Int)))) (v := iN (cntS fG ops ops.length)) (wantedG (d' := 22) (B := true) rfl rfl rfl) (fun hB => r_move (v := iN (cntS fG ops ops.length)) rfl) ?_
  refine sqGv (B := (decide (((ops.length : Nat) : Int) ≤ (400 : Int)))) (v := .bool (decide ((((cntS fG ops ops.length) : Nat) : Int) ≤ (3 : Int)))) (wantedG (d' := 22) (B := true) rfl rfl rfl) (fun hB => by simp only [gvT (v := _) (h := hB)]; exact r_leqI (a := ((cntS fG ops ops.length) : Nat)) (b := (3 : Int)) rfl rfl) ?_
  refine sq (r_pickAnd (B := true) rfl rfl rfl rfl) ?_
  refine sA (.bool ((decide (((ops.length : Nat) : Int) ≤ (400 : Int)) && decide ((((cntS fG ops ops.length) : Nat) : Int) ≤ (3 : Int))))) rfl ?_
  refine wend ?_
  refine retAny ?_
  refine rG1 2 (.bool ((decide (((ops.length : Nat) : Int) ≤ (400 : Int)) && decide ((((cntS fG ops ops.length) : Nat) : Int) ≤ (3 : Int))))) rfl ⟨rfl, rfl⟩ ?_
  exact ⟨_, rfl, rfl, H2.chg⟩
end Go.Proofs.YtohngnahcgbfmaaGreatDoor.Mi
namespace Go.Proofs.YtohngnahcgbfmaaGreatDoor.Cm
open Go Go.Proofs.YtohngnahcgbfmaaGreatDoor.Vc Go.Proofs.YtohngnahcgbfmaaGreatDoor.Er Go.Proofs.YtohngnahcgbfmaaGreatDoor.Circ
set_option linter.unusedVariables false
theorem byt3 : byt Tryz.prog 3 = some 8 := by kernel_rfl
theorem sli100 : sli Tryz.prog 100 = some (3, 1) := by kernel_rfl
theorem zer3 : zer Tryz.prog 3 = some (.int .i64 0) := by kernel_rfl
end Go.Proofs.YtohngnahcgbfmaaGreatDoor.Cm
namespace Go.Proofs.YtohngnahcgbfmaaGreatDoor.Cm
open Go Go.Proofs.YtohngnahcgbfmaaGreatDoor.Vc Go.Proofs.YtohngnahcgbfmaaGreatDoor.Er Go.Proofs.YtohngnahcgbfmaaGreatDoor.Circ
set_option linter.unusedVariables false
theorem rnop_ok (kd : Int) (fm : BitVec 64) (w : World) : Calls Tryz.prog 33 [i64 kd, u64 fm].toArray w (Ret fun v w' => v = i64 ((nopS kd fm : Nat) : Int) ∧ Ext w w') := by
 have H := Hp.start No w
 refine enter (n := 21) Tryz.func33 rfl rfl (bLe rfl) ?_
 refine sR ?_
 refine sA (i64 0) rfl ?_
 refine wend ?_
 refine seqAny ?_
 refine sR ?_
 refine sM (i64 kd) rfl ?_
 refine sq (r_eqlI (a := kd) (b := (1 : Int)) rfl rfl) ?_
 refine sM (.bool (decide ((kd : Int) = (1 : Int)))) rfl ?_
 by_cases g1 : (kd : Int) = (1 : Int)
 ·refine sqAny (v := u64 fm) (w' := w) (wantedSome (d' := 7) (b := true) rfl rfl (congrArg Value.bool (decide_eq_true g1))) (r_move (v := u64 fm) rfl) ?_
  refine sqAny (v := .bool (decide (fm.toNat < (2#64).toNat))) (w' := w) (wantedSome (d' := 7) (b := true) rfl rfl (congrArg Value.bool (decide_eq_true g1))) (r_lss64 (a := fm) (b := 2#64) rfl rfl) ?_
  refine sq (r_pickT (u := .bool (decide (fm.toNat < (2#64).toNat))) (congrArg Value.bool (decide_eq_true g1)) rfl) ?_
  refine wend ?_
  refine condProp (fm.toNat < (2#64).toNat) rfl (fun c10 => ?_) (fun c10 => ?_)
  ·refine sR ?_
   refine sA (i64 1) rfl ?_
   refine wend ?_
   refine retAny ?_
   refine thenRet ?_
   refine rG1 4 (i64 1) rfl ⟨rfl, rfl⟩ ?_
   exact ⟨_, rfl, congrArg i64 (by have e2 : (2#64 : BitVec 64).toNat = 2 := rfl; have e4 : (4#64 : BitVec 64).toNat = 4 := rfl; unfold nopS; (repeat' split) <;> first | rfl | omega), H.chg⟩
  ·refine skipAny ?_
   refine thenNormal ?_
   refine seqAny ?_
   refine sR ?_
   refine sM (i64 kd) rfl ?_
   refine sq (r_eqlI (a := kd) (b := (2 : Int)) rfl rfl) ?_
   refine sM (.bool (decide ((kd : Int) = (2 : Int)))) rfl ?_
   by_cases g2 : (kd : Int) = (2 : Int)
   ·refine skAny (wantedSome (d' := 13) (b := true) rfl rfl (congrArg Value.bool (decide_eq_true g2))) ?_
    refine skAny (wantedSome (d' := 13) (b := true) rfl rfl (congrArg Value.bool (decide_eq_true g2))) ?_
    refine sq (r_pickT (u := .bool true) (congrArg Value.bool (decide_eq_true g2)) rfl) ?_
    refine sM (.bool true) rfl ?_
    refine sqAny (v := u64 fm) (w' := w) (wantedSome (d' := 17) (b := true) rfl rfl rfl) (r_move (v := u64 fm) rfl) ?_
    refine sqAny (v := .bool (decide (fm.toNat < (4#64).toNat))) (w' := w) (wantedSome (d' := 17) (b := true) rfl rfl rfl) (r_lss64 (a := fm) (b := 4#64) rfl rfl) ?_
    refine sq (r_pickT (u := .bool (decide (fm.toNat < (4#64).toNat))) rfl rfl) ?_
    refine wend ?_
    refine condProp (fm.toNat < (4#64).toNat) rfl (fun c20 => ?_) (fun c20 => ?_)
    ·refine sR ?_
     refine sA (i64 2) rfl ?_
     refine wend ?_
     refine retAny ?_
     refine thenRet ?_
     refine rG1 4 (i64 2) rfl ⟨rfl, rfl⟩ ?_
     exact ⟨_, rfl, congrArg i64 (by have e2 : (2#64 : BitVec 64).toNat = 2 := rfl; have e4 : (4#64 : BitVec 64).toNat = 4 := rfl; unfold nopS; (repeat' split) <;> first | rfl | omega), H.chg⟩
    ·refine skipAny ?_
     refine thenNormal ?_
     refine sR ?_
     refine sA (i64 0) rfl ?_
     refine wend ?_
     refine retAny ?_
     refine rG1 4 (i64 0) rfl ⟨rfl, rfl⟩ ?_
     exact ⟨_, rfl, congrArg i64 (by have e2 : (2#64 : BitVec 64).toNat = 2 := rfl; have e4 : (4#64 : BitVec 64).toNat = 4 := rfl; unfold nopS; (repeat' split) <;> first | rfl | omega), H.chg⟩
   ·refine sqAny (v := i64 kd) (w' := w) (wantedSome (d' := 13) (b := false) rfl rfl (congrArg Value.bool (decide_eq_false g2))) (r_move (v := i64 kd) rfl) ?_
    refine sqAny (v := .bool (decide ((kd : Int) = (3 : Int)))) (w' := w) (wantedSome (d' := 13) (b := false) rfl rfl (congrArg Value.bool (decide_eq_false g2))) (r_eqlI (a := kd) (b := (3 : Int)) rfl rfl) ?_
    refine sq (r_pickF (v := .bool (decide ((kd : Int) = (3 : Int)))) (congrArg Value.bool (decide_eq_false g2)) rfl) ?_
    refine sM (.bool (decide ((kd : Int) = (3 : Int)))) rfl ?_
    by_cases g3 : (kd : Int) = (3 : Int)
    ·refine sqAny (v := u64 fm) (w' := w) (wantedSome (d' := 17) (b := true) rfl rfl (congrArg Value.bool (decide_eq_true g3))) (r_move (v := u64 fm) rfl) ?_
     refine sqAny (v := .bool (decide (fm.toNat < (4#64).toNat))) (w' := w) (wantedSome (d' := 17) (b := true) rfl rfl (congrArg Value.bool (decide_eq_true g3))) (r_lss64 (a := fm) (b := 4#64) rfl rfl) ?_
     refine sq (r_pickT (u := .bool (decide (fm.toNat < (4#64).toNat))) (congrArg Value.bool (decide_eq_true g3)) rfl) ?_
     refine wend ?_
     refine condProp (fm.toNat < (4#64).toNat) rfl (fun c20 => ?_) (fun c20 => ?_)
     ·refine sR ?_
      refine sA (i64 2) rfl ?_
      refine wend ?_
      refine retAny ?_
      refine thenRet ?_
      refine rG1 4 (i64 2) rfl ⟨rfl, rfl⟩ ?_
      exact ⟨_, rfl, congrArg i64 (by have e2 : (2#64 : BitVec 64).toNat = 2 := rfl; have e4 : (4#64 : BitVec 64).toNat = 4 := rfl; unfold nopS; (repeat' split) <;> first | rfl | omega), H.chg⟩
     ·refine skipAny ?_
      refine thenNormal ?_
      refine sR ?_
      refine sA (i64 0) rfl ?_
      refine wend ?_
      refine retAny ?_
      refine rG1 4 (i64 0) rfl ⟨rfl, rfl⟩ ?_
      exact ⟨_, rfl, congrArg i64 (by have e2 : (2#64 : BitVec 64).toNat = 2 := rfl; have e4 : (4#64 : BitVec 64).toNat = 4 := rfl; unfold nopS; (repeat' split) <;> first | rfl | omega), H.chg⟩
    ·refine skAny (wantedSome (d' := 17) (b := false) rfl rfl (congrArg Value.bool (decide_eq_false g3))) ?_
     refine skAny (wantedSome (d' := 17) (b := false) rfl rfl (congrArg Value.bool (decide_eq_false g3))) ?_
     refine sq (r_pickF (v := .bool false) (congrArg Value.bool (decide_eq_false g3)) rfl) ?_
     refine wend ?_
     refine condFalse rfl ?_
     refine skipAny ?_
     refine thenNormal ?_
     refine sR ?_
     refine sA (i64 0) rfl ?_
     refine wend ?_
     refine retAny ?_
     refine rG1 4 (i64 0) rfl ⟨rfl, rfl⟩ ?_
     exact ⟨_, rfl, congrArg i64 (by have e2 : (2#64 : BitVec 64).toNat = 2 := rfl; have e4 : (4#64 : BitVec 64).toNat = 4 := rfl; unfold nopS; (repeat' split) <;> first | rfl | omega), H.chg⟩
 ·refine skAny (wantedSome (d' := 7) (b := false) rfl rfl (congrArg Value.bool (decide_eq_false g1))) ?_
  refine skAny (wantedSome (d' := 7) (b := false) rfl rfl (congrArg Value.bool (decide_eq_false g1))) ?_
  refine sq (r_pickF (v := .bool false) (congrArg Value.bool (decide_eq_false g1)) rfl) ?_
  refine wend ?_
  refine condFalse rfl ?_
  refine skipAny ?_
  refine thenNormal ?_
  refine seqAny ?_
  refine sR ?_
  refine sM (i64 kd) rfl ?_
  refine sq (r_eqlI (a := kd) (b := (2 : Int)) rfl rfl) ?_
  refine sM (.bool (decide ((kd : Int) = (2 : Int)))) rfl ?_
  by_cases g4 : (kd : Int) = (2 : Int)
  ·refine skAny (wantedSome (d' := 13) (b := true) rfl rfl (congrArg Value.bool (decide_eq_true g4))) ?_
   refine skAny (wantedSome (d' := 13) (b := true) rfl rfl (congrArg Value.bool (decide_eq_true g4))) ?_
   refine sq (r_pickT (u := .bool true) (congrArg Value.bool (decide_eq_true g4)) rfl) ?_
   refine sM (.bool true) rfl ?_
   refine sqAny (v := u64 fm) (w' := w) (wantedSome (d' := 17) (b := true) rfl rfl rfl) (r_move (v := u64 fm) rfl) ?_
   refine sqAny (v := .bool (decide (fm.toNat < (4#64).toNat))) (w' := w) (wantedSome (d' := 17) (b := true) rfl rfl rfl) (r_lss64 (a := fm) (b := 4#64) rfl rfl) ?_
   refine sq (r_pickT (u := .bool (decide (fm.toNat < (4#64).toNat))) rfl rfl) ?_
   refine wend ?_
   refine condProp (fm.toNat < (4#64).toNat) rfl (fun c20 => ?_) (fun c20 => ?_)
   ·refine sR ?_
    refine sA (i64 2) rfl ?_
    refine wend ?_
    refine retAny ?_
    refine thenRet ?_
    refine rG1 4 (i64 2) rfl ⟨rfl, rfl⟩ ?_
    exact ⟨_, rfl, congrArg i64 (by have e2 : (2#64 : BitVec 64).toNat = 2 := rfl; have e4 : (4#64 : BitVec 64).toNat = 4 := rfl; unfold nopS; (repeat' split) <;> first | rfl | omega), H.chg⟩
   ·refine skipAny ?_
    refine thenNormal ?_
    refine sR ?_
    refine sA (i64 0) rfl ?_
    refine wend ?_
    refine retAny ?_
    refine rG1 4 (i64 0) rfl ⟨rfl, rfl⟩ ?_
    exact ⟨_, rfl, congrArg i64 (by have e2 : (2#64 : BitVec 64).toNat = 2 := rfl; have e4 : (4#64 : BitVec 64).toNat = 4 := rfl; unfold nopS; (repeat' split) <;> first | rfl | omega), H.chg⟩
  ·refine sqAny (v := i64 kd) (w' := w) (wantedSome (d' := 13) (b := false) rfl rfl (congrArg Value.bool (decide_eq_false g4))) (r_move (v := i64 kd) rfl) ?_
   refine sqAny (v := .bool (decide ((kd : Int) = (3 : Int)))) (w' := w) (wantedSome (d' := 13) (b := false) rfl rfl (congrArg Value.bool (decide_eq_false g4))) (r_eqlI (a := kd) (b := (3 : Int)) rfl rfl) ?_
   refine sq (r_pickF (v := .bool (decide ((kd : Int) = (3 : Int)))) (congrArg Value.bool (decide_eq_false g4)) rfl) ?_
   refine sM (.bool (decide ((kd : Int) = (3 : Int)))) rfl ?_
   by_cases g5 : (kd : Int) = (3 : Int)
   ·refine sqAny (v := u64 fm) (w' := w) (wantedSome (d' := 17) (b := true) rfl rfl (congrArg Value.bool (decide_eq_true g5))) (r_move (v := u64 fm) rfl) ?_
    refine sqAny (v := .bool (decide (fm.toNat < (4#64).toNat))) (w' := w) (wantedSome (d' := 17) (b := true) rfl rfl (congrArg Value.bool (decide_eq_true g5))) (r_lss64 (a := fm) (b := 4#64) rfl rfl) ?_
    refine sq (r_pickT (u := .bool (decide (fm.toNat < (4#64).toNat))) (congrArg Value.bool (decide_eq_true g5)) rfl) ?_
    refine wend ?_
    refine condProp (fm.toNat < (4#64).toNat) rfl (fun c20 => ?_) (fun c20 => ?_)
    ·refine sR ?_
     refine sA (i64 2) rfl ?_
     refine wend ?_
     refine retAny ?_
     refine thenRet ?_
     refine rG1 4 (i64 2) rfl ⟨rfl, rfl⟩ ?_
     exact ⟨_, rfl, congrArg i64 (by have e2 : (2#64 : BitVec 64).toNat = 2 := rfl; have e4 : (4#64 : BitVec 64).toNat = 4 := rfl; unfold nopS; (repeat' split) <;> first | rfl | omega), H.chg⟩
    ·refine skipAny ?_
     refine thenNormal ?_
     refine sR ?_
     refine sA (i64 0) rfl ?_
     refine wend ?_
     refine retAny ?_
     refine rG1 4 (i64 0) rfl ⟨rfl, rfl⟩ ?_
     exact ⟨_, rfl, congrArg i64 (by have e2 : (2#64 : BitVec 64).toNat = 2 := rfl; have e4 : (4#64 : BitVec 64).toNat = 4 := rfl; unfold nopS; (repeat' split) <;> first | rfl | omega), H.chg⟩
   ·refine skAny (wantedSome (d' := 17) (b := false) rfl rfl (congrArg Value.bool (decide_eq_false g5))) ?_
    refine skAny (wantedSome (d' := 17) (b := false) rfl rfl (congrArg Value.bool (decide_eq_false g5))) ?_
    refine sq (r_pickF (v := .bool false) (congrArg Value.bool (decide_eq_false g5)) rfl) ?_
    refine wend ?_
    refine condFalse rfl ?_
    refine skipAny ?_
    refine thenNormal ?_
    refine sR ?_
    refine sA (i64 0) rfl ?_
    refine wend ?_
    refine retAny ?_
    refine rG1 4 (i64 0) rfl ⟨rfl, rfl⟩ ?_
    exact ⟨_, rfl, congrArg i64 (by have e2 : (2#64 : BitVec 64).toNat = 2 := rfl; have e4 : (4#64 : BitVec 64).toNat = 4 := rfl; unfold nopS; (repeat' split) <;> first | rfl | omega), H.chg⟩
end Go.Proofs.YtohngnahcgbfmaaGreatDoor.Cm
namespace Go.Proofs.YtohngnahcgbfmaaGreatDoor.Mi
open Go Go.Proofs.YtohngnahcgbfmaaGreatDoor.Vc Go.Proofs.YtohngnahcgbfmaaGreatDoor.Er Go.Proofs.YtohngnahcgbfmaaGreatDoor.Ek Go.Proofs.YtohngnahcgbfmaaGreatDoor.Circ
set_option linter.unusedVariables false
open Go.Proofs.YtohngnahcgbfmaaGreatDoor.Co Go.Proofs.YtohngnahcgbfmaaGreatDoor.Cm
theorem call33 : callable Tryz.prog 33 = true := by kernel_rfl
theorem und34 : Tryz.prog.underlying 34 = some (.int .u64) := by kernel_rfl
set_option maxHeartbeats 8000000 in
theorem rwants_ok (o : Mo) (hok : (ruleS o 65536 65536).2 = true) (w : World) : Calls Tryz.prog 14 [.agg #[i64 (o.kd), i64 (o.a), i64 (o.b), i64 (o.k), u64 (o.c), i64 (o.pt)]].toArray w (Ret fun v w' => v = .tuple #[i64 ((ruleS o 65536 65536).1.a), i64 ((ruleS o 65536 65536).1.b), i64 ((ruleS o 65536 65536).1.m), i64 ((ruleS o 65536 65536).1.r)] ∧ Ext w w') := by
 let x1 : Array Value := #[i64 (o.kd), i64 (o.a), i64 (o.b), i64 (o.k), u64 (o.c), i64 (o.pt)]
 have hr1 := rem_rng o.c
 have hr2 := rem_rng (o.c / 2#64)
 have H := Hp.start No w
 refine enter (n := 63) Tryz.func14 rfl rfl (bLe rfl) ?_
 refine sR ?_
 refine q_box (v := .agg x1) (o := .cells x1 36 (0, 0)) H rfl (by rfl) ?_
 intro b1 w2 hb1 H3 hE4
 refine sA (i64 0) rfl ?_
 refine sA (i64 0) rfl ?_
 refine sA (i64 0) rfl ?_
 refine sA (i64 0) rfl ?_
 refine wend ?_
 refine seqAny ?_
 refine sR ?_
 refine sq (r_fieldAddr (off' := 0) fld36_0 (by decide) (b := b1) (off := 0) rfl (by omega)) ?_
 refine sq (r_loadC (v := i64 (o.kd)) one33 (H3.get (k := 0) rfl) (off := 0) rfl (by rfl)) ?_
 refine wend ?_
 refine blockAny ?_
 refine sR ?_
 refine sq (r_eqlI (a := o.kd) (b := (1 : Int)) rfl rfl) ?_
 refine sA (.bool (decide ((o.kd : Int) = (1 : Int)))) rfl ?_
 refine wend ?_
 refine condProp ((o.kd : Int) = (1 : Int)) rfl (fun c10 => ?_) (fun c10 => ?_)
 ·refine sR ?_
  refine sA (i64 0) rfl ?_
  refine sA (i64 0) rfl ?_
  refine sA (i64 1) rfl ?_
  refine sA (i64 1) rfl ?_
  refine wend ?_
  refine retAny ?_
  refine blockRet ?_
  refine thenRet ?_
  refine retG (rs := [.tmp 2, .tmp 3, .tmp 4, .tmp 5]) (vs := [i64 0, i64 0, i64 1, i64 1]) rfl ⟨⟨rfl, rfl⟩, ⟨rfl, rfl⟩, ⟨rfl, rfl⟩, ⟨rfl, rfl⟩, trivial⟩ ?_
  obtain ⟨r1, r2, r3, r4⟩ := wa1 hok c10
  exact ⟨_, rfl, by rw [r1, r2, r3, r4]; rfl, H3.chg⟩
 ·refine sR ?_
  refine sq (r_eqlI (a := o.kd) (b := (2 : Int)) rfl rfl) ?_
  refine sA (.bool (decide ((o.kd : Int) = (2 : Int)))) rfl ?_
  refine wend ?_
  refine condProp ((o.kd : Int) = (2 : Int)) rfl (fun c12 => ?_) (fun c12 => ?_)
  ·refine sR ?_
   refine sA (i64 0) rfl ?_
   refine sA (i64 0) rfl ?_
   refine sA (i64 3) rfl ?_
   refine sA (i64 0) rfl ?_
   refine wend ?_
   refine retAny ?_
   refine blockRet ?_
   refine thenRet ?_
   refine retG (rs := [.tmp 2, .tmp 3, .tmp 4, .tmp 5]) (vs := [i64 0, i64 0, i64 3, i64 0]) rfl ⟨⟨rfl, rfl⟩, ⟨rfl, rfl⟩, ⟨rfl, rfl⟩, ⟨rfl, rfl⟩, trivial⟩ ?_
   obtain ⟨r1, r2, r3, r4⟩ := wa2 c12
   exact ⟨_, rfl, by rw [r1, r2, r3, r4]; rfl, H3.chg⟩
  ·refine seqAny ?_
   refine sR ?_
   refine sq (r_eqlI (a := o.kd) (b := (3 : Int)) rfl rfl) ?_
   refine sA (.bool (decide ((o.kd : Int) = (3 : Int)))) rfl ?_
   refine wend ?_
   refine condProp ((o.kd : Int) = (3 : Int)) rfl (fun c14 => ?_) (fun c14 => ?_)
   ·refine skipAny ?_
    refine thenNormal ?_
    refine condTrue (congrArg Value.bool (decide_eq_true c14)) ?_
    refine sR ?_
    refine sA (i64 1) rfl ?_
    refine sA (i64 1) rfl ?_
    refine sA (i64 1) rfl ?_
    refine sA (i64 0) rfl ?_
    refine wend ?_
    refine retAny ?_
    refine blockRet ?_
    refine thenRet ?_
    refine retG (rs := [.tmp 2, .tmp 3, .tmp 4, .tmp 5]) (vs := [i64 1, i64 1, i64 1, i64 0]) rfl ⟨⟨rfl, rfl⟩, ⟨rfl, rfl⟩, ⟨rfl, rfl⟩, ⟨rfl, rfl⟩, trivial⟩ ?_
    obtain ⟨r1, r2, r3, r4⟩ := wa3 (o := o) (by omega)
    exact ⟨_, rfl, by rw [r1, r2, r3, r4]; rfl, H3.chg⟩
   ·refine oneRegion ?_
    refine sq (r_eqlI (a := o.kd) (b := (4 : Int)) rfl rfl) ?_
    refine sA (.bool (decide ((o.kd : Int) = (4 : Int)))) rfl ?_
    refine wnil ?_
    refine thenNormal ?_
    refine condProp ((o.kd : Int) = (4 : Int)) rfl (fun c14 => ?_) (fun c14 => ?_)
    ·refine sR ?_
     refine sA (i64 1) rfl ?_
     refine sA (i64 1) rfl ?_
     refine sA (i64 1) rfl ?_
     refine sA (i64 0) rfl ?_
     refine wend ?_
     refine retAny ?_
     refine blockRet ?_
     refine thenRet ?_
     refine retG (rs := [.tmp 2, .tmp 3, .tmp 4, .tmp 5]) (vs := [i64 1, i64 1, i64 1, i64 0]) rfl ⟨⟨rfl, rfl⟩, ⟨rfl, rfl⟩, ⟨rfl, rfl⟩, ⟨rfl, rfl⟩, trivial⟩ ?_
     obtain ⟨r1, r2, r3, r4⟩ := wa3 (o := o) (by omega)
     exact ⟨_, rfl, by rw [r1, r2, r3, r4]; rfl, H3.chg⟩
    ·refine sR ?_
     refine sq (r_eqlI (a := o.kd) (b := (5 : Int)) rfl rfl) ?_
     refine sA (.bool (decide ((o.kd : Int) = (5 : Int)))) rfl ?_
     refine wend ?_
     refine condProp ((o.kd : Int) = (5 : Int)) rfl (fun c17 => ?_) (fun c17 => ?_)
     ·refine sR ?_
      refine sA (i64 1) rfl ?_
      refine sA (i64 0) rfl ?_
      refine sA (i64 1) rfl ?_
      refine sA (i64 0) rfl ?_
      refine wend ?_
      refine retAny ?_
      refine blockRet ?_
      refine thenRet ?_
      refine retG (rs := [.tmp 2, .tmp 3, .tmp 4, .tmp 5]) (vs := [i64 1, i64 0, i64 1, i64 0]) rfl ⟨⟨rfl, rfl⟩, ⟨rfl, rfl⟩, ⟨rfl, rfl⟩, ⟨rfl, rfl⟩, trivial⟩ ?_
      obtain ⟨r1, r2, r3, r4⟩ := wa5 c17
      exact ⟨_, rfl, by rw [r1, r2, r3, r4]; rfl, H3.chg⟩
     ·refine sR ?_
      refine sq (r_eqlI (a := o.kd) (b := (6 : Int)) rfl rfl) ?_
      refine sA (.bool (decide ((o.kd : Int) = (6 : Int)))) rfl ?_
      refine wend ?_
      refine condProp ((o.kd : Int) = (6 : Int)) rfl (fun c19 => ?_) (fun c19 => ?_)
      ·refine sR ?_
       refine sA (i64 1) rfl ?_
       refine sA (i64 1) rfl ?_
       refine sA (i64 1) rfl ?_
       refine sA (i64 1) rfl ?_
       refine wend ?_
       refine retAny ?_
       refine blockRet ?_
       refine thenRet ?_
       refine retG (rs := [.tmp 2, .tmp 3, .tmp 4, .tmp 5]) (vs := [i64 1, i64 1, i64 1, i64 1]) rfl ⟨⟨rfl, rfl⟩, ⟨rfl, rfl⟩, ⟨rfl, rfl⟩, ⟨rfl, rfl⟩, trivial⟩ ?_
       obtain ⟨r1, r2, r3, r4⟩ := wa6 c19
       exact ⟨_, rfl, by rw [r1, r2, r3, r4]; rfl, H3.chg⟩
      ·refine sR ?_
       refine sq (r_eqlI (a := o.kd) (b := (7 : Int)) rfl rfl) ?_
       refine sA (.bool (decide ((o.kd : Int) = (7 : Int)))) rfl ?_
       refine wend ?_
       refine condProp ((o.kd : Int) = (7 : Int)) rfl (fun c21 => ?_) (fun c21 => ?_)
       ·refine sR ?_
        refine sA (i64 2) rfl ?_
        refine sA (i64 2) rfl ?_
        refine sA (i64 2) rfl ?_
        refine sA (i64 0) rfl ?_
        refine wend ?_
        refine retAny ?_
        refine blockRet ?_
        refine thenRet ?_
        refine retG (rs := [.tmp 2, .tmp 3, .tmp 4, .tmp 5]) (vs := [i64 2, i64 2, i64 2, i64 0]) rfl ⟨⟨rfl, rfl⟩, ⟨rfl, rfl⟩, ⟨rfl, rfl⟩, ⟨rfl, rfl⟩, trivial⟩ ?_
        obtain ⟨r1, r2, r3, r4⟩ := wa7 c21
        exact ⟨_, rfl, by rw [r1, r2, r3, r4]; rfl, H3.chg⟩
       ·refine seqAny ?_
        refine sR ?_
        refine sq (r_eqlI (a := o.kd) (b := (8 : Int)) rfl rfl) ?_
        refine sA (.bool (decide ((o.kd : Int) = (8 : Int)))) rfl ?_
        refine wend ?_
        refine condProp ((o.kd : Int) = (8 : Int)) rfl (fun c23 => ?_) (fun c23 => ?_)
        ·refine skipAny ?_
         refine thenNormal ?_
         refine condTrue (congrArg Value.bool (decide_eq_true c23)) ?_
         refine sR ?_
         refine sA (i64 2) rfl ?_
         refine sA (i64 0) rfl ?_
         refine sA (i64 2) rfl ?_
         refine sA (i64 0) rfl ?_
         refine wend ?_
         refine retAny ?_
         refine blockRet ?_
         refine thenRet ?_
         refine retG (rs := [.tmp 2, .tmp 3, .tmp 4, .tmp 5]) (vs := [i64 2, i64 0, i64 2, i64 0]) rfl ⟨⟨rfl, rfl⟩, ⟨rfl, rfl⟩, ⟨rfl, rfl⟩, ⟨rfl, rfl⟩, trivial⟩ ?_
         obtain ⟨r1, r2, r3, r4⟩ := wa8 (o := o) (by omega)
         exact ⟨_, rfl, by rw [r1, r2, r3, r4]; rfl, H3.chg⟩
        ·refine sR ?_
         refine sq (r_eqlI (a := o.kd) (b := (10 : Int)) rfl rfl) ?_
         refine sA (.bool (decide ((o.kd : Int) = (10 : Int)))) rfl ?_
         refine wend ?_
         refine condProp ((o.kd : Int) = (10 : Int)) rfl (fun c23 => ?_) (fun c23 => ?_)
         ·refine skipAny ?_
          refine thenNormal ?_
          refine condTrue (congrArg Value.bool (decide_eq_true c23)) ?_
          refine sR ?_
          refine sA (i64 2) rfl ?_
          refine sA (i64 0) rfl ?_
          refine sA (i64 2) rfl ?_
          refine sA (i64 0) rfl ?_
          refine wend ?_
          refine retAny ?_
          refine blockRet ?_
          refine thenRet ?_
          refine retG (rs := [.tmp 2, .tmp 3, .tmp 4, .tmp 5]) (vs := [i64 2, i64 0, i64 2, i64 0]) rfl ⟨⟨rfl, rfl⟩, ⟨rfl, rfl⟩, ⟨rfl, rfl⟩, ⟨rfl, rfl⟩, trivial⟩ ?_
          obtain ⟨r1, r2, r3, r4⟩ := wa8 (o := o) (by omega)
          exact ⟨_, rfl, by rw [r1, r2, r3, r4]; rfl, H3.chg⟩
         ·refine sR ?_
          refine sq (r_eqlI (a := o.kd) (b := (11 : Int)) rfl rfl) ?_
          refine sA (.bool (decide ((o.kd : Int) = (11 : Int)))) rfl ?_
          refine wend ?_
          refine condProp ((o.kd : Int) = (11 : Int)) rfl (fun c23 => ?_) (fun c23 => ?_)
          ·refine skipAny ?_
           refine thenNormal ?_
           refine condTrue (congrArg Value.bool (decide_eq_true c23)) ?_
           refine sR ?_
           refine sA (i64 2) rfl ?_
           refine sA (i64 0) rfl ?_
           refine sA (i64 2) rfl ?_
           refine sA (i64 0) rfl ?_
           refine wend ?_
           refine retAny ?_
           refine blockRet ?_
           refine thenRet ?_
           refine retG (rs := [.tmp 2, .tmp 3, .tmp 4, .tmp 5]) (vs := [i64 2, i64 0, i64 2, i64 0]) rfl ⟨⟨rfl, rfl⟩, ⟨rfl, rfl⟩, ⟨rfl, rfl⟩, ⟨rfl, rfl⟩, trivial⟩ ?_
           obtain ⟨r1, r2, r3, r4⟩ := wa8 (o := o) (by omega)
           exact ⟨_, rfl, by rw [r1, r2, r3, r4]; rfl, H3.chg⟩
          ·refine sR ?_
           refine sq (r_eqlI (a := o.kd) (b := (12 : Int)) rfl rfl) ?_
           refine sA (.bool (decide ((o.kd : Int) = (12 : Int)))) rfl ?_
           refine wend ?_
           refine condProp ((o.kd : Int) = (12 : Int)) rfl (fun c23 => ?_) (fun c23 => ?_)
           ·refine skipAny ?_
            refine thenNormal ?_
            refine condTrue (congrArg Value.bool (decide_eq_true c23)) ?_
            refine sR ?_
            refine sA (i64 2) rfl ?_
            refine sA (i64 0) rfl ?_
            refine sA (i64 2) rfl ?_
            refine sA (i64 0) rfl ?_
            refine wend ?_
            refine retAny ?_
            refine blockRet ?_
            refine thenRet ?_
            refine retG (rs := [.tmp 2, .tmp 3, .tmp 4, .tmp 5]) (vs := [i64 2, i64 0, i64 2, i64 0]) rfl ⟨⟨rfl, rfl⟩, ⟨rfl, rfl⟩, ⟨rfl, rfl⟩, ⟨rfl, rfl⟩, trivial⟩ ?_
            obtain ⟨r1, r2, r3, r4⟩ := wa8 (o := o) (by omega)
            exact ⟨_, rfl, by rw [r1, r2, r3, r4]; rfl, H3.chg⟩
           ·refine sR ?_
            refine sq (r_eqlI (a := o.kd) (b := (13 : Int)) rfl rfl) ?_
            refine sA (.bool (decide ((o.kd : Int) = (13 : Int)))) rfl ?_
            refine wend ?_
            refine condProp ((o.kd : Int) = (13 : Int)) rfl (fun c23 => ?_) (fun c23 => ?_)
            ·refine skipAny ?_
             refine thenNormal ?_
             refine condTrue (congrArg Value.bool (decide_eq_true c23)) ?_
             refine sR ?_
             refine sA (i64 2) rfl ?_
             refine sA (i64 0) rfl ?_
             refine sA (i64 2) rfl ?_
             refine sA (i64 0) rfl ?_
             refine wend ?_
             refine retAny ?_
             refine blockRet ?_
             refine thenRet ?_
             refine retG (rs := [.tmp 2, .tmp 3, .tmp 4, .tmp 5]) (vs := [i64 2, i64 0, i64 2, i64 0]) rfl ⟨⟨rfl, rfl⟩, ⟨rfl, rfl⟩, ⟨rfl, rfl⟩, ⟨rfl, rfl⟩, trivial⟩ ?_
             obtain ⟨r1, r2, r3, r4⟩ := wa8 (o := o) (by omega)
             exact ⟨_, rfl, by rw [r1, r2, r3, r4]; rfl, H3.chg⟩
            ·refine oneRegion ?_
             refine sq (r_eqlI (a := o.kd) (b := (14 : Int)) rfl rfl) ?_
             refine sA (.bool (decide ((o.kd : Int) = (14 : Int)))) rfl ?_
             refine wnil ?_
             refine thenNormal ?_
             refine condProp ((o.kd : Int) = (14 : Int)) rfl (fun c23 => ?_) (fun c23 => ?_)
             ·refine sR ?_
              refine sA (i64 2) rfl ?_
              refine sA (i64 0) rfl ?_
              refine sA (i64 2) rfl ?_
              refine sA (i64 0) rfl ?_
              refine wend ?_
              refine retAny ?_
              refine blockRet ?_
              refine thenRet ?_
              refine retG (rs := [.tmp 2, .tmp 3, .tmp 4, .tmp 5]) (vs := [i64 2, i64 0, i64 2, i64 0]) rfl ⟨⟨rfl, rfl⟩, ⟨rfl, rfl⟩, ⟨rfl, rfl⟩, ⟨rfl, rfl⟩, trivial⟩ ?_
              obtain ⟨r1, r2, r3, r4⟩ := wa8 (o := o) (by omega)
              exact ⟨_, rfl, by rw [r1, r2, r3, r4]; rfl, H3.chg⟩
             ·refine sR ?_
              refine sq (r_eqlI (a := o.kd) (b := (9 : Int)) rfl rfl) ?_
              refine sA (.bool (decide ((o.kd : Int) = (9 : Int)))) rfl ?_
              refine wend ?_
              refine condProp ((o.kd : Int) = (9 : Int)) rfl (fun c30 => ?_) (fun c30 => ?_)
              ·refine sR ?_
               refine sA (i64 2) rfl ?_
               refine sA (i64 2) rfl ?_
               refine sA (i64 2) rfl ?_
               refine sA (i64 1) rfl ?_
               refine wend ?_
               refine retAny ?_
               refine blockRet ?_
               refine thenRet ?_
               refine retG (rs := [.tmp 2, .tmp 3, .tmp 4, .tmp 5]) (vs := [i64 2, i64 2, i64 2, i64 1]) rfl ⟨⟨rfl, rfl⟩, ⟨rfl, rfl⟩, ⟨rfl, rfl⟩, ⟨rfl, rfl⟩, trivial⟩ ?_
               obtain ⟨r1, r2, r3, r4⟩ := wa9 c30
               exact ⟨_, rfl, by rw [r1, r2, r3, r4]; rfl, H3.chg⟩
              ·refine sR ?_
               refine sq (r_eqlI (a := o.kd) (b := (15 : Int)) rfl rfl) ?_
               refine sA (.bool (decide ((o.kd : Int) = (15 : Int)))) rfl ?_
               refine wend ?_
               refine condProp ((o.kd : Int) = (15 : Int)) rfl (fun c32 => ?_) (fun c32 => ?_)
               ·refine sR ?_
                refine sA (i64 1) rfl ?_
                refine sA (i64 0) rfl ?_
                refine sA (i64 2) rfl ?_
                refine sA (i64 0) rfl ?_
                refine wend ?_
                refine retAny ?_
                refine blockRet ?_
                refine thenRet ?_
                refine retG (rs := [.tmp 2, .tmp 3, .tmp 4, .tmp 5]) (vs := [i64 1, i64 0, i64 2, i64 0]) rfl ⟨⟨rfl, rfl⟩, ⟨rfl, rfl⟩, ⟨rfl, rfl⟩, ⟨rfl, rfl⟩, trivial⟩ ?_
                obtain ⟨r1, r2, r3, r4⟩ := wa15 c32
                exact ⟨_, rfl, by rw [r1, r2, r3, r4]; rfl, H3.chg⟩
               ·refine sR ?_
                refine sq (r_eqlI (a := o.kd) (b := (16 : Int)) rfl rfl) ?_
                refine sA (.bool (decide ((o.kd : Int) = (16 : Int)))) rfl ?_
                refine wend ?_
                refine condProp ((o.kd : Int) = (16 : Int)) rfl (fun c34 => ?_) (fun c34 => ?_)
                ·refine sR ?_
                 refine sA (i64 2) rfl ?_
                 refine sA (i64 0) rfl ?_
                 refine sA (i64 1) rfl ?_
                 refine sA (i64 0) rfl ?_
                 refine wend ?_
                 refine retAny ?_
                 refine blockRet ?_
                 refine thenRet ?_
                 refine retG (rs := [.tmp 2, .tmp 3, .tmp 4, .tmp 5]) (vs := [i64 2, i64 0, i64 1, i64 0]) rfl ⟨⟨rfl, rfl⟩, ⟨rfl, rfl⟩, ⟨rfl, rfl⟩, ⟨rfl, rfl⟩, trivial⟩ ?_
                 obtain ⟨r1, r2, r3, r4⟩ := wa16 c34
                 exact ⟨_, rfl, by rw [r1, r2, r3, r4]; rfl, H3.chg⟩
                ·refine sR ?_
                 refine sq (r_eqlI (a := o.kd) (b := (17 : Int)) rfl rfl) ?_
                 refine sA (.bool (decide ((o.kd : Int) = (17 : Int)))) rfl ?_
                 refine wend ?_
                 refine condProp ((o.kd : Int) = (17 : Int)) rfl (fun c36 => ?_) (fun c36 => ?_)
                 ·obtain ⟨hop1, hop2⟩ := nop_op (garb_of c36 hok).1
                  have hg17 := (garb_of c36 hok).1
                  unfold opG at hop1
                  refine sR ?_
                  refine sq (r_fieldAddr (off' := 3) fld36_3 (by decide) (b := b1) (off := 0) rfl (by omega)) ?_
                  refine sq (r_loadC (v := i64 (o.k)) one3 (H3.get (k := 0) rfl) (off := 3) rfl (by rfl)) ?_
                  refine sq (r_fieldAddr (off' := 4) fld36_4 (by decide) (b := b1) (off := 0) rfl (by omega)) ?_
                  refine sq (r_loadC (v := u64 (o.c)) one34 (H3.get (k := 0) rfl) (off := 4) rfl (by rfl)) ?_
                  refine c_call (vs := [i64 (o.k), u64 (o.c)]) call33 rfl (rnop_ok o.k o.c w2) ?_
                  rintro _ w5 ⟨rfl, hE6⟩
                  have H7 := H3.ext hE6
                  refine sA (iN (nopS o.k o.c)) rfl ?_
                  refine wend ?_
                  refine seqAny ?_
                  refine sR ?_
                  refine sM (iN (nopS o.k o.c)) rfl ?_
                  refine sq (r_eqlI (a := (nopS o.k o.c : Nat)) (b := (0 : Int)) rfl rfl) ?_
                  refine wend ?_
                  refine condProp (((nopS o.k o.c : Nat) : Int) = (0 : Int)) rfl (fun c44 => ?_) (fun c44 => ?_)
                  ·refine sR ?_
                   refine sA (i64 0) rfl ?_
                   refine sA (i64 0) rfl ?_
                   refine sA (i64 0) rfl ?_
                   refine sA (i64 (-1)) rfl ?_
                   refine wend ?_
                   refine retAny ?_
                   refine thenRet ?_
                   refine blockRet ?_
                   refine thenRet ?_
                   refine retG (rs := [.tmp 2, .tmp 3, .tmp 4, .tmp 5]) (vs := [i64 0, i64 0, i64 0, i64 (-1)]) rfl ⟨⟨rfl, rfl⟩, ⟨rfl, rfl⟩, ⟨rfl, rfl⟩, ⟨rfl, rfl⟩, trivial⟩ ?_
                   exact absurd (by omega) hg17
                  ·refine skipAny ?_
                   refine thenNormal ?_
                   refine sR ?_
                   refine sA (i64 0) rfl ?_
                   refine wend ?_
                   refine seqAny ?_
                   refine sR ?_
                   refine sM (iN (nopS o.k o.c)) rfl ?_
                   refine sq (r_eqlI (a := (nopS o.k o.c : Nat)) (b := (2 : Int)) rfl rfl) ?_
                   refine wend ?_
                   refine condProp (((nopS o.k o.c : Nat) : Int) = (2 : Int)) rfl (fun c46 => ?_) (fun c46 => ?_)
                   ·have hk1 : o.k ≠ 1 := fun e => by rw [if_pos e] at hop1; omega
                    refine oneRegion ?_
                    refine sq (r_fieldAddr (off' := 4) fld36_4 (by decide) (b := b1) (off := 0) rfl (by omega)) ?_
                    refine sq (r_loadC (v := u64 (o.c)) one34 (H7.get (k := 0) rfl) (off := 4) rfl (by rfl)) ?_
                    refine sq (r_quo64 (a := o.c) (b := 2#64) rfl rfl (by decide)) ?_
                    refine sq (r_rem64 (a := o.c / (2#64)) (b := 2#64) rfl rfl (by decide)) ?_
                    refine sq (r_64toI und34 und3 (a := (o.c / (2#64)) % (2#64)) rfl) ?_
                    refine sq (r_addI (a := (1 : Int)) (b := ((o.c / (2#64)) % (2#64)).toInt) rfl rfl (by omega)) ?_
                    refine sA (i64 ((1 : Int) + (((o.c / (2#64)) % (2#64)).toInt))) rfl ?_
                    refine wnil ?_
                    refine thenNormal ?_
                    refine sR ?_
                    refine sq (r_fieldAddr (off' := 4) fld36_4 (by decide) (b := b1) (off := 0) rfl (by omega)) ?_
                    refine sq (r_loadC (v := u64 (o.c)) one34 (H7.get (k := 0) rfl) (off := 4) rfl (by rfl)) ?_
                    refine sq (r_rem64 (a := o.c) (b := 2#64) rfl rfl (by decide)) ?_
                    refine sq (r_64toI und34 und3 (a := o.c % (2#64)) rfl) ?_
                    refine sq (r_addI (a := (1 : Int)) (b := (o.c % (2#64)).toInt) rfl rfl (by omega)) ?_
                    refine sM (i64 ((1 : Int) + (((o.c / (2#64)) % (2#64)).toInt))) rfl ?_
                    refine sA (i64 ((1 : Int) + ((o.c % (2#64)).toInt))) rfl ?_
                    refine sA (i64 ((1 : Int) + (((o.c / (2#64)) % (2#64)).toInt))) rfl ?_
                    refine sA (i64 2) rfl ?_
                    refine sA (i64 2) rfl ?_
                    refine wend ?_
                    refine retAny ?_
                    refine blockRet ?_
                    refine thenRet ?_
                    refine retG (rs := [.tmp 2, .tmp 3, .tmp 4, .tmp 5]) (vs := [i64 ((1 : Int) + ((o.c % (2#64)).toInt)), i64 ((1 : Int) + (((o.c / (2#64)) % (2#64)).toInt)), i64 2, i64 2]) rfl ⟨⟨rfl, rfl⟩, ⟨rfl, rfl⟩, ⟨rfl, rfl⟩, ⟨rfl, rfl⟩, trivial⟩ ?_
                    obtain ⟨r1, r2, r3, r4⟩ := wa17 hok c36
                    exact ⟨_, rfl, by rw [r1, r2, r3, r4, if_neg (by omega), ← fo_rem o.c, ← half_shift, ← fo_rem (o.c / 2#64)]; rfl, H7.chg⟩
                   ·have hk1 : o.k = 1 := by
                     by_cases e : o.k = 1
                     ·exact e
                     ·rw [if_neg e] at hop1; omega
                    refine skipAny ?_
                    refine thenNormal ?_
                    refine sR ?_
                    refine sq (r_fieldAddr (off' := 4) fld36_4 (by decide) (b := b1) (off := 0) rfl (by omega)) ?_
                    refine sq (r_loadC (v := u64 (o.c)) one34 (H7.get (k := 0) rfl) (off := 4) rfl (by rfl)) ?_
                    refine sq (r_rem64 (a := o.c) (b := 2#64) rfl rfl (by decide)) ?_
                    refine sq (r_64toI und34 und3 (a := o.c % (2#64)) rfl) ?_
                    refine sq (r_addI (a := (1 : Int)) (b := (o.c % (2#64)).toInt) rfl rfl (by omega)) ?_
                    refine sM (i64 0) rfl ?_
                    refine sA (i64 ((1 : Int) + ((o.c % (2#64)).toInt))) rfl ?_
                    refine sA (i64 0) rfl ?_
                    refine sA (i64 2) rfl ?_
                    refine sA (i64 2) rfl ?_
                    refine wend ?_
                    refine retAny ?_
                    refine blockRet ?_
                    refine thenRet ?_
                    refine retG (rs := [.tmp 2, .tmp 3, .tmp 4, .tmp 5]) (vs := [i64 ((1 : Int) + ((o.c % (2#64)).toInt)), i64 0, i64 2, i64 2]) rfl ⟨⟨rfl, rfl⟩, ⟨rfl, rfl⟩, ⟨rfl, rfl⟩, ⟨rfl, rfl⟩, trivial⟩ ?_
                    obtain ⟨r1, r2, r3, r4⟩ := wa17 hok c36
                    exact ⟨_, rfl, by rw [r1, r2, r3, r4, if_pos (by omega), ← fo_rem o.c]; rfl, H7.chg⟩
                 ·refine sR ?_
                  refine sq (r_eqlI (a := o.kd) (b := (18 : Int)) rfl rfl) ?_
                  refine sA (.bool (decide ((o.kd : Int) = (18 : Int)))) rfl ?_
                  refine wend ?_
                  refine condProp ((o.kd : Int) = (18 : Int)) rfl (fun c59 => ?_) (fun c59 => ?_)
                  ·refine sR ?_
                   refine sA (i64 1) rfl ?_
                   refine sA (i64 0) rfl ?_
                   refine sA (i64 0) rfl ?_
                   refine sA (i64 1) rfl ?_
                   refine wend ?_
                   refine retAny ?_
                   refine blockRet ?_
                   refine thenRet ?_
                   refine retG (rs := [.tmp 2, .tmp 3, .tmp 4, .tmp 5]) (vs := [i64 1, i64 0, i64 0, i64 1]) rfl ⟨⟨rfl, rfl⟩, ⟨rfl, rfl⟩, ⟨rfl, rfl⟩, ⟨rfl, rfl⟩, trivial⟩ ?_
                   obtain ⟨r1, r2, r3, r4⟩ := wa18 c59
                   exact ⟨_, rfl, by rw [r1, r2, r3, r4]; rfl, H3.chg⟩
                  ·refine sR ?_
                   refine sq (r_eqlI (a := o.kd) (b := (19 : Int)) rfl rfl) ?_
                   refine sA (.bool (decide ((o.kd : Int) = (19 : Int)))) rfl ?_
                   refine wend ?_
                   refine condProp ((o.kd : Int) = (19 : Int)) rfl (fun c61 => ?_) (fun c61 => ?_)
                   ·refine sR ?_
                    refine sA (i64 2) rfl ?_
                    refine sA (i64 0) rfl ?_
                    refine sA (i64 0) rfl ?_
                    refine sA (i64 1) rfl ?_
                    refine wend ?_
                    refine retAny ?_
                    refine blockRet ?_
                    refine thenRet ?_
                    refine retG (rs := [.tmp 2, .tmp 3, .tmp 4, .tmp 5]) (vs := [i64 2, i64 0, i64 0, i64 1]) rfl ⟨⟨rfl, rfl⟩, ⟨rfl, rfl⟩, ⟨rfl, rfl⟩, ⟨rfl, rfl⟩, trivial⟩ ?_
                    obtain ⟨r1, r2, r3, r4⟩ := wa19 c61
                    exact ⟨_, rfl, by rw [r1, r2, r3, r4]; rfl, H3.chg⟩
                   ·refine skipAny ?_
                    refine blockNormal ?_
                    refine thenNormal ?_
                    refine sR ?_
                    refine sA (i64 0) rfl ?_
                    refine sA (i64 0) rfl ?_
                    refine sA (i64 0) rfl ?_
                    refine sA (i64 (-1)) rfl ?_
                    refine wend ?_
                    refine retAny ?_
                    refine retG (rs := [.tmp 2, .tmp 3, .tmp 4, .tmp 5]) (vs := [i64 0, i64 0, i64 0, i64 (-1)]) rfl ⟨⟨rfl, rfl⟩, ⟨rfl, rfl⟩, ⟨rfl, rfl⟩, ⟨rfl, rfl⟩, trivial⟩ ?_
                    exact (wa_none hok fun k h1 h2 e => by omega).elim
end Go.Proofs.YtohngnahcgbfmaaGreatDoor.Mi
namespace Go.Proofs.YtohngnahcgbfmaaGreatDoor.Mi
open Go Go.Proofs.YtohngnahcgbfmaaGreatDoor.Vc Go.Proofs.YtohngnahcgbfmaaGreatDoor.Er Go.Proofs.YtohngnahcgbfmaaGreatDoor.Ek Go.Proofs.YtohngnahcgbfmaaGreatDoor.Circ
set_option linter.unusedVariables false
open Go.Proofs.YtohngnahcgbfmaaGreatDoor.Co Go.Proofs.YtohngnahcgbfmaaGreatDoor.Cm
theorem call6 : callable Tryz.prog 6 = true := by kernel_rfl
theorem call7 : callable Tryz.prog 7 = true := by kernel_rfl
set_option maxHeartbeats 1000000 in
theorem mjoin_na (xs ys : List Mo) (xa ya : Option Addr) (xc yc : Nat) (w : World) (hG : Gl w) (hX : Rd EMo w xa xs) (hY : Rd EMo w ya ys) (hxl : xs.length ≤ 140737488355328) (hyl : ys.length ≤ 140737488355328) (hga : ¬ Good xs 65536 65536) : Calls Tryz.prog 4 [.slice xa xs.length xc, .slice ya ys.length yc].toArray w (Ret fun v w' => v = .bool true ∧ Ext w w') := by
 have H := Hp.start No w
 refine enter (n := 233) Tryz.func4 rfl rfl (bLe rfl) ?_
 refine sR ?_
 refine sA (.bool false) rfl ?_
 refine wend ?_
 refine seqAny ?_
 refine sR ?_
 refine c_call (vs := []) call6 rfl (awake_ok w (Chg.gl H.chg (fun x => x) hG)) ?_
 rintro _ w1 ⟨rfl, hE2⟩
 have H3 := H.ext hE2
 refine sq (r_notT rfl) ?_
 refine sM (.bool false) rfl ?_
 refine sqAny (v := .slice xa xs.length xc) (w' := w1) (wantedSome (d' := 21) (b := false) rfl rfl rfl) (r_move (v := .slice xa xs.length xc) rfl) ?_
 refine sqAny (v := iN xs.length) (w' := w1) (wantedSome (d' := 21) (b := false) rfl rfl rfl) (r_lenS sli22 (a := xa) (m := xs.length) (c := xc) rfl) ?_
 refine sqAny (v := .slice ya ys.length yc) (w' := w1) (wantedSome (d' := 21) (b := false) rfl rfl rfl) (r_move (v := .slice ya ys.length yc) rfl) ?_
 refine sqAny (v := iN ys.length) (w' := w1) (wantedSome (d' := 21) (b := false) rfl rfl rfl) (r_lenS sli22 (a := ya) (m := ys.length) (c := yc) rfl) ?_
 refine sqAny (v := i64 ((xs.length : Nat) + (ys.length : Nat))) (w' := w1) (wantedSome (d' := 21) (b := false) rfl rfl rfl) (r_addI (a := (xs.length : Nat)) (b := (ys.length : Nat)) rfl rfl (by omega)) ?_
 refine sqAny (v := .bool (decide (((400 : Int) : Int) < ((xs.length : Nat) + (ys.length : Nat))))) (w' := w1) (wantedSome (d' := 21) (b := false) rfl rfl rfl) (r_gtrI (a := (xs.length : Nat) + (ys.length : Nat)) (b := (400 : Int)) rfl rfl) ?_
 refine sq (r_pickF (v := .bool (decide (((400 : Int) : Int) < ((xs.length : Nat) + (ys.length : Nat))))) rfl rfl) ?_
 refine sM (.bool (decide (((400 : Int) : Int) < ((xs.length : Nat) + (ys.length : Nat))))) rfl ?_
 refine sqGv (B := (!(decide (((400 : Int) : Int) < ((xs.length : Nat) + (ys.length : Nat)))))) (v := .slice xa xs.length xc) (wantedH (d' := 29) (B := true) rfl rfl rfl) (fun hB => r_move (v := .slice xa xs.length xc) rfl) ?_
 refine caGv (B := (!(decide (((400 : Int) : Int) < ((xs.length : Nat) + (ys.length : Nat)))))) (v := .bool ((decide (((xs.length : Nat) : Int) ≤ (400 : Int)) && decide (((cntS fG xs xs.length : Nat) : Int) ≤ (3 : Int))))) (wantedH (d' := 29) (B := true) rfl rfl rfl) (fun hB => by simp only [gvT (v := _) (h := hB)]; exact Enters.callL (vs := [.slice xa xs.length xc]) call7 rfl) (fun hB => by exact light_ok xs xa xc w1 (Chg.gl H3.chg (fun x => x) hG) (hX.ext H3.chg) (by omega)) ?_
 intro w4 hE5
 have H6 := H3.ext hE5
 refine sqGv (B := (!(decide (((400 : Int) : Int) < ((xs.length : Nat) + (ys.length : Nat)))))) (v := .bool (!(decide (((xs.length : Nat) : Int) ≤ (400 : Int)) && decide (((cntS fG xs xs.length : Nat) : Int) ≤ (3 : Int))))) (wantedH (d' := 29) (B := true) rfl rfl rfl) (fun hB => by simp only [gvT (v := _) (h := hB)]; exact r_not (b := (decide (((xs.length : Nat) : Int) ≤ (400 : Int)) && decide (((cntS fG xs xs.length : Nat) : Int) ≤ (3 : Int)))) rfl) ?_
 refine sq (r_pickOr (B := true) rfl rfl rfl rfl) ?_
 refine sM (.bool ((decide (((400 : Int) : Int) < ((xs.length : Nat) + (ys.length : Nat))) || !(decide (((xs.length : Nat) : Int) ≤ (400 : Int)) && decide (((cntS fG xs xs.length : Nat) : Int) ≤ (3 : Int)))))) rfl ?_
 refine sqGv (B := (!(decide (((400 : Int) : Int) < ((xs.length : Nat) + (ys.length : Nat))) || !(decide (((xs.length : Nat) : Int) ≤ (400 : Int)) && decide (((cntS fG xs xs.length : Nat) : Int) ≤ (3 : Int)))))) (v := .slice ya ys.length yc) (wantedH (d' := 34) (B := true) rfl rfl rfl) (fun hB => r_move (v := .slice ya ys.length yc) rfl) ?_
 refine caGv (B := (!(decide (((400 : Int) : Int) < ((xs.length : Nat) + (ys.length : Nat))) || !(decide (((xs.length : Nat) : Int) ≤ (400 : Int)) && decide (((cntS fG xs xs.length : Nat) : Int) ≤ (3 : Int)))))) (v := .bool ((decide (((ys.length : Nat) : Int) ≤ (400 : Int)) && decide (((cntS fG ys ys.length : Nat) : Int) ≤ (3 : Int))))) (wantedH (d' := 34) (B := true) rfl rfl rfl) (fun hB => by simp only [gvT (v := _) (h := hB)]; exact Enters.callL (vs := [.slice ya ys.length yc]) call7 rfl) (fun hB => by exact light_ok ys ya yc w4 (Chg.gl H6.chg (fun x => x) hG) (hY.ext H6.chg) (by omega)) ?_
 intro w7 hE8
 have H9 := H6.ext hE8
 refine sqGv (B := (!(decide (((400 : Int) : Int) < ((xs.length : Nat) + (ys.length : Nat))) || !(decide (((xs.length : Nat) : Int) ≤ (400 : Int)) && decide (((cntS fG xs xs.length : Nat) : Int) ≤ (3 : Int)))))) (v := .bool (!(decide (((ys.length : Nat) : Int) ≤ (400 : Int)) && decide (((cntS fG ys ys.length : Nat) : Int) ≤ (3 : Int))))) (wantedH (d' := 34) (B := true) rfl rfl rfl) (fun hB => by simp only [gvT (v := _) (h := hB)]; exact r_not (b := (decide (((ys.length : Nat) : Int) ≤ (400 : Int)) && decide (((cntS fG ys ys.length : Nat) : Int) ≤ (3 : Int)))) rfl) ?_
 refine sq (r_pickOr (B := true) rfl rfl rfl rfl) ?_
 refine wend ?_
 refine condBool (((decide (((400 : Int) : Int) < ((xs.length : Nat) + (ys.length : Nat))) || !(decide (((xs.length : Nat) : Int) ≤ (400 : Int)) && decide (((cntS fG xs xs.length : Nat) : Int) ≤ (3 : Int)))) || !(decide (((ys.length : Nat) : Int) ≤ (400 : Int)) && decide (((cntS fG ys ys.length : Nat) : Int) ≤ (3 : Int))))) rfl (fun c38 => ?_) (fun c38 => ?_)
 ·refine sR ?_
  refine c_call (vs := []) call6 rfl (awake_ok w7 (Chg.gl H9.chg (fun x => x) hG)) ?_
  rintro _ w10 ⟨rfl, hE11⟩
  have H12 := H9.ext hE11
  refine sA (.bool true) rfl ?_
  refine wend ?_
  refine retAny ?_
  refine thenRet ?_
  refine rG1 4 (.bool true) rfl ⟨rfl, rfl⟩ ?_
  exact ⟨_, rfl, rfl, H12.chg⟩
 ·have hbig := of_decide_eq_false (Bool.or_eq_false_iff.1 (Bool.or_eq_false_iff.1 c38).1).1
  refine skipAny ?_
  refine thenNormal ?_
  refine sR ?_
  refine sq (r_buildA (cs' := (cel EI [(65536 : Int), (65536 : Int)]).toArray) (ps := [(0, i64 65536), (1, i64 65536)]) zer29 arr29 rfl (by rfl)) ?_
  refine q_alloc (o := .cells (cel EI ([0, 0])).toArray 29 (0, 0)) H9 zer29 (by kernel_rfl) ?_
  intro b13 w14 hb13 H15 hE16
  refine d_store (k := 0) (v := .agg (cel EI [(65536 : Int), (65536 : Int)]).toArray) (cs' := (cel EI ([(65536 : Int), (65536 : Int)])).toArray) H15 rfl rfl rfl siz29 (by exact celSize (by first | rfl | (show _ * 1 = _; omega))) (by exact celOne _) (by rw [List.size_toArray, cel_length]; show _ ≤ _ * 1; first | omega | (simp only [List.length_set]; omega) | exact bLe rfl | (simp <;> omega)) (by exact putAll (by first | rfl | omega | (simp <;> omega))) ?_
  intro w17 H18 hC19
  have H18' := H18.as (L' := [_]) rfl
  clear H18
  refine wend ?_
  refine seqAny ?_
  refine sR ?_
  refine sM (.slice xa xs.length xc) rfl ?_
  refine sq (r_loadA (cs' := (cel EI ([(65536 : Int), (65536 : Int)])).toArray) agg29 siz29 (H18'.get (k := 0) rfl) (off := 0) rfl (by exact bLe rfl) (by exact ext_all rfl)) ?_
  have := H18'.lt (List.mem_of_getElem? (i := 0) rfl) rfl
  refine c_call (vs := [.slice xa xs.length xc, .agg (cel EI ([(65536 : Int), (65536 : Int)])).toArray]) call8 rfl (mcheck_no xs xa xc (65536 : Int) (65536 : Int) xs.length (by rfl) w17 (Chg.gl H18'.chg (fun x => x) hG) (hX.ext H18'.chg) (by omega) hga) ?_
  rintro v22 w20 ⟨hEr23, hE24⟩
  have H25 := H18'.ext hE24
  obtain ⟨T26, x27, rfl⟩ := hEr23.iface
  refine sq (r_neqIN isI31 rfl rfl) ?_
  refine sM (.bool true) rfl ?_
  refine skAny (wantedSome (d' := 45) (b := true) rfl rfl rfl) ?_
  refine skAny (wantedSome (d' := 45) (b := true) rfl rfl rfl) ?_
  refine skAny (wantedSome (d' := 45) (b := true) rfl rfl rfl) ?_
  refine skAny (wantedSome (d' := 45) (b := true) rfl rfl rfl) ?_
  refine sq (r_pickT (u := .bool true) rfl rfl) ?_
  refine wend ?_
  refine condTrue rfl ?_
  refine sR ?_
  refine sA (.bool true) rfl ?_
  refine wend ?_
  refine retAny ?_
  refine thenRet ?_
  refine rG1 4 (.bool true) rfl ⟨rfl, rfl⟩ ?_
  exact ⟨_, rfl, rfl, H25.chg⟩
set_option maxHeartbeats 4000000 in
theorem mjoin_nb (xs ys : List Mo) (xa ya : Option Addr) (xc yc : Nat) (w : World) (hG : Gl w) (hX : Rd EMo w xa xs) (hY : Rd EMo w ya ys) (hxl : xs.length ≤ 140737488355328) (hyl : ys.length ≤ 140737488355328) (hga : Good xs 65536 65536) (hgb : ¬ Good ys 65536 65536) : Calls Tryz.prog 4 [.slice xa xs.length xc, .slice ya ys.length yc].toArray w (Ret fun v w' => v = .bool true ∧ Ext w w') := by
 let y1 : Value := .agg (cel EI ([(65536 : Int), (65536 : Int)])).toArray
 have H := Hp.start No w
 refine enter (n := 233) Tryz.func4 rfl rfl (bLe rfl) ?_
 refine sR ?_
 refine sA (.bool false) rfl ?_
 refine wend ?_
 refine seqAny ?_
 refine sR ?_
 refine c_call (vs := []) call6 rfl (awake_ok w (Chg.gl H.chg (fun x => x) hG)) ?_
 rintro _ w1 ⟨rfl, hE2⟩
 have H3 := H.ext hE2
 refine sq (r_notT rfl) ?_
 refine sM (.bool false) rfl ?_
 refine sqAny (v := .slice xa xs.length xc) (w' := w1) (wantedSome (d' := 21) (b := false) rfl rfl rfl) (r_move (v := .slice xa xs.length xc) rfl) ?_
 refine sqAny (v := iN xs.length) (w' := w1) (wantedSome (d' := 21) (b := false) rfl rfl rfl) (r_lenS sli22 (a := xa) (m := xs.length) (c := xc) rfl) ?_
 refine sqAny (v := .slice ya ys.length yc) (w' := w1) (wantedSome (d' := 21) (b := false) rfl rfl rfl) (r_move (v := .slice ya ys.length yc) rfl) ?_
 refine sqAny (v := iN ys.length) (w' := w1) (wantedSome (d' := 21) (b := false) rfl rfl rfl) (r_lenS sli22 (a := ya) (m := ys.length) (c := yc) rfl) ?_
 refine sqAny (v := i64 ((xs.length : Nat) + (ys.length : Nat))) (w' := w1) (wantedSome (d' := 21) (b := false) rfl rfl rfl) (r_addI (a := (xs.length : Nat)) (b := (ys.length : Nat)) rfl rfl (by omega)) ?_
 refine sqAny (v := .bool (decide (((400 : Int) : Int) < ((xs.length : Nat) + (ys.length : Nat))))) (w' := w1) (wantedSome (d' := 21) (b := false) rfl rfl rfl) (r_gtrI (a := (xs.length : Nat) + (ys.length : Nat)) (b := (400 : Int)) rfl rfl) ?_
 refine sq (r_pickF (v := .bool (decide (((400 : Int) : Int) < ((xs.length : Nat) + (ys.length : Nat))))) rfl rfl) ?_
 refine sM (.bool (decide (((400 : Int) : Int) < ((xs.length : Nat) + (ys.length : Nat))))) rfl ?_
 refine sqGv (B := (!(decide (((400 : Int) : Int) < ((xs.length : Nat) + (ys.length : Nat)))))) (v := .slice xa xs.length xc) (wantedH (d' := 29) (B := true) rfl rfl rfl) (fun hB => r_move (v := .slice xa xs.length xc) rfl) ?_
 refine caGv (B := (!(decide (((400 : Int) : Int) < ((xs.length : Nat) + (ys.length : Nat)))))) (v := .bool ((decide (((xs.length : Nat) : Int) ≤ (400 : Int)) && decide (((cntS fG xs xs.length : Nat) : Int) ≤ (3 : Int))))) (wantedH (d' := 29) (B := true) rfl rfl rfl) (fun hB => by simp only [gvT (v := _) (h := hB)]; exact Enters.callL (vs := [.slice xa xs.length xc]) call7 rfl) (fun hB => by exact light_ok xs xa xc w1 (Chg.gl H3.chg (fun x => x) hG) (hX.ext H3.chg) (by omega)) ?_
 intro w4 hE5
 have H6 := H3.ext hE5
 refine sqGv (B := (!(decide (((400 : Int) : Int) < ((xs.length : Nat) + (ys.length : Nat)))))) (v := .bool (!(decide (((xs.length : Nat) : Int) ≤ (400 : Int)) && decide (((cntS fG xs xs.length : Nat) : Int) ≤ (3 : Int))))) (wantedH (d' := 29) (B := true) rfl rfl rfl) (fun hB => by simp only [gvT (v := _) (h := hB)]; exact r_not (b := (decide (((xs.length : Nat) : Int) ≤ (400 : Int)) && decide (((cntS fG xs xs.length : Nat) : Int) ≤ (3 : Int)))) rfl) ?_
 refine sq (r_pickOr (B := true) rfl rfl rfl rfl) ?_
 refine sM (.bool ((decide (((400 : Int) : Int) < ((xs.length : Nat) + (ys.length : Nat))) || !(decide (((xs.length : Nat) : Int) ≤ (400 : Int)) && decide (((cntS fG xs xs.length : Nat) : Int) ≤ (3 : Int)))))) rfl ?_
 refine sqGv (B := (!(decide (((400 : Int) : Int) < ((xs.length : Nat) + (ys.length : Nat))) || !(decide (((xs.length : Nat) : Int) ≤ (400 : Int)) && decide (((cntS fG xs xs.length : Nat) : Int) ≤ (3 : Int)))))) (v := .slice ya ys.length yc) (wantedH (d' := 34) (B := true) rfl rfl rfl) (fun hB => r_move (v := .slice ya ys.length yc) rfl) ?_
 refine caGv (B := (!(decide (((400 : Int) : Int) < ((xs.length : Nat) + (ys.length : Nat))) || !(decide (((xs.length : Nat) : Int) ≤ (400 : Int)) && decide (((cntS fG xs xs.length : Nat) : Int) ≤ (3 : Int)))))) (v := .bool ((decide (((ys.length : Nat) : Int) ≤ (400 : Int)) && decide (((cntS fG ys ys.length : Nat) : Int) ≤ (3 : Int))))) (wantedH (d' := 34) (B := true) rfl rfl rfl) (fun hB => by simp only [gvT (v := _) (h := hB)]; exact Enters.callL (vs := [.slice ya ys.length yc]) call7 rfl) (fun hB => by exact light_ok ys ya yc w4 (Chg.gl H6.chg (fun x => x) hG) (hY.ext H6.chg) (by omega)) ?_
 intro w7 hE8
 have H9 := H6.ext hE8
 refine sqGv (B := (!(decide (((400 : Int) : Int) < ((xs.length : Nat) + (ys.length : Nat))) || !(decide (((xs.length : Nat) : Int) ≤ (400 : Int)) && decide (((cntS fG xs xs.length : Nat) : Int) ≤ (3 : Int)))))) (v := .bool (!(decide (((ys.length : Nat) : Int) ≤ (400 : Int)) && decide (((cntS fG ys ys.length : Nat) : Int) ≤ (3 : Int))))) (wantedH (d' := 34) (B := true) rfl rfl rfl) (fun hB => by simp only [gvT (v := _) (h := hB)]; exact r_not (b := (decide (((ys.length : Nat) : Int) ≤ (400 : Int)) && decide (((cntS fG ys ys.length : Nat) : Int) ≤ (3 : Int)))) rfl) ?_
 refine sq (r_pickOr (B := true) rfl rfl rfl rfl) ?_
 refine wend ?_
 refine condBool (((decide (((400 : Int) : Int) < ((xs.length : Nat) + (ys.length : Nat))) || !(decide (((xs.length : Nat) : Int) ≤ (400 : Int)) && decide (((cntS fG xs xs.length : Nat) : Int) ≤ (3 : Int)))) || !(decide (((ys.length : Nat) : Int) ≤ (400 : Int)) && decide (((cntS fG ys ys.length : Nat) : Int) ≤ (3 : Int))))) rfl (fun c38 => ?_) (fun c38 => ?_)
 ·refine sR ?_
  refine c_call (vs := []) call6 rfl (awake_ok w7 (Chg.gl H9.chg (fun x => x) hG)) ?_
  rintro _ w10 ⟨rfl, hE11⟩
  have H12 := H9.ext hE11
  refine sA (.bool true) rfl ?_
  refine wend ?_
  refine retAny ?_
  refine thenRet ?_
  refine rG1 4 (.bool true) rfl ⟨rfl, rfl⟩ ?_
  exact ⟨_, rfl, rfl, H12.chg⟩
 ·have hbig := of_decide_eq_false (Bool.or_eq_false_iff.1 (Bool.or_eq_false_iff.1 c38).1).1
  refine skipAny ?_
  refine thenNormal ?_
  refine sR ?_
  refine sq (r_buildA (cs' := (cel EI [(65536 : Int), (65536 : Int)]).toArray) (ps := [(0, i64 65536), (1, i64 65536)]) zer29 arr29 rfl (by rfl)) ?_
  refine q_alloc (o := .cells (cel EI ([0, 0])).toArray 29 (0, 0)) H9 zer29 (by kernel_rfl) ?_
  intro b13 w14 hb13 H15 hE16
  refine d_store (k := 0) (v := .agg (cel EI [(65536 : Int), (65536 : Int)]).toArray) (cs' := (cel EI ([(65536 : Int), (65536 : Int)])).toArray) H15 rfl rfl rfl siz29 (by exact celSize (by first | rfl | (show _ * 1 = _; omega))) (by exact celOne _) (by rw [List.size_toArray, cel_length]; show _ ≤ _ * 1; first | omega | (simp only [List.length_set]; omega) | exact bLe rfl | (simp <;> omega)) (by exact putAll (by first | rfl | omega | (simp <;> omega))) ?_
  intro w17 H18 hC19
  have H18' := H18.as (L' := [_]) rfl
  clear H18
  refine wend ?_
  refine seqAny ?_
  refine sR ?_
  refine sM (.slice xa xs.length xc) rfl ?_
  refine sq (r_loadA (cs' := (cel EI ([(65536 : Int), (65536 : Int)])).toArray) agg29 siz29 (H18'.get (k := 0) rfl) (off := 0) rfl (by exact bLe rfl) (by exact ext_all rfl)) ?_
  refine c_call (vs := [.slice xa xs.length xc, y1]) call8 rfl (mcheck_yes xs xa xc (65536 : Int) (65536 : Int) xs.length (by rfl) w17 (Chg.gl H18'.chg (fun x => x) hG) (hX.ext H18'.chg) (by omega) hga) ?_
  rintro _ w20 ⟨rfl, hE21⟩
  have H22 := H18'.ext hE21
  refine sq (r_neqNN isI31 rfl rfl) ?_
  refine sM (.bool false) rfl ?_
  refine sqAny (v := .slice ya ys.length yc) (w' := w20) (wantedSome (d' := 45) (b := false) rfl rfl rfl) (r_move (v := .slice ya ys.length yc) rfl) ?_
  refine sqAny (v := .agg (cel EI ([(65536 : Int), (65536 : Int)])).toArray) (w' := w20) (wantedSome (d' := 45) (b := false) rfl rfl rfl) (r_loadA (cs' := (cel EI ([(65536 : Int), (65536 : Int)])).toArray) agg29 siz29 (H22.get (k := 0) rfl) (off := 0) rfl (by exact bLe rfl) (by exact ext_all rfl)) ?_
  have := H22.lt (List.mem_of_getElem? (i := 0) rfl) rfl
  refine caAny (wantedSome (d' := 45) (b := false) rfl rfl rfl) (Enters.callL (vs := [.slice ya ys.length yc, y1]) call8 rfl) (mcheck_no ys ya yc (65536 : Int) (65536 : Int) ys.length (by rfl) w20 (Chg.gl H22.chg (fun x => x) hG) (hY.ext H22.chg) (by omega) hgb) ?_
  rintro v25 w23 ⟨hEr26, hE27⟩
  have H28 := H22.ext hE27
  obtain ⟨T29, x30, rfl⟩ := hEr26.iface
  refine sqAny (v := .bool true) (w' := w23) (wantedSome (d' := 45) (b := false) rfl rfl rfl) (r_neqIN isI31 rfl rfl) ?_
  refine sq (r_pickF (v := .bool true) rfl rfl) ?_
  refine wend ?_
  refine condTrue rfl ?_
  refine sR ?_
  refine sA (.bool true) rfl ?_
  refine wend ?_
  refine retAny ?_
  refine thenRet ?_
  refine rG1 4 (.bool true) rfl ⟨rfl, rfl⟩ ?_
  exact ⟨_, rfl, rfl, H28.chg⟩
end Go.Proofs.YtohngnahcgbfmaaGreatDoor.Mi
