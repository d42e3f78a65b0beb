/- What the claim has need of: Corr, Corr2. -/
import Derived.Test.YteofdmdpaejgaaaDoorGc5
namespace Go.Proofs.YteofdmdpaejgaaaDoor.Co
open Go Go.Proofs.YteofdmdpaejgaaaDoor.Vc Go.Proofs.YteofdmdpaejgaaaDoor.Er
set_option linter.unusedVariables false
theorem agg136 : isAgg' Tryd.prog 136 = true := by kernel_rfl
theorem agg41 : isAgg' Tryd.prog 41 = true := by kernel_rfl
theorem arr136 : arr Tryd.prog 136 = some (5, 1) := by kernel_rfl
theorem byt34 : byt Tryd.prog 34 = some 24 := by kernel_rfl
theorem byt41 : byt Tryd.prog 41 = some 40 := by kernel_rfl
theorem call63 : callable Tryd.prog 63 = true := by kernel_rfl
theorem call68 : callable Tryd.prog 68 = true := by kernel_rfl
theorem call97 : callable Tryd.prog 97 = true := by kernel_rfl
theorem fits41 : Fits Tryd.prog 41 EOt := fitsOt (by kernel_rfl) (by kernel_rfl)
theorem fld131_0 : fld Tryd.prog 131 0 = some (0, 1, 49) := by kernel_rfl
theorem fld133_0 : fld Tryd.prog 133 0 = some (0, 1, 50) := by kernel_rfl
theorem fld135_0 : fld Tryd.prog 135 0 = some (0, 1, 131) := by kernel_rfl
theorem fld135_1 : fld Tryd.prog 135 1 = some (1, 1, 131) := by kernel_rfl
theorem fld135_2 : fld Tryd.prog 135 2 = some (2, 1, 133) := by kernel_rfl
theorem mixed : Tryd.prog.follows .mixedOrders = true := by kernel_rfl
theorem one49 : isOne Tryd.prog 49 = true := by kernel_rfl
theorem one50 : isOne Tryd.prog 50 = true := by kernel_rfl
theorem siz136 : siz Tryd.prog 136 = some 5 := by kernel_rfl
theorem siz32 : siz Tryd.prog 32 = some 1 := by kernel_rfl
theorem siz41 : siz Tryd.prog 41 = some 5 := by kernel_rfl
theorem siz49 : siz Tryd.prog 49 = some 1 := by kernel_rfl
theorem siz50 : siz Tryd.prog 50 = some 1 := by kernel_rfl
theorem sli49 : sli Tryd.prog 49 = some (34, 3) := by kernel_rfl
theorem sli50 : sli Tryd.prog 50 = some (41, 5) := by kernel_rfl
theorem und57 : Tryd.prog.underlying 57 = some (.int .i64) := by kernel_rfl
theorem zer136 : zer Tryd.prog 136 = some (.agg (List.replicate 5 (.int .u64 0)).toArray) := by kernel_rfl
theorem zer34 : zer Tryd.prog 34 = some (.agg #[.int .u64 0, .int .u64 0, .int .u64 0]) := by kernel_rfl
theorem zer41 : zer Tryd.prog 41 = some (.agg #[.int .u64 0, .int .u64 0, .int .u64 0, .int .u64 0, .bool false]) := by kernel_rfl
theorem five_ok (b : Nat) (key : Option Nat) (c : Nat) (sp : List Value) (ws : List (BitVec 64)) (hSw : Sl E64 key ws c sp) (hlen : ws.length ≤ 140737488355328) (u : Nat) (hu : u + 5 ≤ ws.length) (R : List (Option Nat × Obj)) (w₀ w : World) (H : Hp No w₀ w ((some b, .cells #[.slice (ownA key) ws.length c, .pointer none, i64 (ws.length : Nat), i64 (u : Nat)] 141 (0, 0)) :: (key, sob E64 32 ws sp) :: R)) : Calls Tryd.prog 65 [pT b].toArray w (Ret fun v w' => v = .agg (cel E64 [ws.getD u 0#64, ws.getD (u + 1) 0#64, ws.getD (u + 2) 0#64, ws.getD (u + 3) 0#64, ws.getD (u + 4) 0#64]).toArray ∧ Hp No w₀ w' ((some b, .cells #[.slice (ownA key) ws.length c, .pointer none, i64 (ws.length : Nat), i64 ((u + 5 : Nat))] 141 (0, 0)) :: (key, sob E64 32 ws sp) :: R)) := by
 skip
 refine enter (n := 17) Tryd.func65 rfl rfl (bLe rfl) ?_
 refine sR ?_
 refine q_alloc (o := .cells (cel E64 (List.replicate 5 0#64)).toArray 136 (0, 0)) H zer136 (by kernel_rfl) ?_
 intro b1 w2 hb1 H3 hE4
 refine wend ?_
 refine sR ?_
 refine q_alloc (o := .cells (cel E64 (List.replicate 5 0#64)).toArray 136 (0, 0)) H3 zer136 (by kernel_rfl) ?_
 intro b5 w6 hb5 H7 hE8
 refine wend ?_
 refine seqAny ?_
 refine sR ?_
 refine sM (i64 ((0 : Int))) rfl ?_
 refine wend ?_
 refine blockAny ?_
 refine loopAny (σ := Nat) (fun q => [(0, pT b), (2, pT b1), (3, pT b5), (5, i64 (q : Nat))]) (fun q w' => q ≤ 5 ∧ Hp No w₀ w' ((some b5, .cells (cel E64 (fiveL ws u q)).toArray 136 (0, 0)) :: (some b1, .cells (cel E64 (List.replicate 5 0#64)).toArray 136 (0, 0)) :: (some b, .cells #[.slice (ownA key) ws.length c, .pointer none, i64 (ws.length : Nat), i64 ((u + q : Nat))] 141 (0, 0)) :: (key, sob E64 32 ws sp) :: R)) (fun q => 5 - q) (0) ?_ ?_ ?_
 ·exact ⟨rfl, rfl, rfl, rfl, trivial⟩
 ·exact ⟨by omega, H7⟩
 rintro q ρ w9 ⟨hq, HL⟩
 refine sR ?_
 refine sq (r_lssI (a := (q : Nat)) (b := (5 : Int)) rfl rfl) ?_
 refine wend ?_
 refine seqAny ?_
 refine condProp (((q : Nat) : Int) < (5 : Int)) rfl (fun c6 => ?_) (fun c6 => ?_)
 ·skip
  have c6 : q < 5 := by omega
  refine skipAny ?_
  refine thenNormal ?_
  refine seqAny ?_
  refine blockAny ?_
  refine sR ?_
  refine sM (i64 (q : Nat)) rfl ?_
  refine sA (i64 (q : Nat)) rfl ?_
  refine wend ?_
  refine oneRegion ?_
  refine sM (i64 (q : Nat)) rfl ?_
  refine sM (pT b) rfl ?_
  refine c_call (vs := [pT b]) call97 rfl (next_hit b c (u + q) (ownA key) ws w9 (HL.get (k := 2) rfl) (hpRdSt HL (i := 2) (j := 3) rfl rfl rfl hSw) (by omega) (by omega)) ?_
  rintro _ w11 ⟨rfl, hC13, hn14⟩
  have H15 := (HL.set (k := 2) rfl hC13 hn14).as (L' := ((some b5, .cells (cel E64 (fiveL ws u q)).toArray 136 (0, 0)) :: (some b1, .cells (cel E64 (List.replicate 5 0#64)).toArray 136 (0, 0)) :: (some b, .cells #[.slice (ownA key) ws.length c, .pointer none, i64 (ws.length : Nat), i64 ((u + q + 1 : Nat))] 141 (0, 0)) :: (key, sob E64 32 ws sp) :: R)) rfl
  refine sM (.tuple #[u64 (ws.getD (u + q) 0#64), .nilIface]) rfl ?_
  refine sq (r_extract (vs := #[u64 (ws.getD (u + q) 0#64), .nilIface]) rfl rfl) ?_
  refine sq (r_extract (vs := #[u64 (ws.getD (u + q) 0#64), .nilIface]) rfl rfl) ?_
  refine sq (r_indexA (off' := q) (j := q) arr136 (b := b5) (off := 0) rfl rfl (by first | rfl | omega | (simp; omega)) (by omega) (by omega)) ?_
  refine d_store (k := 0) (v := u64 (ws.getD (u + q) 0#64)) (cs' := (cel E64 ((fiveL ws u q).set q (ws.getD (u + q) 0#64))).toArray) H15 rfl rfl rfl siz32 (by rfl) (by exact E64.one _) (by rw [List.size_toArray, cel_length]; show _ ≤ _ * 1; rw [fiveL_len]; omega) (by exact put1 (E := E64) rfl _ _ _) ?_
  intro w16 H17 hC18
  have H17' := H17.as (L' := ((some b5, .cells (cel E64 ((fiveL ws u q).set q (ws.getD (u + q) 0#64))).toArray 136 (0, 0)) :: (some b1, .cells (cel E64 (List.replicate 5 0#64)).toArray 136 (0, 0)) :: (some b, .cells #[.slice (ownA key) ws.length c, .pointer none, i64 (ws.length : Nat), i64 ((u + q + 1 : Nat))] 141 (0, 0)) :: (key, sob E64 32 ws sp) :: R)) rfl
  clear H17
  refine wnil ?_
  refine blockNormal ?_
  refine thenNormal ?_
  refine oneRegion ?_
  refine sq (r_addI (a := (q : Nat)) (b := (1 : Int)) rfl rfl (by omega)) ?_
  refine sM (i64 ((q : Nat) + (1 : Int))) rfl ?_
  refine wnil ?_
  refine thenNormal ?_
  rw [five_set (ws := ws) (u := u) c6] at H17'
  exact ⟨q + 1, _, rfl, ⟨rfl, rfl, rfl, rfl, trivial⟩, ⟨by omega, H17'⟩, by show 5 - (q + 1) < 5 - q; omega⟩
 ·skip
  obtain rfl : q = 5 := by omega
  refine exitAny ?_
  refine thenExit ?_
  refine thenExit ?_
  refine blockHere ?_
  refine thenNormal ?_
  refine sR ?_
  refine sq ((r_loadA (cs' := (cel E64 (fiveL ws u 5)).toArray) agg136 siz136 (HL.get (k := 0) rfl) (off := 0) rfl (by rw [List.size_toArray, cel_length, fiveL_len]; exact Nat.le_refl _) (by exact ext_all (by rw [cel_length, fiveL_len]; rfl))).as (v' := .agg (cel E64 [ws.getD u 0#64, ws.getD (u + 1) 0#64, ws.getD (u + 2) 0#64, ws.getD (u + 3) 0#64, ws.getD (u + 4) 0#64]).toArray) (by rfl)) ?_
  refine d_store (k := 1) (v := .agg (cel E64 [ws.getD u 0#64, ws.getD (u + 1) 0#64, ws.getD (u + 2) 0#64, ws.getD (u + 3) 0#64, ws.getD (u + 4) 0#64]).toArray) (cs' := (cel E64 ([ws.getD u 0#64, ws.getD (u + 1) 0#64, ws.getD (u + 2) 0#64, ws.getD (u + 3) 0#64, ws.getD (u + 4) 0#64])).toArray) HL rfl rfl rfl siz136 (by exact celSize (by first | rfl | (show _ * 1 = _; omega))) (by exact celOne _) (by rw [List.size_toArray, cel_length]; show _ ≤ _ * 1; first | omega | (simp only [List.length_set]; omega) | exact bLe rfl | (simp <;> omega)) (by exact putAll (by first | rfl | omega | (simp <;> omega))) ?_
  intro w19 H20 hC21
  have H20' := H20.as (L' := ((some b5, .cells (cel E64 (fiveL ws u 5)).toArray 136 (0, 0)) :: (some b1, .cells (cel E64 ([ws.getD u 0#64, ws.getD (u + 1) 0#64, ws.getD (u + 2) 0#64, ws.getD (u + 3) 0#64, ws.getD (u + 4) 0#64])).toArray 136 (0, 0)) :: (some b, .cells #[.slice (ownA key) ws.length c, .pointer none, i64 (ws.length : Nat), i64 ((u + 5 : Nat))] 141 (0, 0)) :: (key, sob E64 32 ws sp) :: R)) rfl
  clear H20
  refine wend ?_
  refine retAny ?_
  refine retG (rs := [.cell 2 136]) (vs := [.agg (cel E64 ([ws.getD u 0#64, ws.getD (u + 1) 0#64, ws.getD (u + 2) 0#64, ws.getD (u + 3) 0#64, ws.getD (u + 4) 0#64])).toArray]) rfl ⟨r_loadA (cs' := (cel E64 ([ws.getD u 0#64, ws.getD (u + 1) 0#64, ws.getD (u + 2) 0#64, ws.getD (u + 3) 0#64, ws.getD (u + 4) 0#64])).toArray) agg136 siz136 (H20'.get (k := 1) rfl) (off := 0) rfl (by exact bLe rfl) (by exact ext_all rfl), trivial⟩ ?_
  exact ⟨_, rfl, rfl, ((H20'.dropk 1).dropk 0)⟩
theorem next2_hit (b : Nat) (s : Sk) (hs : s.ok) (R : List (Option Nat × Obj)) (w₀ w : World) (H : Hp No w₀ w (skR 34 41 135 b s ++ R)) (kd : Int) (hl : 0 < s.o.l.length) : Calls Tryd.prog 68 [.pointer (some ⟨b, 2, none⟩), i64 (kd)].toArray w (Ret fun v w' => v = .tuple #[.agg #[u64 (((s.o.l).getD 0 ot0).p), u64 (((s.o.l).getD 0 ot0).q), u64 (((s.o.l).getD 0 ot0).r), u64 (((s.o.l).getD 0 ot0).s), .bool (((s.o.l).getD 0 ot0).ch)], .nilIface] ∧ ∃ s' : Sk, Hp No w₀ w' (skR 34 41 135 b s' ++ R) ∧ s'.ok ∧ s'.o.l = s.o.l.drop 1 ∧ s'.t = s.t ∧ s'.b = s.b) := by
 have hct := hs.t.cap
 have hcb := hs.b.cap
 have hco := hs.o.cap
 have H := H.as (L' := ((some b, .cells #[.slice s.t.a s.t.l.length s.t.c, .slice s.b.a s.b.l.length s.b.c, .slice s.o.a s.o.l.length s.o.c] 135 (0, 0)) :: (s.t.key, sobP ETr 34 s.t.pre s.t.l s.t.sp) :: (s.b.key, sobP ETr 34 s.b.pre s.b.l s.b.sp) :: (s.o.key, sobP EOt 41 s.o.pre s.o.l s.o.sp) :: R)) rfl
 refine enter (n := 33) Tryd.func68 rfl rfl (bLe rfl) ?_
 refine sR ?_
 refine q_alloc (o := .cells #[u64 (0#64), u64 (0#64), u64 (0#64), u64 (0#64), .bool (false)] 41 (0, 0)) H zer41 (by kernel_rfl) ?_
 intro b1 w2 hb1 H3 hE4
 refine sA (.nilIface) rfl ?_
 refine wend ?_
 refine sR ?_
 refine q_alloc (o := .cells #[u64 (0#64), u64 (0#64), u64 (0#64), u64 (0#64), .bool (false)] 41 (0, 0)) H3 zer41 (by kernel_rfl) ?_
 intro b5 w6 hb5 H7 hE8
 refine wend ?_
 refine seqAny ?_
 refine sR ?_
 refine sM (.pointer (some ⟨b, 2, none⟩)) rfl ?_
 refine sq (r_nilCheck rfl) ?_
 refine sq (r_fieldAddr (off' := 2) fld133_0 (by decide) (b := b) (off := 2) rfl (by omega)) ?_
 refine sq (r_loadC (v := .slice s.o.a s.o.l.length s.o.c) one50 (H7.get (k := 2) rfl) (off := 2) rfl (by rfl)) ?_
 refine sq (r_lenS sli50 (a := s.o.a) (m := s.o.l.length) (c := s.o.c) rfl) ?_
 refine sq ((r_eqlI (a := (s.o.l.length : Nat)) (b := (0 : Int)) rfl rfl).as (v' := .bool (false)) (by exact congrArg Value.bool (decide_eq_false (by omega)))) ?_
 refine wend ?_
 refine condFalse rfl ?_
 refine skipAny ?_
 refine thenNormal ?_
 refine sR ?_
 refine sM (.pointer (some ⟨b, 2, none⟩)) rfl ?_
 refine sq (r_nilCheck rfl) ?_
 refine sq (r_fieldAddr (off' := 2) fld133_0 (by decide) (b := b) (off := 2) rfl (by omega)) ?_
 refine sq (r_loadC (v := .slice s.o.a s.o.l.length s.o.c) one50 (H7.get (k := 2) rfl) (off := 2) rfl (by rfl)) ?_
 refine sq (r_idxS (E := EOt) (l := s.o.l) (j := 0) sli50 (H7.rdP (k := 5) rfl hs.o) rfl rfl (by first | rfl | omega | (simp; omega)) (by rfl) (by omega)) ?_
 refine sq (((r_ldS (E := EOt) (l := s.o.l) (j := 0) (v := (s.o.l).getD 0 ot0) fits41 (H7.rdP (k := 5) rfl hs.o) rfl rfl (at_getD (by omega))).as (v' := .agg #[u64 (((s.o.l).getD 0 ot0).p), u64 (((s.o.l).getD 0 ot0).q), u64 (((s.o.l).getD 0 ot0).r), u64 (((s.o.l).getD 0 ot0).s), .bool (((s.o.l).getD 0 ot0).ch)]) rfl).as (v' := .agg #[u64 (((s.o.l).getD 0 ot0).p), u64 (((s.o.l).getD 0 ot0).q), u64 (((s.o.l).getD 0 ot0).r), u64 (((s.o.l).getD 0 ot0).s), .bool (((s.o.l).getD 0 ot0).ch)]) (by rfl)) ?_
 refine q_alloc (o := .cells #[u64 (0#64), u64 (0#64), u64 (0#64), u64 (0#64), .bool (false)] 41 (0, 0)) H7 zer41 (by kernel_rfl) ?_
 intro b9 w10 hb9 H11 hE12
 refine d_store (k := 0) (v := .agg #[u64 (((s.o.l).getD 0 ot0).p), u64 (((s.o.l).getD 0 ot0).q), u64 (((s.o.l).getD 0 ot0).r), u64 (((s.o.l).getD 0 ot0).s), .bool (((s.o.l).getD 0 ot0).ch)]) (cs' := #[u64 (((s.o.l).getD 0 ot0).p), u64 (((s.o.l).getD 0 ot0).q), u64 (((s.o.l).getD 0 ot0).r), u64 (((s.o.l).getD 0 ot0).s), .bool (((s.o.l).getD 0 ot0).ch)]) H11 rfl rfl rfl siz41 (by rfl) (by intro u hu; simp [Value.cells] at hu; first | (subst hu; rfl) | (rcases hu with rfl | rfl | rfl | rfl | rfl <;> rfl)) (by exact bLe rfl) (by rfl) ?_
 intro w13 H14 hC15
 have H14' := H14.as (L' := ((some b9, .cells #[u64 (((s.o.l).getD 0 ot0).p), u64 (((s.o.l).getD 0 ot0).q), u64 (((s.o.l).getD 0 ot0).r), u64 (((s.o.l).getD 0 ot0).s), .bool (((s.o.l).getD 0 ot0).ch)] 41 (0, 0)) :: (some b5, .cells #[u64 (0#64), u64 (0#64), u64 (0#64), u64 (0#64), .bool (false)] 41 (0, 0)) :: (some b1, .cells #[u64 (0#64), u64 (0#64), u64 (0#64), u64 (0#64), .bool (false)] 41 (0, 0)) :: (some b, .cells #[.slice s.t.a s.t.l.length s.t.c, .slice s.b.a s.b.l.length s.b.c, .slice s.o.a s.o.l.length s.o.c] 135 (0, 0)) :: (s.t.key, sobP ETr 34 s.t.pre s.t.l s.t.sp) :: (s.b.key, sobP ETr 34 s.b.pre s.b.l s.b.sp) :: (s.o.key, sobP EOt 41 s.o.pre s.o.l s.o.sp) :: R)) rfl
 clear H14
 refine wend ?_
 refine sR ?_
 refine sM (.pointer (some ⟨b, 2, none⟩)) rfl ?_
 refine sM (.pointer (some ⟨b, 2, none⟩)) rfl ?_
 refine sq (r_nilCheck rfl) ?_
 refine sq (r_fieldAddr (off' := 2) fld133_0 (by decide) (b := b) (off := 2) rfl (by omega)) ?_
 refine sq (r_loadC (v := .slice s.o.a s.o.l.length s.o.c) one50 (H14'.get (k := 3) rfl) (off := 2) rfl (by rfl)) ?_
 refine sq ((r_sliceS (l := 1) (h := s.o.l.length) sli50 rfl (.inl ⟨_, _, _, rfl, rfl, by first | rfl | omega | (simp; omega)⟩) (.inr ⟨rfl, rfl⟩) (by omega) (by omega)).as (v' := .slice (if s.o.c = 1 then s.o.a else adr s.o.a (1 * 5)) (s.o.l.length - 1) (s.o.c - 1)) (by first | rfl | (congr 1; omega) | (simp; omega) | simp)) ?_
 refine sq (r_nilCheck rfl) ?_
 refine sq (r_fieldAddr (off' := 2) fld133_0 (by decide) (b := b) (off := 2) rfl (by omega)) ?_
 refine d_store (k := 3) (v := .slice (if s.o.c = 1 then s.o.a else adr s.o.a (1 * 5)) (s.o.l.length - 1) (s.o.c - 1)) (cs' := #[.slice s.t.a s.t.l.length s.t.c, .slice s.b.a s.b.l.length s.b.c, .slice (if s.o.c = 1 then s.o.a else adr s.o.a (1 * 5)) (s.o.l.length - 1) (s.o.c - 1)]) H14' rfl rfl rfl siz50 (by rfl) (by intro u hu; simp [Value.cells] at hu; first | (subst hu; rfl) | (rcases hu with rfl <;> rfl)) (by exact bLe rfl) (by rfl) ?_
 intro w16 H17 hC18
 have H17' := H17.as (L' := ((some b9, .cells #[u64 (((s.o.l).getD 0 ot0).p), u64 (((s.o.l).getD 0 ot0).q), u64 (((s.o.l).getD 0 ot0).r), u64 (((s.o.l).getD 0 ot0).s), .bool (((s.o.l).getD 0 ot0).ch)] 41 (0, 0)) :: (some b5, .cells #[u64 (0#64), u64 (0#64), u64 (0#64), u64 (0#64), .bool (false)] 41 (0, 0)) :: (some b1, .cells #[u64 (0#64), u64 (0#64), u64 (0#64), u64 (0#64), .bool (false)] 41 (0, 0)) :: (some b, .cells #[.slice s.t.a s.t.l.length s.t.c, .slice s.b.a s.b.l.length s.b.c, .slice (if s.o.c = 1 then s.o.a else adr s.o.a (1 * 5)) (s.o.l.length - 1) (s.o.c - 1)] 135 (0, 0)) :: (s.t.key, sobP ETr 34 s.t.pre s.t.l s.t.sp) :: (s.b.key, sobP ETr 34 s.b.pre s.b.l s.b.sp) :: (s.o.key, sobP EOt 41 s.o.pre s.o.l s.o.sp) :: R)) rfl
 clear H17
 refine wend ?_
 refine sR ?_
 refine sq (r_loadA (cs' := #[u64 (((s.o.l).getD 0 ot0).p), u64 (((s.o.l).getD 0 ot0).q), u64 (((s.o.l).getD 0 ot0).r), u64 (((s.o.l).getD 0 ot0).s), .bool (((s.o.l).getD 0 ot0).ch)]) agg41 siz41 (H17'.get (k := 0) rfl) (off := 0) rfl (by exact bLe rfl) (by rfl)) ?_
 refine d_store (k := 2) (v := .agg #[u64 (((s.o.l).getD 0 ot0).p), u64 (((s.o.l).getD 0 ot0).q), u64 (((s.o.l).getD 0 ot0).r), u64 (((s.o.l).getD 0 ot0).s), .bool (((s.o.l).getD 0 ot0).ch)]) (cs' := #[u64 (((s.o.l).getD 0 ot0).p), u64 (((s.o.l).getD 0 ot0).q), u64 (((s.o.l).getD 0 ot0).r), u64 (((s.o.l).getD 0 ot0).s), .bool (((s.o.l).getD 0 ot0).ch)]) H17' rfl rfl rfl siz41 (by rfl) (by intro u hu; simp [Value.cells] at hu; first | (subst hu; rfl) | (rcases hu with rfl | rfl | rfl | rfl | rfl <;> rfl)) (by exact bLe rfl) (by rfl) ?_
 intro w19 H20 hC21
 have H20' := H20.as (L' := ((some b9, .cells #[u64 (((s.o.l).getD 0 ot0).p), u64 (((s.o.l).getD 0 ot0).q), u64 (((s.o.l).getD 0 ot0).r), u64 (((s.o.l).getD 0 ot0).s), .bool (((s.o.l).getD 0 ot0).ch)] 41 (0, 0)) :: (some b5, .cells #[u64 (0#64), u64 (0#64), u64 (0#64), u64 (0#64), .bool (false)] 41 (0, 0)) :: (some b1, .cells #[u64 (((s.o.l).getD 0 ot0).p), u64 (((s.o.l).getD 0 ot0).q), u64 (((s.o.l).getD 0 ot0).r), u64 (((s.o.l).getD 0 ot0).s), .bool (((s.o.l).getD 0 ot0).ch)] 41 (0, 0)) :: (some b, .cells #[.slice s.t.a s.t.l.length s.t.c, .slice s.b.a s.b.l.length s.b.c, .slice (if s.o.c = 1 then s.o.a else adr s.o.a (1 * 5)) (s.o.l.length - 1) (s.o.c - 1)] 135 (0, 0)) :: (s.t.key, sobP ETr 34 s.t.pre s.t.l s.t.sp) :: (s.b.key, sobP ETr 34 s.b.pre s.b.l s.b.sp) :: (s.o.key, sobP EOt 41 s.o.pre s.o.l s.o.sp) :: R)) rfl
 clear H20
 refine sA (.nilIface) rfl ?_
 refine wend ?_
 refine retAny ?_
 refine retG (rs := [.cell 4 41, .tmp 5]) (vs := [.agg #[u64 (((s.o.l).getD 0 ot0).p), u64 (((s.o.l).getD 0 ot0).q), u64 (((s.o.l).getD 0 ot0).r), u64 (((s.o.l).getD 0 ot0).s), .bool (((s.o.l).getD 0 ot0).ch)], .nilIface]) rfl ⟨r_loadA (cs' := #[u64 (((s.o.l).getD 0 ot0).p), u64 (((s.o.l).getD 0 ot0).q), u64 (((s.o.l).getD 0 ot0).r), u64 (((s.o.l).getD 0 ot0).s), .bool (((s.o.l).getD 0 ot0).ch)]) agg41 siz41 (H20'.get (k := 2) rfl) (off := 0) rfl (by exact bLe rfl) (by rfl), ⟨rfl, rfl⟩, trivial⟩ ?_
 refine ⟨_, rfl, rfl, { s with o := s.o.cut EOt }, ?_, ⟨hs.t, hs.b, Cp.cut_ok hs.o (by omega)⟩, rfl, rfl, rfl⟩
 unfold skR Sk.ob
 dsimp only
 rw [Cp.cut_row (E := EOt) (by omega)]
 unfold Cp.cut
 dsimp only
 rw [List.length_drop]
 exact (((H20'.dropk 2).dropk 1).dropk 0)
theorem take2_hit (b : Nat) (s : Sk) (hs : s.ok) (R : List (Option Nat × Obj)) (w₀ w : World) (H : Hp No w₀ w (skR 34 41 135 b s ++ R)) (hl : 0 < s.o.l.length) : Calls Tryd.prog 20 [pT b].toArray w (Ret fun v w' => v = .tuple #[.agg #[u64 (((s.o.l).getD 0 ot0).p), u64 (((s.o.l).getD 0 ot0).q), u64 (((s.o.l).getD 0 ot0).r), u64 (((s.o.l).getD 0 ot0).s), .bool (((s.o.l).getD 0 ot0).ch)], .nilIface] ∧ ∃ s' : Sk, Hp No w₀ w' (skR 34 41 135 b s' ++ R) ∧ s'.ok ∧ s'.o.l = s.o.l.drop 1 ∧ s'.t = s.t ∧ s'.b = s.b) := by
 have hct := hs.t.cap
 have hcb := hs.b.cap
 have hco := hs.o.cap
 have H := H.as (L' := ((some b, .cells #[.slice s.t.a s.t.l.length s.t.c, .slice s.b.a s.b.l.length s.b.c, .slice s.o.a s.o.l.length s.o.c] 135 (0, 0)) :: (s.t.key, sobP ETr 34 s.t.pre s.t.l s.t.sp) :: (s.b.key, sobP ETr 34 s.b.pre s.b.l s.b.sp) :: (s.o.key, sobP EOt 41 s.o.pre s.o.l s.o.sp) :: R)) rfl
 refine enter (n := 10) Tryd.func20 rfl rfl (bLe rfl) ?_
 refine sR ?_
 refine q_alloc (o := .cells #[u64 (0#64), u64 (0#64), u64 (0#64), u64 (0#64), .bool (false)] 41 (0, 0)) H zer41 (by kernel_rfl) ?_
 intro b1 w2 hb1 H3 hE4
 refine sA (.nilIface) rfl ?_
 refine wend ?_
 refine sR ?_
 refine sM (pT b) rfl ?_
 refine sq (r_nilCheck rfl) ?_
 refine sq (r_fieldAddr (off' := 2) fld135_2 (by decide) (b := b) (off := 0) rfl (by omega)) ?_
 have H5 := (Hp.midQ (X := [(some b1, .cells #[u64 (0#64), u64 (0#64), u64 (0#64), u64 (0#64), .bool (false)] 41 (0, 0))]) (A := skR 34 41 135 b s) (Y := R) H3).as (L' := skR 34 41 135 b s ++ ([(some b1, .cells #[u64 (0#64), u64 (0#64), u64 (0#64), u64 (0#64), .bool (false)] 41 (0, 0))] ++ R)) rfl
 refine c_call (vs := [.pointer (some ⟨b, 2, none⟩), i64 ((2 : Int))]) call68 rfl (next2_hit b s hs ([(some b1, .cells #[u64 (0#64), u64 (0#64), u64 (0#64), u64 (0#64), .bool (false)] 41 (0, 0))] ++ R) w₀ w2 H5 (2 : Int) hl) ?_
 rintro _ w6 ⟨rfl, s8, HN9, hok10, hd11, he12, he13⟩
 have H14 := (Hp.midQ (X := skR 34 41 135 b s8) (A := [(some b1, .cells #[u64 (0#64), u64 (0#64), u64 (0#64), u64 (0#64), .bool (false)] 41 (0, 0))]) (Y := R) HN9).as (L' := ((some b1, .cells #[u64 (0#64), u64 (0#64), u64 (0#64), u64 (0#64), .bool (false)] 41 (0, 0)) :: (skR 34 41 135 b s8 ++ R))) rfl
 refine sq (r_extract (vs := #[.agg #[u64 (((s.o.l).getD 0 ot0).p), u64 (((s.o.l).getD 0 ot0).q), u64 (((s.o.l).getD 0 ot0).r), u64 (((s.o.l).getD 0 ot0).s), .bool (((s.o.l).getD 0 ot0).ch)], .nilIface]) rfl rfl) ?_
 refine sq (r_extract (vs := #[.agg #[u64 (((s.o.l).getD 0 ot0).p), u64 (((s.o.l).getD 0 ot0).q), u64 (((s.o.l).getD 0 ot0).r), u64 (((s.o.l).getD 0 ot0).s), .bool (((s.o.l).getD 0 ot0).ch)], .nilIface]) rfl rfl) ?_
 refine d_store (k := 0) (v := .agg #[u64 (((s.o.l).getD 0 ot0).p), u64 (((s.o.l).getD 0 ot0).q), u64 (((s.o.l).getD 0 ot0).r), u64 (((s.o.l).getD 0 ot0).s), .bool (((s.o.l).getD 0 ot0).ch)]) (cs' := #[u64 (((s.o.l).getD 0 ot0).p), u64 (((s.o.l).getD 0 ot0).q), u64 (((s.o.l).getD 0 ot0).r), u64 (((s.o.l).getD 0 ot0).s), .bool (((s.o.l).getD 0 ot0).ch)]) H14 rfl rfl rfl siz41 (by rfl) (by intro u hu; simp [Value.cells] at hu; first | (subst hu; rfl) | (rcases hu with rfl | rfl | rfl | rfl | rfl <;> rfl)) (by exact bLe rfl) (by rfl) ?_
 intro w15 H16 hC17
 have H16' := H16.as (L' := ((some b1, .cells #[u64 (((s.o.l).getD 0 ot0).p), u64 (((s.o.l).getD 0 ot0).q), u64 (((s.o.l).getD 0 ot0).r), u64 (((s.o.l).getD 0 ot0).s), .bool (((s.o.l).getD 0 ot0).ch)] 41 (0, 0)) :: (skR 34 41 135 b s8 ++ R))) rfl
 clear H16
 refine sA (.nilIface) rfl ?_
 refine wend ?_
 refine retAny ?_
 refine retG (rs := [.cell 2 41, .tmp 3]) (vs := [.agg #[u64 (((s.o.l).getD 0 ot0).p), u64 (((s.o.l).getD 0 ot0).q), u64 (((s.o.l).getD 0 ot0).r), u64 (((s.o.l).getD 0 ot0).s), .bool (((s.o.l).getD 0 ot0).ch)], .nilIface]) rfl ⟨r_loadA (cs' := #[u64 (((s.o.l).getD 0 ot0).p), u64 (((s.o.l).getD 0 ot0).q), u64 (((s.o.l).getD 0 ot0).r), u64 (((s.o.l).getD 0 ot0).s), .bool (((s.o.l).getD 0 ot0).ch)]) agg41 siz41 (H16'.get (k := 0) rfl) (off := 0) rfl (by exact bLe rfl) (by rfl), ⟨rfl, rfl⟩, trivial⟩ ?_
 exact ⟨_, rfl, rfl, s8, (H16'.dropk 0), hok10, hd11, he12, he13⟩
end Go.Proofs.YteofdmdpaejgaaaDoor.Co
namespace Go.Proofs.YteofdmdpaejgaaaDoor.Co
open Go Go.Proofs.YteofdmdpaejgaaaDoor.Vc Go.Proofs.YteofdmdpaejgaaaDoor.Er
set_option linter.unusedVariables false
theorem agg25 : isAgg' Tryd.prog 25 = true := by kernel_rfl
theorem agg38 : isAgg' Tryd.prog 38 = true := by kernel_rfl
theorem arr25 : arr Tryd.prog 25 = some (2, 1) := by kernel_rfl
theorem arr38 : arr Tryd.prog 38 = some (2, 1) := by kernel_rfl
theorem arr39 : arr Tryd.prog 39 = some (2, 2) := by kernel_rfl
theorem call64 : callable Tryd.prog 64 = true := by kernel_rfl
theorem call65 : callable Tryd.prog 65 = true := by kernel_rfl
theorem fits3 : Fits Tryd.prog 3 EI := fitsI (by kernel_rfl) (by kernel_rfl)
theorem fits32 : Fits Tryd.prog 32 E64 := fits64 (by kernel_rfl) (by kernel_rfl)
theorem fld41_0 : fld Tryd.prog 41 0 = some (0, 4, 39) := by kernel_rfl
theorem one24 : isOne Tryd.prog 24 = true := by kernel_rfl
theorem pls135 : pls Tryd.prog 135 = some #[(0, 1), (1, 1), (2, 1)] := by kernel_rfl
theorem pls34 : pls Tryd.prog 34 = some #[(0, 1), (1, 1), (2, 1)] := by kernel_rfl
theorem pls41 : pls Tryd.prog 41 = some #[(0, 4), (4, 1)] := by kernel_rfl
theorem siz25 : siz Tryd.prog 25 = some 2 := by kernel_rfl
theorem siz38 : siz Tryd.prog 38 = some 2 := by kernel_rfl
theorem sli60 : sli Tryd.prog 60 = some (3, 1) := by kernel_rfl
theorem zer135 : zer Tryd.prog 135 = some (.agg #[.slice none 0 0, .slice none 0 0, .slice none 0 0]) := by kernel_rfl
theorem zer25 : zer Tryd.prog 25 = some (.agg (List.replicate 2 (.pointer none)).toArray) := by kernel_rfl
theorem zer3 : zer Tryd.prog 3 = some (.int .i64 0) := by kernel_rfl
theorem zer38 : zer Tryd.prog 38 = some (.agg (List.replicate 2 (.int .u64 0)).toArray) := by kernel_rfl
theorem zer39 : zer Tryd.prog 39 = some (.agg (List.replicate 4 (.int .u64 0)).toArray) := by kernel_rfl
set_option maxHeartbeats 1000000 in
theorem deal_ok (b : Nat) (key : Option Nat) (c : Nat) (sp : List Value) (ws : List (BitVec 64)) (hSw : Sl E64 key ws c sp) (hlen : ws.length ≤ 140737488355328) (n1 n2 n3 : Nat) (hn1 : n1 ≤ 65536) (hn2 : n2 ≤ 65536) (hn3 : n3 ≤ 65536) (hfit : 5 * (n1 + n2 + n3) ≤ ws.length) (R : List (Option Nat × Obj)) (w₀ w : World) (H : Hp No w₀ w ((some b, .cells #[.slice (ownA key) ws.length c, .pointer none, i64 (ws.length : Nat), i64 (0 : Nat)] 141 (0, 0)) :: (key, sob E64 32 ws sp) :: R)) : Calls Tryd.prog 16 [pT b, i64 (n1 : Nat), i64 (n2 : Nat), i64 (n3 : Nat)].toArray w (Ret fun v w' => ∃ (b1 b2 : Nat) (s1 s2 : Sk), v = .tuple #[.agg #[pT b1, pT b2], .nilIface] ∧ s1.ok ∧ s2.ok ∧ Dealt ws n1 n2 n3 s1 s2 ∧ Hp No w₀ w' (skR 34 41 135 b1 s1 ++ (skR 34 41 135 b2 s2 ++ ((some b, .cells #[.slice (ownA key) ws.length c, .pointer none, i64 (ws.length : Nat), i64 ((5 * (n1 + n2) + 5 * n3 : Nat))] 141 (0, 0)) :: (key, sob E64 32 ws sp) :: R)))) := by
 have hin : ∀ q, q < 3 → 0 ≤ ([((n1 : Nat) : Int), ((n2 : Nat) : Int), ((n3 : Nat) : Int)] : List Int).getD q 0 ∧ ([((n1 : Nat) : Int), ((n2 : Nat) : Int), ((n3 : Nat) : Int)] : List Int).getD q 0 ≤ 65536 := by
  intro q hq
  rcases (show q = 0 ∨ q = 1 ∨ q = 2 by omega) with rfl | rfl | rfl <;> exact ⟨by simp, by simp; omega⟩
 refine enter (n := 230) Tryd.func16 rfl rfl (bLe rfl) ?_
 refine sR ?_
 refine q_alloc (o := .cells #[.pointer none, .pointer none] 25 (0, 0)) H zer25 (by kernel_rfl) ?_
 intro b1 w2 hb1 H3 hE4
 refine sA (.nilIface) rfl ?_
 refine wend ?_
 refine seqAny ?_
 refine sR ?_
 refine sM (i64 (n1 : Nat)) rfl ?_
 refine sM (i64 (n2 : Nat)) rfl ?_
 refine sM (i64 (n3 : Nat)) rfl ?_
 refine q_buildSlice (E := EI) (l := ([(n1 : Nat), (n2 : Nat), (n3 : Nat)] : List Int)) H3 sli60 zer3 (bLe rfl) (ps := [(0, i64 (n1 : Nat)), (1, i64 (n2 : Nat)), (2, i64 (n3 : Nat))]) rfl (by exact fillAll rfl rfl) rfl ?_
 intro b5 w7 hS6 H8 hE9
 refine sq (r_lenS sli60 (a := ownA (some b5)) (m := 3) (c := 3) rfl) ?_
 refine sM (i64 ((0 : Int))) rfl ?_
 refine wend ?_
 refine blockAny ?_
 refine loopAny (σ := Nat) (fun q => [(0, pT b), (1, i64 (n1 : Nat)), (2, i64 (n2 : Nat)), (3, i64 (n3 : Nat)), (8, pT b1), (9, .nilIface), (21, .slice (ownA (some b5)) 3 3), (22, i64 (3 : Nat)), (23, i64 (q : Nat))]) (fun q w' => q ≤ 3 ∧ Hp No w₀ w' (((some b5), sob EI 3 ([(n1 : Nat), (n2 : Nat), (n3 : Nat)] : List Int) ([])) :: (some b1, .cells #[.pointer none, .pointer none] 25 (0, 0)) :: (some b, .cells #[.slice (ownA key) ws.length c, .pointer none, i64 (ws.length : Nat), i64 (0 : Nat)] 141 (0, 0)) :: (key, sob E64 32 ws sp) :: R)) (fun q => 3 - q) (0) ?_ ?_ ?_
 ·exact ⟨rfl, rfl, rfl, rfl, rfl, rfl, rfl, rfl, rfl, trivial⟩
 ·exact ⟨Nat.zero_le _, H8⟩
 rintro q ρ w10 ⟨hq, HQ⟩
 refine sR ?_
 refine sq (r_lssI (a := (q : Nat)) (b := (3 : Nat)) rfl rfl) ?_
 refine wend ?_
 refine seqAny ?_
 refine condProp (((q : Nat) : Int) < (3 : Nat)) rfl (fun c24 => ?_) (fun c24 => ?_)
 ·skip
  refine skipAny ?_
  refine thenNormal ?_
  refine seqAny ?_
  refine blockAny ?_
  refine sR ?_
  refine sq (r_idxS (E := EI) (l := ([(n1 : Nat), (n2 : Nat), (n3 : Nat)] : List Int)) (j := q) sli60 (HQ.rd (k := 0) rfl hS6) rfl rfl (by first | rfl | omega | (simp; omega)) (by rfl) (by show q < 3; omega)) ?_
  refine sq (r_ldS (E := EI) (l := ([(n1 : Nat), (n2 : Nat), (n3 : Nat)] : List Int)) (j := q) (v := (([(n1 : Nat), (n2 : Nat), (n3 : Nat)] : List Int)).getD q 0) fits3 (HQ.rd (k := 0) rfl hS6) rfl rfl (at_getD (l := ([((n1 : Nat) : Int), ((n2 : Nat) : Int), ((n3 : Nat) : Int)] : List Int)) (j := q) (by show q < 3; omega))) ?_
  refine sA (i64 ((([(n1 : Nat), (n2 : Nat), (n3 : Nat)] : List Int)).getD q 0)) rfl ?_
  refine wend ?_
  refine sR ?_
  refine sM (i64 ((([(n1 : Nat), (n2 : Nat), (n3 : Nat)] : List Int)).getD q 0)) rfl ?_
  refine sq ((r_lssI (a := (([(n1 : Nat), (n2 : Nat), (n3 : Nat)] : List Int)).getD q 0) (b := (0 : Int)) rfl rfl).as (v' := .bool (false)) (by exact congrArg Value.bool (decide_eq_false (by have := hin q (by omega); omega)))) ?_
  refine sM (.bool (false)) rfl ?_
  refine sqAny (v := i64 ((([(n1 : Nat), (n2 : Nat), (n3 : Nat)] : List Int)).getD q 0)) (w' := w10) (wantedSome (d' := 29) (b := false) rfl rfl rfl) (r_move (v := i64 ((([(n1 : Nat), (n2 : Nat), (n3 : Nat)] : List Int)).getD q 0)) rfl) ?_
  refine sqAny (v := .bool (false)) (w' := w10) (wantedSome (d' := 29) (b := false) rfl rfl rfl) ((r_gtrI (a := (([(n1 : Nat), (n2 : Nat), (n3 : Nat)] : List Int)).getD q 0) (b := (65536 : Int)) rfl rfl).as (v' := .bool (false)) (by exact congrArg Value.bool (decide_eq_false (by have := hin q (by omega); omega)))) ?_
  refine sq (r_pickF (v := .bool (false)) rfl rfl) ?_
  refine wend ?_
  refine condFalse rfl ?_
  refine skipAny ?_
  refine blockNormal ?_
  refine thenNormal ?_
  refine oneRegion ?_
  refine sq (r_addI (a := (q : Nat)) (b := (1 : Int)) rfl rfl (by omega)) ?_
  refine sM (i64 ((q : Nat) + (1 : Int))) rfl ?_
  refine wnil ?_
  refine thenNormal ?_
  exact ⟨q + 1, _, rfl, ⟨rfl, rfl, rfl, rfl, rfl, rfl, rfl, rfl, rfl, trivial⟩, ⟨by omega, HQ⟩, by show 3 - (q + 1) < 3 - q; omega⟩
 ·skip
  obtain rfl : q = 3 := by omega
  refine exitAny ?_
  refine thenExit ?_
  refine thenExit ?_
  refine blockHere ?_
  refine thenNormal ?_
  refine seqAny ?_
  refine sR ?_
  refine sM (pT b) rfl ?_
  refine c_call (vs := [pT b]) call64 rfl (left_ok b ws.length 0 (.slice (ownA key) ws.length c) (.pointer none) w10 (HQ.get (k := 2) rfl) (by omega) (by omega)) ?_
  rintro _ w12 ⟨rfl, hE13⟩
  have H14 := HQ.ext hE13
  refine sM (i64 (n1 : Nat)) rfl ?_
  refine sM (i64 (n2 : Nat)) rfl ?_
  refine sq (r_addI (a := (n1 : Nat)) (b := (n2 : Nat)) rfl rfl (by omega)) ?_
  refine sM (i64 (n3 : Nat)) rfl ?_
  refine sq (r_addI (a := (n1 : Nat) + (n2 : Nat)) (b := (n3 : Nat)) rfl rfl (by omega)) ?_
  refine sq (r_mulI (a := (5 : Int)) (b := ((n1 : Nat) + (n2 : Nat)) + (n3 : Nat)) rfl rfl (by omega)) ?_
  refine sq ((r_lssI (a := (ws.length : Nat) - (0 : Nat)) (b := (5 : Int) * (((n1 : Nat) + (n2 : Nat)) + (n3 : Nat))) rfl rfl).as (v' := .bool (false)) (by exact congrArg Value.bool (decide_eq_false (by omega)))) ?_
  refine wend ?_
  refine condFalse rfl ?_
  refine skipAny ?_
  refine thenNormal ?_
  refine sR ?_
  refine sq (r_build (cs' := #[.slice none 0 0, .slice none 0 0, .slice none 0 0]) (ps := []) zer135 pls135 rfl (by rfl)) ?_
  refine q_box (v := .agg #[.slice none 0 0, .slice none 0 0, .slice none 0 0]) (o := .cells #[.slice none 0 0, .slice none 0 0, .slice none 0 0] 135 (0, 0)) H14 rfl (by rfl) ?_
  intro b15 w16 hb15 H17 hE18
  refine sq (r_build (cs' := #[.slice none 0 0, .slice none 0 0, .slice none 0 0]) (ps := []) zer135 pls135 rfl (by rfl)) ?_
  refine q_box (v := .agg #[.slice none 0 0, .slice none 0 0, .slice none 0 0]) (o := .cells #[.slice none 0 0, .slice none 0 0, .slice none 0 0] 135 (0, 0)) H17 rfl (by rfl) ?_
  intro b19 w20 hb19 H21 hE22
  refine sq (r_buildA (cs' := #[pT b15, pT b19]) (ps := [(0, pT b15), (1, pT b19)]) zer25 arr25 rfl (by rfl)) ?_
  refine q_alloc (o := .cells #[.pointer none, .pointer none] 25 (0, 0)) H21 zer25 (by kernel_rfl) ?_
  intro b23 w24 hb23 H25 hE26
  refine d_store (k := 0) (v := .agg #[pT b15, pT b19]) (cs' := #[pT b15, pT b19]) H25 rfl rfl rfl siz25 (by rfl) (by intro u hu; simp [Value.cells] at hu; first | (subst hu; rfl) | (rcases hu with rfl | rfl <;> rfl)) (by exact bLe rfl) (by rfl) ?_
  intro w27 H28 hC29
  have H28' := H28.as (L' := ((some b23, .cells #[pT b15, pT b19] 25 (0, 0)) :: (some b19, .cells #[.slice none 0 0, .slice none 0 0, .slice none 0 0] 135 (0, 0)) :: (some b15, .cells #[.slice none 0 0, .slice none 0 0, .slice none 0 0] 135 (0, 0)) :: ((some b5), sob EI 3 ([(n1 : Nat), (n2 : Nat), (n3 : Nat)] : List Int) ([])) :: (some b1, .cells #[.pointer none, .pointer none] 25 (0, 0)) :: (some b, .cells #[.slice (ownA key) ws.length c, .pointer none, i64 (ws.length : Nat), i64 (0 : Nat)] 141 (0, 0)) :: (key, sob E64 32 ws sp) :: R)) rfl
  clear H28
  refine wend ?_
  refine seqAny ?_
  refine sR ?_
  refine sM (i64 (n1 : Nat)) rfl ?_
  refine sM (i64 ((0 : Int))) rfl ?_
  refine wend ?_
  refine blockAny ?_
  refine loopAny (σ := Nat × Option Nat × Nat × List Value × Option Nat × Nat × List Value) (fun (zi, kyta, ccta, zzta, kytb, cctb, zztb) => [(0, pT b), (1, i64 (n1 : Nat)), (2, i64 (n2 : Nat)), (3, i64 (n3 : Nat)), (8, pT b1), (9, .nilIface), (12, pT b23), (57, i64 (n1 : Nat)), (58, i64 (zi : Nat))]) (fun (zi, kyta, ccta, zzta, kytb, cctb, zztb) w' => (zi ≤ n1 ∧ Sl ETr kyta (rowsOf (trA ws) 0 zi) ccta zzta ∧ Sl ETr kytb (rowsOf (trB ws) 0 zi) cctb zztb) ∧ Hp No w₀ w' ((some b23, .cells #[pT b15, pT b19] 25 (0, 0)) :: (some b15, .cells #[.slice (ownA kyta) zi ccta, .slice none 0 0, .slice none 0 0] 135 (0, 0)) :: (some b19, .cells #[.slice (ownA kytb) zi cctb, .slice none 0 0, .slice none 0 0] 135 (0, 0)) :: (kyta, sob ETr 34 (rowsOf (trA ws) 0 zi) zzta) :: (kytb, sob ETr 34 (rowsOf (trB ws) 0 zi) zztb) :: (some b1, .cells #[.pointer none, .pointer none] 25 (0, 0)) :: (some b, .cells #[.slice (ownA key) ws.length c, .pointer none, i64 (ws.length : Nat), i64 ((0 + 5 * zi : Nat))] 141 (0, 0)) :: (key, sob E64 32 ws sp) :: R)) (fun (zi, kyta, ccta, zzta, kytb, cctb, zztb) => n1 - zi) ((0, none, 0, [], none, 0, [])) ?_ ?_ ?_
  ·exact ⟨rfl, rfl, rfl, rfl, rfl, rfl, rfl, rfl, rfl, trivial⟩
  rw [show 0 = 0 + 5 * 0 by omega] at H28'
  ·exact ⟨⟨Nat.zero_le _, Sl.none, Sl.none⟩, (((H28'.nil (sob ETr 34 [] [])).nil (sob ETr 34 [] [])).pick 9 [2, 4, 3, 1, 0, 6, 7, 8] (by decide) (by decide))⟩
  rintro ⟨zi, kyta, ccta, zzta, kytb, cctb, zztb⟩ ρ w30 ⟨⟨hzi, hkyta, hkytb⟩, HL0⟩
  refine sR ?_
  refine sq (r_lssI (a := (zi : Nat)) (b := (n1 : Nat)) rfl rfl) ?_
  refine wend ?_
  refine seqAny ?_
  refine condProp (((zi : Nat) : Int) < (n1 : Nat)) rfl (fun c59 => ?_) (fun c59 => ?_)
  ·skip
   refine skipAny ?_
   refine thenNormal ?_
   refine seqAny ?_
   refine blockAny ?_
   refine sR ?_
   refine sM (pT b) rfl ?_
   have H32 := ((HL0.pick 8 [6, 7, 0, 1, 2, 3, 4, 5] (by decide) (by decide))).as (L' := ((some b, .cells #[.slice (ownA key) ws.length c, .pointer none, i64 (ws.length : Nat), i64 ((0 + 5 * zi : Nat))] 141 (0, 0)) :: (key, sob E64 32 ws sp) :: ((some b23, .cells #[pT b15, pT b19] 25 (0, 0)) :: (some b15, .cells #[.slice (ownA kyta) zi ccta, .slice none 0 0, .slice none 0 0] 135 (0, 0)) :: (some b19, .cells #[.slice (ownA kytb) zi cctb, .slice none 0 0, .slice none 0 0] 135 (0, 0)) :: (kyta, sob ETr 34 (rowsOf (trA ws) 0 zi) zzta) :: (kytb, sob ETr 34 (rowsOf (trB ws) 0 zi) zztb) :: (some b1, .cells #[.pointer none, .pointer none] 25 (0, 0)) :: R))) rfl
   refine c_call (vs := [pT b]) call65 rfl (five_ok b key c sp ws hSw hlen (0 + 5 * zi) (by omega) ((some b23, .cells #[pT b15, pT b19] 25 (0, 0)) :: (some b15, .cells #[.slice (ownA kyta) zi ccta, .slice none 0 0, .slice none 0 0] 135 (0, 0)) :: (some b19, .cells #[.slice (ownA kytb) zi cctb, .slice none 0 0, .slice none 0 0] 135 (0, 0)) :: (kyta, sob ETr 34 (rowsOf (trA ws) 0 zi) zzta) :: (kytb, sob ETr 34 (rowsOf (trB ws) 0 zi) zztb) :: (some b1, .cells #[.pointer none, .pointer none] 25 (0, 0)) :: R) w₀ w30 H32) ?_
   rintro _ w33 ⟨rfl, HN35⟩
   have H36 := HN35.as (L' := ((some b, .cells #[.slice (ownA key) ws.length c, .pointer none, i64 (ws.length : Nat), i64 (((0 + 5 * zi) + 5 : Nat))] 141 (0, 0)) :: (key, sob E64 32 ws sp) :: (some b23, .cells #[pT b15, pT b19] 25 (0, 0)) :: (some b15, .cells #[.slice (ownA kyta) zi ccta, .slice none 0 0, .slice none 0 0] 135 (0, 0)) :: (some b19, .cells #[.slice (ownA kytb) zi cctb, .slice none 0 0, .slice none 0 0] 135 (0, 0)) :: (kyta, sob ETr 34 (rowsOf (trA ws) 0 zi) zzta) :: (kytb, sob ETr 34 (rowsOf (trB ws) 0 zi) zztb) :: (some b1, .cells #[.pointer none, .pointer none] 25 (0, 0)) :: R)) rfl
   refine q_alloc (o := .cells (cel E64 (List.replicate 5 0#64)).toArray 136 (0, 0)) H36 zer136 (by kernel_rfl) ?_
   intro b37 w38 hb37 H39 hE40
   refine d_store (k := 0) (v := .agg (cel E64 [ws.getD (0 + 5 * zi) 0#64, ws.getD ((0 + 5 * zi) + 1) 0#64, ws.getD ((0 + 5 * zi) + 2) 0#64, ws.getD ((0 + 5 * zi) + 3) 0#64, ws.getD ((0 + 5 * zi) + 4) 0#64]).toArray) (cs' := (cel E64 ([ws.getD (0 + 5 * zi) 0#64, ws.getD ((0 + 5 * zi) + 1) 0#64, ws.getD ((0 + 5 * zi) + 2) 0#64, ws.getD ((0 + 5 * zi) + 3) 0#64, ws.getD ((0 + 5 * zi) + 4) 0#64])).toArray) H39 rfl rfl rfl siz136 (by exact celSize (by first | rfl | (show _ * 1 = _; omega))) (by exact celOne _) (by rw [List.size_toArray, cel_length]; show _ ≤ _ * 1; first | omega | (simp only [List.length_set]; omega) | exact bLe rfl | (simp <;> omega)) (by exact putAll (by first | rfl | omega | (simp <;> omega))) ?_
   intro w41 H42 hC43
   have H42' := H42.as (L' := ((some b37, .cells (cel E64 ([ws.getD (0 + 5 * zi) 0#64, ws.getD ((0 + 5 * zi) + 1) 0#64, ws.getD ((0 + 5 * zi) + 2) 0#64, ws.getD ((0 + 5 * zi) + 3) 0#64, ws.getD ((0 + 5 * zi) + 4) 0#64])).toArray 136 (0, 0)) :: (some b, .cells #[.slice (ownA key) ws.length c, .pointer none, i64 (ws.length : Nat), i64 (((0 + 5 * zi) + 5 : Nat))] 141 (0, 0)) :: (key, sob E64 32 ws sp) :: (some b23, .cells #[pT b15, pT b19] 25 (0, 0)) :: (some b15, .cells #[.slice (ownA kyta) zi ccta, .slice none 0 0, .slice none 0 0] 135 (0, 0)) :: (some b19, .cells #[.slice (ownA kytb) zi cctb, .slice none 0 0, .slice none 0 0] 135 (0, 0)) :: (kyta, sob ETr 34 (rowsOf (trA ws) 0 zi) zzta) :: (kytb, sob ETr 34 (rowsOf (trB ws) 0 zi) zztb) :: (some b1, .cells #[.pointer none, .pointer none] 25 (0, 0)) :: R)) rfl
   clear H42
   refine wend ?_
   refine seqAny ?_
   refine drawC (m := 21) [0, 1, 0, 4, 12, 28, 60, 124, 0, 256, 0, 1024, 0, 4096, 16128, 32512, 65532, 131071, 262143, 524287, 1048575] [15, 16, 20] (fun q vs w' => match q, vs with | 0, [] => Hp No w₀ w' ((some b37, .cells (cel E64 ([ws.getD (0 + 5 * zi) 0#64, ws.getD ((0 + 5 * zi) + 1) 0#64, ws.getD ((0 + 5 * zi) + 2) 0#64, ws.getD ((0 + 5 * zi) + 3) 0#64, ws.getD ((0 + 5 * zi) + 4) 0#64])).toArray 136 (0, 0)) :: (some b, .cells #[.slice (ownA key) ws.length c, .pointer none, i64 (ws.length : Nat), i64 (((0 + 5 * zi) + 5 : Nat))] 141 (0, 0)) :: (key, sob E64 32 ws sp) :: (some b23, .cells #[pT b15, pT b19] 25 (0, 0)) :: (some b15, .cells #[.slice (ownA kyta) zi ccta, .slice none 0 0, .slice none 0 0] 135 (0, 0)) :: (some b19, .cells #[.slice (ownA kytb) zi cctb, .slice none 0 0, .slice none 0 0] 135 (0, 0)) :: (kyta, sob ETr 34 (rowsOf (trA ws) 0 zi) zzta) :: (kytb, sob ETr 34 (rowsOf (trB ws) 0 zi) zztb) :: (some b1, .cells #[.pointer none, .pointer none] 25 (0, 0)) :: R) | 1, [v0] => ∃ (b47 : Nat), v0 = .slice (ownA (some b47)) 1 1 ∧ Sl ETr (some b47) ([⟨ws.getD (0 + 5 * zi) 0#64, ws.getD ((0 + 5 * zi) + 2) 0#64, ws.getD ((0 + 5 * zi) + 4) 0#64⟩] : List Tr) 1 ([]) ∧ Hp No w₀ w' (((some b47), sob ETr 34 ([⟨ws.getD (0 + 5 * zi) 0#64, ws.getD ((0 + 5 * zi) + 2) 0#64, ws.getD ((0 + 5 * zi) + 4) 0#64⟩] : List Tr) ([])) :: (some b37, .cells (cel E64 ([ws.getD (0 + 5 * zi) 0#64, ws.getD ((0 + 5 * zi) + 1) 0#64, ws.getD ((0 + 5 * zi) + 2) 0#64, ws.getD ((0 + 5 * zi) + 3) 0#64, ws.getD ((0 + 5 * zi) + 4) 0#64])).toArray 136 (0, 0)) :: (some b, .cells #[.slice (ownA key) ws.length c, .pointer none, i64 (ws.length : Nat), i64 (((0 + 5 * zi) + 5 : Nat))] 141 (0, 0)) :: (key, sob E64 32 ws sp) :: (some b23, .cells #[pT b15, pT b19] 25 (0, 0)) :: (some b15, .cells #[.slice (ownA kyta) zi ccta, .slice none 0 0, .slice none 0 0] 135 (0, 0)) :: (some b19, .cells #[.slice (ownA kytb) zi cctb, .slice none 0 0, .slice none 0 0] 135 (0, 0)) :: (kyta, sob ETr 34 (rowsOf (trA ws) 0 zi) zzta) :: (kytb, sob ETr 34 (rowsOf (trB ws) 0 zi) zztb) :: (some b1, .cells #[.pointer none, .pointer none] 25 (0, 0)) :: R) | 2, [v0, v1] => ∃ (b47 : Nat) (key55 : Option Nat) (c56 : Nat) (sp57 : List Value), v0 = .slice (ownA (some b47)) 1 1 ∧ v1 = .slice (ownA key55) (zi + 1) c56 ∧ Sl ETr (some b47) ([⟨ws.getD (0 + 5 * zi) 0#64, ws.getD ((0 + 5 * zi) + 2) 0#64, ws.getD ((0 + 5 * zi) + 4) 0#64⟩] : List Tr) 1 ([]) ∧ Sl ETr key55 (rowsOf (trA ws) 0 (zi + 1)) c56 sp57 ∧ Hp No w₀ w' (((some b47), sob ETr 34 ([⟨ws.getD (0 + 5 * zi) 0#64, ws.getD ((0 + 5 * zi) + 2) 0#64, ws.getD ((0 + 5 * zi) + 4) 0#64⟩] : List Tr) ([])) :: (some b37, .cells (cel E64 ([ws.getD (0 + 5 * zi) 0#64, ws.getD ((0 + 5 * zi) + 1) 0#64, ws.getD ((0 + 5 * zi) + 2) 0#64, ws.getD ((0 + 5 * zi) + 3) 0#64, ws.getD ((0 + 5 * zi) + 4) 0#64])).toArray 136 (0, 0)) :: (some b, .cells #[.slice (ownA key) ws.length c, .pointer none, i64 (ws.length : Nat), i64 (((0 + 5 * zi) + 5 : Nat))] 141 (0, 0)) :: (key, sob E64 32 ws sp) :: (some b23, .cells #[pT b15, pT b19] 25 (0, 0)) :: (some b15, .cells #[.slice (ownA kyta) zi ccta, .slice none 0 0, .slice none 0 0] 135 (0, 0)) :: (some b19, .cells #[.slice (ownA kytb) zi cctb, .slice none 0 0, .slice none 0 0] 135 (0, 0)) :: (key55, sob ETr 34 (rowsOf (trA ws) 0 (zi + 1)) sp57) :: (kytb, sob ETr 34 (rowsOf (trB ws) 0 zi) zztb) :: (some b1, .cells #[.pointer none, .pointer none] 25 (0, 0)) :: R) | 3, [v0, v1, _] => ∃ (b47 : Nat) (key55 : Option Nat) (c56 : Nat) (sp57 : List Value), v0 = .slice (ownA (some b47)) 1 1 ∧ v1 = .slice (ownA key55) (zi + 1) c56 ∧ True ∧ Sl ETr (some b47) ([⟨ws.getD (0 + 5 * zi) 0#64, ws.getD ((0 + 5 * zi) + 2) 0#64, ws.getD ((0 + 5 * zi) + 4) 0#64⟩] : List Tr) 1 ([]) ∧ Sl ETr key55 (rowsOf (trA ws) 0 (zi + 1)) c56 sp57 ∧ Hp No w₀ w' (((some b47), sob ETr 34 ([⟨ws.getD (0 + 5 * zi) 0#64, ws.getD ((0 + 5 * zi) + 2) 0#64, ws.getD ((0 + 5 * zi) + 4) 0#64⟩] : List Tr) ([])) :: (some b37, .cells (cel E64 ([ws.getD (0 + 5 * zi) 0#64, ws.getD ((0 + 5 * zi) + 1) 0#64, ws.getD ((0 + 5 * zi) + 2) 0#64, ws.getD ((0 + 5 * zi) + 3) 0#64, ws.getD ((0 + 5 * zi) + 4) 0#64])).toArray 136 (0, 0)) :: (some b, .cells #[.slice (ownA key) ws.length c, .pointer none, i64 (ws.length : Nat), i64 (((0 + 5 * zi) + 5 : Nat))] 141 (0, 0)) :: (key, sob E64 32 ws sp) :: (some b23, .cells #[pT b15, pT b19] 25 (0, 0)) :: (some b15, .cells #[.slice (ownA key55) (zi + 1) c56, .slice none 0 0, .slice none 0 0] 135 (0, 0)) :: (some b19, .cells #[.slice (ownA kytb) zi cctb, .slice none 0 0, .slice none 0 0] 135 (0, 0)) :: (key55, sob ETr 34 (rowsOf (trA ws) 0 (zi + 1)) sp57) :: (kytb, sob ETr 34 (rowsOf (trB ws) 0 zi) zztb) :: (some b1, .cells #[.pointer none, .pointer none] 25 (0, 0)) :: R) | _, _ => False) mixed (by kernel_rfl) (by kernel_rfl) H42'.drew ?_
   refine WalkC.look rfl (fun _ => pT b23) (fun _ _ _ => rfl) (fun q r uw _ _ _ _ => Gives.run rfl (r_indexA (off' := 0) (j := 0) arr25 (b := b23) (off := 0) rfl rfl (by first | rfl | omega | (simp; omega)) (by omega) (by omega)) ⟨rfl, rfl⟩) ?_
   refine WalkC.look rfl (fun _ => pT b15) (fun _ _ _ => rfl) (fun q r uw hlo hhi hle hF => ?_) ?_
   ·skip
    have h1 : 0 ≤ q := Nat.zero_le _
    have h2 : q ≤ 2 := hhi 2 20 rfl rfl
    rcases (show q = 0 ∨ q = 1 ∨ q = 2 by omega) with rfl | rfl | rfl
    ·skip
     have HH := hF
     exact Gives.run rfl (r_loadC (v := pT b15) one24 (HH.get (k := 3) rfl) (off := 0) rfl (by rfl)) ⟨rfl, rfl⟩
    ·skip
     obtain ⟨b47, e15, hS48, HH⟩ := hF
     exact Gives.run rfl (r_loadC (v := pT b15) one24 (HH.get (k := 4) rfl) (off := 0) rfl (by rfl)) ⟨rfl, rfl⟩
    ·skip
     obtain ⟨b47, key55, c56, sp57, e15, e16, hS48, hS63, HH⟩ := hF
     exact Gives.run rfl (r_loadC (v := pT b15) one24 (HH.get (k := 4) rfl) (off := 0) rfl (by rfl)) ⟨rfl, rfl⟩
   refine WalkC.look rfl (fun _ => pT b23) (fun _ _ _ => rfl) (fun q r uw _ _ _ _ => Gives.run rfl (r_indexA (off' := 0) (j := 0) arr25 (b := b23) (off := 0) rfl rfl (by first | rfl | omega | (simp; omega)) (by omega) (by omega)) ⟨rfl, rfl⟩) ?_
   refine WalkC.look rfl (fun _ => pT b15) (fun _ _ _ => rfl) (fun q r uw hlo hhi hle hF => ?_) ?_
   ·skip
    have h1 : 0 ≤ q := Nat.zero_le _
    have h2 : q ≤ 1 := hhi 1 16 rfl rfl
    rcases (show q = 0 ∨ q = 1 by omega) with rfl | rfl
    ·skip
     have HH := hF
     exact Gives.run rfl (r_loadC (v := pT b15) one24 (HH.get (k := 3) rfl) (off := 0) rfl (by rfl)) ⟨rfl, rfl⟩
    ·skip
     obtain ⟨b47, e15, hS48, HH⟩ := hF
     exact Gives.run rfl (r_loadC (v := pT b15) one24 (HH.get (k := 4) rfl) (off := 0) rfl (by rfl)) ⟨rfl, rfl⟩
   refine WalkC.look rfl (fun _ => pT b15) (fun _ _ _ => rfl) (fun q r uw _ _ _ _ => Gives.run rfl (r_nilCheck rfl) ⟨rfl, rfl⟩) ?_
   refine WalkC.look rfl (fun _ => pT b15) (fun _ _ _ => rfl) (fun q r uw _ _ _ _ => Gives.run rfl (r_fieldAddr (off' := 0) fld135_0 (by decide) (b := b15) (off := 0) rfl (by omega)) ⟨rfl, rfl⟩) ?_
   refine WalkC.look rfl (fun _ => pT b15) (fun _ _ _ => rfl) (fun q r uw _ _ _ _ => Gives.run rfl (r_fieldAddr (off' := 0) fld131_0 (by decide) (b := b15) (off := 0) rfl (by omega)) ⟨rfl, rfl⟩) ?_
   refine WalkC.look rfl (fun _ => .slice (ownA kyta) zi ccta) (fun _ _ _ => rfl) (fun q r uw hlo hhi hle hF => ?_) ?_
   ·skip
    have h1 : 0 ≤ q := Nat.zero_le _
    have h2 : q ≤ 1 := hhi 1 16 rfl rfl
    rcases (show q = 0 ∨ q = 1 by omega) with rfl | rfl
    ·skip
     have HH := hF
     exact Gives.run rfl (r_loadC (v := .slice (ownA kyta) zi ccta) one49 (HH.get (k := 4) rfl) (off := 0) rfl (by rfl)) ⟨rfl, rfl⟩
    ·skip
     obtain ⟨b47, e15, hS48, HH⟩ := hF
     exact Gives.run rfl (r_loadC (v := .slice (ownA kyta) zi ccta) one49 (HH.get (k := 5) rfl) (off := 0) rfl (by rfl)) ⟨rfl, rfl⟩
   refine WalkC.look rfl (fun _ => pT b37) (fun _ _ _ => rfl) (fun q r uw _ _ _ _ => Gives.run rfl (r_indexA (off' := 0) (j := 0) arr136 (b := b37) (off := 0) rfl rfl (by first | rfl | omega | (simp; omega)) (by omega) (by omega)) ⟨rfl, rfl⟩) ?_
   refine WalkC.look rfl (fun _ => u64 (ws.getD (0 + 5 * zi) 0#64)) (fun _ _ _ => rfl) (fun q r uw hlo hhi hle hF => ?_) ?_
   ·skip
    have h1 : 0 ≤ q := Nat.zero_le _
    have h2 : q ≤ 0 := hhi 0 15 rfl rfl
    rcases (show q = 0 by omega) with rfl
    ·skip
     have HH := hF
     exact Gives.run rfl (r_ld1 (E := E64) (l := [ws.getD (0 + 5 * zi) 0#64, ws.getD ((0 + 5 * zi) + 1) 0#64, ws.getD ((0 + 5 * zi) + 2) 0#64, ws.getD ((0 + 5 * zi) + 3) 0#64, ws.getD ((0 + 5 * zi) + 4) 0#64]) (j := 0) (a := ws.getD (0 + 5 * zi) 0#64) fits32 (HH.get (k := 0) rfl) (by rfl) rfl rfl) ⟨rfl, rfl⟩
   refine WalkC.look rfl (fun _ => .pointer (some ⟨b37, 2, none⟩)) (fun _ _ _ => rfl) (fun q r uw _ _ _ _ => Gives.run rfl (r_indexA (off' := 2) (j := 2) arr136 (b := b37) (off := 0) rfl rfl (by first | rfl | omega | (simp; omega)) (by omega) (by omega)) ⟨rfl, rfl⟩) ?_
   refine WalkC.look rfl (fun _ => u64 (ws.getD ((0 + 5 * zi) + 2) 0#64)) (fun _ _ _ => rfl) (fun q r uw hlo hhi hle hF => ?_) ?_
   ·skip
    have h1 : 0 ≤ q := Nat.zero_le _
    have h2 : q ≤ 0 := hhi 0 15 rfl rfl
    rcases (show q = 0 by omega) with rfl
    ·skip
     have HH := hF
     exact Gives.run rfl (r_ld1 (E := E64) (l := [ws.getD (0 + 5 * zi) 0#64, ws.getD ((0 + 5 * zi) + 1) 0#64, ws.getD ((0 + 5 * zi) + 2) 0#64, ws.getD ((0 + 5 * zi) + 3) 0#64, ws.getD ((0 + 5 * zi) + 4) 0#64]) (j := 2) (a := ws.getD ((0 + 5 * zi) + 2) 0#64) fits32 (HH.get (k := 0) rfl) (by rfl) rfl rfl) ⟨rfl, rfl⟩
   refine WalkC.look rfl (fun _ => .pointer (some ⟨b37, 4, none⟩)) (fun _ _ _ => rfl) (fun q r uw _ _ _ _ => Gives.run rfl (r_indexA (off' := 4) (j := 4) arr136 (b := b37) (off := 0) rfl rfl (by first | rfl | omega | (simp; omega)) (by omega) (by omega)) ⟨rfl, rfl⟩) ?_
   refine WalkC.look rfl (fun _ => u64 (ws.getD ((0 + 5 * zi) + 4) 0#64)) (fun _ _ _ => rfl) (fun q r uw hlo hhi hle hF => ?_) ?_
   ·skip
    have h1 : 0 ≤ q := Nat.zero_le _
    have h2 : q ≤ 0 := hhi 0 15 rfl rfl
    rcases (show q = 0 by omega) with rfl
    ·skip
     have HH := hF
     exact Gives.run rfl (r_ld1 (E := E64) (l := [ws.getD (0 + 5 * zi) 0#64, ws.getD ((0 + 5 * zi) + 1) 0#64, ws.getD ((0 + 5 * zi) + 2) 0#64, ws.getD ((0 + 5 * zi) + 3) 0#64, ws.getD ((0 + 5 * zi) + 4) 0#64]) (j := 4) (a := ws.getD ((0 + 5 * zi) + 4) 0#64) fits32 (HH.get (k := 0) rfl) (by rfl) rfl rfl) ⟨rfl, rfl⟩
   refine WalkC.look rfl (fun _ => .agg #[u64 (ws.getD (0 + 5 * zi) 0#64), u64 (ws.getD ((0 + 5 * zi) + 2) 0#64), u64 (ws.getD ((0 + 5 * zi) + 4) 0#64)]) (fun _ _ _ => rfl) (fun q r uw _ _ _ _ => Gives.run rfl (r_build (cs' := #[u64 (ws.getD (0 + 5 * zi) 0#64), u64 (ws.getD ((0 + 5 * zi) + 2) 0#64), u64 (ws.getD ((0 + 5 * zi) + 4) 0#64)]) (ps := [(0, u64 (ws.getD (0 + 5 * zi) 0#64)), (1, u64 (ws.getD ((0 + 5 * zi) + 2) 0#64)), (2, u64 (ws.getD ((0 + 5 * zi) + 4) 0#64))]) zer34 pls34 rfl (by rfl)) ⟨rfl, rfl⟩) ?_
   refine WalkC.eff 0 rfl (fun r uw44 hF46 => ?_) ?_
   ·skip
    have H45 := hF46
    dsimp only [List.take, List.map, List.cons_append, List.nil_append]
    refine Gives.ofW (d := 77) rfl rfl (fun Q' hK => ?_)
    refine q_buildSlice (E := ETr) (l := ([⟨ws.getD (0 + 5 * zi) 0#64, ws.getD ((0 + 5 * zi) + 2) 0#64, ws.getD ((0 + 5 * zi) + 4) 0#64⟩] : List Tr)) H45 sli49 zer34 (bLe rfl) (ps := [(0, .agg #[u64 (ws.getD (0 + 5 * zi) 0#64), u64 (ws.getD ((0 + 5 * zi) + 2) 0#64), u64 (ws.getD ((0 + 5 * zi) + 4) 0#64)])]) rfl (by exact fillAll rfl rfl) rfl ?_
    intro b47 w49 hS48 H50 hE51
    exact hK _ _ ⟨b47, rfl, hS48, H50⟩
   refine WalkC.eff 1 rfl (fun r uw52 hF54 => ?_) ?_
   ·skip
    obtain ⟨b47, e15, hS48, H53⟩ := hF54
    dsimp only [List.take, List.map, List.cons_append, List.nil_append]
    rw [e15]
    refine Gives.ofW (d := 78) rfl rfl (fun Q' hK => ?_)
    refine q_append (E := ETr) (k := 7) (l := rowsOf (trA ws) 0 zi) (l2 := ([⟨ws.getD (0 + 5 * zi) 0#64, ws.getD ((0 + 5 * zi) + 2) 0#64, ws.getD ((0 + 5 * zi) + 4) 0#64⟩] : List Tr)) H53 rfl hkyta sli49 zer34 rfl byt34 (H53.rd (k := 0) rfl hS48) rfl (by rw [rowsOf_len]) rfl (by rfl) (by omega) ?_
    intro key55 c56 sp57 w59 hS58 hne61 H60
    have H60' := H60.as (L' := (((some b47), sob ETr 34 ([⟨ws.getD (0 + 5 * zi) 0#64, ws.getD ((0 + 5 * zi) + 2) 0#64, ws.getD ((0 + 5 * zi) + 4) 0#64⟩] : List Tr) ([])) :: (some b37, .cells (cel E64 ([ws.getD (0 + 5 * zi) 0#64, ws.getD ((0 + 5 * zi) + 1) 0#64, ws.getD ((0 + 5 * zi) + 2) 0#64, ws.getD ((0 + 5 * zi) + 3) 0#64, ws.getD ((0 + 5 * zi) + 4) 0#64])).toArray 136 (0, 0)) :: (some b, .cells #[.slice (ownA key) ws.length c, .pointer none, i64 (ws.length : Nat), i64 (((0 + 5 * zi) + 5 : Nat))] 141 (0, 0)) :: (key, sob E64 32 ws sp) :: (some b23, .cells #[pT b15, pT b19] 25 (0, 0)) :: (some b15, .cells #[.slice (ownA kyta) zi ccta, .slice none 0 0, .slice none 0 0] 135 (0, 0)) :: (some b19, .cells #[.slice (ownA kytb) zi cctb, .slice none 0 0, .slice none 0 0] 135 (0, 0)) :: (key55, sob ETr 34 ((rowsOf (trA ws) 0 zi) ++ ([⟨ws.getD (0 + 5 * zi) 0#64, ws.getD ((0 + 5 * zi) + 2) 0#64, ws.getD ((0 + 5 * zi) + 4) 0#64⟩] : List Tr)) sp57) :: (kytb, sob ETr 34 (rowsOf (trB ws) 0 zi) zztb) :: (some b1, .cells #[.pointer none, .pointer none] 25 (0, 0)) :: R)) rfl
    clear H60
    have e62 : (rowsOf (trA ws) 0 zi) ++ ([⟨ws.getD (0 + 5 * zi) 0#64, ws.getD ((0 + 5 * zi) + 2) 0#64, ws.getD ((0 + 5 * zi) + 4) 0#64⟩] : List Tr) = rowsOf (trA ws) 0 (zi + 1) := by rw [rowsOf_succ]; rfl
    have hS63 := hS58
    rw [e62] at hS63
    have H64 := H60'.as (L' := (((some b47), sob ETr 34 ([⟨ws.getD (0 + 5 * zi) 0#64, ws.getD ((0 + 5 * zi) + 2) 0#64, ws.getD ((0 + 5 * zi) + 4) 0#64⟩] : List Tr) ([])) :: (some b37, .cells (cel E64 ([ws.getD (0 + 5 * zi) 0#64, ws.getD ((0 + 5 * zi) + 1) 0#64, ws.getD ((0 + 5 * zi) + 2) 0#64, ws.getD ((0 + 5 * zi) + 3) 0#64, ws.getD ((0 + 5 * zi) + 4) 0#64])).toArray 136 (0, 0)) :: (some b, .cells #[.slice (ownA key) ws.length c, .pointer none, i64 (ws.length : Nat), i64 (((0 + 5 * zi) + 5 : Nat))] 141 (0, 0)) :: (key, sob E64 32 ws sp) :: (some b23, .cells #[pT b15, pT b19] 25 (0, 0)) :: (some b15, .cells #[.slice (ownA kyta) zi ccta, .slice none 0 0, .slice none 0 0] 135 (0, 0)) :: (some b19, .cells #[.slice (ownA kytb) zi cctb, .slice none 0 0, .slice none 0 0] 135 (0, 0)) :: (key55, sob ETr 34 (rowsOf (trA ws) 0 (zi + 1)) sp57) :: (kytb, sob ETr 34 (rowsOf (trB ws) 0 zi) zztb) :: (some b1, .cells #[.pointer none, .pointer none] 25 (0, 0)) :: R)) (by rw [e62])
    exact hK _ _ ⟨b47, key55, c56, sp57, rfl, rfl, hS48, hS63, H64⟩
   refine WalkC.look rfl (fun _ => pT b15) (fun _ _ _ => rfl) (fun q r uw _ _ _ _ => Gives.run rfl (r_nilCheck rfl) ⟨rfl, rfl⟩) ?_
   refine WalkC.look rfl (fun _ => pT b15) (fun _ _ _ => rfl) (fun q r uw _ _ _ _ => Gives.run rfl (r_fieldAddr (off' := 0) fld135_0 (by decide) (b := b15) (off := 0) rfl (by omega)) ⟨rfl, rfl⟩) ?_
   refine WalkC.look rfl (fun _ => pT b15) (fun _ _ _ => rfl) (fun q r uw _ _ _ _ => Gives.run rfl (r_fieldAddr (off' := 0) fld131_0 (by decide) (b := b15) (off := 0) rfl (by omega)) ⟨rfl, rfl⟩) ?_
   refine WalkC.eff 2 rfl (fun r uw65 hF67 => ?_) ?_
   ·skip
    obtain ⟨b47, key55, c56, sp57, e15, e16, hS48, hS63, H66⟩ := hF67
    dsimp only [List.take, List.map, List.cons_append, List.nil_append]
    rw [e15, e16]
    refine Gives.ofW0 rfl (fun Q' hK => ?_)
    refine d_store (k := 5) (v := .slice (ownA key55) (zi + 1) c56) (cs' := #[.slice (ownA key55) (zi + 1) c56, .slice none 0 0, .slice none 0 0]) H66 rfl rfl rfl siz49 (by rfl) (by intro u hu; simp [Value.cells] at hu; first | (subst hu; rfl) | (rcases hu with rfl <;> rfl)) (by exact bLe rfl) (by rfl) ?_
    intro w68 H69 hC70
    have H69' := H69.as (L' := (((some b47), sob ETr 34 ([⟨ws.getD (0 + 5 * zi) 0#64, ws.getD ((0 + 5 * zi) + 2) 0#64, ws.getD ((0 + 5 * zi) + 4) 0#64⟩] : List Tr) ([])) :: (some b37, .cells (cel E64 ([ws.getD (0 + 5 * zi) 0#64, ws.getD ((0 + 5 * zi) + 1) 0#64, ws.getD ((0 + 5 * zi) + 2) 0#64, ws.getD ((0 + 5 * zi) + 3) 0#64, ws.getD ((0 + 5 * zi) + 4) 0#64])).toArray 136 (0, 0)) :: (some b, .cells #[.slice (ownA key) ws.length c, .pointer none, i64 (ws.length : Nat), i64 (((0 + 5 * zi) + 5 : Nat))] 141 (0, 0)) :: (key, sob E64 32 ws sp) :: (some b23, .cells #[pT b15, pT b19] 25 (0, 0)) :: (some b15, .cells #[.slice (ownA key55) (zi + 1) c56, .slice none 0 0, .slice none 0 0] 135 (0, 0)) :: (some b19, .cells #[.slice (ownA kytb) zi cctb, .slice none 0 0, .slice none 0 0] 135 (0, 0)) :: (key55, sob ETr 34 (rowsOf (trA ws) 0 (zi + 1)) sp57) :: (kytb, sob ETr 34 (rowsOf (trB ws) 0 zi) zztb) :: (some b1, .cells #[.pointer none, .pointer none] 25 (0, 0)) :: R)) rfl
    clear H69
    exact hK _ (fun _ => ⟨b47, key55, c56, sp57, rfl, rfl, trivial, hS48, hS63, H69'⟩)
   refine WalkC.nil ?_
   intro r71 w72 hF74
   obtain ⟨b47, key55, c56, sp57, e15, e16, e20, hS48, hS63, H73⟩ := hF74
   dsimp only
   rw [e15, e16]
   refine wnil ?_
   refine thenNormal ?_
   refine drawC (m := 33) [0, 1, 0, 4, 12, 28, 60, 124, 0, 256, 0, 1024, 0, 4096, 0, 16384, 61440, 0, 131072, 0, 524288, 1966080, 4190208, 0, 8388608, 33550336, 67108608, 134217472, 268435452, 536870911, 1073741823, 2147483647, 4294967295] [27, 28, 32] (fun q vs w' => match q, vs with | 0, [] => Hp No w₀ w' (((some b47), sob ETr 34 ([⟨ws.getD (0 + 5 * zi) 0#64, ws.getD ((0 + 5 * zi) + 2) 0#64, ws.getD ((0 + 5 * zi) + 4) 0#64⟩] : List Tr) ([])) :: (some b37, .cells (cel E64 ([ws.getD (0 + 5 * zi) 0#64, ws.getD ((0 + 5 * zi) + 1) 0#64, ws.getD ((0 + 5 * zi) + 2) 0#64, ws.getD ((0 + 5 * zi) + 3) 0#64, ws.getD ((0 + 5 * zi) + 4) 0#64])).toArray 136 (0, 0)) :: (some b, .cells #[.slice (ownA key) ws.length c, .pointer none, i64 (ws.length : Nat), i64 (((0 + 5 * zi) + 5 : Nat))] 141 (0, 0)) :: (key, sob E64 32 ws sp) :: (some b23, .cells #[pT b15, pT b19] 25 (0, 0)) :: (some b15, .cells #[.slice (ownA key55) (zi + 1) c56, .slice none 0 0, .slice none 0 0] 135 (0, 0)) :: (some b19, .cells #[.slice (ownA kytb) zi cctb, .slice none 0 0, .slice none 0 0] 135 (0, 0)) :: (key55, sob ETr 34 (rowsOf (trA ws) 0 (zi + 1)) sp57) :: (kytb, sob ETr 34 (rowsOf (trB ws) 0 zi) zztb) :: (some b1, .cells #[.pointer none, .pointer none] 25 (0, 0)) :: R) | 1, [v0] => ∃ (b78 : Nat), v0 = .slice (ownA (some b78)) 1 1 ∧ Sl ETr (some b78) ([⟨ws.getD ((0 + 5 * zi) + 1) 0#64, ws.getD ((0 + 5 * zi) + 3) 0#64, (((ws.getD (0 + 5 * zi) 0#64) + (ws.getD ((0 + 5 * zi) + 1) 0#64)) * ((ws.getD ((0 + 5 * zi) + 2) 0#64) + (ws.getD ((0 + 5 * zi) + 3) 0#64))) - (ws.getD ((0 + 5 * zi) + 4) 0#64)⟩] : List Tr) 1 ([]) ∧ Hp No w₀ w' (((some b78), sob ETr 34 ([⟨ws.getD ((0 + 5 * zi) + 1) 0#64, ws.getD ((0 + 5 * zi) + 3) 0#64, (((ws.getD (0 + 5 * zi) 0#64) + (ws.getD ((0 + 5 * zi) + 1) 0#64)) * ((ws.getD ((0 + 5 * zi) + 2) 0#64) + (ws.getD ((0 + 5 * zi) + 3) 0#64))) - (ws.getD ((0 + 5 * zi) + 4) 0#64)⟩] : List Tr) ([])) :: ((some b47), sob ETr 34 ([⟨ws.getD (0 + 5 * zi) 0#64, ws.getD ((0 + 5 * zi) + 2) 0#64, ws.getD ((0 + 5 * zi) + 4) 0#64⟩] : List Tr) ([])) :: (some b37, .cells (cel E64 ([ws.getD (0 + 5 * zi) 0#64, ws.getD ((0 + 5 * zi) + 1) 0#64, ws.getD ((0 + 5 * zi) + 2) 0#64, ws.getD ((0 + 5 * zi) + 3) 0#64, ws.getD ((0 + 5 * zi) + 4) 0#64])).toArray 136 (0, 0)) :: (some b, .cells #[.slice (ownA key) ws.length c, .pointer none, i64 (ws.length : Nat), i64 (((0 + 5 * zi) + 5 : Nat))] 141 (0, 0)) :: (key, sob E64 32 ws sp) :: (some b23, .cells #[pT b15, pT b19] 25 (0, 0)) :: (some b15, .cells #[.slice (ownA key55) (zi + 1) c56, .slice none 0 0, .slice none 0 0] 135 (0, 0)) :: (some b19, .cells #[.slice (ownA kytb) zi cctb, .slice none 0 0, .slice none 0 0] 135 (0, 0)) :: (key55, sob ETr 34 (rowsOf (trA ws) 0 (zi + 1)) sp57) :: (kytb, sob ETr 34 (rowsOf (trB ws) 0 zi) zztb) :: (some b1, .cells #[.pointer none, .pointer none] 25 (0, 0)) :: R) | 2, [v0, v1] => ∃ (b78 : Nat) (key86 : Option Nat) (c87 : Nat) (sp88 : List Value), v0 = .slice (ownA (some b78)) 1 1 ∧ v1 = .slice (ownA key86) (zi + 1) c87 ∧ Sl ETr (some b78) ([⟨ws.getD ((0 + 5 * zi) + 1) 0#64, ws.getD ((0 + 5 * zi) + 3) 0#64, (((ws.getD (0 + 5 * zi) 0#64) + (ws.getD ((0 + 5 * zi) + 1) 0#64)) * ((ws.getD ((0 + 5 * zi) + 2) 0#64) + (ws.getD ((0 + 5 * zi) + 3) 0#64))) - (ws.getD ((0 + 5 * zi) + 4) 0#64)⟩] : List Tr) 1 ([]) ∧ Sl ETr key86 (rowsOf (trB ws) 0 (zi + 1)) c87 sp88 ∧ Hp No w₀ w' (((some b78), sob ETr 34 ([⟨ws.getD ((0 + 5 * zi) + 1) 0#64, ws.getD ((0 + 5 * zi) + 3) 0#64, (((ws.getD (0 + 5 * zi) 0#64) + (ws.getD ((0 + 5 * zi) + 1) 0#64)) * ((ws.getD ((0 + 5 * zi) + 2) 0#64) + (ws.getD ((0 + 5 * zi) + 3) 0#64))) - (ws.getD ((0 + 5 * zi) + 4) 0#64)⟩] : List Tr) ([])) :: ((some b47), sob ETr 34 ([⟨ws.getD (0 + 5 * zi) 0#64, ws.getD ((0 + 5 * zi) + 2) 0#64, ws.getD ((0 + 5 * zi) + 4) 0#64⟩] : List Tr) ([])) :: (some b37, .cells (cel E64 ([ws.getD (0 + 5 * zi) 0#64, ws.getD ((0 + 5 * zi) + 1) 0#64, ws.getD ((0 + 5 * zi) + 2) 0#64, ws.getD ((0 + 5 * zi) + 3) 0#64, ws.getD ((0 + 5 * zi) + 4) 0#64])).toArray 136 (0, 0)) :: (some b, .cells #[.slice (ownA key) ws.length c, .pointer none, i64 (ws.length : Nat), i64 (((0 + 5 * zi) + 5 : Nat))] 141 (0, 0)) :: (key, sob E64 32 ws sp) :: (some b23, .cells #[pT b15, pT b19] 25 (0, 0)) :: (some b15, .cells #[.slice (ownA key55) (zi + 1) c56, .slice none 0 0, .slice none 0 0] 135 (0, 0)) :: (some b19, .cells #[.slice (ownA kytb) zi cctb, .slice none 0 0, .slice none 0 0] 135 (0, 0)) :: (key55, sob ETr 34 (rowsOf (trA ws) 0 (zi + 1)) sp57) :: (key86, sob ETr 34 (rowsOf (trB ws) 0 (zi + 1)) sp88) :: (some b1, .cells #[.pointer none, .pointer none] 25 (0, 0)) :: R) | 3, [v0, v1, _] => ∃ (b78 : Nat) (key86 : Option Nat) (c87 : Nat) (sp88 : List Value), v0 = .slice (ownA (some b78)) 1 1 ∧ v1 = .slice (ownA key86) (zi + 1) c87 ∧ True ∧ Sl ETr (some b78) ([⟨ws.getD ((0 + 5 * zi) + 1) 0#64, ws.getD ((0 + 5 * zi) + 3) 0#64, (((ws.getD (0 + 5 * zi) 0#64) + (ws.getD ((0 + 5 * zi) + 1) 0#64)) * ((ws.getD ((0 + 5 * zi) + 2) 0#64) + (ws.getD ((0 + 5 * zi) + 3) 0#64))) - (ws.getD ((0 + 5 * zi) + 4) 0#64)⟩] : List Tr) 1 ([]) ∧ Sl ETr key86 (rowsOf (trB ws) 0 (zi + 1)) c87 sp88 ∧ Hp No w₀ w' (((some b78), sob ETr 34 ([⟨ws.getD ((0 + 5 * zi) + 1) 0#64, ws.getD ((0 + 5 * zi) + 3) 0#64, (((ws.getD (0 + 5 * zi) 0#64) + (ws.getD ((0 + 5 * zi) + 1) 0#64)) * ((ws.getD ((0 + 5 * zi) + 2) 0#64) + (ws.getD ((0 + 5 * zi) + 3) 0#64))) - (ws.getD ((0 + 5 * zi) + 4) 0#64)⟩] : List Tr) ([])) :: ((some b47), sob ETr 34 ([⟨ws.getD (0 + 5 * zi) 0#64, ws.getD ((0 + 5 * zi) + 2) 0#64, ws.getD ((0 + 5 * zi) + 4) 0#64⟩] : List Tr) ([])) :: (some b37, .cells (cel E64 ([ws.getD (0 + 5 * zi) 0#64, ws.getD ((0 + 5 * zi) + 1) 0#64, ws.getD ((0 + 5 * zi) + 2) 0#64, ws.getD ((0 + 5 * zi) + 3) 0#64, ws.getD ((0 + 5 * zi) + 4) 0#64])).toArray 136 (0, 0)) :: (some b, .cells #[.slice (ownA key) ws.length c, .pointer none, i64 (ws.length : Nat), i64 (((0 + 5 * zi) + 5 : Nat))] 141 (0, 0)) :: (key, sob E64 32 ws sp) :: (some b23, .cells #[pT b15, pT b19] 25 (0, 0)) :: (some b15, .cells #[.slice (ownA key55) (zi + 1) c56, .slice none 0 0, .slice none 0 0] 135 (0, 0)) :: (some b19, .cells #[.slice (ownA key86) (zi + 1) c87, .slice none 0 0, .slice none 0 0] 135 (0, 0)) :: (key55, sob ETr 34 (rowsOf (trA ws) 0 (zi + 1)) sp57) :: (key86, sob ETr 34 (rowsOf (trB ws) 0 (zi + 1)) sp88) :: (some b1, .cells #[.pointer none, .pointer none] 25 (0, 0)) :: R) | _, _ => False) mixed (by kernel_rfl) (by kernel_rfl) H73.drew ?_
   refine WalkC.look rfl (fun _ => .pointer (some ⟨b23, 1, none⟩)) (fun _ _ _ => rfl) (fun q r uw _ _ _ _ => Gives.run rfl (r_indexA (off' := 1) (j := 1) arr25 (b := b23) (off := 0) rfl rfl (by first | rfl | omega | (simp; omega)) (by omega) (by omega)) ⟨rfl, rfl⟩) ?_
   refine WalkC.look rfl (fun _ => pT b19) (fun _ _ _ => rfl) (fun q r uw hlo hhi hle hF => ?_) ?_
   ·skip
    have h1 : 0 ≤ q := Nat.zero_le _
    have h2 : q ≤ 2 := hhi 2 32 rfl rfl
    rcases (show q = 0 ∨ q = 1 ∨ q = 2 by omega) with rfl | rfl | rfl
    ·skip
     have HH := hF
     exact Gives.run rfl (r_loadC (v := pT b19) one24 (HH.get (k := 4) rfl) (off := 1) rfl (by rfl)) ⟨rfl, rfl⟩
    ·skip
     obtain ⟨b78, e27, hS79, HH⟩ := hF
     exact Gives.run rfl (r_loadC (v := pT b19) one24 (HH.get (k := 5) rfl) (off := 1) rfl (by rfl)) ⟨rfl, rfl⟩
    ·skip
     obtain ⟨b78, key86, c87, sp88, e27, e28, hS79, hS94, HH⟩ := hF
     exact Gives.run rfl (r_loadC (v := pT b19) one24 (HH.get (k := 5) rfl) (off := 1) rfl (by rfl)) ⟨rfl, rfl⟩
   refine WalkC.look rfl (fun _ => .pointer (some ⟨b23, 1, none⟩)) (fun _ _ _ => rfl) (fun q r uw _ _ _ _ => Gives.run rfl (r_indexA (off' := 1) (j := 1) arr25 (b := b23) (off := 0) rfl rfl (by first | rfl | omega | (simp; omega)) (by omega) (by omega)) ⟨rfl, rfl⟩) ?_
   refine WalkC.look rfl (fun _ => pT b19) (fun _ _ _ => rfl) (fun q r uw hlo hhi hle hF => ?_) ?_
   ·skip
    have h1 : 0 ≤ q := Nat.zero_le _
    have h2 : q ≤ 1 := hhi 1 28 rfl rfl
    rcases (show q = 0 ∨ q = 1 by omega) with rfl | rfl
    ·skip
     have HH := hF
     exact Gives.run rfl (r_loadC (v := pT b19) one24 (HH.get (k := 4) rfl) (off := 1) rfl (by rfl)) ⟨rfl, rfl⟩
    ·skip
     obtain ⟨b78, e27, hS79, HH⟩ := hF
     exact Gives.run rfl (r_loadC (v := pT b19) one24 (HH.get (k := 5) rfl) (off := 1) rfl (by rfl)) ⟨rfl, rfl⟩
   refine WalkC.look rfl (fun _ => pT b19) (fun _ _ _ => rfl) (fun q r uw _ _ _ _ => Gives.run rfl (r_nilCheck rfl) ⟨rfl, rfl⟩) ?_
   refine WalkC.look rfl (fun _ => pT b19) (fun _ _ _ => rfl) (fun q r uw _ _ _ _ => Gives.run rfl (r_fieldAddr (off' := 0) fld135_0 (by decide) (b := b19) (off := 0) rfl (by omega)) ⟨rfl, rfl⟩) ?_
   refine WalkC.look rfl (fun _ => pT b19) (fun _ _ _ => rfl) (fun q r uw _ _ _ _ => Gives.run rfl (r_fieldAddr (off' := 0) fld131_0 (by decide) (b := b19) (off := 0) rfl (by omega)) ⟨rfl, rfl⟩) ?_
   refine WalkC.look rfl (fun _ => .slice (ownA kytb) zi cctb) (fun _ _ _ => rfl) (fun q r uw hlo hhi hle hF => ?_) ?_
   ·skip
    have h1 : 0 ≤ q := Nat.zero_le _
    have h2 : q ≤ 1 := hhi 1 28 rfl rfl
    rcases (show q = 0 ∨ q = 1 by omega) with rfl | rfl
    ·skip
     have HH := hF
     exact Gives.run rfl (r_loadC (v := .slice (ownA kytb) zi cctb) one49 (HH.get (k := 6) rfl) (off := 0) rfl (by rfl)) ⟨rfl, rfl⟩
    ·skip
     obtain ⟨b78, e27, hS79, HH⟩ := hF
     exact Gives.run rfl (r_loadC (v := .slice (ownA kytb) zi cctb) one49 (HH.get (k := 7) rfl) (off := 0) rfl (by rfl)) ⟨rfl, rfl⟩
   refine WalkC.look rfl (fun _ => .pointer (some ⟨b37, 1, none⟩)) (fun _ _ _ => rfl) (fun q r uw _ _ _ _ => Gives.run rfl (r_indexA (off' := 1) (j := 1) arr136 (b := b37) (off := 0) rfl rfl (by first | rfl | omega | (simp; omega)) (by omega) (by omega)) ⟨rfl, rfl⟩) ?_
   refine WalkC.look rfl (fun _ => u64 (ws.getD ((0 + 5 * zi) + 1) 0#64)) (fun _ _ _ => rfl) (fun q r uw hlo hhi hle hF => ?_) ?_
   ·skip
    have h1 : 0 ≤ q := Nat.zero_le _
    have h2 : q ≤ 0 := hhi 0 27 rfl rfl
    rcases (show q = 0 by omega) with rfl
    ·skip
     have HH := hF
     exact Gives.run rfl (r_ld1 (E := E64) (l := [ws.getD (0 + 5 * zi) 0#64, ws.getD ((0 + 5 * zi) + 1) 0#64, ws.getD ((0 + 5 * zi) + 2) 0#64, ws.getD ((0 + 5 * zi) + 3) 0#64, ws.getD ((0 + 5 * zi) + 4) 0#64]) (j := 1) (a := ws.getD ((0 + 5 * zi) + 1) 0#64) fits32 (HH.get (k := 1) rfl) (by rfl) rfl rfl) ⟨rfl, rfl⟩
   refine WalkC.look rfl (fun _ => .pointer (some ⟨b37, 3, none⟩)) (fun _ _ _ => rfl) (fun q r uw _ _ _ _ => Gives.run rfl (r_indexA (off' := 3) (j := 3) arr136 (b := b37) (off := 0) rfl rfl (by first | rfl | omega | (simp; omega)) (by omega) (by omega)) ⟨rfl, rfl⟩) ?_
   refine WalkC.look rfl (fun _ => u64 (ws.getD ((0 + 5 * zi) + 3) 0#64)) (fun _ _ _ => rfl) (fun q r uw hlo hhi hle hF => ?_) ?_
   ·skip
    have h1 : 0 ≤ q := Nat.zero_le _
    have h2 : q ≤ 0 := hhi 0 27 rfl rfl
    rcases (show q = 0 by omega) with rfl
    ·skip
     have HH := hF
     exact Gives.run rfl (r_ld1 (E := E64) (l := [ws.getD (0 + 5 * zi) 0#64, ws.getD ((0 + 5 * zi) + 1) 0#64, ws.getD ((0 + 5 * zi) + 2) 0#64, ws.getD ((0 + 5 * zi) + 3) 0#64, ws.getD ((0 + 5 * zi) + 4) 0#64]) (j := 3) (a := ws.getD ((0 + 5 * zi) + 3) 0#64) fits32 (HH.get (k := 1) rfl) (by rfl) rfl rfl) ⟨rfl, rfl⟩
   refine WalkC.look rfl (fun _ => pT b37) (fun _ _ _ => rfl) (fun q r uw _ _ _ _ => Gives.run rfl (r_indexA (off' := 0) (j := 0) arr136 (b := b37) (off := 0) rfl rfl (by first | rfl | omega | (simp; omega)) (by omega) (by omega)) ⟨rfl, rfl⟩) ?_
   refine WalkC.look rfl (fun _ => u64 (ws.getD (0 + 5 * zi) 0#64)) (fun _ _ _ => rfl) (fun q r uw hlo hhi hle hF => ?_) ?_
   ·skip
    have h1 : 0 ≤ q := Nat.zero_le _
    have h2 : q ≤ 0 := hhi 0 27 rfl rfl
    rcases (show q = 0 by omega) with rfl
    ·skip
     have HH := hF
     exact Gives.run rfl (r_ld1 (E := E64) (l := [ws.getD (0 + 5 * zi) 0#64, ws.getD ((0 + 5 * zi) + 1) 0#64, ws.getD ((0 + 5 * zi) + 2) 0#64, ws.getD ((0 + 5 * zi) + 3) 0#64, ws.getD ((0 + 5 * zi) + 4) 0#64]) (j := 0) (a := ws.getD (0 + 5 * zi) 0#64) fits32 (HH.get (k := 1) rfl) (by rfl) rfl rfl) ⟨rfl, rfl⟩
   refine WalkC.look rfl (fun _ => .pointer (some ⟨b37, 1, none⟩)) (fun _ _ _ => rfl) (fun q r uw _ _ _ _ => Gives.run rfl (r_indexA (off' := 1) (j := 1) arr136 (b := b37) (off := 0) rfl rfl (by first | rfl | omega | (simp; omega)) (by omega) (by omega)) ⟨rfl, rfl⟩) ?_
   refine WalkC.look rfl (fun _ => u64 (ws.getD ((0 + 5 * zi) + 1) 0#64)) (fun _ _ _ => rfl) (fun q r uw hlo hhi hle hF => ?_) ?_
   ·skip
    have h1 : 0 ≤ q := Nat.zero_le _
    have h2 : q ≤ 0 := hhi 0 27 rfl rfl
    rcases (show q = 0 by omega) with rfl
    ·skip
     have HH := hF
     exact Gives.run rfl (r_ld1 (E := E64) (l := [ws.getD (0 + 5 * zi) 0#64, ws.getD ((0 + 5 * zi) + 1) 0#64, ws.getD ((0 + 5 * zi) + 2) 0#64, ws.getD ((0 + 5 * zi) + 3) 0#64, ws.getD ((0 + 5 * zi) + 4) 0#64]) (j := 1) (a := ws.getD ((0 + 5 * zi) + 1) 0#64) fits32 (HH.get (k := 1) rfl) (by rfl) rfl rfl) ⟨rfl, rfl⟩
   refine WalkC.look rfl (fun _ => u64 ((ws.getD (0 + 5 * zi) 0#64) + (ws.getD ((0 + 5 * zi) + 1) 0#64))) (fun _ _ _ => rfl) (fun q r uw _ _ _ _ => Gives.run rfl (r_add64 (a := ws.getD (0 + 5 * zi) 0#64) (b := ws.getD ((0 + 5 * zi) + 1) 0#64) rfl rfl) ⟨rfl, rfl⟩) ?_
   refine WalkC.look rfl (fun _ => .pointer (some ⟨b37, 2, none⟩)) (fun _ _ _ => rfl) (fun q r uw _ _ _ _ => Gives.run rfl (r_indexA (off' := 2) (j := 2) arr136 (b := b37) (off := 0) rfl rfl (by first | rfl | omega | (simp; omega)) (by omega) (by omega)) ⟨rfl, rfl⟩) ?_
   refine WalkC.look rfl (fun _ => u64 (ws.getD ((0 + 5 * zi) + 2) 0#64)) (fun _ _ _ => rfl) (fun q r uw hlo hhi hle hF => ?_) ?_
   ·skip
    have h1 : 0 ≤ q := Nat.zero_le _
    have h2 : q ≤ 0 := hhi 0 27 rfl rfl
    rcases (show q = 0 by omega) with rfl
    ·skip
     have HH := hF
     exact Gives.run rfl (r_ld1 (E := E64) (l := [ws.getD (0 + 5 * zi) 0#64, ws.getD ((0 + 5 * zi) + 1) 0#64, ws.getD ((0 + 5 * zi) + 2) 0#64, ws.getD ((0 + 5 * zi) + 3) 0#64, ws.getD ((0 + 5 * zi) + 4) 0#64]) (j := 2) (a := ws.getD ((0 + 5 * zi) + 2) 0#64) fits32 (HH.get (k := 1) rfl) (by rfl) rfl rfl) ⟨rfl, rfl⟩
   refine WalkC.look rfl (fun _ => .pointer (some ⟨b37, 3, none⟩)) (fun _ _ _ => rfl) (fun q r uw _ _ _ _ => Gives.run rfl (r_indexA (off' := 3) (j := 3) arr136 (b := b37) (off := 0) rfl rfl (by first | rfl | omega | (simp; omega)) (by omega) (by omega)) ⟨rfl, rfl⟩) ?_
   refine WalkC.look rfl (fun _ => u64 (ws.getD ((0 + 5 * zi) + 3) 0#64)) (fun _ _ _ => rfl) (fun q r uw hlo hhi hle hF => ?_) ?_
   ·skip
    have h1 : 0 ≤ q := Nat.zero_le _
    have h2 : q ≤ 0 := hhi 0 27 rfl rfl
    rcases (show q = 0 by omega) with rfl
    ·skip
     have HH := hF
     exact Gives.run rfl (r_ld1 (E := E64) (l := [ws.getD (0 + 5 * zi) 0#64, ws.getD ((0 + 5 * zi) + 1) 0#64, ws.getD ((0 + 5 * zi) + 2) 0#64, ws.getD ((0 + 5 * zi) + 3) 0#64, ws.getD ((0 + 5 * zi) + 4) 0#64]) (j := 3) (a := ws.getD ((0 + 5 * zi) + 3) 0#64) fits32 (HH.get (k := 1) rfl) (by rfl) rfl rfl) ⟨rfl, rfl⟩
   refine WalkC.look rfl (fun _ => u64 ((ws.getD ((0 + 5 * zi) + 2) 0#64) + (ws.getD ((0 + 5 * zi) + 3) 0#64))) (fun _ _ _ => rfl) (fun q r uw _ _ _ _ => Gives.run rfl (r_add64 (a := ws.getD ((0 + 5 * zi) + 2) 0#64) (b := ws.getD ((0 + 5 * zi) + 3) 0#64) rfl rfl) ⟨rfl, rfl⟩) ?_
   refine WalkC.look rfl (fun _ => u64 (((ws.getD (0 + 5 * zi) 0#64) + (ws.getD ((0 + 5 * zi) + 1) 0#64)) * ((ws.getD ((0 + 5 * zi) + 2) 0#64) + (ws.getD ((0 + 5 * zi) + 3) 0#64)))) (fun _ _ _ => rfl) (fun q r uw _ _ _ _ => Gives.run rfl (r_mul64 (a := (ws.getD (0 + 5 * zi) 0#64) + (ws.getD ((0 + 5 * zi) + 1) 0#64)) (b := (ws.getD ((0 + 5 * zi) + 2) 0#64) + (ws.getD ((0 + 5 * zi) + 3) 0#64)) rfl rfl) ⟨rfl, rfl⟩) ?_
   refine WalkC.look rfl (fun _ => .pointer (some ⟨b37, 4, none⟩)) (fun _ _ _ => rfl) (fun q r uw _ _ _ _ => Gives.run rfl (r_indexA (off' := 4) (j := 4) arr136 (b := b37) (off := 0) rfl rfl (by first | rfl | omega | (simp; omega)) (by omega) (by omega)) ⟨rfl, rfl⟩) ?_
   refine WalkC.look rfl (fun _ => u64 (ws.getD ((0 + 5 * zi) + 4) 0#64)) (fun _ _ _ => rfl) (fun q r uw hlo hhi hle hF => ?_) ?_
   ·skip
    have h1 : 0 ≤ q := Nat.zero_le _
    have h2 : q ≤ 0 := hhi 0 27 rfl rfl
    rcases (show q = 0 by omega) with rfl
    ·skip
     have HH := hF
     exact Gives.run rfl (r_ld1 (E := E64) (l := [ws.getD (0 + 5 * zi) 0#64, ws.getD ((0 + 5 * zi) + 1) 0#64, ws.getD ((0 + 5 * zi) + 2) 0#64, ws.getD ((0 + 5 * zi) + 3) 0#64, ws.getD ((0 + 5 * zi) + 4) 0#64]) (j := 4) (a := ws.getD ((0 + 5 * zi) + 4) 0#64) fits32 (HH.get (k := 1) rfl) (by rfl) rfl rfl) ⟨rfl, rfl⟩
   refine WalkC.look rfl (fun _ => u64 ((((ws.getD (0 + 5 * zi) 0#64) + (ws.getD ((0 + 5 * zi) + 1) 0#64)) * ((ws.getD ((0 + 5 * zi) + 2) 0#64) + (ws.getD ((0 + 5 * zi) + 3) 0#64))) - (ws.getD ((0 + 5 * zi) + 4) 0#64))) (fun _ _ _ => rfl) (fun q r uw _ _ _ _ => Gives.run rfl (r_sub64 (a := ((ws.getD (0 + 5 * zi) 0#64) + (ws.getD ((0 + 5 * zi) + 1) 0#64)) * ((ws.getD ((0 + 5 * zi) + 2) 0#64) + (ws.getD ((0 + 5 * zi) + 3) 0#64))) (b := ws.getD ((0 + 5 * zi) + 4) 0#64) rfl rfl) ⟨rfl, rfl⟩) ?_
   refine WalkC.look rfl (fun _ => .agg #[u64 (ws.getD ((0 + 5 * zi) + 1) 0#64), u64 (ws.getD ((0 + 5 * zi) + 3) 0#64), u64 ((((ws.getD (0 + 5 * zi) 0#64) + (ws.getD ((0 + 5 * zi) + 1) 0#64)) * ((ws.getD ((0 + 5 * zi) + 2) 0#64) + (ws.getD ((0 + 5 * zi) + 3) 0#64))) - (ws.getD ((0 + 5 * zi) + 4) 0#64))]) (fun _ _ _ => rfl) (fun q r uw _ _ _ _ => Gives.run rfl (r_build (cs' := #[u64 (ws.getD ((0 + 5 * zi) + 1) 0#64), u64 (ws.getD ((0 + 5 * zi) + 3) 0#64), u64 ((((ws.getD (0 + 5 * zi) 0#64) + (ws.getD ((0 + 5 * zi) + 1) 0#64)) * ((ws.getD ((0 + 5 * zi) + 2) 0#64) + (ws.getD ((0 + 5 * zi) + 3) 0#64))) - (ws.getD ((0 + 5 * zi) + 4) 0#64))]) (ps := [(0, u64 (ws.getD ((0 + 5 * zi) + 1) 0#64)), (1, u64 (ws.getD ((0 + 5 * zi) + 3) 0#64)), (2, u64 ((((ws.getD (0 + 5 * zi) 0#64) + (ws.getD ((0 + 5 * zi) + 1) 0#64)) * ((ws.getD ((0 + 5 * zi) + 2) 0#64) + (ws.getD ((0 + 5 * zi) + 3) 0#64))) - (ws.getD ((0 + 5 * zi) + 4) 0#64)))]) zer34 pls34 rfl (by rfl)) ⟨rfl, rfl⟩) ?_
   refine WalkC.eff 0 rfl (fun r uw75 hF77 => ?_) ?_
   ·skip
    have H76 := hF77
    dsimp only [List.take, List.map, List.cons_append, List.nil_append]
    refine Gives.ofW (d := 109) rfl rfl (fun Q' hK => ?_)
    refine q_buildSlice (E := ETr) (l := ([⟨ws.getD ((0 + 5 * zi) + 1) 0#64, ws.getD ((0 + 5 * zi) + 3) 0#64, (((ws.getD (0 + 5 * zi) 0#64) + (ws.getD ((0 + 5 * zi) + 1) 0#64)) * ((ws.getD ((0 + 5 * zi) + 2) 0#64) + (ws.getD ((0 + 5 * zi) + 3) 0#64))) - (ws.getD ((0 + 5 * zi) + 4) 0#64)⟩] : List Tr)) H76 sli49 zer34 (bLe rfl) (ps := [(0, .agg #[u64 (ws.getD ((0 + 5 * zi) + 1) 0#64), u64 (ws.getD ((0 + 5 * zi) + 3) 0#64), u64 ((((ws.getD (0 + 5 * zi) 0#64) + (ws.getD ((0 + 5 * zi) + 1) 0#64)) * ((ws.getD ((0 + 5 * zi) + 2) 0#64) + (ws.getD ((0 + 5 * zi) + 3) 0#64))) - (ws.getD ((0 + 5 * zi) + 4) 0#64))])]) rfl (by exact fillAll rfl rfl) rfl ?_
    intro b78 w80 hS79 H81 hE82
    exact hK _ _ ⟨b78, rfl, hS79, H81⟩
   refine WalkC.eff 1 rfl (fun r uw83 hF85 => ?_) ?_
   ·skip
    obtain ⟨b78, e27, hS79, H84⟩ := hF85
    dsimp only [List.take, List.map, List.cons_append, List.nil_append]
    rw [e27]
    refine Gives.ofW (d := 110) rfl rfl (fun Q' hK => ?_)
    refine q_append (E := ETr) (k := 9) (l := rowsOf (trB ws) 0 zi) (l2 := ([⟨ws.getD ((0 + 5 * zi) + 1) 0#64, ws.getD ((0 + 5 * zi) + 3) 0#64, (((ws.getD (0 + 5 * zi) 0#64) + (ws.getD ((0 + 5 * zi) + 1) 0#64)) * ((ws.getD ((0 + 5 * zi) + 2) 0#64) + (ws.getD ((0 + 5 * zi) + 3) 0#64))) - (ws.getD ((0 + 5 * zi) + 4) 0#64)⟩] : List Tr)) H84 rfl hkytb sli49 zer34 rfl byt34 (H84.rd (k := 0) rfl hS79) rfl (by rw [rowsOf_len]) rfl (by rfl) (by omega) ?_
    intro key86 c87 sp88 w90 hS89 hne92 H91
    have H91' := H91.as (L' := (((some b78), sob ETr 34 ([⟨ws.getD ((0 + 5 * zi) + 1) 0#64, ws.getD ((0 + 5 * zi) + 3) 0#64, (((ws.getD (0 + 5 * zi) 0#64) + (ws.getD ((0 + 5 * zi) + 1) 0#64)) * ((ws.getD ((0 + 5 * zi) + 2) 0#64) + (ws.getD ((0 + 5 * zi) + 3) 0#64))) - (ws.getD ((0 + 5 * zi) + 4) 0#64)⟩] : List Tr) ([])) :: ((some b47), sob ETr 34 ([⟨ws.getD (0 + 5 * zi) 0#64, ws.getD ((0 + 5 * zi) + 2) 0#64, ws.getD ((0 + 5 * zi) + 4) 0#64⟩] : List Tr) ([])) :: (some b37, .cells (cel E64 ([ws.getD (0 + 5 * zi) 0#64, ws.getD ((0 + 5 * zi) + 1) 0#64, ws.getD ((0 + 5 * zi) + 2) 0#64, ws.getD ((0 + 5 * zi) + 3) 0#64, ws.getD ((0 + 5 * zi) + 4) 0#64])).toArray 136 (0, 0)) :: (some b, .cells #[.slice (ownA key) ws.length c, .pointer none, i64 (ws.length : Nat), i64 (((0 + 5 * zi) + 5 : Nat))] 141 (0, 0)) :: (key, sob E64 32 ws sp) :: (some b23, .cells #[pT b15, pT b19] 25 (0, 0)) :: (some b15, .cells #[.slice (ownA key55) (zi + 1) c56, .slice none 0 0, .slice none 0 0] 135 (0, 0)) :: (some b19, .cells #[.slice (ownA kytb) zi cctb, .slice none 0 0, .slice none 0 0] 135 (0, 0)) :: (key55, sob ETr 34 (rowsOf (trA ws) 0 (zi + 1)) sp57) :: (key86, sob ETr 34 ((rowsOf (trB ws) 0 zi) ++ ([⟨ws.getD ((0 + 5 * zi) + 1) 0#64, ws.getD ((0 + 5 * zi) + 3) 0#64, (((ws.getD (0 + 5 * zi) 0#64) + (ws.getD ((0 + 5 * zi) + 1) 0#64)) * ((ws.getD ((0 + 5 * zi) + 2) 0#64) + (ws.getD ((0 + 5 * zi) + 3) 0#64))) - (ws.getD ((0 + 5 * zi) + 4) 0#64)⟩] : List Tr)) sp88) :: (some b1, .cells #[.pointer none, .pointer none] 25 (0, 0)) :: R)) rfl
    clear H91
    have e93 : (rowsOf (trB ws) 0 zi) ++ ([⟨ws.getD ((0 + 5 * zi) + 1) 0#64, ws.getD ((0 + 5 * zi) + 3) 0#64, (((ws.getD (0 + 5 * zi) 0#64) + (ws.getD ((0 + 5 * zi) + 1) 0#64)) * ((ws.getD ((0 + 5 * zi) + 2) 0#64) + (ws.getD ((0 + 5 * zi) + 3) 0#64))) - (ws.getD ((0 + 5 * zi) + 4) 0#64)⟩] : List Tr) = rowsOf (trB ws) 0 (zi + 1) := by rw [rowsOf_succ]; rfl
    have hS94 := hS89
    rw [e93] at hS94
    have H95 := H91'.as (L' := (((some b78), sob ETr 34 ([⟨ws.getD ((0 + 5 * zi) + 1) 0#64, ws.getD ((0 + 5 * zi) + 3) 0#64, (((ws.getD (0 + 5 * zi) 0#64) + (ws.getD ((0 + 5 * zi) + 1) 0#64)) * ((ws.getD ((0 + 5 * zi) + 2) 0#64) + (ws.getD ((0 + 5 * zi) + 3) 0#64))) - (ws.getD ((0 + 5 * zi) + 4) 0#64)⟩] : List Tr) ([])) :: ((some b47), sob ETr 34 ([⟨ws.getD (0 + 5 * zi) 0#64, ws.getD ((0 + 5 * zi) + 2) 0#64, ws.getD ((0 + 5 * zi) + 4) 0#64⟩] : List Tr) ([])) :: (some b37, .cells (cel E64 ([ws.getD (0 + 5 * zi) 0#64, ws.getD ((0 + 5 * zi) + 1) 0#64, ws.getD ((0 + 5 * zi) + 2) 0#64, ws.getD ((0 + 5 * zi) + 3) 0#64, ws.getD ((0 + 5 * zi) + 4) 0#64])).toArray 136 (0, 0)) :: (some b, .cells #[.slice (ownA key) ws.length c, .pointer none, i64 (ws.length : Nat), i64 (((0 + 5 * zi) + 5 : Nat))] 141 (0, 0)) :: (key, sob E64 32 ws sp) :: (some b23, .cells #[pT b15, pT b19] 25 (0, 0)) :: (some b15, .cells #[.slice (ownA key55) (zi + 1) c56, .slice none 0 0, .slice none 0 0] 135 (0, 0)) :: (some b19, .cells #[.slice (ownA kytb) zi cctb, .slice none 0 0, .slice none 0 0] 135 (0, 0)) :: (key55, sob ETr 34 (rowsOf (trA ws) 0 (zi + 1)) sp57) :: (key86, sob ETr 34 (rowsOf (trB ws) 0 (zi + 1)) sp88) :: (some b1, .cells #[.pointer none, .pointer none] 25 (0, 0)) :: R)) (by rw [e93])
    exact hK _ _ ⟨b78, key86, c87, sp88, rfl, rfl, hS79, hS94, H95⟩
   refine WalkC.look rfl (fun _ => pT b19) (fun _ _ _ => rfl) (fun q r uw _ _ _ _ => Gives.run rfl (r_nilCheck rfl) ⟨rfl, rfl⟩) ?_
   refine WalkC.look rfl (fun _ => pT b19) (fun _ _ _ => rfl) (fun q r uw _ _ _ _ => Gives.run rfl (r_fieldAddr (off' := 0) fld135_0 (by decide) (b := b19) (off := 0) rfl (by omega)) ⟨rfl, rfl⟩) ?_
   refine WalkC.look rfl (fun _ => pT b19) (fun _ _ _ => rfl) (fun q r uw _ _ _ _ => Gives.run rfl (r_fieldAddr (off' := 0) fld131_0 (by decide) (b := b19) (off := 0) rfl (by omega)) ⟨rfl, rfl⟩) ?_
   refine WalkC.eff 2 rfl (fun r uw96 hF98 => ?_) ?_
   ·skip
    obtain ⟨b78, key86, c87, sp88, e27, e28, hS79, hS94, H97⟩ := hF98
    dsimp only [List.take, List.map, List.cons_append, List.nil_append]
    rw [e27, e28]
    refine Gives.ofW0 rfl (fun Q' hK => ?_)
    refine d_store (k := 7) (v := .slice (ownA key86) (zi + 1) c87) (cs' := #[.slice (ownA key86) (zi + 1) c87, .slice none 0 0, .slice none 0 0]) H97 rfl rfl rfl siz49 (by rfl) (by intro u hu; simp [Value.cells] at hu; first | (subst hu; rfl) | (rcases hu with rfl <;> rfl)) (by exact bLe rfl) (by rfl) ?_
    intro w99 H100 hC101
    have H100' := H100.as (L' := (((some b78), sob ETr 34 ([⟨ws.getD ((0 + 5 * zi) + 1) 0#64, ws.getD ((0 + 5 * zi) + 3) 0#64, (((ws.getD (0 + 5 * zi) 0#64) + (ws.getD ((0 + 5 * zi) + 1) 0#64)) * ((ws.getD ((0 + 5 * zi) + 2) 0#64) + (ws.getD ((0 + 5 * zi) + 3) 0#64))) - (ws.getD ((0 + 5 * zi) + 4) 0#64)⟩] : List Tr) ([])) :: ((some b47), sob ETr 34 ([⟨ws.getD (0 + 5 * zi) 0#64, ws.getD ((0 + 5 * zi) + 2) 0#64, ws.getD ((0 + 5 * zi) + 4) 0#64⟩] : List Tr) ([])) :: (some b37, .cells (cel E64 ([ws.getD (0 + 5 * zi) 0#64, ws.getD ((0 + 5 * zi) + 1) 0#64, ws.getD ((0 + 5 * zi) + 2) 0#64, ws.getD ((0 + 5 * zi) + 3) 0#64, ws.getD ((0 + 5 * zi) + 4) 0#64])).toArray 136 (0, 0)) :: (some b, .cells #[.slice (ownA key) ws.length c, .pointer none, i64 (ws.length : Nat), i64 (((0 + 5 * zi) + 5 : Nat))] 141 (0, 0)) :: (key, sob E64 32 ws sp) :: (some b23, .cells #[pT b15, pT b19] 25 (0, 0)) :: (some b15, .cells #[.slice (ownA key55) (zi + 1) c56, .slice none 0 0, .slice none 0 0] 135 (0, 0)) :: (some b19, .cells #[.slice (ownA key86) (zi + 1) c87, .slice none 0 0, .slice none 0 0] 135 (0, 0)) :: (key55, sob ETr 34 (rowsOf (trA ws) 0 (zi + 1)) sp57) :: (key86, sob ETr 34 (rowsOf (trB ws) 0 (zi + 1)) sp88) :: (some b1, .cells #[.pointer none, .pointer none] 25 (0, 0)) :: R)) rfl
    clear H100
    exact hK _ (fun _ => ⟨b78, key86, c87, sp88, rfl, rfl, trivial, hS79, hS94, H100'⟩)
   refine WalkC.nil ?_
   intro r102 w103 hF105
   obtain ⟨b78, key86, c87, sp88, e27, e28, e32, hS79, hS94, H104⟩ := hF105
   dsimp only
   rw [e27, e28]
   refine wnil ?_
   refine blockNormal ?_
   refine thenNormal ?_
   refine oneRegion ?_
   refine sq (r_addI (a := (zi : Nat)) (b := (1 : Int)) rfl rfl (by omega)) ?_
   refine sM (i64 ((zi : Nat) + (1 : Int))) rfl ?_
   refine wnil ?_
   refine thenNormal ?_
   rw [show (0 + 5 * zi) + 5 = 0 + 5 * (zi + 1) by omega] at H104
   exact ⟨(zi + 1, key55, c56, sp57, key86, c87, sp88), _, rfl, ⟨rfl, rfl, rfl, rfl, rfl, rfl, rfl, rfl, rfl, trivial⟩, ⟨⟨by omega, hS63, hS94⟩, (H104.pick 11 [5, 6, 7, 8, 9, 10, 3, 4] (by decide) (by decide))⟩, by show n1 - (zi + 1) < n1 - zi; omega⟩
  ·skip
   obtain rfl : n1 = zi := by omega
   refine exitAny ?_
   refine thenExit ?_
   refine thenExit ?_
   refine blockHere ?_
   refine thenNormal ?_
   refine seqAny ?_
   refine sR ?_
   refine sM (i64 (n2 : Nat)) rfl ?_
   refine sM (i64 ((0 : Int))) rfl ?_
   refine wend ?_
   refine blockAny ?_
   refine loopAny (σ := Nat × Option Nat × Nat × List Value × Option Nat × Nat × List Value) (fun (zi, kyba, ccba, zzba, kybb, ccbb, zzbb) => [(0, pT b), (1, i64 (n1 : Nat)), (2, i64 (n2 : Nat)), (3, i64 (n3 : Nat)), (8, pT b1), (9, .nilIface), (12, pT b23), (115, i64 (n2 : Nat)), (116, i64 (zi : Nat))]) (fun (zi, kyba, ccba, zzba, kybb, ccbb, zzbb) w' => (zi ≤ n2 ∧ Sl ETr kyba (rowsOf (trA ws) (5 * n1) zi) ccba zzba ∧ Sl ETr kybb (rowsOf (biB ws) (5 * n1) zi) ccbb zzbb) ∧ Hp No w₀ w' ((some b23, .cells #[pT b15, pT b19] 25 (0, 0)) :: (some b15, .cells #[.slice (ownA kyta) n1 ccta, .slice (ownA kyba) zi ccba, .slice none 0 0] 135 (0, 0)) :: (some b19, .cells #[.slice (ownA kytb) n1 cctb, .slice (ownA kybb) zi ccbb, .slice none 0 0] 135 (0, 0)) :: (kyta, sob ETr 34 (rowsOf (trA ws) 0 n1) zzta) :: (kytb, sob ETr 34 (rowsOf (trB ws) 0 n1) zztb) :: (kyba, sob ETr 34 (rowsOf (trA ws) (5 * n1) zi) zzba) :: (kybb, sob ETr 34 (rowsOf (biB ws) (5 * n1) zi) zzbb) :: (some b1, .cells #[.pointer none, .pointer none] 25 (0, 0)) :: (some b, .cells #[.slice (ownA key) ws.length c, .pointer none, i64 (ws.length : Nat), i64 ((5 * n1 + 5 * zi : Nat))] 141 (0, 0)) :: (key, sob E64 32 ws sp) :: R)) (fun (zi, kyba, ccba, zzba, kybb, ccbb, zzbb) => n2 - zi) ((0, none, 0, [], none, 0, [])) ?_ ?_ ?_
   ·exact ⟨rfl, rfl, rfl, rfl, rfl, rfl, rfl, rfl, rfl, trivial⟩
   rw [show 0 + 5 * n1 = 5 * n1 + 5 * 0 by omega] at HL0
   ·exact ⟨⟨Nat.zero_le _, Sl.none, Sl.none⟩, (((HL0.nil (sob ETr 34 [] [])).nil (sob ETr 34 [] [])).pick 10 [2, 3, 4, 5, 6, 1, 0, 7, 8, 9] (by decide) (by decide))⟩
   rintro ⟨zi, kyba, ccba, zzba, kybb, ccbb, zzbb⟩ ρ w106 ⟨⟨hzi, hkyba, hkybb⟩, HL1⟩
   refine sR ?_
   refine sq (r_lssI (a := (zi : Nat)) (b := (n2 : Nat)) rfl rfl) ?_
   refine wend ?_
   refine seqAny ?_
   refine condProp (((zi : Nat) : Int) < (n2 : Nat)) rfl (fun c117 => ?_) (fun c117 => ?_)
   ·skip
    refine skipAny ?_
    refine thenNormal ?_
    refine seqAny ?_
    refine blockAny ?_
    refine sR ?_
    refine sM (pT b) rfl ?_
    have H108 := ((HL1.pick 10 [8, 9, 0, 1, 2, 3, 4, 5, 6, 7] (by decide) (by decide))).as (L' := ((some b, .cells #[.slice (ownA key) ws.length c, .pointer none, i64 (ws.length : Nat), i64 ((5 * n1 + 5 * zi : Nat))] 141 (0, 0)) :: (key, sob E64 32 ws sp) :: ((some b23, .cells #[pT b15, pT b19] 25 (0, 0)) :: (some b15, .cells #[.slice (ownA kyta) n1 ccta, .slice (ownA kyba) zi ccba, .slice none 0 0] 135 (0, 0)) :: (some b19, .cells #[.slice (ownA kytb) n1 cctb, .slice (ownA kybb) zi ccbb, .slice none 0 0] 135 (0, 0)) :: (kyta, sob ETr 34 (rowsOf (trA ws) 0 n1) zzta) :: (kytb, sob ETr 34 (rowsOf (trB ws) 0 n1) zztb) :: (kyba, sob ETr 34 (rowsOf (trA ws) (5 * n1) zi) zzba) :: (kybb, sob ETr 34 (rowsOf (biB ws) (5 * n1) zi) zzbb) :: (some b1, .cells #[.pointer none, .pointer none] 25 (0, 0)) :: R))) rfl
    refine c_call (vs := [pT b]) call65 rfl (five_ok b key c sp ws hSw hlen (5 * n1 + 5 * zi) (by omega) ((some b23, .cells #[pT b15, pT b19] 25 (0, 0)) :: (some b15, .cells #[.slice (ownA kyta) n1 ccta, .slice (ownA kyba) zi ccba, .slice none 0 0] 135 (0, 0)) :: (some b19, .cells #[.slice (ownA kytb) n1 cctb, .slice (ownA kybb) zi ccbb, .slice none 0 0] 135 (0, 0)) :: (kyta, sob ETr 34 (rowsOf (trA ws) 0 n1) zzta) :: (kytb, sob ETr 34 (rowsOf (trB ws) 0 n1) zztb) :: (kyba, sob ETr 34 (rowsOf (trA ws) (5 * n1) zi) zzba) :: (kybb, sob ETr 34 (rowsOf (biB ws) (5 * n1) zi) zzbb) :: (some b1, .cells #[.pointer none, .pointer none] 25 (0, 0)) :: R) w₀ w106 H108) ?_
    rintro _ w109 ⟨rfl, HN111⟩
    have H112 := HN111.as (L' := ((some b, .cells #[.slice (ownA key) ws.length c, .pointer none, i64 (ws.length : Nat), i64 (((5 * n1 + 5 * zi) + 5 : Nat))] 141 (0, 0)) :: (key, sob E64 32 ws sp) :: (some b23, .cells #[pT b15, pT b19] 25 (0, 0)) :: (some b15, .cells #[.slice (ownA kyta) n1 ccta, .slice (ownA kyba) zi ccba, .slice none 0 0] 135 (0, 0)) :: (some b19, .cells #[.slice (ownA kytb) n1 cctb, .slice (ownA kybb) zi ccbb, .slice none 0 0] 135 (0, 0)) :: (kyta, sob ETr 34 (rowsOf (trA ws) 0 n1) zzta) :: (kytb, sob ETr 34 (rowsOf (trB ws) 0 n1) zztb) :: (kyba, sob ETr 34 (rowsOf (trA ws) (5 * n1) zi) zzba) :: (kybb, sob ETr 34 (rowsOf (biB ws) (5 * n1) zi) zzbb) :: (some b1, .cells #[.pointer none, .pointer none] 25 (0, 0)) :: R)) rfl
    refine q_alloc (o := .cells (cel E64 (List.replicate 5 0#64)).toArray 136 (0, 0)) H112 zer136 (by kernel_rfl) ?_
    intro b113 w114 hb113 H115 hE116
    refine d_store (k := 0) (v := .agg (cel E64 [ws.getD (5 * n1 + 5 * zi) 0#64, ws.getD ((5 * n1 + 5 * zi) + 1) 0#64, ws.getD ((5 * n1 + 5 * zi) + 2) 0#64, ws.getD ((5 * n1 + 5 * zi) + 3) 0#64, ws.getD ((5 * n1 + 5 * zi) + 4) 0#64]).toArray) (cs' := (cel E64 ([ws.getD (5 * n1 + 5 * zi) 0#64, ws.getD ((5 * n1 + 5 * zi) + 1) 0#64, ws.getD ((5 * n1 + 5 * zi) + 2) 0#64, ws.getD ((5 * n1 + 5 * zi) + 3) 0#64, ws.getD ((5 * n1 + 5 * zi) + 4) 0#64])).toArray) H115 rfl rfl rfl siz136 (by exact celSize (by first | rfl | (show _ * 1 = _; omega))) (by exact celOne _) (by rw [List.size_toArray, cel_length]; show _ ≤ _ * 1; first | omega | (simp only [List.length_set]; omega) | exact bLe rfl | (simp <;> omega)) (by exact putAll (by first | rfl | omega | (simp <;> omega))) ?_
    intro w117 H118 hC119
    have H118' := H118.as (L' := ((some b113, .cells (cel E64 ([ws.getD (5 * n1 + 5 * zi) 0#64, ws.getD ((5 * n1 + 5 * zi) + 1) 0#64, ws.getD ((5 * n1 + 5 * zi) + 2) 0#64, ws.getD ((5 * n1 + 5 * zi) + 3) 0#64, ws.getD ((5 * n1 + 5 * zi) + 4) 0#64])).toArray 136 (0, 0)) :: (some b, .cells #[.slice (ownA key) ws.length c, .pointer none, i64 (ws.length : Nat), i64 (((5 * n1 + 5 * zi) + 5 : Nat))] 141 (0, 0)) :: (key, sob E64 32 ws sp) :: (some b23, .cells #[pT b15, pT b19] 25 (0, 0)) :: (some b15, .cells #[.slice (ownA kyta) n1 ccta, .slice (ownA kyba) zi ccba, .slice none 0 0] 135 (0, 0)) :: (some b19, .cells #[.slice (ownA kytb) n1 cctb, .slice (ownA kybb) zi ccbb, .slice none 0 0] 135 (0, 0)) :: (kyta, sob ETr 34 (rowsOf (trA ws) 0 n1) zzta) :: (kytb, sob ETr 34 (rowsOf (trB ws) 0 n1) zztb) :: (kyba, sob ETr 34 (rowsOf (trA ws) (5 * n1) zi) zzba) :: (kybb, sob ETr 34 (rowsOf (biB ws) (5 * n1) zi) zzbb) :: (some b1, .cells #[.pointer none, .pointer none] 25 (0, 0)) :: R)) rfl
    clear H118
    refine wend ?_
    refine seqAny ?_
    refine drawC (m := 21) [0, 1, 0, 4, 12, 28, 60, 124, 0, 256, 0, 1024, 0, 4096, 16128, 32512, 65532, 131071, 262143, 524287, 1048575] [15, 16, 20] (fun q vs w' => match q, vs with | 0, [] => Hp No w₀ w' ((some b113, .cells (cel E64 ([ws.getD (5 * n1 + 5 * zi) 0#64, ws.getD ((5 * n1 + 5 * zi) + 1) 0#64, ws.getD ((5 * n1 + 5 * zi) + 2) 0#64, ws.getD ((5 * n1 + 5 * zi) + 3) 0#64, ws.getD ((5 * n1 + 5 * zi) + 4) 0#64])).toArray 136 (0, 0)) :: (some b, .cells #[.slice (ownA key) ws.length c, .pointer none, i64 (ws.length : Nat), i64 (((5 * n1 + 5 * zi) + 5 : Nat))] 141 (0, 0)) :: (key, sob E64 32 ws sp) :: (some b23, .cells #[pT b15, pT b19] 25 (0, 0)) :: (some b15, .cells #[.slice (ownA kyta) n1 ccta, .slice (ownA kyba) zi ccba, .slice none 0 0] 135 (0, 0)) :: (some b19, .cells #[.slice (ownA kytb) n1 cctb, .slice (ownA kybb) zi ccbb, .slice none 0 0] 135 (0, 0)) :: (kyta, sob ETr 34 (rowsOf (trA ws) 0 n1) zzta) :: (kytb, sob ETr 34 (rowsOf (trB ws) 0 n1) zztb) :: (kyba, sob ETr 34 (rowsOf (trA ws) (5 * n1) zi) zzba) :: (kybb, sob ETr 34 (rowsOf (biB ws) (5 * n1) zi) zzbb) :: (some b1, .cells #[.pointer none, .pointer none] 25 (0, 0)) :: R) | 1, [v0] => ∃ (b123 : Nat), v0 = .slice (ownA (some b123)) 1 1 ∧ Sl ETr (some b123) ([⟨ws.getD (5 * n1 + 5 * zi) 0#64, ws.getD ((5 * n1 + 5 * zi) + 2) 0#64, ws.getD ((5 * n1 + 5 * zi) + 4) 0#64⟩] : List Tr) 1 ([]) ∧ Hp No w₀ w' (((some b123), sob ETr 34 ([⟨ws.getD (5 * n1 + 5 * zi) 0#64, ws.getD ((5 * n1 + 5 * zi) + 2) 0#64, ws.getD ((5 * n1 + 5 * zi) + 4) 0#64⟩] : List Tr) ([])) :: (some b113, .cells (cel E64 ([ws.getD (5 * n1 + 5 * zi) 0#64, ws.getD ((5 * n1 + 5 * zi) + 1) 0#64, ws.getD ((5 * n1 + 5 * zi) + 2) 0#64, ws.getD ((5 * n1 + 5 * zi) + 3) 0#64, ws.getD ((5 * n1 + 5 * zi) + 4) 0#64])).toArray 136 (0, 0)) :: (some b, .cells #[.slice (ownA key) ws.length c, .pointer none, i64 (ws.length : Nat), i64 (((5 * n1 + 5 * zi) + 5 : Nat))] 141 (0, 0)) :: (key, sob E64 32 ws sp) :: (some b23, .cells #[pT b15, pT b19] 25 (0, 0)) :: (some b15, .cells #[.slice (ownA kyta) n1 ccta, .slice (ownA kyba) zi ccba, .slice none 0 0] 135 (0, 0)) :: (some b19, .cells #[.slice (ownA kytb) n1 cctb, .slice (ownA kybb) zi ccbb, .slice none 0 0] 135 (0, 0)) :: (kyta, sob ETr 34 (rowsOf (trA ws) 0 n1) zzta) :: (kytb, sob ETr 34 (rowsOf (trB ws) 0 n1) zztb) :: (kyba, sob ETr 34 (rowsOf (trA ws) (5 * n1) zi) zzba) :: (kybb, sob ETr 34 (rowsOf (biB ws) (5 * n1) zi) zzbb) :: (some b1, .cells #[.pointer none, .pointer none] 25 (0, 0)) :: R) | 2, [v0, v1] => ∃ (b123 : Nat) (key131 : Option Nat) (c132 : Nat) (sp133 : List Value), v0 = .slice (ownA (some b123)) 1 1 ∧ v1 = .slice (ownA key131) (zi + 1) c132 ∧ Sl ETr (some b123) ([⟨ws.getD (5 * n1 + 5 * zi) 0#64, ws.getD ((5 * n1 + 5 * zi) + 2) 0#64, ws.getD ((5 * n1 + 5 * zi) + 4) 0#64⟩] : List Tr) 1 ([]) ∧ Sl ETr key131 (rowsOf (trA ws) (5 * n1) (zi + 1)) c132 sp133 ∧ Hp No w₀ w' (((some b123), sob ETr 34 ([⟨ws.getD (5 * n1 + 5 * zi) 0#64, ws.getD ((5 * n1 + 5 * zi) + 2) 0#64, ws.getD ((5 * n1 + 5 * zi) + 4) 0#64⟩] : List Tr) ([])) :: (some b113, .cells (cel E64 ([ws.getD (5 * n1 + 5 * zi) 0#64, ws.getD ((5 * n1 + 5 * zi) + 1) 0#64, ws.getD ((5 * n1 + 5 * zi) + 2) 0#64, ws.getD ((5 * n1 + 5 * zi) + 3) 0#64, ws.getD ((5 * n1 + 5 * zi) + 4) 0#64])).toArray 136 (0, 0)) :: (some b, .cells #[.slice (ownA key) ws.length c, .pointer none, i64 (ws.length : Nat), i64 (((5 * n1 + 5 * zi) + 5 : Nat))] 141 (0, 0)) :: (key, sob E64 32 ws sp) :: (some b23, .cells #[pT b15, pT b19] 25 (0, 0)) :: (some b15, .cells #[.slice (ownA kyta) n1 ccta, .slice (ownA kyba) zi ccba, .slice none 0 0] 135 (0, 0)) :: (some b19, .cells #[.slice (ownA kytb) n1 cctb, .slice (ownA kybb) zi ccbb, .slice none 0 0] 135 (0, 0)) :: (kyta, sob ETr 34 (rowsOf (trA ws) 0 n1) zzta) :: (kytb, sob ETr 34 (rowsOf (trB ws) 0 n1) zztb) :: (key131, sob ETr 34 (rowsOf (trA ws) (5 * n1) (zi + 1)) sp133) :: (kybb, sob ETr 34 (rowsOf (biB ws) (5 * n1) zi) zzbb) :: (some b1, .cells #[.pointer none, .pointer none] 25 (0, 0)) :: R) | 3, [v0, v1, _] => ∃ (b123 : Nat) (key131 : Option Nat) (c132 : Nat) (sp133 : List Value), v0 = .slice (ownA (some b123)) 1 1 ∧ v1 = .slice (ownA key131) (zi + 1) c132 ∧ True ∧ Sl ETr (some b123) ([⟨ws.getD (5 * n1 + 5 * zi) 0#64, ws.getD ((5 * n1 + 5 * zi) + 2) 0#64, ws.getD ((5 * n1 + 5 * zi) + 4) 0#64⟩] : List Tr) 1 ([]) ∧ Sl ETr key131 (rowsOf (trA ws) (5 * n1) (zi + 1)) c132 sp133 ∧ Hp No w₀ w' (((some b123), sob ETr 34 ([⟨ws.getD (5 * n1 + 5 * zi) 0#64, ws.getD ((5 * n1 + 5 * zi) + 2) 0#64, ws.getD ((5 * n1 + 5 * zi) + 4) 0#64⟩] : List Tr) ([])) :: (some b113, .cells (cel E64 ([ws.getD (5 * n1 + 5 * zi) 0#64, ws.getD ((5 * n1 + 5 * zi) + 1) 0#64, ws.getD ((5 * n1 + 5 * zi) + 2) 0#64, ws.getD ((5 * n1 + 5 * zi) + 3) 0#64, ws.getD ((5 * n1 + 5 * zi) + 4) 0#64])).toArray 136 (0, 0)) :: (some b, .cells #[.slice (ownA key) ws.length c, .pointer none, i64 (ws.length : Nat), i64 (((5 * n1 + 5 * zi) + 5 : Nat))] 141 (0, 0)) :: (key, sob E64 32 ws sp) :: (some b23, .cells #[pT b15, pT b19] 25 (0, 0)) :: (some b15, .cells #[.slice (ownA kyta) n1 ccta, .slice (ownA key131) (zi + 1) c132, .slice none 0 0] 135 (0, 0)) :: (some b19, .cells #[.slice (ownA kytb) n1 cctb, .slice (ownA kybb) zi ccbb, .slice none 0 0] 135 (0, 0)) :: (kyta, sob ETr 34 (rowsOf (trA ws) 0 n1) zzta) :: (kytb, sob ETr 34 (rowsOf (trB ws) 0 n1) zztb) :: (key131, sob ETr 34 (rowsOf (trA ws) (5 * n1) (zi + 1)) sp133) :: (kybb, sob ETr 34 (rowsOf (biB ws) (5 * n1) zi) zzbb) :: (some b1, .cells #[.pointer none, .pointer none] 25 (0, 0)) :: R) | _, _ => False) mixed (by kernel_rfl) (by kernel_rfl) H118'.drew ?_
    refine WalkC.look rfl (fun _ => pT b23) (fun _ _ _ => rfl) (fun q r uw _ _ _ _ => Gives.run rfl (r_indexA (off' := 0) (j := 0) arr25 (b := b23) (off := 0) rfl rfl (by first | rfl | omega | (simp; omega)) (by omega) (by omega)) ⟨rfl, rfl⟩) ?_
    refine WalkC.look rfl (fun _ => pT b15) (fun _ _ _ => rfl) (fun q r uw hlo hhi hle hF => ?_) ?_
    ·skip
     have h1 : 0 ≤ q := Nat.zero_le _
     have h2 : q ≤ 2 := hhi 2 20 rfl rfl
     rcases (show q = 0 ∨ q = 1 ∨ q = 2 by omega) with rfl | rfl | rfl
     ·skip
      have HH := hF
      exact Gives.run rfl (r_loadC (v := pT b15) one24 (HH.get (k := 3) rfl) (off := 0) rfl (by rfl)) ⟨rfl, rfl⟩
     ·skip
      obtain ⟨b123, e15, hS124, HH⟩ := hF
      exact Gives.run rfl (r_loadC (v := pT b15) one24 (HH.get (k := 4) rfl) (off := 0) rfl (by rfl)) ⟨rfl, rfl⟩
     ·skip
      obtain ⟨b123, key131, c132, sp133, e15, e16, hS124, hS139, HH⟩ := hF
      exact Gives.run rfl (r_loadC (v := pT b15) one24 (HH.get (k := 4) rfl) (off := 0) rfl (by rfl)) ⟨rfl, rfl⟩
    refine WalkC.look rfl (fun _ => pT b23) (fun _ _ _ => rfl) (fun q r uw _ _ _ _ => Gives.run rfl (r_indexA (off' := 0) (j := 0) arr25 (b := b23) (off := 0) rfl rfl (by first | rfl | omega | (simp; omega)) (by omega) (by omega)) ⟨rfl, rfl⟩) ?_
    refine WalkC.look rfl (fun _ => pT b15) (fun _ _ _ => rfl) (fun q r uw hlo hhi hle hF => ?_) ?_
    ·skip
     have h1 : 0 ≤ q := Nat.zero_le _
     have h2 : q ≤ 1 := hhi 1 16 rfl rfl
     rcases (show q = 0 ∨ q = 1 by omega) with rfl | rfl
     ·skip
      have HH := hF
      exact Gives.run rfl (r_loadC (v := pT b15) one24 (HH.get (k := 3) rfl) (off := 0) rfl (by rfl)) ⟨rfl, rfl⟩
     ·skip
      obtain ⟨b123, e15, hS124, HH⟩ := hF
      exact Gives.run rfl (r_loadC (v := pT b15) one24 (HH.get (k := 4) rfl) (off := 0) rfl (by rfl)) ⟨rfl, rfl⟩
    refine WalkC.look rfl (fun _ => pT b15) (fun _ _ _ => rfl) (fun q r uw _ _ _ _ => Gives.run rfl (r_nilCheck rfl) ⟨rfl, rfl⟩) ?_
    refine WalkC.look rfl (fun _ => .pointer (some ⟨b15, 1, none⟩)) (fun _ _ _ => rfl) (fun q r uw _ _ _ _ => Gives.run rfl (r_fieldAddr (off' := 1) fld135_1 (by decide) (b := b15) (off := 0) rfl (by omega)) ⟨rfl, rfl⟩) ?_
    refine WalkC.look rfl (fun _ => .pointer (some ⟨b15, 1, none⟩)) (fun _ _ _ => rfl) (fun q r uw _ _ _ _ => Gives.run rfl (r_fieldAddr (off' := 1) fld131_0 (by decide) (b := b15) (off := 1) rfl (by omega)) ⟨rfl, rfl⟩) ?_
    refine WalkC.look rfl (fun _ => .slice (ownA kyba) zi ccba) (fun _ _ _ => rfl) (fun q r uw hlo hhi hle hF => ?_) ?_
    ·skip
     have h1 : 0 ≤ q := Nat.zero_le _
     have h2 : q ≤ 1 := hhi 1 16 rfl rfl
     rcases (show q = 0 ∨ q = 1 by omega) with rfl | rfl
     ·skip
      have HH := hF
      exact Gives.run rfl (r_loadC (v := .slice (ownA kyba) zi ccba) one49 (HH.get (k := 4) rfl) (off := 1) rfl (by rfl)) ⟨rfl, rfl⟩
     ·skip
      obtain ⟨b123, e15, hS124, HH⟩ := hF
      exact Gives.run rfl (r_loadC (v := .slice (ownA kyba) zi ccba) one49 (HH.get (k := 5) rfl) (off := 1) rfl (by rfl)) ⟨rfl, rfl⟩
    refine WalkC.look rfl (fun _ => pT b113) (fun _ _ _ => rfl) (fun q r uw _ _ _ _ => Gives.run rfl (r_indexA (off' := 0) (j := 0) arr136 (b := b113) (off := 0) rfl rfl (by first | rfl | omega | (simp; omega)) (by omega) (by omega)) ⟨rfl, rfl⟩) ?_
    refine WalkC.look rfl (fun _ => u64 (ws.getD (5 * n1 + 5 * zi) 0#64)) (fun _ _ _ => rfl) (fun q r uw hlo hhi hle hF => ?_) ?_
    ·skip
     have h1 : 0 ≤ q := Nat.zero_le _
     have h2 : q ≤ 0 := hhi 0 15 rfl rfl
     rcases (show q = 0 by omega) with rfl
     ·skip
      have HH := hF
      exact Gives.run rfl (r_ld1 (E := E64) (l := [ws.getD (5 * n1 + 5 * zi) 0#64, ws.getD ((5 * n1 + 5 * zi) + 1) 0#64, ws.getD ((5 * n1 + 5 * zi) + 2) 0#64, ws.getD ((5 * n1 + 5 * zi) + 3) 0#64, ws.getD ((5 * n1 + 5 * zi) + 4) 0#64]) (j := 0) (a := ws.getD (5 * n1 + 5 * zi) 0#64) fits32 (HH.get (k := 0) rfl) (by rfl) rfl rfl) ⟨rfl, rfl⟩
    refine WalkC.look rfl (fun _ => .pointer (some ⟨b113, 2, none⟩)) (fun _ _ _ => rfl) (fun q r uw _ _ _ _ => Gives.run rfl (r_indexA (off' := 2) (j := 2) arr136 (b := b113) (off := 0) rfl rfl (by first | rfl | omega | (simp; omega)) (by omega) (by omega)) ⟨rfl, rfl⟩) ?_
    refine WalkC.look rfl (fun _ => u64 (ws.getD ((5 * n1 + 5 * zi) + 2) 0#64)) (fun _ _ _ => rfl) (fun q r uw hlo hhi hle hF => ?_) ?_
    ·skip
     have h1 : 0 ≤ q := Nat.zero_le _
     have h2 : q ≤ 0 := hhi 0 15 rfl rfl
     rcases (show q = 0 by omega) with rfl
     ·skip
      have HH := hF
      exact Gives.run rfl (r_ld1 (E := E64) (l := [ws.getD (5 * n1 + 5 * zi) 0#64, ws.getD ((5 * n1 + 5 * zi) + 1) 0#64, ws.getD ((5 * n1 + 5 * zi) + 2) 0#64, ws.getD ((5 * n1 + 5 * zi) + 3) 0#64, ws.getD ((5 * n1 + 5 * zi) + 4) 0#64]) (j := 2) (a := ws.getD ((5 * n1 + 5 * zi) + 2) 0#64) fits32 (HH.get (k := 0) rfl) (by rfl) rfl rfl) ⟨rfl, rfl⟩
    refine WalkC.look rfl (fun _ => .pointer (some ⟨b113, 4, none⟩)) (fun _ _ _ => rfl) (fun q r uw _ _ _ _ => Gives.run rfl (r_indexA (off' := 4) (j := 4) arr136 (b := b113) (off := 0) rfl rfl (by first | rfl | omega | (simp; omega)) (by omega) (by omega)) ⟨rfl, rfl⟩) ?_
    refine WalkC.look rfl (fun _ => u64 (ws.getD ((5 * n1 + 5 * zi) + 4) 0#64)) (fun _ _ _ => rfl) (fun q r uw hlo hhi hle hF => ?_) ?_
    ·skip
     have h1 : 0 ≤ q := Nat.zero_le _
     have h2 : q ≤ 0 := hhi 0 15 rfl rfl
     rcases (show q = 0 by omega) with rfl
     ·skip
      have HH := hF
      exact Gives.run rfl (r_ld1 (E := E64) (l := [ws.getD (5 * n1 + 5 * zi) 0#64, ws.getD ((5 * n1 + 5 * zi) + 1) 0#64, ws.getD ((5 * n1 + 5 * zi) + 2) 0#64, ws.getD ((5 * n1 + 5 * zi) + 3) 0#64, ws.getD ((5 * n1 + 5 * zi) + 4) 0#64]) (j := 4) (a := ws.getD ((5 * n1 + 5 * zi) + 4) 0#64) fits32 (HH.get (k := 0) rfl) (by rfl) rfl rfl) ⟨rfl, rfl⟩
    refine WalkC.look rfl (fun _ => .agg #[u64 (ws.getD (5 * n1 + 5 * zi) 0#64), u64 (ws.getD ((5 * n1 + 5 * zi) + 2) 0#64), u64 (ws.getD ((5 * n1 + 5 * zi) + 4) 0#64)]) (fun _ _ _ => rfl) (fun q r uw _ _ _ _ => Gives.run rfl (r_build (cs' := #[u64 (ws.getD (5 * n1 + 5 * zi) 0#64), u64 (ws.getD ((5 * n1 + 5 * zi) + 2) 0#64), u64 (ws.getD ((5 * n1 + 5 * zi) + 4) 0#64)]) (ps := [(0, u64 (ws.getD (5 * n1 + 5 * zi) 0#64)), (1, u64 (ws.getD ((5 * n1 + 5 * zi) + 2) 0#64)), (2, u64 (ws.getD ((5 * n1 + 5 * zi) + 4) 0#64))]) zer34 pls34 rfl (by rfl)) ⟨rfl, rfl⟩) ?_
    refine WalkC.eff 0 rfl (fun r uw120 hF122 => ?_) ?_
    ·skip
     have H121 := hF122
     dsimp only [List.take, List.map, List.cons_append, List.nil_append]
     refine Gives.ofW (d := 135) rfl rfl (fun Q' hK => ?_)
     refine q_buildSlice (E := ETr) (l := ([⟨ws.getD (5 * n1 + 5 * zi) 0#64, ws.getD ((5 * n1 + 5 * zi) + 2) 0#64, ws.getD ((5 * n1 + 5 * zi) + 4) 0#64⟩] : List Tr)) H121 sli49 zer34 (bLe rfl) (ps := [(0, .agg #[u64 (ws.getD (5 * n1 + 5 * zi) 0#64), u64 (ws.getD ((5 * n1 + 5 * zi) + 2) 0#64), u64 (ws.getD ((5 * n1 + 5 * zi) + 4) 0#64)])]) rfl (by exact fillAll rfl rfl) rfl ?_
     intro b123 w125 hS124 H126 hE127
     exact hK _ _ ⟨b123, rfl, hS124, H126⟩
    refine WalkC.eff 1 rfl (fun r uw128 hF130 => ?_) ?_
    ·skip
     obtain ⟨b123, e15, hS124, H129⟩ := hF130
     dsimp only [List.take, List.map, List.cons_append, List.nil_append]
     rw [e15]
     refine Gives.ofW (d := 136) rfl rfl (fun Q' hK => ?_)
     refine q_append (E := ETr) (k := 9) (l := rowsOf (trA ws) (5 * n1) zi) (l2 := ([⟨ws.getD (5 * n1 + 5 * zi) 0#64, ws.getD ((5 * n1 + 5 * zi) + 2) 0#64, ws.getD ((5 * n1 + 5 * zi) + 4) 0#64⟩] : List Tr)) H129 rfl hkyba sli49 zer34 rfl byt34 (H129.rd (k := 0) rfl hS124) rfl (by rw [rowsOf_len]) rfl (by rfl) (by omega) ?_
     intro key131 c132 sp133 w135 hS134 hne137 H136
     have H136' := H136.as (L' := (((some b123), sob ETr 34 ([⟨ws.getD (5 * n1 + 5 * zi) 0#64, ws.getD ((5 * n1 + 5 * zi) + 2) 0#64, ws.getD ((5 * n1 + 5 * zi) + 4) 0#64⟩] : List Tr) ([])) :: (some b113, .cells (cel E64 ([ws.getD (5 * n1 + 5 * zi) 0#64, ws.getD ((5 * n1 + 5 * zi) + 1) 0#64, ws.getD ((5 * n1 + 5 * zi) + 2) 0#64, ws.getD ((5 * n1 + 5 * zi) + 3) 0#64, ws.getD ((5 * n1 + 5 * zi) + 4) 0#64])).toArray 136 (0, 0)) :: (some b, .cells #[.slice (ownA key) ws.length c, .pointer none, i64 (ws.length : Nat), i64 (((5 * n1 + 5 * zi) + 5 : Nat))] 141 (0, 0)) :: (key, sob E64 32 ws sp) :: (some b23, .cells #[pT b15, pT b19] 25 (0, 0)) :: (some b15, .cells #[.slice (ownA kyta) n1 ccta, .slice (ownA kyba) zi ccba, .slice none 0 0] 135 (0, 0)) :: (some b19, .cells #[.slice (ownA kytb) n1 cctb, .slice (ownA kybb) zi ccbb, .slice none 0 0] 135 (0, 0)) :: (kyta, sob ETr 34 (rowsOf (trA ws) 0 n1) zzta) :: (kytb, sob ETr 34 (rowsOf (trB ws) 0 n1) zztb) :: (key131, sob ETr 34 ((rowsOf (trA ws) (5 * n1) zi) ++ ([⟨ws.getD (5 * n1 + 5 * zi) 0#64, ws.getD ((5 * n1 + 5 * zi) + 2) 0#64, ws.getD ((5 * n1 + 5 * zi) + 4) 0#64⟩] : List Tr)) sp133) :: (kybb, sob ETr 34 (rowsOf (biB ws) (5 * n1) zi) zzbb) :: (some b1, .cells #[.pointer none, .pointer none] 25 (0, 0)) :: R)) rfl
     clear H136
     have e138 : (rowsOf (trA ws) (5 * n1) zi) ++ ([⟨ws.getD (5 * n1 + 5 * zi) 0#64, ws.getD ((5 * n1 + 5 * zi) + 2) 0#64, ws.getD ((5 * n1 + 5 * zi) + 4) 0#64⟩] : List Tr) = rowsOf (trA ws) (5 * n1) (zi + 1) := by rw [rowsOf_succ]; rfl
     have hS139 := hS134
     rw [e138] at hS139
     have H140 := H136'.as (L' := (((some b123), sob ETr 34 ([⟨ws.getD (5 * n1 + 5 * zi) 0#64, ws.getD ((5 * n1 + 5 * zi) + 2) 0#64, ws.getD ((5 * n1 + 5 * zi) + 4) 0#64⟩] : List Tr) ([])) :: (some b113, .cells (cel E64 ([ws.getD (5 * n1 + 5 * zi) 0#64, ws.getD ((5 * n1 + 5 * zi) + 1) 0#64, ws.getD ((5 * n1 + 5 * zi) + 2) 0#64, ws.getD ((5 * n1 + 5 * zi) + 3) 0#64, ws.getD ((5 * n1 + 5 * zi) + 4) 0#64])).toArray 136 (0, 0)) :: (some b, .cells #[.slice (ownA key) ws.length c, .pointer none, i64 (ws.length : Nat), i64 (((5 * n1 + 5 * zi) + 5 : Nat))] 141 (0, 0)) :: (key, sob E64 32 ws sp) :: (some b23, .cells #[pT b15, pT b19] 25 (0, 0)) :: (some b15, .cells #[.slice (ownA kyta) n1 ccta, .slice (ownA kyba) zi ccba, .slice none 0 0] 135 (0, 0)) :: (some b19, .cells #[.slice (ownA kytb) n1 cctb, .slice (ownA kybb) zi ccbb, .slice none 0 0] 135 (0, 0)) :: (kyta, sob ETr 34 (rowsOf (trA ws) 0 n1) zzta) :: (kytb, sob ETr 34 (rowsOf (trB ws) 0 n1) zztb) :: (key131, sob ETr 34 (rowsOf (trA ws) (5 * n1) (zi + 1)) sp133) :: (kybb, sob ETr 34 (rowsOf (biB ws) (5 * n1) zi) zzbb) :: (some b1, .cells #[.pointer none, .pointer none] 25 (0, 0)) :: R)) (by rw [e138])
     exact hK _ _ ⟨b123, key131, c132, sp133, rfl, rfl, hS124, hS139, H140⟩
    refine WalkC.look rfl (fun _ => pT b15) (fun _ _ _ => rfl) (fun q r uw _ _ _ _ => Gives.run rfl (r_nilCheck rfl) ⟨rfl, rfl⟩) ?_
    refine WalkC.look rfl (fun _ => .pointer (some ⟨b15, 1, none⟩)) (fun _ _ _ => rfl) (fun q r uw _ _ _ _ => Gives.run rfl (r_fieldAddr (off' := 1) fld135_1 (by decide) (b := b15) (off := 0) rfl (by omega)) ⟨rfl, rfl⟩) ?_
    refine WalkC.look rfl (fun _ => .pointer (some ⟨b15, 1, none⟩)) (fun _ _ _ => rfl) (fun q r uw _ _ _ _ => Gives.run rfl (r_fieldAddr (off' := 1) fld131_0 (by decide) (b := b15) (off := 1) rfl (by omega)) ⟨rfl, rfl⟩) ?_
    refine WalkC.eff 2 rfl (fun r uw141 hF143 => ?_) ?_
    ·skip
     obtain ⟨b123, key131, c132, sp133, e15, e16, hS124, hS139, H142⟩ := hF143
     dsimp only [List.take, List.map, List.cons_append, List.nil_append]
     rw [e15, e16]
     refine Gives.ofW0 rfl (fun Q' hK => ?_)
     refine d_store (k := 5) (v := .slice (ownA key131) (zi + 1) c132) (cs' := #[.slice (ownA kyta) n1 ccta, .slice (ownA key131) (zi + 1) c132, .slice none 0 0]) H142 rfl rfl rfl siz49 (by rfl) (by intro u hu; simp [Value.cells] at hu; first | (subst hu; rfl) | (rcases hu with rfl <;> rfl)) (by exact bLe rfl) (by rfl) ?_
     intro w144 H145 hC146
     have H145' := H145.as (L' := (((some b123), sob ETr 34 ([⟨ws.getD (5 * n1 + 5 * zi) 0#64, ws.getD ((5 * n1 + 5 * zi) + 2) 0#64, ws.getD ((5 * n1 + 5 * zi) + 4) 0#64⟩] : List Tr) ([])) :: (some b113, .cells (cel E64 ([ws.getD (5 * n1 + 5 * zi) 0#64, ws.getD ((5 * n1 + 5 * zi) + 1) 0#64, ws.getD ((5 * n1 + 5 * zi) + 2) 0#64, ws.getD ((5 * n1 + 5 * zi) + 3) 0#64, ws.getD ((5 * n1 + 5 * zi) + 4) 0#64])).toArray 136 (0, 0)) :: (some b, .cells #[.slice (ownA key) ws.length c, .pointer none, i64 (ws.length : Nat), i64 (((5 * n1 + 5 * zi) + 5 : Nat))] 141 (0, 0)) :: (key, sob E64 32 ws sp) :: (some b23, .cells #[pT b15, pT b19] 25 (0, 0)) :: (some b15, .cells #[.slice (ownA kyta) n1 ccta, .slice (ownA key131) (zi + 1) c132, .slice none 0 0] 135 (0, 0)) :: (some b19, .cells #[.slice (ownA kytb) n1 cctb, .slice (ownA kybb) zi ccbb, .slice none 0 0] 135 (0, 0)) :: (kyta, sob ETr 34 (rowsOf (trA ws) 0 n1) zzta) :: (kytb, sob ETr 34 (rowsOf (trB ws) 0 n1) zztb) :: (key131, sob ETr 34 (rowsOf (trA ws) (5 * n1) (zi + 1)) sp133) :: (kybb, sob ETr 34 (rowsOf (biB ws) (5 * n1) zi) zzbb) :: (some b1, .cells #[.pointer none, .pointer none] 25 (0, 0)) :: R)) rfl
     clear H145
     exact hK _ (fun _ => ⟨b123, key131, c132, sp133, rfl, rfl, trivial, hS124, hS139, H145'⟩)
    refine WalkC.nil ?_
    intro r147 w148 hF150
    obtain ⟨b123, key131, c132, sp133, e15, e16, e20, hS124, hS139, H149⟩ := hF150
    dsimp only
    rw [e15, e16]
    refine wnil ?_
    refine thenNormal ?_
    refine drawC (m := 33) [0, 1, 0, 4, 12, 28, 60, 124, 0, 256, 0, 1024, 0, 4096, 0, 16384, 61440, 0, 131072, 0, 524288, 1966080, 4190208, 0, 8388608, 33550336, 67108608, 134217472, 268435452, 536870911, 1073741823, 2147483647, 4294967295] [27, 28, 32] (fun q vs w' => match q, vs with | 0, [] => Hp No w₀ w' (((some b123), sob ETr 34 ([⟨ws.getD (5 * n1 + 5 * zi) 0#64, ws.getD ((5 * n1 + 5 * zi) + 2) 0#64, ws.getD ((5 * n1 + 5 * zi) + 4) 0#64⟩] : List Tr) ([])) :: (some b113, .cells (cel E64 ([ws.getD (5 * n1 + 5 * zi) 0#64, ws.getD ((5 * n1 + 5 * zi) + 1) 0#64, ws.getD ((5 * n1 + 5 * zi) + 2) 0#64, ws.getD ((5 * n1 + 5 * zi) + 3) 0#64, ws.getD ((5 * n1 + 5 * zi) + 4) 0#64])).toArray 136 (0, 0)) :: (some b, .cells #[.slice (ownA key) ws.length c, .pointer none, i64 (ws.length : Nat), i64 (((5 * n1 + 5 * zi) + 5 : Nat))] 141 (0, 0)) :: (key, sob E64 32 ws sp) :: (some b23, .cells #[pT b15, pT b19] 25 (0, 0)) :: (some b15, .cells #[.slice (ownA kyta) n1 ccta, .slice (ownA key131) (zi + 1) c132, .slice none 0 0] 135 (0, 0)) :: (some b19, .cells #[.slice (ownA kytb) n1 cctb, .slice (ownA kybb) zi ccbb, .slice none 0 0] 135 (0, 0)) :: (kyta, sob ETr 34 (rowsOf (trA ws) 0 n1) zzta) :: (kytb, sob ETr 34 (rowsOf (trB ws) 0 n1) zztb) :: (key131, sob ETr 34 (rowsOf (trA ws) (5 * n1) (zi + 1)) sp133) :: (kybb, sob ETr 34 (rowsOf (biB ws) (5 * n1) zi) zzbb) :: (some b1, .cells #[.pointer none, .pointer none] 25 (0, 0)) :: R) | 1, [v0] => ∃ (b154 : Nat), v0 = .slice (ownA (some b154)) 1 1 ∧ Sl ETr (some b154) ([⟨ws.getD ((5 * n1 + 5 * zi) + 1) 0#64, ws.getD ((5 * n1 + 5 * zi) + 3) 0#64, (((ws.getD (5 * n1 + 5 * zi) 0#64) ^^^ (ws.getD ((5 * n1 + 5 * zi) + 1) 0#64)) &&& ((ws.getD ((5 * n1 + 5 * zi) + 2) 0#64) ^^^ (ws.getD ((5 * n1 + 5 * zi) + 3) 0#64))) ^^^ (ws.getD ((5 * n1 + 5 * zi) + 4) 0#64)⟩] : List Tr) 1 ([]) ∧ Hp No w₀ w' (((some b154), sob ETr 34 ([⟨ws.getD ((5 * n1 + 5 * zi) + 1) 0#64, ws.getD ((5 * n1 + 5 * zi) + 3) 0#64, (((ws.getD (5 * n1 + 5 * zi) 0#64) ^^^ (ws.getD ((5 * n1 + 5 * zi) + 1) 0#64)) &&& ((ws.getD ((5 * n1 + 5 * zi) + 2) 0#64) ^^^ (ws.getD ((5 * n1 + 5 * zi) + 3) 0#64))) ^^^ (ws.getD ((5 * n1 + 5 * zi) + 4) 0#64)⟩] : List Tr) ([])) :: ((some b123), sob ETr 34 ([⟨ws.getD (5 * n1 + 5 * zi) 0#64, ws.getD ((5 * n1 + 5 * zi) + 2) 0#64, ws.getD ((5 * n1 + 5 * zi) + 4) 0#64⟩] : List Tr) ([])) :: (some b113, .cells (cel E64 ([ws.getD (5 * n1 + 5 * zi) 0#64, ws.getD ((5 * n1 + 5 * zi) + 1) 0#64, ws.getD ((5 * n1 + 5 * zi) + 2) 0#64, ws.getD ((5 * n1 + 5 * zi) + 3) 0#64, ws.getD ((5 * n1 + 5 * zi) + 4) 0#64])).toArray 136 (0, 0)) :: (some b, .cells #[.slice (ownA key) ws.length c, .pointer none, i64 (ws.length : Nat), i64 (((5 * n1 + 5 * zi) + 5 : Nat))] 141 (0, 0)) :: (key, sob E64 32 ws sp) :: (some b23, .cells #[pT b15, pT b19] 25 (0, 0)) :: (some b15, .cells #[.slice (ownA kyta) n1 ccta, .slice (ownA key131) (zi + 1) c132, .slice none 0 0] 135 (0, 0)) :: (some b19, .cells #[.slice (ownA kytb) n1 cctb, .slice (ownA kybb) zi ccbb, .slice none 0 0] 135 (0, 0)) :: (kyta, sob ETr 34 (rowsOf (trA ws) 0 n1) zzta) :: (kytb, sob ETr 34 (rowsOf (trB ws) 0 n1) zztb) :: (key131, sob ETr 34 (rowsOf (trA ws) (5 * n1) (zi + 1)) sp133) :: (kybb, sob ETr 34 (rowsOf (biB ws) (5 * n1) zi) zzbb) :: (some b1, .cells #[.pointer none, .pointer none] 25 (0, 0)) :: R) | 2, [v0, v1] => ∃ (b154 : Nat) (key162 : Option Nat) (c163 : Nat) (sp164 : List Value), v0 = .slice (ownA (some b154)) 1 1 ∧ v1 = .slice (ownA key162) (zi + 1) c163 ∧ Sl ETr (some b154) ([⟨ws.getD ((5 * n1 + 5 * zi) + 1) 0#64, ws.getD ((5 * n1 + 5 * zi) + 3) 0#64, (((ws.getD (5 * n1 + 5 * zi) 0#64) ^^^ (ws.getD ((5 * n1 + 5 * zi) + 1) 0#64)) &&& ((ws.getD ((5 * n1 + 5 * zi) + 2) 0#64) ^^^ (ws.getD ((5 * n1 + 5 * zi) + 3) 0#64))) ^^^ (ws.getD ((5 * n1 + 5 * zi) + 4) 0#64)⟩] : List Tr) 1 ([]) ∧ Sl ETr key162 (rowsOf (biB ws) (5 * n1) (zi + 1)) c163 sp164 ∧ Hp No w₀ w' (((some b154), sob ETr 34 ([⟨ws.getD ((5 * n1 + 5 * zi) + 1) 0#64, ws.getD ((5 * n1 + 5 * zi) + 3) 0#64, (((ws.getD (5 * n1 + 5 * zi) 0#64) ^^^ (ws.getD ((5 * n1 + 5 * zi) + 1) 0#64)) &&& ((ws.getD ((5 * n1 + 5 * zi) + 2) 0#64) ^^^ (ws.getD ((5 * n1 + 5 * zi) + 3) 0#64))) ^^^ (ws.getD ((5 * n1 + 5 * zi) + 4) 0#64)⟩] : List Tr) ([])) :: ((some b123), sob ETr 34 ([⟨ws.getD (5 * n1 + 5 * zi) 0#64, ws.getD ((5 * n1 + 5 * zi) + 2) 0#64, ws.getD ((5 * n1 + 5 * zi) + 4) 0#64⟩] : List Tr) ([])) :: (some b113, .cells (cel E64 ([ws.getD (5 * n1 + 5 * zi) 0#64, ws.getD ((5 * n1 + 5 * zi) + 1) 0#64, ws.getD ((5 * n1 + 5 * zi) + 2) 0#64, ws.getD ((5 * n1 + 5 * zi) + 3) 0#64, ws.getD ((5 * n1 + 5 * zi) + 4) 0#64])).toArray 136 (0, 0)) :: (some b, .cells #[.slice (ownA key) ws.length c, .pointer none, i64 (ws.length : Nat), i64 (((5 * n1 + 5 * zi) + 5 : Nat))] 141 (0, 0)) :: (key, sob E64 32 ws sp) :: (some b23, .cells #[pT b15, pT b19] 25 (0, 0)) :: (some b15, .cells #[.slice (ownA kyta) n1 ccta, .slice (ownA key131) (zi + 1) c132, .slice none 0 0] 135 (0, 0)) :: (some b19, .cells #[.slice (ownA kytb) n1 cctb, .slice (ownA kybb) zi ccbb, .slice none 0 0] 135 (0, 0)) :: (kyta, sob ETr 34 (rowsOf (trA ws) 0 n1) zzta) :: (kytb, sob ETr 34 (rowsOf (trB ws) 0 n1) zztb) :: (key131, sob ETr 34 (rowsOf (trA ws) (5 * n1) (zi + 1)) sp133) :: (key162, sob ETr 34 (rowsOf (biB ws) (5 * n1) (zi + 1)) sp164) :: (some b1, .cells #[.pointer none, .pointer none] 25 (0, 0)) :: R) | 3, [v0, v1, _] => ∃ (b154 : Nat) (key162 : Option Nat) (c163 : Nat) (sp164 : List Value), v0 = .slice (ownA (some b154)) 1 1 ∧ v1 = .slice (ownA key162) (zi + 1) c163 ∧ True ∧ Sl ETr (some b154) ([⟨ws.getD ((5 * n1 + 5 * zi) + 1) 0#64, ws.getD ((5 * n1 + 5 * zi) + 3) 0#64, (((ws.getD (5 * n1 + 5 * zi) 0#64) ^^^ (ws.getD ((5 * n1 + 5 * zi) + 1) 0#64)) &&& ((ws.getD ((5 * n1 + 5 * zi) + 2) 0#64) ^^^ (ws.getD ((5 * n1 + 5 * zi) + 3) 0#64))) ^^^ (ws.getD ((5 * n1 + 5 * zi) + 4) 0#64)⟩] : List Tr) 1 ([]) ∧ Sl ETr key162 (rowsOf (biB ws) (5 * n1) (zi + 1)) c163 sp164 ∧ Hp No w₀ w' (((some b154), sob ETr 34 ([⟨ws.getD ((5 * n1 + 5 * zi) + 1) 0#64, ws.getD ((5 * n1 + 5 * zi) + 3) 0#64, (((ws.getD (5 * n1 + 5 * zi) 0#64) ^^^ (ws.getD ((5 * n1 + 5 * zi) + 1) 0#64)) &&& ((ws.getD ((5 * n1 + 5 * zi) + 2) 0#64) ^^^ (ws.getD ((5 * n1 + 5 * zi) + 3) 0#64))) ^^^ (ws.getD ((5 * n1 + 5 * zi) + 4) 0#64)⟩] : List Tr) ([])) :: ((some b123), sob ETr 34 ([⟨ws.getD (5 * n1 + 5 * zi) 0#64, ws.getD ((5 * n1 + 5 * zi) + 2) 0#64, ws.getD ((5 * n1 + 5 * zi) + 4) 0#64⟩] : List Tr) ([])) :: (some b113, .cells (cel E64 ([ws.getD (5 * n1 + 5 * zi) 0#64, ws.getD ((5 * n1 + 5 * zi) + 1) 0#64, ws.getD ((5 * n1 + 5 * zi) + 2) 0#64, ws.getD ((5 * n1 + 5 * zi) + 3) 0#64, ws.getD ((5 * n1 + 5 * zi) + 4) 0#64])).toArray 136 (0, 0)) :: (some b, .cells #[.slice (ownA key) ws.length c, .pointer none, i64 (ws.length : Nat), i64 (((5 * n1 + 5 * zi) + 5 : Nat))] 141 (0, 0)) :: (key, sob E64 32 ws sp) :: (some b23, .cells #[pT b15, pT b19] 25 (0, 0)) :: (some b15, .cells #[.slice (ownA kyta) n1 ccta, .slice (ownA key131) (zi + 1) c132, .slice none 0 0] 135 (0, 0)) :: (some b19, .cells #[.slice (ownA kytb) n1 cctb, .slice (ownA key162) (zi + 1) c163, .slice none 0 0] 135 (0, 0)) :: (kyta, sob ETr 34 (rowsOf (trA ws) 0 n1) zzta) :: (kytb, sob ETr 34 (rowsOf (trB ws) 0 n1) zztb) :: (key131, sob ETr 34 (rowsOf (trA ws) (5 * n1) (zi + 1)) sp133) :: (key162, sob ETr 34 (rowsOf (biB ws) (5 * n1) (zi + 1)) sp164) :: (some b1, .cells #[.pointer none, .pointer none] 25 (0, 0)) :: R) | _, _ => False) mixed (by kernel_rfl) (by kernel_rfl) H149.drew ?_
    refine WalkC.look rfl (fun _ => .pointer (some ⟨b23, 1, none⟩)) (fun _ _ _ => rfl) (fun q r uw _ _ _ _ => Gives.run rfl (r_indexA (off' := 1) (j := 1) arr25 (b := b23) (off := 0) rfl rfl (by first | rfl | omega | (simp; omega)) (by omega) (by omega)) ⟨rfl, rfl⟩) ?_
    refine WalkC.look rfl (fun _ => pT b19) (fun _ _ _ => rfl) (fun q r uw hlo hhi hle hF => ?_) ?_
    ·skip
     have h1 : 0 ≤ q := Nat.zero_le _
     have h2 : q ≤ 2 := hhi 2 32 rfl rfl
     rcases (show q = 0 ∨ q = 1 ∨ q = 2 by omega) with rfl | rfl | rfl
     ·skip
      have HH := hF
      exact Gives.run rfl (r_loadC (v := pT b19) one24 (HH.get (k := 4) rfl) (off := 1) rfl (by rfl)) ⟨rfl, rfl⟩
     ·skip
      obtain ⟨b154, e27, hS155, HH⟩ := hF
      exact Gives.run rfl (r_loadC (v := pT b19) one24 (HH.get (k := 5) rfl) (off := 1) rfl (by rfl)) ⟨rfl, rfl⟩
     ·skip
      obtain ⟨b154, key162, c163, sp164, e27, e28, hS155, hS170, HH⟩ := hF
      exact Gives.run rfl (r_loadC (v := pT b19) one24 (HH.get (k := 5) rfl) (off := 1) rfl (by rfl)) ⟨rfl, rfl⟩
    refine WalkC.look rfl (fun _ => .pointer (some ⟨b23, 1, none⟩)) (fun _ _ _ => rfl) (fun q r uw _ _ _ _ => Gives.run rfl (r_indexA (off' := 1) (j := 1) arr25 (b := b23) (off := 0) rfl rfl (by first | rfl | omega | (simp; omega)) (by omega) (by omega)) ⟨rfl, rfl⟩) ?_
    refine WalkC.look rfl (fun _ => pT b19) (fun _ _ _ => rfl) (fun q r uw hlo hhi hle hF => ?_) ?_
    ·skip
     have h1 : 0 ≤ q := Nat.zero_le _
     have h2 : q ≤ 1 := hhi 1 28 rfl rfl
     rcases (show q = 0 ∨ q = 1 by omega) with rfl | rfl
     ·skip
      have HH := hF
      exact Gives.run rfl (r_loadC (v := pT b19) one24 (HH.get (k := 4) rfl) (off := 1) rfl (by rfl)) ⟨rfl, rfl⟩
     ·skip
      obtain ⟨b154, e27, hS155, HH⟩ := hF
      exact Gives.run rfl (r_loadC (v := pT b19) one24 (HH.get (k := 5) rfl) (off := 1) rfl (by rfl)) ⟨rfl, rfl⟩
    refine WalkC.look rfl (fun _ => pT b19) (fun _ _ _ => rfl) (fun q r uw _ _ _ _ => Gives.run rfl (r_nilCheck rfl) ⟨rfl, rfl⟩) ?_
    refine WalkC.look rfl (fun _ => .pointer (some ⟨b19, 1, none⟩)) (fun _ _ _ => rfl) (fun q r uw _ _ _ _ => Gives.run rfl (r_fieldAddr (off' := 1) fld135_1 (by decide) (b := b19) (off := 0) rfl (by omega)) ⟨rfl, rfl⟩) ?_
    refine WalkC.look rfl (fun _ => .pointer (some ⟨b19, 1, none⟩)) (fun _ _ _ => rfl) (fun q r uw _ _ _ _ => Gives.run rfl (r_fieldAddr (off' := 1) fld131_0 (by decide) (b := b19) (off := 1) rfl (by omega)) ⟨rfl, rfl⟩) ?_
    refine WalkC.look rfl (fun _ => .slice (ownA kybb) zi ccbb) (fun _ _ _ => rfl) (fun q r uw hlo hhi hle hF => ?_) ?_
    ·skip
     have h1 : 0 ≤ q := Nat.zero_le _
     have h2 : q ≤ 1 := hhi 1 28 rfl rfl
     rcases (show q = 0 ∨ q = 1 by omega) with rfl | rfl
     ·skip
      have HH := hF
      exact Gives.run rfl (r_loadC (v := .slice (ownA kybb) zi ccbb) one49 (HH.get (k := 6) rfl) (off := 1) rfl (by rfl)) ⟨rfl, rfl⟩
     ·skip
      obtain ⟨b154, e27, hS155, HH⟩ := hF
      exact Gives.run rfl (r_loadC (v := .slice (ownA kybb) zi ccbb) one49 (HH.get (k := 7) rfl) (off := 1) rfl (by rfl)) ⟨rfl, rfl⟩
    refine WalkC.look rfl (fun _ => .pointer (some ⟨b113, 1, none⟩)) (fun _ _ _ => rfl) (fun q r uw _ _ _ _ => Gives.run rfl (r_indexA (off' := 1) (j := 1) arr136 (b := b113) (off := 0) rfl rfl (by first | rfl | omega | (simp; omega)) (by omega) (by omega)) ⟨rfl, rfl⟩) ?_
    refine WalkC.look rfl (fun _ => u64 (ws.getD ((5 * n1 + 5 * zi) + 1) 0#64)) (fun _ _ _ => rfl) (fun q r uw hlo hhi hle hF => ?_) ?_
    ·skip
     have h1 : 0 ≤ q := Nat.zero_le _
     have h2 : q ≤ 0 := hhi 0 27 rfl rfl
     rcases (show q = 0 by omega) with rfl
     ·skip
      have HH := hF
      exact Gives.run rfl (r_ld1 (E := E64) (l := [ws.getD (5 * n1 + 5 * zi) 0#64, ws.getD ((5 * n1 + 5 * zi) + 1) 0#64, ws.getD ((5 * n1 + 5 * zi) + 2) 0#64, ws.getD ((5 * n1 + 5 * zi) + 3) 0#64, ws.getD ((5 * n1 + 5 * zi) + 4) 0#64]) (j := 1) (a := ws.getD ((5 * n1 + 5 * zi) + 1) 0#64) fits32 (HH.get (k := 1) rfl) (by rfl) rfl rfl) ⟨rfl, rfl⟩
    refine WalkC.look rfl (fun _ => .pointer (some ⟨b113, 3, none⟩)) (fun _ _ _ => rfl) (fun q r uw _ _ _ _ => Gives.run rfl (r_indexA (off' := 3) (j := 3) arr136 (b := b113) (off := 0) rfl rfl (by first | rfl | omega | (simp; omega)) (by omega) (by omega)) ⟨rfl, rfl⟩) ?_
    refine WalkC.look rfl (fun _ => u64 (ws.getD ((5 * n1 + 5 * zi) + 3) 0#64)) (fun _ _ _ => rfl) (fun q r uw hlo hhi hle hF => ?_) ?_
    ·skip
     have h1 : 0 ≤ q := Nat.zero_le _
     have h2 : q ≤ 0 := hhi 0 27 rfl rfl
     rcases (show q = 0 by omega) with rfl
     ·skip
      have HH := hF
      exact Gives.run rfl (r_ld1 (E := E64) (l := [ws.getD (5 * n1 + 5 * zi) 0#64, ws.getD ((5 * n1 + 5 * zi) + 1) 0#64, ws.getD ((5 * n1 + 5 * zi) + 2) 0#64, ws.getD ((5 * n1 + 5 * zi) + 3) 0#64, ws.getD ((5 * n1 + 5 * zi) + 4) 0#64]) (j := 3) (a := ws.getD ((5 * n1 + 5 * zi) + 3) 0#64) fits32 (HH.get (k := 1) rfl) (by rfl) rfl rfl) ⟨rfl, rfl⟩
    refine WalkC.look rfl (fun _ => pT b113) (fun _ _ _ => rfl) (fun q r uw _ _ _ _ => Gives.run rfl (r_indexA (off' := 0) (j := 0) arr136 (b := b113) (off := 0) rfl rfl (by first | rfl | omega | (simp; omega)) (by omega) (by omega)) ⟨rfl, rfl⟩) ?_
    refine WalkC.look rfl (fun _ => u64 (ws.getD (5 * n1 + 5 * zi) 0#64)) (fun _ _ _ => rfl) (fun q r uw hlo hhi hle hF => ?_) ?_
    ·skip
     have h1 : 0 ≤ q := Nat.zero_le _
     have h2 : q ≤ 0 := hhi 0 27 rfl rfl
     rcases (show q = 0 by omega) with rfl
     ·skip
      have HH := hF
      exact Gives.run rfl (r_ld1 (E := E64) (l := [ws.getD (5 * n1 + 5 * zi) 0#64, ws.getD ((5 * n1 + 5 * zi) + 1) 0#64, ws.getD ((5 * n1 + 5 * zi) + 2) 0#64, ws.getD ((5 * n1 + 5 * zi) + 3) 0#64, ws.getD ((5 * n1 + 5 * zi) + 4) 0#64]) (j := 0) (a := ws.getD (5 * n1 + 5 * zi) 0#64) fits32 (HH.get (k := 1) rfl) (by rfl) rfl rfl) ⟨rfl, rfl⟩
    refine WalkC.look rfl (fun _ => .pointer (some ⟨b113, 1, none⟩)) (fun _ _ _ => rfl) (fun q r uw _ _ _ _ => Gives.run rfl (r_indexA (off' := 1) (j := 1) arr136 (b := b113) (off := 0) rfl rfl (by first | rfl | omega | (simp; omega)) (by omega) (by omega)) ⟨rfl, rfl⟩) ?_
    refine WalkC.look rfl (fun _ => u64 (ws.getD ((5 * n1 + 5 * zi) + 1) 0#64)) (fun _ _ _ => rfl) (fun q r uw hlo hhi hle hF => ?_) ?_
    ·skip
     have h1 : 0 ≤ q := Nat.zero_le _
     have h2 : q ≤ 0 := hhi 0 27 rfl rfl
     rcases (show q = 0 by omega) with rfl
     ·skip
      have HH := hF
      exact Gives.run rfl (r_ld1 (E := E64) (l := [ws.getD (5 * n1 + 5 * zi) 0#64, ws.getD ((5 * n1 + 5 * zi) + 1) 0#64, ws.getD ((5 * n1 + 5 * zi) + 2) 0#64, ws.getD ((5 * n1 + 5 * zi) + 3) 0#64, ws.getD ((5 * n1 + 5 * zi) + 4) 0#64]) (j := 1) (a := ws.getD ((5 * n1 + 5 * zi) + 1) 0#64) fits32 (HH.get (k := 1) rfl) (by rfl) rfl rfl) ⟨rfl, rfl⟩
    refine WalkC.look rfl (fun _ => u64 ((ws.getD (5 * n1 + 5 * zi) 0#64) ^^^ (ws.getD ((5 * n1 + 5 * zi) + 1) 0#64))) (fun _ _ _ => rfl) (fun q r uw _ _ _ _ => Gives.run rfl (r_xor64 (a := ws.getD (5 * n1 + 5 * zi) 0#64) (b := ws.getD ((5 * n1 + 5 * zi) + 1) 0#64) rfl rfl) ⟨rfl, rfl⟩) ?_
    refine WalkC.look rfl (fun _ => .pointer (some ⟨b113, 2, none⟩)) (fun _ _ _ => rfl) (fun q r uw _ _ _ _ => Gives.run rfl (r_indexA (off' := 2) (j := 2) arr136 (b := b113) (off := 0) rfl rfl (by first | rfl | omega | (simp; omega)) (by omega) (by omega)) ⟨rfl, rfl⟩) ?_
    refine WalkC.look rfl (fun _ => u64 (ws.getD ((5 * n1 + 5 * zi) + 2) 0#64)) (fun _ _ _ => rfl) (fun q r uw hlo hhi hle hF => ?_) ?_
    ·skip
     have h1 : 0 ≤ q := Nat.zero_le _
     have h2 : q ≤ 0 := hhi 0 27 rfl rfl
     rcases (show q = 0 by omega) with rfl
     ·skip
      have HH := hF
      exact Gives.run rfl (r_ld1 (E := E64) (l := [ws.getD (5 * n1 + 5 * zi) 0#64, ws.getD ((5 * n1 + 5 * zi) + 1) 0#64, ws.getD ((5 * n1 + 5 * zi) + 2) 0#64, ws.getD ((5 * n1 + 5 * zi) + 3) 0#64, ws.getD ((5 * n1 + 5 * zi) + 4) 0#64]) (j := 2) (a := ws.getD ((5 * n1 + 5 * zi) + 2) 0#64) fits32 (HH.get (k := 1) rfl) (by rfl) rfl rfl) ⟨rfl, rfl⟩
    refine WalkC.look rfl (fun _ => .pointer (some ⟨b113, 3, none⟩)) (fun _ _ _ => rfl) (fun q r uw _ _ _ _ => Gives.run rfl (r_indexA (off' := 3) (j := 3) arr136 (b := b113) (off := 0) rfl rfl (by first | rfl | omega | (simp; omega)) (by omega) (by omega)) ⟨rfl, rfl⟩) ?_
    refine WalkC.look rfl (fun _ => u64 (ws.getD ((5 * n1 + 5 * zi) + 3) 0#64)) (fun _ _ _ => rfl) (fun q r uw hlo hhi hle hF => ?_) ?_
    ·skip
     have h1 : 0 ≤ q := Nat.zero_le _
     have h2 : q ≤ 0 := hhi 0 27 rfl rfl
     rcases (show q = 0 by omega) with rfl
     ·skip
      have HH := hF
      exact Gives.run rfl (r_ld1 (E := E64) (l := [ws.getD (5 * n1 + 5 * zi) 0#64, ws.getD ((5 * n1 + 5 * zi) + 1) 0#64, ws.getD ((5 * n1 + 5 * zi) + 2) 0#64, ws.getD ((5 * n1 + 5 * zi) + 3) 0#64, ws.getD ((5 * n1 + 5 * zi) + 4) 0#64]) (j := 3) (a := ws.getD ((5 * n1 + 5 * zi) + 3) 0#64) fits32 (HH.get (k := 1) rfl) (by rfl) rfl rfl) ⟨rfl, rfl⟩
    refine WalkC.look rfl (fun _ => u64 ((ws.getD ((5 * n1 + 5 * zi) + 2) 0#64) ^^^ (ws.getD ((5 * n1 + 5 * zi) + 3) 0#64))) (fun _ _ _ => rfl) (fun q r uw _ _ _ _ => Gives.run rfl (r_xor64 (a := ws.getD ((5 * n1 + 5 * zi) + 2) 0#64) (b := ws.getD ((5 * n1 + 5 * zi) + 3) 0#64) rfl rfl) ⟨rfl, rfl⟩) ?_
    refine WalkC.look rfl (fun _ => u64 (((ws.getD (5 * n1 + 5 * zi) 0#64) ^^^ (ws.getD ((5 * n1 + 5 * zi) + 1) 0#64)) &&& ((ws.getD ((5 * n1 + 5 * zi) + 2) 0#64) ^^^ (ws.getD ((5 * n1 + 5 * zi) + 3) 0#64)))) (fun _ _ _ => rfl) (fun q r uw _ _ _ _ => Gives.run rfl (r_and64 (a := (ws.getD (5 * n1 + 5 * zi) 0#64) ^^^ (ws.getD ((5 * n1 + 5 * zi) + 1) 0#64)) (b := (ws.getD ((5 * n1 + 5 * zi) + 2) 0#64) ^^^ (ws.getD ((5 * n1 + 5 * zi) + 3) 0#64)) rfl rfl) ⟨rfl, rfl⟩) ?_
    refine WalkC.look rfl (fun _ => .pointer (some ⟨b113, 4, none⟩)) (fun _ _ _ => rfl) (fun q r uw _ _ _ _ => Gives.run rfl (r_indexA (off' := 4) (j := 4) arr136 (b := b113) (off := 0) rfl rfl (by first | rfl | omega | (simp; omega)) (by omega) (by omega)) ⟨rfl, rfl⟩) ?_
    refine WalkC.look rfl (fun _ => u64 (ws.getD ((5 * n1 + 5 * zi) + 4) 0#64)) (fun _ _ _ => rfl) (fun q r uw hlo hhi hle hF => ?_) ?_
    ·skip
     have h1 : 0 ≤ q := Nat.zero_le _
     have h2 : q ≤ 0 := hhi 0 27 rfl rfl
     rcases (show q = 0 by omega) with rfl
     ·skip
      have HH := hF
      exact Gives.run rfl (r_ld1 (E := E64) (l := [ws.getD (5 * n1 + 5 * zi) 0#64, ws.getD ((5 * n1 + 5 * zi) + 1) 0#64, ws.getD ((5 * n1 + 5 * zi) + 2) 0#64, ws.getD ((5 * n1 + 5 * zi) + 3) 0#64, ws.getD ((5 * n1 + 5 * zi) + 4) 0#64]) (j := 4) (a := ws.getD ((5 * n1 + 5 * zi) + 4) 0#64) fits32 (HH.get (k := 1) rfl) (by rfl) rfl rfl) ⟨rfl, rfl⟩
    refine WalkC.look rfl (fun _ => u64 ((((ws.getD (5 * n1 + 5 * zi) 0#64) ^^^ (ws.getD ((5 * n1 + 5 * zi) + 1) 0#64)) &&& ((ws.getD ((5 * n1 + 5 * zi) + 2) 0#64) ^^^ (ws.getD ((5 * n1 + 5 * zi) + 3) 0#64))) ^^^ (ws.getD ((5 * n1 + 5 * zi) + 4) 0#64))) (fun _ _ _ => rfl) (fun q r uw _ _ _ _ => Gives.run rfl (r_xor64 (a := ((ws.getD (5 * n1 + 5 * zi) 0#64) ^^^ (ws.getD ((5 * n1 + 5 * zi) + 1) 0#64)) &&& ((ws.getD ((5 * n1 + 5 * zi) + 2) 0#64) ^^^ (ws.getD ((5 * n1 + 5 * zi) + 3) 0#64))) (b := ws.getD ((5 * n1 + 5 * zi) + 4) 0#64) rfl rfl) ⟨rfl, rfl⟩) ?_
    refine WalkC.look rfl (fun _ => .agg #[u64 (ws.getD ((5 * n1 + 5 * zi) + 1) 0#64), u64 (ws.getD ((5 * n1 + 5 * zi) + 3) 0#64), u64 ((((ws.getD (5 * n1 + 5 * zi) 0#64) ^^^ (ws.getD ((5 * n1 + 5 * zi) + 1) 0#64)) &&& ((ws.getD ((5 * n1 + 5 * zi) + 2) 0#64) ^^^ (ws.getD ((5 * n1 + 5 * zi) + 3) 0#64))) ^^^ (ws.getD ((5 * n1 + 5 * zi) + 4) 0#64))]) (fun _ _ _ => rfl) (fun q r uw _ _ _ _ => Gives.run rfl (r_build (cs' := #[u64 (ws.getD ((5 * n1 + 5 * zi) + 1) 0#64), u64 (ws.getD ((5 * n1 + 5 * zi) + 3) 0#64), u64 ((((ws.getD (5 * n1 + 5 * zi) 0#64) ^^^ (ws.getD ((5 * n1 + 5 * zi) + 1) 0#64)) &&& ((ws.getD ((5 * n1 + 5 * zi) + 2) 0#64) ^^^ (ws.getD ((5 * n1 + 5 * zi) + 3) 0#64))) ^^^ (ws.getD ((5 * n1 + 5 * zi) + 4) 0#64))]) (ps := [(0, u64 (ws.getD ((5 * n1 + 5 * zi) + 1) 0#64)), (1, u64 (ws.getD ((5 * n1 + 5 * zi) + 3) 0#64)), (2, u64 ((((ws.getD (5 * n1 + 5 * zi) 0#64) ^^^ (ws.getD ((5 * n1 + 5 * zi) + 1) 0#64)) &&& ((ws.getD ((5 * n1 + 5 * zi) + 2) 0#64) ^^^ (ws.getD ((5 * n1 + 5 * zi) + 3) 0#64))) ^^^ (ws.getD ((5 * n1 + 5 * zi) + 4) 0#64)))]) zer34 pls34 rfl (by rfl)) ⟨rfl, rfl⟩) ?_
    refine WalkC.eff 0 rfl (fun r uw151 hF153 => ?_) ?_
    ·skip
     have H152 := hF153
     dsimp only [List.take, List.map, List.cons_append, List.nil_append]
     refine Gives.ofW (d := 167) rfl rfl (fun Q' hK => ?_)
     refine q_buildSlice (E := ETr) (l := ([⟨ws.getD ((5 * n1 + 5 * zi) + 1) 0#64, ws.getD ((5 * n1 + 5 * zi) + 3) 0#64, (((ws.getD (5 * n1 + 5 * zi) 0#64) ^^^ (ws.getD ((5 * n1 + 5 * zi) + 1) 0#64)) &&& ((ws.getD ((5 * n1 + 5 * zi) + 2) 0#64) ^^^ (ws.getD ((5 * n1 + 5 * zi) + 3) 0#64))) ^^^ (ws.getD ((5 * n1 + 5 * zi) + 4) 0#64)⟩] : List Tr)) H152 sli49 zer34 (bLe rfl) (ps := [(0, .agg #[u64 (ws.getD ((5 * n1 + 5 * zi) + 1) 0#64), u64 (ws.getD ((5 * n1 + 5 * zi) + 3) 0#64), u64 ((((ws.getD (5 * n1 + 5 * zi) 0#64) ^^^ (ws.getD ((5 * n1 + 5 * zi) + 1) 0#64)) &&& ((ws.getD ((5 * n1 + 5 * zi) + 2) 0#64) ^^^ (ws.getD ((5 * n1 + 5 * zi) + 3) 0#64))) ^^^ (ws.getD ((5 * n1 + 5 * zi) + 4) 0#64))])]) rfl (by exact fillAll rfl rfl) rfl ?_
     intro b154 w156 hS155 H157 hE158
     exact hK _ _ ⟨b154, rfl, hS155, H157⟩
    refine WalkC.eff 1 rfl (fun r uw159 hF161 => ?_) ?_
    ·skip
     obtain ⟨b154, e27, hS155, H160⟩ := hF161
     dsimp only [List.take, List.map, List.cons_append, List.nil_append]
     rw [e27]
     refine Gives.ofW (d := 168) rfl rfl (fun Q' hK => ?_)
     refine q_append (E := ETr) (k := 11) (l := rowsOf (biB ws) (5 * n1) zi) (l2 := ([⟨ws.getD ((5 * n1 + 5 * zi) + 1) 0#64, ws.getD ((5 * n1 + 5 * zi) + 3) 0#64, (((ws.getD (5 * n1 + 5 * zi) 0#64) ^^^ (ws.getD ((5 * n1 + 5 * zi) + 1) 0#64)) &&& ((ws.getD ((5 * n1 + 5 * zi) + 2) 0#64) ^^^ (ws.getD ((5 * n1 + 5 * zi) + 3) 0#64))) ^^^ (ws.getD ((5 * n1 + 5 * zi) + 4) 0#64)⟩] : List Tr)) H160 rfl hkybb sli49 zer34 rfl byt34 (H160.rd (k := 0) rfl hS155) rfl (by rw [rowsOf_len]) rfl (by rfl) (by omega) ?_
     intro key162 c163 sp164 w166 hS165 hne168 H167
     have H167' := H167.as (L' := (((some b154), sob ETr 34 ([⟨ws.getD ((5 * n1 + 5 * zi) + 1) 0#64, ws.getD ((5 * n1 + 5 * zi) + 3) 0#64, (((ws.getD (5 * n1 + 5 * zi) 0#64) ^^^ (ws.getD ((5 * n1 + 5 * zi) + 1) 0#64)) &&& ((ws.getD ((5 * n1 + 5 * zi) + 2) 0#64) ^^^ (ws.getD ((5 * n1 + 5 * zi) + 3) 0#64))) ^^^ (ws.getD ((5 * n1 + 5 * zi) + 4) 0#64)⟩] : List Tr) ([])) :: ((some b123), sob ETr 34 ([⟨ws.getD (5 * n1 + 5 * zi) 0#64, ws.getD ((5 * n1 + 5 * zi) + 2) 0#64, ws.getD ((5 * n1 + 5 * zi) + 4) 0#64⟩] : List Tr) ([])) :: (some b113, .cells (cel E64 ([ws.getD (5 * n1 + 5 * zi) 0#64, ws.getD ((5 * n1 + 5 * zi) + 1) 0#64, ws.getD ((5 * n1 + 5 * zi) + 2) 0#64, ws.getD ((5 * n1 + 5 * zi) + 3) 0#64, ws.getD ((5 * n1 + 5 * zi) + 4) 0#64])).toArray 136 (0, 0)) :: (some b, .cells #[.slice (ownA key) ws.length c, .pointer none, i64 (ws.length : Nat), i64 (((5 * n1 + 5 * zi) + 5 : Nat))] 141 (0, 0)) :: (key, sob E64 32 ws sp) :: (some b23, .cells #[pT b15, pT b19] 25 (0, 0)) :: (some b15, .cells #[.slice (ownA kyta) n1 ccta, .slice (ownA key131) (zi + 1) c132, .slice none 0 0] 135 (0, 0)) :: (some b19, .cells #[.slice (ownA kytb) n1 cctb, .slice (ownA kybb) zi ccbb, .slice none 0 0] 135 (0, 0)) :: (kyta, sob ETr 34 (rowsOf (trA ws) 0 n1) zzta) :: (kytb, sob ETr 34 (rowsOf (trB ws) 0 n1) zztb) :: (key131, sob ETr 34 (rowsOf (trA ws) (5 * n1) (zi + 1)) sp133) :: (key162, sob ETr 34 ((rowsOf (biB ws) (5 * n1) zi) ++ ([⟨ws.getD ((5 * n1 + 5 * zi) + 1) 0#64, ws.getD ((5 * n1 + 5 * zi) + 3) 0#64, (((ws.getD (5 * n1 + 5 * zi) 0#64) ^^^ (ws.getD ((5 * n1 + 5 * zi) + 1) 0#64)) &&& ((ws.getD ((5 * n1 + 5 * zi) + 2) 0#64) ^^^ (ws.getD ((5 * n1 + 5 * zi) + 3) 0#64))) ^^^ (ws.getD ((5 * n1 + 5 * zi) + 4) 0#64)⟩] : List Tr)) sp164) :: (some b1, .cells #[.pointer none, .pointer none] 25 (0, 0)) :: R)) rfl
     clear H167
     have e169 : (rowsOf (biB ws) (5 * n1) zi) ++ ([⟨ws.getD ((5 * n1 + 5 * zi) + 1) 0#64, ws.getD ((5 * n1 + 5 * zi) + 3) 0#64, (((ws.getD (5 * n1 + 5 * zi) 0#64) ^^^ (ws.getD ((5 * n1 + 5 * zi) + 1) 0#64)) &&& ((ws.getD ((5 * n1 + 5 * zi) + 2) 0#64) ^^^ (ws.getD ((5 * n1 + 5 * zi) + 3) 0#64))) ^^^ (ws.getD ((5 * n1 + 5 * zi) + 4) 0#64)⟩] : List Tr) = rowsOf (biB ws) (5 * n1) (zi + 1) := by rw [rowsOf_succ]; rfl
     have hS170 := hS165
     rw [e169] at hS170
     have H171 := H167'.as (L' := (((some b154), sob ETr 34 ([⟨ws.getD ((5 * n1 + 5 * zi) + 1) 0#64, ws.getD ((5 * n1 + 5 * zi) + 3) 0#64, (((ws.getD (5 * n1 + 5 * zi) 0#64) ^^^ (ws.getD ((5 * n1 + 5 * zi) + 1) 0#64)) &&& ((ws.getD ((5 * n1 + 5 * zi) + 2) 0#64) ^^^ (ws.getD ((5 * n1 + 5 * zi) + 3) 0#64))) ^^^ (ws.getD ((5 * n1 + 5 * zi) + 4) 0#64)⟩] : List Tr) ([])) :: ((some b123), sob ETr 34 ([⟨ws.getD (5 * n1 + 5 * zi) 0#64, ws.getD ((5 * n1 + 5 * zi) + 2) 0#64, ws.getD ((5 * n1 + 5 * zi) + 4) 0#64⟩] : List Tr) ([])) :: (some b113, .cells (cel E64 ([ws.getD (5 * n1 + 5 * zi) 0#64, ws.getD ((5 * n1 + 5 * zi) + 1) 0#64, ws.getD ((5 * n1 + 5 * zi) + 2) 0#64, ws.getD ((5 * n1 + 5 * zi) + 3) 0#64, ws.getD ((5 * n1 + 5 * zi) + 4) 0#64])).toArray 136 (0, 0)) :: (some b, .cells #[.slice (ownA key) ws.length c, .pointer none, i64 (ws.length : Nat), i64 (((5 * n1 + 5 * zi) + 5 : Nat))] 141 (0, 0)) :: (key, sob E64 32 ws sp) :: (some b23, .cells #[pT b15, pT b19] 25 (0, 0)) :: (some b15, .cells #[.slice (ownA kyta) n1 ccta, .slice (ownA key131) (zi + 1) c132, .slice none 0 0] 135 (0, 0)) :: (some b19, .cells #[.slice (ownA kytb) n1 cctb, .slice (ownA kybb) zi ccbb, .slice none 0 0] 135 (0, 0)) :: (kyta, sob ETr 34 (rowsOf (trA ws) 0 n1) zzta) :: (kytb, sob ETr 34 (rowsOf (trB ws) 0 n1) zztb) :: (key131, sob ETr 34 (rowsOf (trA ws) (5 * n1) (zi + 1)) sp133) :: (key162, sob ETr 34 (rowsOf (biB ws) (5 * n1) (zi + 1)) sp164) :: (some b1, .cells #[.pointer none, .pointer none] 25 (0, 0)) :: R)) (by rw [e169])
     exact hK _ _ ⟨b154, key162, c163, sp164, rfl, rfl, hS155, hS170, H171⟩
    refine WalkC.look rfl (fun _ => pT b19) (fun _ _ _ => rfl) (fun q r uw _ _ _ _ => Gives.run rfl (r_nilCheck rfl) ⟨rfl, rfl⟩) ?_
    refine WalkC.look rfl (fun _ => .pointer (some ⟨b19, 1, none⟩)) (fun _ _ _ => rfl) (fun q r uw _ _ _ _ => Gives.run rfl (r_fieldAddr (off' := 1) fld135_1 (by decide) (b := b19) (off := 0) rfl (by omega)) ⟨rfl, rfl⟩) ?_
    refine WalkC.look rfl (fun _ => .pointer (some ⟨b19, 1, none⟩)) (fun _ _ _ => rfl) (fun q r uw _ _ _ _ => Gives.run rfl (r_fieldAddr (off' := 1) fld131_0 (by decide) (b := b19) (off := 1) rfl (by omega)) ⟨rfl, rfl⟩) ?_
    refine WalkC.eff 2 rfl (fun r uw172 hF174 => ?_) ?_
    ·skip
     obtain ⟨b154, key162, c163, sp164, e27, e28, hS155, hS170, H173⟩ := hF174
     dsimp only [List.take, List.map, List.cons_append, List.nil_append]
     rw [e27, e28]
     refine Gives.ofW0 rfl (fun Q' hK => ?_)
     refine d_store (k := 7) (v := .slice (ownA key162) (zi + 1) c163) (cs' := #[.slice (ownA kytb) n1 cctb, .slice (ownA key162) (zi + 1) c163, .slice none 0 0]) H173 rfl rfl rfl siz49 (by rfl) (by intro u hu; simp [Value.cells] at hu; first | (subst hu; rfl) | (rcases hu with rfl <;> rfl)) (by exact bLe rfl) (by rfl) ?_
     intro w175 H176 hC177
     have H176' := H176.as (L' := (((some b154), sob ETr 34 ([⟨ws.getD ((5 * n1 + 5 * zi) + 1) 0#64, ws.getD ((5 * n1 + 5 * zi) + 3) 0#64, (((ws.getD (5 * n1 + 5 * zi) 0#64) ^^^ (ws.getD ((5 * n1 + 5 * zi) + 1) 0#64)) &&& ((ws.getD ((5 * n1 + 5 * zi) + 2) 0#64) ^^^ (ws.getD ((5 * n1 + 5 * zi) + 3) 0#64))) ^^^ (ws.getD ((5 * n1 + 5 * zi) + 4) 0#64)⟩] : List Tr) ([])) :: ((some b123), sob ETr 34 ([⟨ws.getD (5 * n1 + 5 * zi) 0#64, ws.getD ((5 * n1 + 5 * zi) + 2) 0#64, ws.getD ((5 * n1 + 5 * zi) + 4) 0#64⟩] : List Tr) ([])) :: (some b113, .cells (cel E64 ([ws.getD (5 * n1 + 5 * zi) 0#64, ws.getD ((5 * n1 + 5 * zi) + 1) 0#64, ws.getD ((5 * n1 + 5 * zi) + 2) 0#64, ws.getD ((5 * n1 + 5 * zi) + 3) 0#64, ws.getD ((5 * n1 + 5 * zi) + 4) 0#64])).toArray 136 (0, 0)) :: (some b, .cells #[.slice (ownA key) ws.length c, .pointer none, i64 (ws.length : Nat), i64 (((5 * n1 + 5 * zi) + 5 : Nat))] 141 (0, 0)) :: (key, sob E64 32 ws sp) :: (some b23, .cells #[pT b15, pT b19] 25 (0, 0)) :: (some b15, .cells #[.slice (ownA kyta) n1 ccta, .slice (ownA key131) (zi + 1) c132, .slice none 0 0] 135 (0, 0)) :: (some b19, .cells #[.slice (ownA kytb) n1 cctb, .slice (ownA key162) (zi + 1) c163, .slice none 0 0] 135 (0, 0)) :: (kyta, sob ETr 34 (rowsOf (trA ws) 0 n1) zzta) :: (kytb, sob ETr 34 (rowsOf (trB ws) 0 n1) zztb) :: (key131, sob ETr 34 (rowsOf (trA ws) (5 * n1) (zi + 1)) sp133) :: (key162, sob ETr 34 (rowsOf (biB ws) (5 * n1) (zi + 1)) sp164) :: (some b1, .cells #[.pointer none, .pointer none] 25 (0, 0)) :: R)) rfl
     clear H176
     exact hK _ (fun _ => ⟨b154, key162, c163, sp164, rfl, rfl, trivial, hS155, hS170, H176'⟩)
    refine WalkC.nil ?_
    intro r178 w179 hF181
    obtain ⟨b154, key162, c163, sp164, e27, e28, e32, hS155, hS170, H180⟩ := hF181
    dsimp only
    rw [e27, e28]
    refine wnil ?_
    refine blockNormal ?_
    refine thenNormal ?_
    refine oneRegion ?_
    refine sq (r_addI (a := (zi : Nat)) (b := (1 : Int)) rfl rfl (by omega)) ?_
    refine sM (i64 ((zi : Nat) + (1 : Int))) rfl ?_
    refine wnil ?_
    refine thenNormal ?_
    rw [show (5 * n1 + 5 * zi) + 5 = 5 * n1 + 5 * (zi + 1) by omega] at H180
    exact ⟨(zi + 1, key131, c132, sp133, key162, c163, sp164), _, rfl, ⟨rfl, rfl, rfl, rfl, rfl, rfl, rfl, rfl, rfl, trivial⟩, ⟨⟨by omega, hS139, hS170⟩, (H180.pick 13 [5, 6, 7, 8, 9, 10, 11, 12, 3, 4] (by decide) (by decide))⟩, by show n2 - (zi + 1) < n2 - zi; omega⟩
   ·skip
    obtain rfl : n2 = zi := by omega
    refine exitAny ?_
    refine thenExit ?_
    refine thenExit ?_
    refine blockHere ?_
    refine thenNormal ?_
    refine seqAny ?_
    refine sR ?_
    refine sM (i64 (n3 : Nat)) rfl ?_
    refine sM (i64 ((0 : Int))) rfl ?_
    refine wend ?_
    refine blockAny ?_
    refine loopAny (σ := Nat × Option Nat × Nat × List Value × Option Nat × Nat × List Value) (fun (zi, kyoa, ccoa, zzoa, kyob, ccob, zzob) => [(0, pT b), (1, i64 (n1 : Nat)), (2, i64 (n2 : Nat)), (3, i64 (n3 : Nat)), (8, pT b1), (9, .nilIface), (12, pT b23), (173, i64 (n3 : Nat)), (174, i64 (zi : Nat))]) (fun (zi, kyoa, ccoa, zzoa, kyob, ccob, zzob) w' => (zi ≤ n3 ∧ Sl EOt kyoa (rowsOf (otA ws) (5 * (n1 + n2)) zi) ccoa zzoa ∧ Sl EOt kyob (rowsOf (otB ws) (5 * (n1 + n2)) zi) ccob zzob) ∧ Hp No w₀ w' ((some b23, .cells #[pT b15, pT b19] 25 (0, 0)) :: (some b15, .cells #[.slice (ownA kyta) n1 ccta, .slice (ownA kyba) n2 ccba, .slice (ownA kyoa) zi ccoa] 135 (0, 0)) :: (some b19, .cells #[.slice (ownA kytb) n1 cctb, .slice (ownA kybb) n2 ccbb, .slice (ownA kyob) zi ccob] 135 (0, 0)) :: (kyta, sob ETr 34 (rowsOf (trA ws) 0 n1) zzta) :: (kytb, sob ETr 34 (rowsOf (trB ws) 0 n1) zztb) :: (kyba, sob ETr 34 (rowsOf (trA ws) (5 * n1) n2) zzba) :: (kybb, sob ETr 34 (rowsOf (biB ws) (5 * n1) n2) zzbb) :: (kyoa, sob EOt 41 (rowsOf (otA ws) (5 * (n1 + n2)) zi) zzoa) :: (kyob, sob EOt 41 (rowsOf (otB ws) (5 * (n1 + n2)) zi) zzob) :: (some b1, .cells #[.pointer none, .pointer none] 25 (0, 0)) :: (some b, .cells #[.slice (ownA key) ws.length c, .pointer none, i64 (ws.length : Nat), i64 ((5 * (n1 + n2) + 5 * zi : Nat))] 141 (0, 0)) :: (key, sob E64 32 ws sp) :: R)) (fun (zi, kyoa, ccoa, zzoa, kyob, ccob, zzob) => n3 - zi) ((0, none, 0, [], none, 0, [])) ?_ ?_ ?_
    ·exact ⟨rfl, rfl, rfl, rfl, rfl, rfl, rfl, rfl, rfl, trivial⟩
    rw [show 5 * n1 + 5 * n2 = 5 * (n1 + n2) + 5 * 0 by omega] at HL1
    ·exact ⟨⟨Nat.zero_le _, Sl.none, Sl.none⟩, (((HL1.nil (sob EOt 41 [] [])).nil (sob EOt 41 [] [])).pick 12 [2, 3, 4, 5, 6, 7, 8, 1, 0, 9, 10, 11] (by decide) (by decide))⟩
    rintro ⟨zi, kyoa, ccoa, zzoa, kyob, ccob, zzob⟩ ρ w182 ⟨⟨hzi, hkyoa, hkyob⟩, HL2⟩
    refine sR ?_
    refine sq (r_lssI (a := (zi : Nat)) (b := (n3 : Nat)) rfl rfl) ?_
    refine wend ?_
    refine seqAny ?_
    refine condProp (((zi : Nat) : Int) < (n3 : Nat)) rfl (fun c175 => ?_) (fun c175 => ?_)
    ·skip
     refine skipAny ?_
     refine thenNormal ?_
     refine seqAny ?_
     refine blockAny ?_
     refine sR ?_
     refine sM (pT b) rfl ?_
     have H184 := ((HL2.pick 12 [10, 11, 0, 1, 2, 3, 4, 5, 6, 7, 8, 9] (by decide) (by decide))).as (L' := ((some b, .cells #[.slice (ownA key) ws.length c, .pointer none, i64 (ws.length : Nat), i64 ((5 * (n1 + n2) + 5 * zi : Nat))] 141 (0, 0)) :: (key, sob E64 32 ws sp) :: ((some b23, .cells #[pT b15, pT b19] 25 (0, 0)) :: (some b15, .cells #[.slice (ownA kyta) n1 ccta, .slice (ownA kyba) n2 ccba, .slice (ownA kyoa) zi ccoa] 135 (0, 0)) :: (some b19, .cells #[.slice (ownA kytb) n1 cctb, .slice (ownA kybb) n2 ccbb, .slice (ownA kyob) zi ccob] 135 (0, 0)) :: (kyta, sob ETr 34 (rowsOf (trA ws) 0 n1) zzta) :: (kytb, sob ETr 34 (rowsOf (trB ws) 0 n1) zztb) :: (kyba, sob ETr 34 (rowsOf (trA ws) (5 * n1) n2) zzba) :: (kybb, sob ETr 34 (rowsOf (biB ws) (5 * n1) n2) zzbb) :: (kyoa, sob EOt 41 (rowsOf (otA ws) (5 * (n1 + n2)) zi) zzoa) :: (kyob, sob EOt 41 (rowsOf (otB ws) (5 * (n1 + n2)) zi) zzob) :: (some b1, .cells #[.pointer none, .pointer none] 25 (0, 0)) :: R))) rfl
     refine c_call (vs := [pT b]) call65 rfl (five_ok b key c sp ws hSw hlen (5 * (n1 + n2) + 5 * zi) (by omega) ((some b23, .cells #[pT b15, pT b19] 25 (0, 0)) :: (some b15, .cells #[.slice (ownA kyta) n1 ccta, .slice (ownA kyba) n2 ccba, .slice (ownA kyoa) zi ccoa] 135 (0, 0)) :: (some b19, .cells #[.slice (ownA kytb) n1 cctb, .slice (ownA kybb) n2 ccbb, .slice (ownA kyob) zi ccob] 135 (0, 0)) :: (kyta, sob ETr 34 (rowsOf (trA ws) 0 n1) zzta) :: (kytb, sob ETr 34 (rowsOf (trB ws) 0 n1) zztb) :: (kyba, sob ETr 34 (rowsOf (trA ws) (5 * n1) n2) zzba) :: (kybb, sob ETr 34 (rowsOf (biB ws) (5 * n1) n2) zzbb) :: (kyoa, sob EOt 41 (rowsOf (otA ws) (5 * (n1 + n2)) zi) zzoa) :: (kyob, sob EOt 41 (rowsOf (otB ws) (5 * (n1 + n2)) zi) zzob) :: (some b1, .cells #[.pointer none, .pointer none] 25 (0, 0)) :: R) w₀ w182 H184) ?_
     rintro _ w185 ⟨rfl, HN187⟩
     have H188 := HN187.as (L' := ((some b, .cells #[.slice (ownA key) ws.length c, .pointer none, i64 (ws.length : Nat), i64 (((5 * (n1 + n2) + 5 * zi) + 5 : Nat))] 141 (0, 0)) :: (key, sob E64 32 ws sp) :: (some b23, .cells #[pT b15, pT b19] 25 (0, 0)) :: (some b15, .cells #[.slice (ownA kyta) n1 ccta, .slice (ownA kyba) n2 ccba, .slice (ownA kyoa) zi ccoa] 135 (0, 0)) :: (some b19, .cells #[.slice (ownA kytb) n1 cctb, .slice (ownA kybb) n2 ccbb, .slice (ownA kyob) zi ccob] 135 (0, 0)) :: (kyta, sob ETr 34 (rowsOf (trA ws) 0 n1) zzta) :: (kytb, sob ETr 34 (rowsOf (trB ws) 0 n1) zztb) :: (kyba, sob ETr 34 (rowsOf (trA ws) (5 * n1) n2) zzba) :: (kybb, sob ETr 34 (rowsOf (biB ws) (5 * n1) n2) zzbb) :: (kyoa, sob EOt 41 (rowsOf (otA ws) (5 * (n1 + n2)) zi) zzoa) :: (kyob, sob EOt 41 (rowsOf (otB ws) (5 * (n1 + n2)) zi) zzob) :: (some b1, .cells #[.pointer none, .pointer none] 25 (0, 0)) :: R)) rfl
     refine q_alloc (o := .cells (cel E64 (List.replicate 5 0#64)).toArray 136 (0, 0)) H188 zer136 (by kernel_rfl) ?_
     intro b189 w190 hb189 H191 hE192
     refine d_store (k := 0) (v := .agg (cel E64 [ws.getD (5 * (n1 + n2) + 5 * zi) 0#64, ws.getD ((5 * (n1 + n2) + 5 * zi) + 1) 0#64, ws.getD ((5 * (n1 + n2) + 5 * zi) + 2) 0#64, ws.getD ((5 * (n1 + n2) + 5 * zi) + 3) 0#64, ws.getD ((5 * (n1 + n2) + 5 * zi) + 4) 0#64]).toArray) (cs' := (cel E64 ([ws.getD (5 * (n1 + n2) + 5 * zi) 0#64, ws.getD ((5 * (n1 + n2) + 5 * zi) + 1) 0#64, ws.getD ((5 * (n1 + n2) + 5 * zi) + 2) 0#64, ws.getD ((5 * (n1 + n2) + 5 * zi) + 3) 0#64, ws.getD ((5 * (n1 + n2) + 5 * zi) + 4) 0#64])).toArray) H191 rfl rfl rfl siz136 (by exact celSize (by first | rfl | (show _ * 1 = _; omega))) (by exact celOne _) (by rw [List.size_toArray, cel_length]; show _ ≤ _ * 1; first | omega | (simp only [List.length_set]; omega) | exact bLe rfl | (simp <;> omega)) (by exact putAll (by first | rfl | omega | (simp <;> omega))) ?_
     intro w193 H194 hC195
     have H194' := H194.as (L' := ((some b189, .cells (cel E64 ([ws.getD (5 * (n1 + n2) + 5 * zi) 0#64, ws.getD ((5 * (n1 + n2) + 5 * zi) + 1) 0#64, ws.getD ((5 * (n1 + n2) + 5 * zi) + 2) 0#64, ws.getD ((5 * (n1 + n2) + 5 * zi) + 3) 0#64, ws.getD ((5 * (n1 + n2) + 5 * zi) + 4) 0#64])).toArray 136 (0, 0)) :: (some b, .cells #[.slice (ownA key) ws.length c, .pointer none, i64 (ws.length : Nat), i64 (((5 * (n1 + n2) + 5 * zi) + 5 : Nat))] 141 (0, 0)) :: (key, sob E64 32 ws sp) :: (some b23, .cells #[pT b15, pT b19] 25 (0, 0)) :: (some b15, .cells #[.slice (ownA kyta) n1 ccta, .slice (ownA kyba) n2 ccba, .slice (ownA kyoa) zi ccoa] 135 (0, 0)) :: (some b19, .cells #[.slice (ownA kytb) n1 cctb, .slice (ownA kybb) n2 ccbb, .slice (ownA kyob) zi ccob] 135 (0, 0)) :: (kyta, sob ETr 34 (rowsOf (trA ws) 0 n1) zzta) :: (kytb, sob ETr 34 (rowsOf (trB ws) 0 n1) zztb) :: (kyba, sob ETr 34 (rowsOf (trA ws) (5 * n1) n2) zzba) :: (kybb, sob ETr 34 (rowsOf (biB ws) (5 * n1) n2) zzbb) :: (kyoa, sob EOt 41 (rowsOf (otA ws) (5 * (n1 + n2)) zi) zzoa) :: (kyob, sob EOt 41 (rowsOf (otB ws) (5 * (n1 + n2)) zi) zzob) :: (some b1, .cells #[.pointer none, .pointer none] 25 (0, 0)) :: R)) rfl
     clear H194
     refine wend ?_
     refine sR ?_
     refine sq (r_indexA (off' := 0) (j := 0) arr136 (b := b189) (off := 0) rfl rfl (by first | rfl | omega | (simp; omega)) (by omega) (by omega)) ?_
     refine sq (r_ld1 (E := E64) (l := [ws.getD (5 * (n1 + n2) + 5 * zi) 0#64, ws.getD ((5 * (n1 + n2) + 5 * zi) + 1) 0#64, ws.getD ((5 * (n1 + n2) + 5 * zi) + 2) 0#64, ws.getD ((5 * (n1 + n2) + 5 * zi) + 3) 0#64, ws.getD ((5 * (n1 + n2) + 5 * zi) + 4) 0#64]) (j := 0) (a := ws.getD (5 * (n1 + n2) + 5 * zi) 0#64) fits32 (H194'.get (k := 0) rfl) (by rfl) rfl rfl) ?_
     refine sq (r_indexA (off' := 1) (j := 1) arr136 (b := b189) (off := 0) rfl rfl (by first | rfl | omega | (simp; omega)) (by omega) (by omega)) ?_
     refine sq (r_ld1 (E := E64) (l := [ws.getD (5 * (n1 + n2) + 5 * zi) 0#64, ws.getD ((5 * (n1 + n2) + 5 * zi) + 1) 0#64, ws.getD ((5 * (n1 + n2) + 5 * zi) + 2) 0#64, ws.getD ((5 * (n1 + n2) + 5 * zi) + 3) 0#64, ws.getD ((5 * (n1 + n2) + 5 * zi) + 4) 0#64]) (j := 1) (a := ws.getD ((5 * (n1 + n2) + 5 * zi) + 1) 0#64) fits32 (H194'.get (k := 0) rfl) (by rfl) rfl rfl) ?_
     refine sq (r_buildA (cs' := (cel E64 [ws.getD (5 * (n1 + n2) + 5 * zi) 0#64, ws.getD ((5 * (n1 + n2) + 5 * zi) + 1) 0#64]).toArray) (ps := [(0, u64 (ws.getD (5 * (n1 + n2) + 5 * zi) 0#64)), (1, u64 (ws.getD ((5 * (n1 + n2) + 5 * zi) + 1) 0#64))]) zer38 arr38 rfl (by rfl)) ?_
     refine sq (r_indexA (off' := 2) (j := 2) arr136 (b := b189) (off := 0) rfl rfl (by first | rfl | omega | (simp; omega)) (by omega) (by omega)) ?_
     refine sq (r_ld1 (E := E64) (l := [ws.getD (5 * (n1 + n2) + 5 * zi) 0#64, ws.getD ((5 * (n1 + n2) + 5 * zi) + 1) 0#64, ws.getD ((5 * (n1 + n2) + 5 * zi) + 2) 0#64, ws.getD ((5 * (n1 + n2) + 5 * zi) + 3) 0#64, ws.getD ((5 * (n1 + n2) + 5 * zi) + 4) 0#64]) (j := 2) (a := ws.getD ((5 * (n1 + n2) + 5 * zi) + 2) 0#64) fits32 (H194'.get (k := 0) rfl) (by rfl) rfl rfl) ?_
     refine sq (r_indexA (off' := 3) (j := 3) arr136 (b := b189) (off := 0) rfl rfl (by first | rfl | omega | (simp; omega)) (by omega) (by omega)) ?_
     refine sq (r_ld1 (E := E64) (l := [ws.getD (5 * (n1 + n2) + 5 * zi) 0#64, ws.getD ((5 * (n1 + n2) + 5 * zi) + 1) 0#64, ws.getD ((5 * (n1 + n2) + 5 * zi) + 2) 0#64, ws.getD ((5 * (n1 + n2) + 5 * zi) + 3) 0#64, ws.getD ((5 * (n1 + n2) + 5 * zi) + 4) 0#64]) (j := 3) (a := ws.getD ((5 * (n1 + n2) + 5 * zi) + 3) 0#64) fits32 (H194'.get (k := 0) rfl) (by rfl) rfl rfl) ?_
     refine sq (r_buildA (cs' := (cel E64 [ws.getD ((5 * (n1 + n2) + 5 * zi) + 2) 0#64, ws.getD ((5 * (n1 + n2) + 5 * zi) + 3) 0#64]).toArray) (ps := [(0, u64 (ws.getD ((5 * (n1 + n2) + 5 * zi) + 2) 0#64)), (1, u64 (ws.getD ((5 * (n1 + n2) + 5 * zi) + 3) 0#64))]) zer38 arr38 rfl (by rfl)) ?_
     refine sq (r_buildA (cs' := #[u64 (ws.getD (5 * (n1 + n2) + 5 * zi) 0#64), u64 (ws.getD ((5 * (n1 + n2) + 5 * zi) + 1) 0#64), u64 (ws.getD ((5 * (n1 + n2) + 5 * zi) + 2) 0#64), u64 (ws.getD ((5 * (n1 + n2) + 5 * zi) + 3) 0#64)]) (ps := [(0, .agg (cel E64 [ws.getD (5 * (n1 + n2) + 5 * zi) 0#64, ws.getD ((5 * (n1 + n2) + 5 * zi) + 1) 0#64]).toArray), (1, .agg (cel E64 [ws.getD ((5 * (n1 + n2) + 5 * zi) + 2) 0#64, ws.getD ((5 * (n1 + n2) + 5 * zi) + 3) 0#64]).toArray)]) zer39 arr39 rfl (by rfl)) ?_
     refine sq (r_build (cs' := #[u64 (ws.getD (5 * (n1 + n2) + 5 * zi) 0#64), u64 (ws.getD ((5 * (n1 + n2) + 5 * zi) + 1) 0#64), u64 (ws.getD ((5 * (n1 + n2) + 5 * zi) + 2) 0#64), u64 (ws.getD ((5 * (n1 + n2) + 5 * zi) + 3) 0#64), .bool (false)]) (ps := [(0, .agg #[u64 (ws.getD (5 * (n1 + n2) + 5 * zi) 0#64), u64 (ws.getD ((5 * (n1 + n2) + 5 * zi) + 1) 0#64), u64 (ws.getD ((5 * (n1 + n2) + 5 * zi) + 2) 0#64), u64 (ws.getD ((5 * (n1 + n2) + 5 * zi) + 3) 0#64)])]) zer41 pls41 rfl (by rfl)) ?_
     refine q_alloc (o := .cells #[u64 (0#64), u64 (0#64), u64 (0#64), u64 (0#64), .bool (false)] 41 (0, 0)) H194' zer41 (by kernel_rfl) ?_
     intro b196 w197 hb196 H198 hE199
     refine d_store (k := 0) (v := .agg #[u64 (ws.getD (5 * (n1 + n2) + 5 * zi) 0#64), u64 (ws.getD ((5 * (n1 + n2) + 5 * zi) + 1) 0#64), u64 (ws.getD ((5 * (n1 + n2) + 5 * zi) + 2) 0#64), u64 (ws.getD ((5 * (n1 + n2) + 5 * zi) + 3) 0#64), .bool (false)]) (cs' := #[u64 (ws.getD (5 * (n1 + n2) + 5 * zi) 0#64), u64 (ws.getD ((5 * (n1 + n2) + 5 * zi) + 1) 0#64), u64 (ws.getD ((5 * (n1 + n2) + 5 * zi) + 2) 0#64), u64 (ws.getD ((5 * (n1 + n2) + 5 * zi) + 3) 0#64), .bool (false)]) H198 rfl rfl rfl siz41 (by rfl) (by intro u hu; simp [Value.cells] at hu; first | (subst hu; rfl) | (rcases hu with rfl | rfl | rfl | rfl | rfl <;> rfl)) (by exact bLe rfl) (by rfl) ?_
     intro w200 H201 hC202
     have H201' := H201.as (L' := ((some b196, .cells #[u64 (ws.getD (5 * (n1 + n2) + 5 * zi) 0#64), u64 (ws.getD ((5 * (n1 + n2) + 5 * zi) + 1) 0#64), u64 (ws.getD ((5 * (n1 + n2) + 5 * zi) + 2) 0#64), u64 (ws.getD ((5 * (n1 + n2) + 5 * zi) + 3) 0#64), .bool (false)] 41 (0, 0)) :: (some b189, .cells (cel E64 ([ws.getD (5 * (n1 + n2) + 5 * zi) 0#64, ws.getD ((5 * (n1 + n2) + 5 * zi) + 1) 0#64, ws.getD ((5 * (n1 + n2) + 5 * zi) + 2) 0#64, ws.getD ((5 * (n1 + n2) + 5 * zi) + 3) 0#64, ws.getD ((5 * (n1 + n2) + 5 * zi) + 4) 0#64])).toArray 136 (0, 0)) :: (some b, .cells #[.slice (ownA key) ws.length c, .pointer none, i64 (ws.length : Nat), i64 (((5 * (n1 + n2) + 5 * zi) + 5 : Nat))] 141 (0, 0)) :: (key, sob E64 32 ws sp) :: (some b23, .cells #[pT b15, pT b19] 25 (0, 0)) :: (some b15, .cells #[.slice (ownA kyta) n1 ccta, .slice (ownA kyba) n2 ccba, .slice (ownA kyoa) zi ccoa] 135 (0, 0)) :: (some b19, .cells #[.slice (ownA kytb) n1 cctb, .slice (ownA kybb) n2 ccbb, .slice (ownA kyob) zi ccob] 135 (0, 0)) :: (kyta, sob ETr 34 (rowsOf (trA ws) 0 n1) zzta) :: (kytb, sob ETr 34 (rowsOf (trB ws) 0 n1) zztb) :: (kyba, sob ETr 34 (rowsOf (trA ws) (5 * n1) n2) zzba) :: (kybb, sob ETr 34 (rowsOf (biB ws) (5 * n1) n2) zzbb) :: (kyoa, sob EOt 41 (rowsOf (otA ws) (5 * (n1 + n2)) zi) zzoa) :: (kyob, sob EOt 41 (rowsOf (otB ws) (5 * (n1 + n2)) zi) zzob) :: (some b1, .cells #[.pointer none, .pointer none] 25 (0, 0)) :: R)) rfl
     clear H201
     refine wend ?_
     by_cases hodd : gt ws (5 * (n1 + n2) + 5 * zi + 4) &&& 1#64 = 1#64
     ·skip
      refine sR ?_
      refine sq (r_indexA (off' := 4) (j := 4) arr136 (b := b189) (off := 0) rfl rfl (by first | rfl | omega | (simp; omega)) (by omega) (by omega)) ?_
      refine sq (r_ld1 (E := E64) (l := [ws.getD (5 * (n1 + n2) + 5 * zi) 0#64, ws.getD ((5 * (n1 + n2) + 5 * zi) + 1) 0#64, ws.getD ((5 * (n1 + n2) + 5 * zi) + 2) 0#64, ws.getD ((5 * (n1 + n2) + 5 * zi) + 3) 0#64, ws.getD ((5 * (n1 + n2) + 5 * zi) + 4) 0#64]) (j := 4) (a := ws.getD ((5 * (n1 + n2) + 5 * zi) + 4) 0#64) fits32 (H201'.get (k := 1) rfl) (by rfl) rfl rfl) ?_
      refine sq ((r_and64 (a := ws.getD ((5 * (n1 + n2) + 5 * zi) + 4) 0#64) (b := 1#64) rfl rfl).as (v' := u64 (1#64)) (by exact congrArg u64 hodd)) ?_
      refine sA (u64 (1#64)) rfl ?_
      refine wend ?_
      refine seqAny ?_
      refine drawC (m := 15) [0, 1, 0, 4, 12, 28, 60, 124, 0, 256, 1020, 2047, 4095, 8191, 16383] [9, 10, 14] (fun q vs w' => match q, vs with | 0, [] => Hp No w₀ w' ((some b196, .cells #[u64 (ws.getD (5 * (n1 + n2) + 5 * zi) 0#64), u64 (ws.getD ((5 * (n1 + n2) + 5 * zi) + 1) 0#64), u64 (ws.getD ((5 * (n1 + n2) + 5 * zi) + 2) 0#64), u64 (ws.getD ((5 * (n1 + n2) + 5 * zi) + 3) 0#64), .bool (false)] 41 (0, 0)) :: (some b189, .cells (cel E64 ([ws.getD (5 * (n1 + n2) + 5 * zi) 0#64, ws.getD ((5 * (n1 + n2) + 5 * zi) + 1) 0#64, ws.getD ((5 * (n1 + n2) + 5 * zi) + 2) 0#64, ws.getD ((5 * (n1 + n2) + 5 * zi) + 3) 0#64, ws.getD ((5 * (n1 + n2) + 5 * zi) + 4) 0#64])).toArray 136 (0, 0)) :: (some b, .cells #[.slice (ownA key) ws.length c, .pointer none, i64 (ws.length : Nat), i64 (((5 * (n1 + n2) + 5 * zi) + 5 : Nat))] 141 (0, 0)) :: (key, sob E64 32 ws sp) :: (some b23, .cells #[pT b15, pT b19] 25 (0, 0)) :: (some b15, .cells #[.slice (ownA kyta) n1 ccta, .slice (ownA kyba) n2 ccba, .slice (ownA kyoa) zi ccoa] 135 (0, 0)) :: (some b19, .cells #[.slice (ownA kytb) n1 cctb, .slice (ownA kybb) n2 ccbb, .slice (ownA kyob) zi ccob] 135 (0, 0)) :: (kyta, sob ETr 34 (rowsOf (trA ws) 0 n1) zzta) :: (kytb, sob ETr 34 (rowsOf (trB ws) 0 n1) zztb) :: (kyba, sob ETr 34 (rowsOf (trA ws) (5 * n1) n2) zzba) :: (kybb, sob ETr 34 (rowsOf (biB ws) (5 * n1) n2) zzbb) :: (kyoa, sob EOt 41 (rowsOf (otA ws) (5 * (n1 + n2)) zi) zzoa) :: (kyob, sob EOt 41 (rowsOf (otB ws) (5 * (n1 + n2)) zi) zzob) :: (some b1, .cells #[.pointer none, .pointer none] 25 (0, 0)) :: R) | 1, [v0] => ∃ (b206 : Nat), v0 = .slice (ownA (some b206)) 1 1 ∧ Sl EOt (some b206) ([⟨ws.getD (5 * (n1 + n2) + 5 * zi) 0#64, ws.getD ((5 * (n1 + n2) + 5 * zi) + 1) 0#64, ws.getD ((5 * (n1 + n2) + 5 * zi) + 2) 0#64, ws.getD ((5 * (n1 + n2) + 5 * zi) + 3) 0#64, false⟩] : List Ot) 1 ([]) ∧ Hp No w₀ w' (((some b206), sob EOt 41 ([⟨ws.getD (5 * (n1 + n2) + 5 * zi) 0#64, ws.getD ((5 * (n1 + n2) + 5 * zi) + 1) 0#64, ws.getD ((5 * (n1 + n2) + 5 * zi) + 2) 0#64, ws.getD ((5 * (n1 + n2) + 5 * zi) + 3) 0#64, false⟩] : List Ot) ([])) :: (some b196, .cells #[u64 (ws.getD (5 * (n1 + n2) + 5 * zi) 0#64), u64 (ws.getD ((5 * (n1 + n2) + 5 * zi) + 1) 0#64), u64 (ws.getD ((5 * (n1 + n2) + 5 * zi) + 2) 0#64), u64 (ws.getD ((5 * (n1 + n2) + 5 * zi) + 3) 0#64), .bool (false)] 41 (0, 0)) :: (some b189, .cells (cel E64 ([ws.getD (5 * (n1 + n2) + 5 * zi) 0#64, ws.getD ((5 * (n1 + n2) + 5 * zi) + 1) 0#64, ws.getD ((5 * (n1 + n2) + 5 * zi) + 2) 0#64, ws.getD ((5 * (n1 + n2) + 5 * zi) + 3) 0#64, ws.getD ((5 * (n1 + n2) + 5 * zi) + 4) 0#64])).toArray 136 (0, 0)) :: (some b, .cells #[.slice (ownA key) ws.length c, .pointer none, i64 (ws.length : Nat), i64 (((5 * (n1 + n2) + 5 * zi) + 5 : Nat))] 141 (0, 0)) :: (key, sob E64 32 ws sp) :: (some b23, .cells #[pT b15, pT b19] 25 (0, 0)) :: (some b15, .cells #[.slice (ownA kyta) n1 ccta, .slice (ownA kyba) n2 ccba, .slice (ownA kyoa) zi ccoa] 135 (0, 0)) :: (some b19, .cells #[.slice (ownA kytb) n1 cctb, .slice (ownA kybb) n2 ccbb, .slice (ownA kyob) zi ccob] 135 (0, 0)) :: (kyta, sob ETr 34 (rowsOf (trA ws) 0 n1) zzta) :: (kytb, sob ETr 34 (rowsOf (trB ws) 0 n1) zztb) :: (kyba, sob ETr 34 (rowsOf (trA ws) (5 * n1) n2) zzba) :: (kybb, sob ETr 34 (rowsOf (biB ws) (5 * n1) n2) zzbb) :: (kyoa, sob EOt 41 (rowsOf (otA ws) (5 * (n1 + n2)) zi) zzoa) :: (kyob, sob EOt 41 (rowsOf (otB ws) (5 * (n1 + n2)) zi) zzob) :: (some b1, .cells #[.pointer none, .pointer none] 25 (0, 0)) :: R) | 2, [v0, v1] => ∃ (b206 : Nat) (key214 : Option Nat) (c215 : Nat) (sp216 : List Value), v0 = .slice (ownA (some b206)) 1 1 ∧ v1 = .slice (ownA key214) (zi + 1) c215 ∧ Sl EOt (some b206) ([⟨ws.getD (5 * (n1 + n2) + 5 * zi) 0#64, ws.getD ((5 * (n1 + n2) + 5 * zi) + 1) 0#64, ws.getD ((5 * (n1 + n2) + 5 * zi) + 2) 0#64, ws.getD ((5 * (n1 + n2) + 5 * zi) + 3) 0#64, false⟩] : List Ot) 1 ([]) ∧ Sl EOt key214 (rowsOf (otA ws) (5 * (n1 + n2)) (zi + 1)) c215 sp216 ∧ Hp No w₀ w' (((some b206), sob EOt 41 ([⟨ws.getD (5 * (n1 + n2) + 5 * zi) 0#64, ws.getD ((5 * (n1 + n2) + 5 * zi) + 1) 0#64, ws.getD ((5 * (n1 + n2) + 5 * zi) + 2) 0#64, ws.getD ((5 * (n1 + n2) + 5 * zi) + 3) 0#64, false⟩] : List Ot) ([])) :: (some b196, .cells #[u64 (ws.getD (5 * (n1 + n2) + 5 * zi) 0#64), u64 (ws.getD ((5 * (n1 + n2) + 5 * zi) + 1) 0#64), u64 (ws.getD ((5 * (n1 + n2) + 5 * zi) + 2) 0#64), u64 (ws.getD ((5 * (n1 + n2) + 5 * zi) + 3) 0#64), .bool (false)] 41 (0, 0)) :: (some b189, .cells (cel E64 ([ws.getD (5 * (n1 + n2) + 5 * zi) 0#64, ws.getD ((5 * (n1 + n2) + 5 * zi) + 1) 0#64, ws.getD ((5 * (n1 + n2) + 5 * zi) + 2) 0#64, ws.getD ((5 * (n1 + n2) + 5 * zi) + 3) 0#64, ws.getD ((5 * (n1 + n2) + 5 * zi) + 4) 0#64])).toArray 136 (0, 0)) :: (some b, .cells #[.slice (ownA key) ws.length c, .pointer none, i64 (ws.length : Nat), i64 (((5 * (n1 + n2) + 5 * zi) + 5 : Nat))] 141 (0, 0)) :: (key, sob E64 32 ws sp) :: (some b23, .cells #[pT b15, pT b19] 25 (0, 0)) :: (some b15, .cells #[.slice (ownA kyta) n1 ccta, .slice (ownA kyba) n2 ccba, .slice (ownA kyoa) zi ccoa] 135 (0, 0)) :: (some b19, .cells #[.slice (ownA kytb) n1 cctb, .slice (ownA kybb) n2 ccbb, .slice (ownA kyob) zi ccob] 135 (0, 0)) :: (kyta, sob ETr 34 (rowsOf (trA ws) 0 n1) zzta) :: (kytb, sob ETr 34 (rowsOf (trB ws) 0 n1) zztb) :: (kyba, sob ETr 34 (rowsOf (trA ws) (5 * n1) n2) zzba) :: (kybb, sob ETr 34 (rowsOf (biB ws) (5 * n1) n2) zzbb) :: (key214, sob EOt 41 (rowsOf (otA ws) (5 * (n1 + n2)) (zi + 1)) sp216) :: (kyob, sob EOt 41 (rowsOf (otB ws) (5 * (n1 + n2)) zi) zzob) :: (some b1, .cells #[.pointer none, .pointer none] 25 (0, 0)) :: R) | 3, [v0, v1, _] => ∃ (b206 : Nat) (key214 : Option Nat) (c215 : Nat) (sp216 : List Value), v0 = .slice (ownA (some b206)) 1 1 ∧ v1 = .slice (ownA key214) (zi + 1) c215 ∧ True ∧ Sl EOt (some b206) ([⟨ws.getD (5 * (n1 + n2) + 5 * zi) 0#64, ws.getD ((5 * (n1 + n2) + 5 * zi) + 1) 0#64, ws.getD ((5 * (n1 + n2) + 5 * zi) + 2) 0#64, ws.getD ((5 * (n1 + n2) + 5 * zi) + 3) 0#64, false⟩] : List Ot) 1 ([]) ∧ Sl EOt key214 (rowsOf (otA ws) (5 * (n1 + n2)) (zi + 1)) c215 sp216 ∧ Hp No w₀ w' (((some b206), sob EOt 41 ([⟨ws.getD (5 * (n1 + n2) + 5 * zi) 0#64, ws.getD ((5 * (n1 + n2) + 5 * zi) + 1) 0#64, ws.getD ((5 * (n1 + n2) + 5 * zi) + 2) 0#64, ws.getD ((5 * (n1 + n2) + 5 * zi) + 3) 0#64, false⟩] : List Ot) ([])) :: (some b196, .cells #[u64 (ws.getD (5 * (n1 + n2) + 5 * zi) 0#64), u64 (ws.getD ((5 * (n1 + n2) + 5 * zi) + 1) 0#64), u64 (ws.getD ((5 * (n1 + n2) + 5 * zi) + 2) 0#64), u64 (ws.getD ((5 * (n1 + n2) + 5 * zi) + 3) 0#64), .bool (false)] 41 (0, 0)) :: (some b189, .cells (cel E64 ([ws.getD (5 * (n1 + n2) + 5 * zi) 0#64, ws.getD ((5 * (n1 + n2) + 5 * zi) + 1) 0#64, ws.getD ((5 * (n1 + n2) + 5 * zi) + 2) 0#64, ws.getD ((5 * (n1 + n2) + 5 * zi) + 3) 0#64, ws.getD ((5 * (n1 + n2) + 5 * zi) + 4) 0#64])).toArray 136 (0, 0)) :: (some b, .cells #[.slice (ownA key) ws.length c, .pointer none, i64 (ws.length : Nat), i64 (((5 * (n1 + n2) + 5 * zi) + 5 : Nat))] 141 (0, 0)) :: (key, sob E64 32 ws sp) :: (some b23, .cells #[pT b15, pT b19] 25 (0, 0)) :: (some b15, .cells #[.slice (ownA kyta) n1 ccta, .slice (ownA kyba) n2 ccba, .slice (ownA key214) (zi + 1) c215] 135 (0, 0)) :: (some b19, .cells #[.slice (ownA kytb) n1 cctb, .slice (ownA kybb) n2 ccbb, .slice (ownA kyob) zi ccob] 135 (0, 0)) :: (kyta, sob ETr 34 (rowsOf (trA ws) 0 n1) zzta) :: (kytb, sob ETr 34 (rowsOf (trB ws) 0 n1) zztb) :: (kyba, sob ETr 34 (rowsOf (trA ws) (5 * n1) n2) zzba) :: (kybb, sob ETr 34 (rowsOf (biB ws) (5 * n1) n2) zzbb) :: (key214, sob EOt 41 (rowsOf (otA ws) (5 * (n1 + n2)) (zi + 1)) sp216) :: (kyob, sob EOt 41 (rowsOf (otB ws) (5 * (n1 + n2)) zi) zzob) :: (some b1, .cells #[.pointer none, .pointer none] 25 (0, 0)) :: R) | _, _ => False) mixed (by kernel_rfl) (by kernel_rfl) H201'.drew ?_
      refine WalkC.look rfl (fun _ => pT b23) (fun _ _ _ => rfl) (fun q r uw _ _ _ _ => Gives.run rfl (r_indexA (off' := 0) (j := 0) arr25 (b := b23) (off := 0) rfl rfl (by first | rfl | omega | (simp; omega)) (by omega) (by omega)) ⟨rfl, rfl⟩) ?_
      refine WalkC.look rfl (fun _ => pT b15) (fun _ _ _ => rfl) (fun q r uw hlo hhi hle hF => ?_) ?_
      ·skip
       have h1 : 0 ≤ q := Nat.zero_le _
       have h2 : q ≤ 2 := hhi 2 14 rfl rfl
       rcases (show q = 0 ∨ q = 1 ∨ q = 2 by omega) with rfl | rfl | rfl
       ·skip
        have HH := hF
        exact Gives.run rfl (r_loadC (v := pT b15) one24 (HH.get (k := 4) rfl) (off := 0) rfl (by rfl)) ⟨rfl, rfl⟩
       ·skip
        obtain ⟨b206, e9, hS207, HH⟩ := hF
        exact Gives.run rfl (r_loadC (v := pT b15) one24 (HH.get (k := 5) rfl) (off := 0) rfl (by rfl)) ⟨rfl, rfl⟩
       ·skip
        obtain ⟨b206, key214, c215, sp216, e9, e10, hS207, hS222, HH⟩ := hF
        exact Gives.run rfl (r_loadC (v := pT b15) one24 (HH.get (k := 5) rfl) (off := 0) rfl (by rfl)) ⟨rfl, rfl⟩
      refine WalkC.look rfl (fun _ => pT b23) (fun _ _ _ => rfl) (fun q r uw _ _ _ _ => Gives.run rfl (r_indexA (off' := 0) (j := 0) arr25 (b := b23) (off := 0) rfl rfl (by first | rfl | omega | (simp; omega)) (by omega) (by omega)) ⟨rfl, rfl⟩) ?_
      refine WalkC.look rfl (fun _ => pT b15) (fun _ _ _ => rfl) (fun q r uw hlo hhi hle hF => ?_) ?_
      ·skip
       have h1 : 0 ≤ q := Nat.zero_le _
       have h2 : q ≤ 1 := hhi 1 10 rfl rfl
       rcases (show q = 0 ∨ q = 1 by omega) with rfl | rfl
       ·skip
        have HH := hF
        exact Gives.run rfl (r_loadC (v := pT b15) one24 (HH.get (k := 4) rfl) (off := 0) rfl (by rfl)) ⟨rfl, rfl⟩
       ·skip
        obtain ⟨b206, e9, hS207, HH⟩ := hF
        exact Gives.run rfl (r_loadC (v := pT b15) one24 (HH.get (k := 5) rfl) (off := 0) rfl (by rfl)) ⟨rfl, rfl⟩
      refine WalkC.look rfl (fun _ => pT b15) (fun _ _ _ => rfl) (fun q r uw _ _ _ _ => Gives.run rfl (r_nilCheck rfl) ⟨rfl, rfl⟩) ?_
      refine WalkC.look rfl (fun _ => .pointer (some ⟨b15, 2, none⟩)) (fun _ _ _ => rfl) (fun q r uw _ _ _ _ => Gives.run rfl (r_fieldAddr (off' := 2) fld135_2 (by decide) (b := b15) (off := 0) rfl (by omega)) ⟨rfl, rfl⟩) ?_
      refine WalkC.look rfl (fun _ => .pointer (some ⟨b15, 2, none⟩)) (fun _ _ _ => rfl) (fun q r uw _ _ _ _ => Gives.run rfl (r_fieldAddr (off' := 2) fld133_0 (by decide) (b := b15) (off := 2) rfl (by omega)) ⟨rfl, rfl⟩) ?_
      refine WalkC.look rfl (fun _ => .slice (ownA kyoa) zi ccoa) (fun _ _ _ => rfl) (fun q r uw hlo hhi hle hF => ?_) ?_
      ·skip
       have h1 : 0 ≤ q := Nat.zero_le _
       have h2 : q ≤ 1 := hhi 1 10 rfl rfl
       rcases (show q = 0 ∨ q = 1 by omega) with rfl | rfl
       ·skip
        have HH := hF
        exact Gives.run rfl (r_loadC (v := .slice (ownA kyoa) zi ccoa) one50 (HH.get (k := 5) rfl) (off := 2) rfl (by rfl)) ⟨rfl, rfl⟩
       ·skip
        obtain ⟨b206, e9, hS207, HH⟩ := hF
        exact Gives.run rfl (r_loadC (v := .slice (ownA kyoa) zi ccoa) one50 (HH.get (k := 6) rfl) (off := 2) rfl (by rfl)) ⟨rfl, rfl⟩
      refine WalkC.look rfl (fun _ => .agg #[u64 (ws.getD (5 * (n1 + n2) + 5 * zi) 0#64), u64 (ws.getD ((5 * (n1 + n2) + 5 * zi) + 1) 0#64), u64 (ws.getD ((5 * (n1 + n2) + 5 * zi) + 2) 0#64), u64 (ws.getD ((5 * (n1 + n2) + 5 * zi) + 3) 0#64), .bool (false)]) (fun _ _ _ => rfl) (fun q r uw hlo hhi hle hF => ?_) ?_
      ·skip
       have h1 : 0 ≤ q := Nat.zero_le _
       have h2 : q ≤ 0 := hhi 0 9 rfl rfl
       rcases (show q = 0 by omega) with rfl
       ·skip
        have HH := hF
        exact Gives.run rfl (r_loadA (cs' := #[u64 (ws.getD (5 * (n1 + n2) + 5 * zi) 0#64), u64 (ws.getD ((5 * (n1 + n2) + 5 * zi) + 1) 0#64), u64 (ws.getD ((5 * (n1 + n2) + 5 * zi) + 2) 0#64), u64 (ws.getD ((5 * (n1 + n2) + 5 * zi) + 3) 0#64), .bool (false)]) agg41 siz41 (HH.get (k := 0) rfl) (off := 0) rfl (by exact bLe rfl) (by rfl)) ⟨rfl, rfl⟩
      refine WalkC.eff 0 rfl (fun r uw203 hF205 => ?_) ?_
      ·skip
       have H204 := hF205
       dsimp only [List.take, List.map, List.cons_append, List.nil_append]
       refine Gives.ofW (d := 202) rfl rfl (fun Q' hK => ?_)
       refine q_buildSlice (E := EOt) (l := ([⟨ws.getD (5 * (n1 + n2) + 5 * zi) 0#64, ws.getD ((5 * (n1 + n2) + 5 * zi) + 1) 0#64, ws.getD ((5 * (n1 + n2) + 5 * zi) + 2) 0#64, ws.getD ((5 * (n1 + n2) + 5 * zi) + 3) 0#64, false⟩] : List Ot)) H204 sli50 zer41 (bLe rfl) (ps := [(0, .agg #[u64 (ws.getD (5 * (n1 + n2) + 5 * zi) 0#64), u64 (ws.getD ((5 * (n1 + n2) + 5 * zi) + 1) 0#64), u64 (ws.getD ((5 * (n1 + n2) + 5 * zi) + 2) 0#64), u64 (ws.getD ((5 * (n1 + n2) + 5 * zi) + 3) 0#64), .bool (false)])]) rfl (by exact fillAll rfl rfl) rfl ?_
       intro b206 w208 hS207 H209 hE210
       exact hK _ _ ⟨b206, rfl, hS207, H209⟩
      refine WalkC.eff 1 rfl (fun r uw211 hF213 => ?_) ?_
      ·skip
       obtain ⟨b206, e9, hS207, H212⟩ := hF213
       dsimp only [List.take, List.map, List.cons_append, List.nil_append]
       rw [e9]
       refine Gives.ofW (d := 203) rfl rfl (fun Q' hK => ?_)
       refine q_append (E := EOt) (k := 12) (l := rowsOf (otA ws) (5 * (n1 + n2)) zi) (l2 := ([⟨ws.getD (5 * (n1 + n2) + 5 * zi) 0#64, ws.getD ((5 * (n1 + n2) + 5 * zi) + 1) 0#64, ws.getD ((5 * (n1 + n2) + 5 * zi) + 2) 0#64, ws.getD ((5 * (n1 + n2) + 5 * zi) + 3) 0#64, false⟩] : List Ot)) H212 rfl hkyoa sli50 zer41 rfl byt41 (H212.rd (k := 0) rfl hS207) rfl (by rw [rowsOf_len]) rfl (by rfl) (by omega) ?_
       intro key214 c215 sp216 w218 hS217 hne220 H219
       have H219' := H219.as (L' := (((some b206), sob EOt 41 ([⟨ws.getD (5 * (n1 + n2) + 5 * zi) 0#64, ws.getD ((5 * (n1 + n2) + 5 * zi) + 1) 0#64, ws.getD ((5 * (n1 + n2) + 5 * zi) + 2) 0#64, ws.getD ((5 * (n1 + n2) + 5 * zi) + 3) 0#64, false⟩] : List Ot) ([])) :: (some b196, .cells #[u64 (ws.getD (5 * (n1 + n2) + 5 * zi) 0#64), u64 (ws.getD ((5 * (n1 + n2) + 5 * zi) + 1) 0#64), u64 (ws.getD ((5 * (n1 + n2) + 5 * zi) + 2) 0#64), u64 (ws.getD ((5 * (n1 + n2) + 5 * zi) + 3) 0#64), .bool (false)] 41 (0, 0)) :: (some b189, .cells (cel E64 ([ws.getD (5 * (n1 + n2) + 5 * zi) 0#64, ws.getD ((5 * (n1 + n2) + 5 * zi) + 1) 0#64, ws.getD ((5 * (n1 + n2) + 5 * zi) + 2) 0#64, ws.getD ((5 * (n1 + n2) + 5 * zi) + 3) 0#64, ws.getD ((5 * (n1 + n2) + 5 * zi) + 4) 0#64])).toArray 136 (0, 0)) :: (some b, .cells #[.slice (ownA key) ws.length c, .pointer none, i64 (ws.length : Nat), i64 (((5 * (n1 + n2) + 5 * zi) + 5 : Nat))] 141 (0, 0)) :: (key, sob E64 32 ws sp) :: (some b23, .cells #[pT b15, pT b19] 25 (0, 0)) :: (some b15, .cells #[.slice (ownA kyta) n1 ccta, .slice (ownA kyba) n2 ccba, .slice (ownA kyoa) zi ccoa] 135 (0, 0)) :: (some b19, .cells #[.slice (ownA kytb) n1 cctb, .slice (ownA kybb) n2 ccbb, .slice (ownA kyob) zi ccob] 135 (0, 0)) :: (kyta, sob ETr 34 (rowsOf (trA ws) 0 n1) zzta) :: (kytb, sob ETr 34 (rowsOf (trB ws) 0 n1) zztb) :: (kyba, sob ETr 34 (rowsOf (trA ws) (5 * n1) n2) zzba) :: (kybb, sob ETr 34 (rowsOf (biB ws) (5 * n1) n2) zzbb) :: (key214, sob EOt 41 ((rowsOf (otA ws) (5 * (n1 + n2)) zi) ++ ([⟨ws.getD (5 * (n1 + n2) + 5 * zi) 0#64, ws.getD ((5 * (n1 + n2) + 5 * zi) + 1) 0#64, ws.getD ((5 * (n1 + n2) + 5 * zi) + 2) 0#64, ws.getD ((5 * (n1 + n2) + 5 * zi) + 3) 0#64, false⟩] : List Ot)) sp216) :: (kyob, sob EOt 41 (rowsOf (otB ws) (5 * (n1 + n2)) zi) zzob) :: (some b1, .cells #[.pointer none, .pointer none] 25 (0, 0)) :: R)) rfl
       clear H219
       have e221 : (rowsOf (otA ws) (5 * (n1 + n2)) zi) ++ ([⟨ws.getD (5 * (n1 + n2) + 5 * zi) 0#64, ws.getD ((5 * (n1 + n2) + 5 * zi) + 1) 0#64, ws.getD ((5 * (n1 + n2) + 5 * zi) + 2) 0#64, ws.getD ((5 * (n1 + n2) + 5 * zi) + 3) 0#64, false⟩] : List Ot) = rowsOf (otA ws) (5 * (n1 + n2)) (zi + 1) := by rw [rowsOf_succ]; rfl
       have hS222 := hS217
       rw [e221] at hS222
       have H223 := H219'.as (L' := (((some b206), sob EOt 41 ([⟨ws.getD (5 * (n1 + n2) + 5 * zi) 0#64, ws.getD ((5 * (n1 + n2) + 5 * zi) + 1) 0#64, ws.getD ((5 * (n1 + n2) + 5 * zi) + 2) 0#64, ws.getD ((5 * (n1 + n2) + 5 * zi) + 3) 0#64, false⟩] : List Ot) ([])) :: (some b196, .cells #[u64 (ws.getD (5 * (n1 + n2) + 5 * zi) 0#64), u64 (ws.getD ((5 * (n1 + n2) + 5 * zi) + 1) 0#64), u64 (ws.getD ((5 * (n1 + n2) + 5 * zi) + 2) 0#64), u64 (ws.getD ((5 * (n1 + n2) + 5 * zi) + 3) 0#64), .bool (false)] 41 (0, 0)) :: (some b189, .cells (cel E64 ([ws.getD (5 * (n1 + n2) + 5 * zi) 0#64, ws.getD ((5 * (n1 + n2) + 5 * zi) + 1) 0#64, ws.getD ((5 * (n1 + n2) + 5 * zi) + 2) 0#64, ws.getD ((5 * (n1 + n2) + 5 * zi) + 3) 0#64, ws.getD ((5 * (n1 + n2) + 5 * zi) + 4) 0#64])).toArray 136 (0, 0)) :: (some b, .cells #[.slice (ownA key) ws.length c, .pointer none, i64 (ws.length : Nat), i64 (((5 * (n1 + n2) + 5 * zi) + 5 : Nat))] 141 (0, 0)) :: (key, sob E64 32 ws sp) :: (some b23, .cells #[pT b15, pT b19] 25 (0, 0)) :: (some b15, .cells #[.slice (ownA kyta) n1 ccta, .slice (ownA kyba) n2 ccba, .slice (ownA kyoa) zi ccoa] 135 (0, 0)) :: (some b19, .cells #[.slice (ownA kytb) n1 cctb, .slice (ownA kybb) n2 ccbb, .slice (ownA kyob) zi ccob] 135 (0, 0)) :: (kyta, sob ETr 34 (rowsOf (trA ws) 0 n1) zzta) :: (kytb, sob ETr 34 (rowsOf (trB ws) 0 n1) zztb) :: (kyba, sob ETr 34 (rowsOf (trA ws) (5 * n1) n2) zzba) :: (kybb, sob ETr 34 (rowsOf (biB ws) (5 * n1) n2) zzbb) :: (key214, sob EOt 41 (rowsOf (otA ws) (5 * (n1 + n2)) (zi + 1)) sp216) :: (kyob, sob EOt 41 (rowsOf (otB ws) (5 * (n1 + n2)) zi) zzob) :: (some b1, .cells #[.pointer none, .pointer none] 25 (0, 0)) :: R)) (by rw [e221])
       exact hK _ _ ⟨b206, key214, c215, sp216, rfl, rfl, hS207, hS222, H223⟩
      refine WalkC.look rfl (fun _ => pT b15) (fun _ _ _ => rfl) (fun q r uw _ _ _ _ => Gives.run rfl (r_nilCheck rfl) ⟨rfl, rfl⟩) ?_
      refine WalkC.look rfl (fun _ => .pointer (some ⟨b15, 2, none⟩)) (fun _ _ _ => rfl) (fun q r uw _ _ _ _ => Gives.run rfl (r_fieldAddr (off' := 2) fld135_2 (by decide) (b := b15) (off := 0) rfl (by omega)) ⟨rfl, rfl⟩) ?_
      refine WalkC.look rfl (fun _ => .pointer (some ⟨b15, 2, none⟩)) (fun _ _ _ => rfl) (fun q r uw _ _ _ _ => Gives.run rfl (r_fieldAddr (off' := 2) fld133_0 (by decide) (b := b15) (off := 2) rfl (by omega)) ⟨rfl, rfl⟩) ?_
      refine WalkC.eff 2 rfl (fun r uw224 hF226 => ?_) ?_
      ·skip
       obtain ⟨b206, key214, c215, sp216, e9, e10, hS207, hS222, H225⟩ := hF226
       dsimp only [List.take, List.map, List.cons_append, List.nil_append]
       rw [e9, e10]
       refine Gives.ofW0 rfl (fun Q' hK => ?_)
       refine d_store (k := 6) (v := .slice (ownA key214) (zi + 1) c215) (cs' := #[.slice (ownA kyta) n1 ccta, .slice (ownA kyba) n2 ccba, .slice (ownA key214) (zi + 1) c215]) H225 rfl rfl rfl siz50 (by rfl) (by intro u hu; simp [Value.cells] at hu; first | (subst hu; rfl) | (rcases hu with rfl <;> rfl)) (by exact bLe rfl) (by rfl) ?_
       intro w227 H228 hC229
       have H228' := H228.as (L' := (((some b206), sob EOt 41 ([⟨ws.getD (5 * (n1 + n2) + 5 * zi) 0#64, ws.getD ((5 * (n1 + n2) + 5 * zi) + 1) 0#64, ws.getD ((5 * (n1 + n2) + 5 * zi) + 2) 0#64, ws.getD ((5 * (n1 + n2) + 5 * zi) + 3) 0#64, false⟩] : List Ot) ([])) :: (some b196, .cells #[u64 (ws.getD (5 * (n1 + n2) + 5 * zi) 0#64), u64 (ws.getD ((5 * (n1 + n2) + 5 * zi) + 1) 0#64), u64 (ws.getD ((5 * (n1 + n2) + 5 * zi) + 2) 0#64), u64 (ws.getD ((5 * (n1 + n2) + 5 * zi) + 3) 0#64), .bool (false)] 41 (0, 0)) :: (some b189, .cells (cel E64 ([ws.getD (5 * (n1 + n2) + 5 * zi) 0#64, ws.getD ((5 * (n1 + n2) + 5 * zi) + 1) 0#64, ws.getD ((5 * (n1 + n2) + 5 * zi) + 2) 0#64, ws.getD ((5 * (n1 + n2) + 5 * zi) + 3) 0#64, ws.getD ((5 * (n1 + n2) + 5 * zi) + 4) 0#64])).toArray 136 (0, 0)) :: (some b, .cells #[.slice (ownA key) ws.length c, .pointer none, i64 (ws.length : Nat), i64 (((5 * (n1 + n2) + 5 * zi) + 5 : Nat))] 141 (0, 0)) :: (key, sob E64 32 ws sp) :: (some b23, .cells #[pT b15, pT b19] 25 (0, 0)) :: (some b15, .cells #[.slice (ownA kyta) n1 ccta, .slice (ownA kyba) n2 ccba, .slice (ownA key214) (zi + 1) c215] 135 (0, 0)) :: (some b19, .cells #[.slice (ownA kytb) n1 cctb, .slice (ownA kybb) n2 ccbb, .slice (ownA kyob) zi ccob] 135 (0, 0)) :: (kyta, sob ETr 34 (rowsOf (trA ws) 0 n1) zzta) :: (kytb, sob ETr 34 (rowsOf (trB ws) 0 n1) zztb) :: (kyba, sob ETr 34 (rowsOf (trA ws) (5 * n1) n2) zzba) :: (kybb, sob ETr 34 (rowsOf (biB ws) (5 * n1) n2) zzbb) :: (key214, sob EOt 41 (rowsOf (otA ws) (5 * (n1 + n2)) (zi + 1)) sp216) :: (kyob, sob EOt 41 (rowsOf (otB ws) (5 * (n1 + n2)) zi) zzob) :: (some b1, .cells #[.pointer none, .pointer none] 25 (0, 0)) :: R)) rfl
       clear H228
       exact hK _ (fun _ => ⟨b206, key214, c215, sp216, rfl, rfl, trivial, hS207, hS222, H228'⟩)
      refine WalkC.nil ?_
      intro r230 w231 hF233
      obtain ⟨b206, key214, c215, sp216, e9, e10, e14, hS207, hS222, H232⟩ := hF233
      dsimp only
      rw [e9, e10]
      refine wnil ?_
      refine thenNormal ?_
      refine drawC (m := 22) [0, 1, 0, 4, 12, 28, 60, 124, 0, 0, 768, 1792, 3840, 0, 8192, 32512, 65280, 131068, 262143, 524287, 1048575, 2097151] [16, 17, 21] (fun q vs w' => match q, vs with | 0, [] => Hp No w₀ w' (((some b206), sob EOt 41 ([⟨ws.getD (5 * (n1 + n2) + 5 * zi) 0#64, ws.getD ((5 * (n1 + n2) + 5 * zi) + 1) 0#64, ws.getD ((5 * (n1 + n2) + 5 * zi) + 2) 0#64, ws.getD ((5 * (n1 + n2) + 5 * zi) + 3) 0#64, false⟩] : List Ot) ([])) :: (some b196, .cells #[u64 (ws.getD (5 * (n1 + n2) + 5 * zi) 0#64), u64 (ws.getD ((5 * (n1 + n2) + 5 * zi) + 1) 0#64), u64 (ws.getD ((5 * (n1 + n2) + 5 * zi) + 2) 0#64), u64 (ws.getD ((5 * (n1 + n2) + 5 * zi) + 3) 0#64), .bool (false)] 41 (0, 0)) :: (some b189, .cells (cel E64 ([ws.getD (5 * (n1 + n2) + 5 * zi) 0#64, ws.getD ((5 * (n1 + n2) + 5 * zi) + 1) 0#64, ws.getD ((5 * (n1 + n2) + 5 * zi) + 2) 0#64, ws.getD ((5 * (n1 + n2) + 5 * zi) + 3) 0#64, ws.getD ((5 * (n1 + n2) + 5 * zi) + 4) 0#64])).toArray 136 (0, 0)) :: (some b, .cells #[.slice (ownA key) ws.length c, .pointer none, i64 (ws.length : Nat), i64 (((5 * (n1 + n2) + 5 * zi) + 5 : Nat))] 141 (0, 0)) :: (key, sob E64 32 ws sp) :: (some b23, .cells #[pT b15, pT b19] 25 (0, 0)) :: (some b15, .cells #[.slice (ownA kyta) n1 ccta, .slice (ownA kyba) n2 ccba, .slice (ownA key214) (zi + 1) c215] 135 (0, 0)) :: (some b19, .cells #[.slice (ownA kytb) n1 cctb, .slice (ownA kybb) n2 ccbb, .slice (ownA kyob) zi ccob] 135 (0, 0)) :: (kyta, sob ETr 34 (rowsOf (trA ws) 0 n1) zzta) :: (kytb, sob ETr 34 (rowsOf (trB ws) 0 n1) zztb) :: (kyba, sob ETr 34 (rowsOf (trA ws) (5 * n1) n2) zzba) :: (kybb, sob ETr 34 (rowsOf (biB ws) (5 * n1) n2) zzbb) :: (key214, sob EOt 41 (rowsOf (otA ws) (5 * (n1 + n2)) (zi + 1)) sp216) :: (kyob, sob EOt 41 (rowsOf (otB ws) (5 * (n1 + n2)) zi) zzob) :: (some b1, .cells #[.pointer none, .pointer none] 25 (0, 0)) :: R) | 1, [v0] => ∃ (b237 : Nat), v0 = .slice (ownA (some b237)) 1 1 ∧ Sl EOt (some b237) ([⟨ws.getD ((5 * (n1 + n2) + 5 * zi) + 2) 0#64, ws.getD ((5 * (n1 + n2) + 5 * zi) + 3) 0#64, 0#64, 0#64, true⟩] : List Ot) 1 ([]) ∧ Hp No w₀ w' (((some b237), sob EOt 41 ([⟨ws.getD ((5 * (n1 + n2) + 5 * zi) + 2) 0#64, ws.getD ((5 * (n1 + n2) + 5 * zi) + 3) 0#64, 0#64, 0#64, true⟩] : List Ot) ([])) :: ((some b206), sob EOt 41 ([⟨ws.getD (5 * (n1 + n2) + 5 * zi) 0#64, ws.getD ((5 * (n1 + n2) + 5 * zi) + 1) 0#64, ws.getD ((5 * (n1 + n2) + 5 * zi) + 2) 0#64, ws.getD ((5 * (n1 + n2) + 5 * zi) + 3) 0#64, false⟩] : List Ot) ([])) :: (some b196, .cells #[u64 (ws.getD (5 * (n1 + n2) + 5 * zi) 0#64), u64 (ws.getD ((5 * (n1 + n2) + 5 * zi) + 1) 0#64), u64 (ws.getD ((5 * (n1 + n2) + 5 * zi) + 2) 0#64), u64 (ws.getD ((5 * (n1 + n2) + 5 * zi) + 3) 0#64), .bool (false)] 41 (0, 0)) :: (some b189, .cells (cel E64 ([ws.getD (5 * (n1 + n2) + 5 * zi) 0#64, ws.getD ((5 * (n1 + n2) + 5 * zi) + 1) 0#64, ws.getD ((5 * (n1 + n2) + 5 * zi) + 2) 0#64, ws.getD ((5 * (n1 + n2) + 5 * zi) + 3) 0#64, ws.getD ((5 * (n1 + n2) + 5 * zi) + 4) 0#64])).toArray 136 (0, 0)) :: (some b, .cells #[.slice (ownA key) ws.length c, .pointer none, i64 (ws.length : Nat), i64 (((5 * (n1 + n2) + 5 * zi) + 5 : Nat))] 141 (0, 0)) :: (key, sob E64 32 ws sp) :: (some b23, .cells #[pT b15, pT b19] 25 (0, 0)) :: (some b15, .cells #[.slice (ownA kyta) n1 ccta, .slice (ownA kyba) n2 ccba, .slice (ownA key214) (zi + 1) c215] 135 (0, 0)) :: (some b19, .cells #[.slice (ownA kytb) n1 cctb, .slice (ownA kybb) n2 ccbb, .slice (ownA kyob) zi ccob] 135 (0, 0)) :: (kyta, sob ETr 34 (rowsOf (trA ws) 0 n1) zzta) :: (kytb, sob ETr 34 (rowsOf (trB ws) 0 n1) zztb) :: (kyba, sob ETr 34 (rowsOf (trA ws) (5 * n1) n2) zzba) :: (kybb, sob ETr 34 (rowsOf (biB ws) (5 * n1) n2) zzbb) :: (key214, sob EOt 41 (rowsOf (otA ws) (5 * (n1 + n2)) (zi + 1)) sp216) :: (kyob, sob EOt 41 (rowsOf (otB ws) (5 * (n1 + n2)) zi) zzob) :: (some b1, .cells #[.pointer none, .pointer none] 25 (0, 0)) :: R) | 2, [v0, v1] => ∃ (b237 : Nat) (key245 : Option Nat) (c246 : Nat) (sp247 : List Value), v0 = .slice (ownA (some b237)) 1 1 ∧ v1 = .slice (ownA key245) (zi + 1) c246 ∧ Sl EOt (some b237) ([⟨ws.getD ((5 * (n1 + n2) + 5 * zi) + 2) 0#64, ws.getD ((5 * (n1 + n2) + 5 * zi) + 3) 0#64, 0#64, 0#64, true⟩] : List Ot) 1 ([]) ∧ Sl EOt key245 (rowsOf (otB ws) (5 * (n1 + n2)) (zi + 1)) c246 sp247 ∧ Hp No w₀ w' (((some b237), sob EOt 41 ([⟨ws.getD ((5 * (n1 + n2) + 5 * zi) + 2) 0#64, ws.getD ((5 * (n1 + n2) + 5 * zi) + 3) 0#64, 0#64, 0#64, true⟩] : List Ot) ([])) :: ((some b206), sob EOt 41 ([⟨ws.getD (5 * (n1 + n2) + 5 * zi) 0#64, ws.getD ((5 * (n1 + n2) + 5 * zi) + 1) 0#64, ws.getD ((5 * (n1 + n2) + 5 * zi) + 2) 0#64, ws.getD ((5 * (n1 + n2) + 5 * zi) + 3) 0#64, false⟩] : List Ot) ([])) :: (some b196, .cells #[u64 (ws.getD (5 * (n1 + n2) + 5 * zi) 0#64), u64 (ws.getD ((5 * (n1 + n2) + 5 * zi) + 1) 0#64), u64 (ws.getD ((5 * (n1 + n2) + 5 * zi) + 2) 0#64), u64 (ws.getD ((5 * (n1 + n2) + 5 * zi) + 3) 0#64), .bool (false)] 41 (0, 0)) :: (some b189, .cells (cel E64 ([ws.getD (5 * (n1 + n2) + 5 * zi) 0#64, ws.getD ((5 * (n1 + n2) + 5 * zi) + 1) 0#64, ws.getD ((5 * (n1 + n2) + 5 * zi) + 2) 0#64, ws.getD ((5 * (n1 + n2) + 5 * zi) + 3) 0#64, ws.getD ((5 * (n1 + n2) + 5 * zi) + 4) 0#64])).toArray 136 (0, 0)) :: (some b, .cells #[.slice (ownA key) ws.length c, .pointer none, i64 (ws.length : Nat), i64 (((5 * (n1 + n2) + 5 * zi) + 5 : Nat))] 141 (0, 0)) :: (key, sob E64 32 ws sp) :: (some b23, .cells #[pT b15, pT b19] 25 (0, 0)) :: (some b15, .cells #[.slice (ownA kyta) n1 ccta, .slice (ownA kyba) n2 ccba, .slice (ownA key214) (zi + 1) c215] 135 (0, 0)) :: (some b19, .cells #[.slice (ownA kytb) n1 cctb, .slice (ownA kybb) n2 ccbb, .slice (ownA kyob) zi ccob] 135 (0, 0)) :: (kyta, sob ETr 34 (rowsOf (trA ws) 0 n1) zzta) :: (kytb, sob ETr 34 (rowsOf (trB ws) 0 n1) zztb) :: (kyba, sob ETr 34 (rowsOf (trA ws) (5 * n1) n2) zzba) :: (kybb, sob ETr 34 (rowsOf (biB ws) (5 * n1) n2) zzbb) :: (key214, sob EOt 41 (rowsOf (otA ws) (5 * (n1 + n2)) (zi + 1)) sp216) :: (key245, sob EOt 41 (rowsOf (otB ws) (5 * (n1 + n2)) (zi + 1)) sp247) :: (some b1, .cells #[.pointer none, .pointer none] 25 (0, 0)) :: R) | 3, [v0, v1, _] => ∃ (b237 : Nat) (key245 : Option Nat) (c246 : Nat) (sp247 : List Value), v0 = .slice (ownA (some b237)) 1 1 ∧ v1 = .slice (ownA key245) (zi + 1) c246 ∧ True ∧ Sl EOt (some b237) ([⟨ws.getD ((5 * (n1 + n2) + 5 * zi) + 2) 0#64, ws.getD ((5 * (n1 + n2) + 5 * zi) + 3) 0#64, 0#64, 0#64, true⟩] : List Ot) 1 ([]) ∧ Sl EOt key245 (rowsOf (otB ws) (5 * (n1 + n2)) (zi + 1)) c246 sp247 ∧ Hp No w₀ w' (((some b237), sob EOt 41 ([⟨ws.getD ((5 * (n1 + n2) + 5 * zi) + 2) 0#64, ws.getD ((5 * (n1 + n2) + 5 * zi) + 3) 0#64, 0#64, 0#64, true⟩] : List Ot) ([])) :: ((some b206), sob EOt 41 ([⟨ws.getD (5 * (n1 + n2) + 5 * zi) 0#64, ws.getD ((5 * (n1 + n2) + 5 * zi) + 1) 0#64, ws.getD ((5 * (n1 + n2) + 5 * zi) + 2) 0#64, ws.getD ((5 * (n1 + n2) + 5 * zi) + 3) 0#64, false⟩] : List Ot) ([])) :: (some b196, .cells #[u64 (ws.getD (5 * (n1 + n2) + 5 * zi) 0#64), u64 (ws.getD ((5 * (n1 + n2) + 5 * zi) + 1) 0#64), u64 (ws.getD ((5 * (n1 + n2) + 5 * zi) + 2) 0#64), u64 (ws.getD ((5 * (n1 + n2) + 5 * zi) + 3) 0#64), .bool (false)] 41 (0, 0)) :: (some b189, .cells (cel E64 ([ws.getD (5 * (n1 + n2) + 5 * zi) 0#64, ws.getD ((5 * (n1 + n2) + 5 * zi) + 1) 0#64, ws.getD ((5 * (n1 + n2) + 5 * zi) + 2) 0#64, ws.getD ((5 * (n1 + n2) + 5 * zi) + 3) 0#64, ws.getD ((5 * (n1 + n2) + 5 * zi) + 4) 0#64])).toArray 136 (0, 0)) :: (some b, .cells #[.slice (ownA key) ws.length c, .pointer none, i64 (ws.length : Nat), i64 (((5 * (n1 + n2) + 5 * zi) + 5 : Nat))] 141 (0, 0)) :: (key, sob E64 32 ws sp) :: (some b23, .cells #[pT b15, pT b19] 25 (0, 0)) :: (some b15, .cells #[.slice (ownA kyta) n1 ccta, .slice (ownA kyba) n2 ccba, .slice (ownA key214) (zi + 1) c215] 135 (0, 0)) :: (some b19, .cells #[.slice (ownA kytb) n1 cctb, .slice (ownA kybb) n2 ccbb, .slice (ownA key245) (zi + 1) c246] 135 (0, 0)) :: (kyta, sob ETr 34 (rowsOf (trA ws) 0 n1) zzta) :: (kytb, sob ETr 34 (rowsOf (trB ws) 0 n1) zztb) :: (kyba, sob ETr 34 (rowsOf (trA ws) (5 * n1) n2) zzba) :: (kybb, sob ETr 34 (rowsOf (biB ws) (5 * n1) n2) zzbb) :: (key214, sob EOt 41 (rowsOf (otA ws) (5 * (n1 + n2)) (zi + 1)) sp216) :: (key245, sob EOt 41 (rowsOf (otB ws) (5 * (n1 + n2)) (zi + 1)) sp247) :: (some b1, .cells #[.pointer none, .pointer none] 25 (0, 0)) :: R) | _, _ => False) mixed (by kernel_rfl) (by kernel_rfl) H232.drew ?_
      refine WalkC.look rfl (fun _ => .pointer (some ⟨b23, 1, none⟩)) (fun _ _ _ => rfl) (fun q r uw _ _ _ _ => Gives.run rfl (r_indexA (off' := 1) (j := 1) arr25 (b := b23) (off := 0) rfl rfl (by first | rfl | omega | (simp; omega)) (by omega) (by omega)) ⟨rfl, rfl⟩) ?_
      refine WalkC.look rfl (fun _ => pT b19) (fun _ _ _ => rfl) (fun q r uw hlo hhi hle hF => ?_) ?_
      ·skip
       have h1 : 0 ≤ q := Nat.zero_le _
       have h2 : q ≤ 2 := hhi 2 21 rfl rfl
       rcases (show q = 0 ∨ q = 1 ∨ q = 2 by omega) with rfl | rfl | rfl
       ·skip
        have HH := hF
        exact Gives.run rfl (r_loadC (v := pT b19) one24 (HH.get (k := 5) rfl) (off := 1) rfl (by rfl)) ⟨rfl, rfl⟩
       ·skip
        obtain ⟨b237, e16, hS238, HH⟩ := hF
        exact Gives.run rfl (r_loadC (v := pT b19) one24 (HH.get (k := 6) rfl) (off := 1) rfl (by rfl)) ⟨rfl, rfl⟩
       ·skip
        obtain ⟨b237, key245, c246, sp247, e16, e17, hS238, hS253, HH⟩ := hF
        exact Gives.run rfl (r_loadC (v := pT b19) one24 (HH.get (k := 6) rfl) (off := 1) rfl (by rfl)) ⟨rfl, rfl⟩
      refine WalkC.look rfl (fun _ => .pointer (some ⟨b23, 1, none⟩)) (fun _ _ _ => rfl) (fun q r uw _ _ _ _ => Gives.run rfl (r_indexA (off' := 1) (j := 1) arr25 (b := b23) (off := 0) rfl rfl (by first | rfl | omega | (simp; omega)) (by omega) (by omega)) ⟨rfl, rfl⟩) ?_
      refine WalkC.look rfl (fun _ => pT b19) (fun _ _ _ => rfl) (fun q r uw hlo hhi hle hF => ?_) ?_
      ·skip
       have h1 : 0 ≤ q := Nat.zero_le _
       have h2 : q ≤ 1 := hhi 1 17 rfl rfl
       rcases (show q = 0 ∨ q = 1 by omega) with rfl | rfl
       ·skip
        have HH := hF
        exact Gives.run rfl (r_loadC (v := pT b19) one24 (HH.get (k := 5) rfl) (off := 1) rfl (by rfl)) ⟨rfl, rfl⟩
       ·skip
        obtain ⟨b237, e16, hS238, HH⟩ := hF
        exact Gives.run rfl (r_loadC (v := pT b19) one24 (HH.get (k := 6) rfl) (off := 1) rfl (by rfl)) ⟨rfl, rfl⟩
      refine WalkC.look rfl (fun _ => pT b19) (fun _ _ _ => rfl) (fun q r uw _ _ _ _ => Gives.run rfl (r_nilCheck rfl) ⟨rfl, rfl⟩) ?_
      refine WalkC.look rfl (fun _ => .pointer (some ⟨b19, 2, none⟩)) (fun _ _ _ => rfl) (fun q r uw _ _ _ _ => Gives.run rfl (r_fieldAddr (off' := 2) fld135_2 (by decide) (b := b19) (off := 0) rfl (by omega)) ⟨rfl, rfl⟩) ?_
      refine WalkC.look rfl (fun _ => .pointer (some ⟨b19, 2, none⟩)) (fun _ _ _ => rfl) (fun q r uw _ _ _ _ => Gives.run rfl (r_fieldAddr (off' := 2) fld133_0 (by decide) (b := b19) (off := 2) rfl (by omega)) ⟨rfl, rfl⟩) ?_
      refine WalkC.look rfl (fun _ => .slice (ownA kyob) zi ccob) (fun _ _ _ => rfl) (fun q r uw hlo hhi hle hF => ?_) ?_
      ·skip
       have h1 : 0 ≤ q := Nat.zero_le _
       have h2 : q ≤ 1 := hhi 1 17 rfl rfl
       rcases (show q = 0 ∨ q = 1 by omega) with rfl | rfl
       ·skip
        have HH := hF
        exact Gives.run rfl (r_loadC (v := .slice (ownA kyob) zi ccob) one50 (HH.get (k := 7) rfl) (off := 2) rfl (by rfl)) ⟨rfl, rfl⟩
       ·skip
        obtain ⟨b237, e16, hS238, HH⟩ := hF
        exact Gives.run rfl (r_loadC (v := .slice (ownA kyob) zi ccob) one50 (HH.get (k := 8) rfl) (off := 2) rfl (by rfl)) ⟨rfl, rfl⟩
      refine WalkC.look rfl (fun _ => u64 (1#64)) (fun _ _ _ => rfl) (fun q r uw _ _ _ _ => Gives.run rfl (r_move (v := u64 (1#64)) rfl) ⟨rfl, rfl⟩) ?_
      refine WalkC.look rfl (fun _ => pT b196) (fun _ _ _ => rfl) (fun q r uw _ _ _ _ => Gives.run rfl (r_fieldAddr (off' := 0) fld41_0 (by decide) (b := b196) (off := 0) rfl (by omega)) ⟨rfl, rfl⟩) ?_
      refine WalkC.look rfl (fun _ => .pointer (some ⟨b196, 2, none⟩)) (fun _ _ _ => rfl) (fun q r uw _ _ _ _ => Gives.run rfl (r_indexA (off' := 2) (j := 1) arr39 (b := b196) (off := 0) rfl rfl (by first | rfl | omega | (simp; omega)) (by omega) (by omega)) ⟨rfl, rfl⟩) ?_
      refine WalkC.look rfl (fun _ => .agg (cel E64 [ws.getD ((5 * (n1 + n2) + 5 * zi) + 2) 0#64, ws.getD ((5 * (n1 + n2) + 5 * zi) + 3) 0#64]).toArray) (fun _ _ _ => rfl) (fun q r uw hlo hhi hle hF => ?_) ?_
      ·skip
       have h1 : 0 ≤ q := Nat.zero_le _
       have h2 : q ≤ 0 := hhi 0 16 rfl rfl
       rcases (show q = 0 by omega) with rfl
       ·skip
        have HH := hF
        exact Gives.run rfl (r_loadA (cs' := (cel E64 [ws.getD ((5 * (n1 + n2) + 5 * zi) + 2) 0#64, ws.getD ((5 * (n1 + n2) + 5 * zi) + 3) 0#64]).toArray) agg38 siz38 (HH.get (k := 1) rfl) (off := 2) rfl (by exact bLe rfl) (by rfl)) ⟨rfl, rfl⟩
      refine WalkC.look rfl (fun _ => .agg #[u64 (ws.getD ((5 * (n1 + n2) + 5 * zi) + 2) 0#64), u64 (ws.getD ((5 * (n1 + n2) + 5 * zi) + 3) 0#64), u64 (0#64), u64 (0#64)]) (fun _ _ _ => rfl) (fun q r uw _ _ _ _ => Gives.run rfl (r_buildA (cs' := #[u64 (ws.getD ((5 * (n1 + n2) + 5 * zi) + 2) 0#64), u64 (ws.getD ((5 * (n1 + n2) + 5 * zi) + 3) 0#64), u64 (0#64), u64 (0#64)]) (ps := [(0, .agg (cel E64 [ws.getD ((5 * (n1 + n2) + 5 * zi) + 2) 0#64, ws.getD ((5 * (n1 + n2) + 5 * zi) + 3) 0#64]).toArray)]) zer39 arr39 rfl (by rfl)) ⟨rfl, rfl⟩) ?_
      refine WalkC.look rfl (fun _ => u64 (1#64)) (fun _ _ _ => rfl) (fun q r uw _ _ _ _ => Gives.run rfl (r_move (v := u64 (1#64)) rfl) ⟨rfl, rfl⟩) ?_
      refine WalkC.look rfl (fun _ => .bool (true)) (fun _ _ _ => rfl) (fun q r uw _ _ _ _ => Gives.run rfl ((r_eql64 (a := 1#64) (b := 1#64) rfl rfl).as (v' := .bool (true)) (by rfl)) ⟨rfl, rfl⟩) ?_
      refine WalkC.look rfl (fun _ => .agg #[u64 (ws.getD ((5 * (n1 + n2) + 5 * zi) + 2) 0#64), u64 (ws.getD ((5 * (n1 + n2) + 5 * zi) + 3) 0#64), u64 (0#64), u64 (0#64), .bool (true)]) (fun _ _ _ => rfl) (fun q r uw _ _ _ _ => Gives.run rfl (r_build (cs' := #[u64 (ws.getD ((5 * (n1 + n2) + 5 * zi) + 2) 0#64), u64 (ws.getD ((5 * (n1 + n2) + 5 * zi) + 3) 0#64), u64 (0#64), u64 (0#64), .bool (true)]) (ps := [(0, .agg #[u64 (ws.getD ((5 * (n1 + n2) + 5 * zi) + 2) 0#64), u64 (ws.getD ((5 * (n1 + n2) + 5 * zi) + 3) 0#64), u64 (0#64), u64 (0#64)]), (1, .bool (true))]) zer41 pls41 rfl (by rfl)) ⟨rfl, rfl⟩) ?_
      refine WalkC.eff 0 rfl (fun r uw234 hF236 => ?_) ?_
      ·skip
       have H235 := hF236
       dsimp only [List.take, List.map, List.cons_append, List.nil_append]
       refine Gives.ofW (d := 223) rfl rfl (fun Q' hK => ?_)
       refine q_buildSlice (E := EOt) (l := ([⟨ws.getD ((5 * (n1 + n2) + 5 * zi) + 2) 0#64, ws.getD ((5 * (n1 + n2) + 5 * zi) + 3) 0#64, 0#64, 0#64, true⟩] : List Ot)) H235 sli50 zer41 (bLe rfl) (ps := [(0, .agg #[u64 (ws.getD ((5 * (n1 + n2) + 5 * zi) + 2) 0#64), u64 (ws.getD ((5 * (n1 + n2) + 5 * zi) + 3) 0#64), u64 (0#64), u64 (0#64), .bool (true)])]) rfl (by exact fillAll rfl rfl) rfl ?_
       intro b237 w239 hS238 H240 hE241
       exact hK _ _ ⟨b237, rfl, hS238, H240⟩
      refine WalkC.eff 1 rfl (fun r uw242 hF244 => ?_) ?_
      ·skip
       obtain ⟨b237, e16, hS238, H243⟩ := hF244
       dsimp only [List.take, List.map, List.cons_append, List.nil_append]
       rw [e16]
       refine Gives.ofW (d := 224) rfl rfl (fun Q' hK => ?_)
       refine q_append (E := EOt) (k := 14) (l := rowsOf (otB ws) (5 * (n1 + n2)) zi) (l2 := ([⟨ws.getD ((5 * (n1 + n2) + 5 * zi) + 2) 0#64, ws.getD ((5 * (n1 + n2) + 5 * zi) + 3) 0#64, 0#64, 0#64, true⟩] : List Ot)) H243 rfl hkyob sli50 zer41 rfl byt41 (H243.rd (k := 0) rfl hS238) rfl (by rw [rowsOf_len]) rfl (by rfl) (by omega) ?_
       intro key245 c246 sp247 w249 hS248 hne251 H250
       have H250' := H250.as (L' := (((some b237), sob EOt 41 ([⟨ws.getD ((5 * (n1 + n2) + 5 * zi) + 2) 0#64, ws.getD ((5 * (n1 + n2) + 5 * zi) + 3) 0#64, 0#64, 0#64, true⟩] : List Ot) ([])) :: ((some b206), sob EOt 41 ([⟨ws.getD (5 * (n1 + n2) + 5 * zi) 0#64, ws.getD ((5 * (n1 + n2) + 5 * zi) + 1) 0#64, ws.getD ((5 * (n1 + n2) + 5 * zi) + 2) 0#64, ws.getD ((5 * (n1 + n2) + 5 * zi) + 3) 0#64, false⟩] : List Ot) ([])) :: (some b196, .cells #[u64 (ws.getD (5 * (n1 + n2) + 5 * zi) 0#64), u64 (ws.getD ((5 * (n1 + n2) + 5 * zi) + 1) 0#64), u64 (ws.getD ((5 * (n1 + n2) + 5 * zi) + 2) 0#64), u64 (ws.getD ((5 * (n1 + n2) + 5 * zi) + 3) 0#64), .bool (false)] 41 (0, 0)) :: (some b189, .cells (cel E64 ([ws.getD (5 * (n1 + n2) + 5 * zi) 0#64, ws.getD ((5 * (n1 + n2) + 5 * zi) + 1) 0#64, ws.getD ((5 * (n1 + n2) + 5 * zi) + 2) 0#64, ws.getD ((5 * (n1 + n2) + 5 * zi) + 3) 0#64, ws.getD ((5 * (n1 + n2) + 5 * zi) + 4) 0#64])).toArray 136 (0, 0)) :: (some b, .cells #[.slice (ownA key) ws.length c, .pointer none, i64 (ws.length : Nat), i64 (((5 * (n1 + n2) + 5 * zi) + 5 : Nat))] 141 (0, 0)) :: (key, sob E64 32 ws sp) :: (some b23, .cells #[pT b15, pT b19] 25 (0, 0)) :: (some b15, .cells #[.slice (ownA kyta) n1 ccta, .slice (ownA kyba) n2 ccba, .slice (ownA key214) (zi + 1) c215] 135 (0, 0)) :: (some b19, .cells #[.slice (ownA kytb) n1 cctb, .slice (ownA kybb) n2 ccbb, .slice (ownA kyob) zi ccob] 135 (0, 0)) :: (kyta, sob ETr 34 (rowsOf (trA ws) 0 n1) zzta) :: (kytb, sob ETr 34 (rowsOf (trB ws) 0 n1) zztb) :: (kyba, sob ETr 34 (rowsOf (trA ws) (5 * n1) n2) zzba) :: (kybb, sob ETr 34 (rowsOf (biB ws) (5 * n1) n2) zzbb) :: (key214, sob EOt 41 (rowsOf (otA ws) (5 * (n1 + n2)) (zi + 1)) sp216) :: (key245, sob EOt 41 ((rowsOf (otB ws) (5 * (n1 + n2)) zi) ++ ([⟨ws.getD ((5 * (n1 + n2) + 5 * zi) + 2) 0#64, ws.getD ((5 * (n1 + n2) + 5 * zi) + 3) 0#64, 0#64, 0#64, true⟩] : List Ot)) sp247) :: (some b1, .cells #[.pointer none, .pointer none] 25 (0, 0)) :: R)) rfl
       clear H250
       have e252 : (rowsOf (otB ws) (5 * (n1 + n2)) zi) ++ ([⟨ws.getD ((5 * (n1 + n2) + 5 * zi) + 2) 0#64, ws.getD ((5 * (n1 + n2) + 5 * zi) + 3) 0#64, 0#64, 0#64, true⟩] : List Ot) = rowsOf (otB ws) (5 * (n1 + n2)) (zi + 1) := by rw [rowsOf_succ, otB_t hodd]; rfl
       have hS253 := hS248
       rw [e252] at hS253
       have H254 := H250'.as (L' := (((some b237), sob EOt 41 ([⟨ws.getD ((5 * (n1 + n2) + 5 * zi) + 2) 0#64, ws.getD ((5 * (n1 + n2) + 5 * zi) + 3) 0#64, 0#64, 0#64, true⟩] : List Ot) ([])) :: ((some b206), sob EOt 41 ([⟨ws.getD (5 * (n1 + n2) + 5 * zi) 0#64, ws.getD ((5 * (n1 + n2) + 5 * zi) + 1) 0#64, ws.getD ((5 * (n1 + n2) + 5 * zi) + 2) 0#64, ws.getD ((5 * (n1 + n2) + 5 * zi) + 3) 0#64, false⟩] : List Ot) ([])) :: (some b196, .cells #[u64 (ws.getD (5 * (n1 + n2) + 5 * zi) 0#64), u64 (ws.getD ((5 * (n1 + n2) + 5 * zi) + 1) 0#64), u64 (ws.getD ((5 * (n1 + n2) + 5 * zi) + 2) 0#64), u64 (ws.getD ((5 * (n1 + n2) + 5 * zi) + 3) 0#64), .bool (false)] 41 (0, 0)) :: (some b189, .cells (cel E64 ([ws.getD (5 * (n1 + n2) + 5 * zi) 0#64, ws.getD ((5 * (n1 + n2) + 5 * zi) + 1) 0#64, ws.getD ((5 * (n1 + n2) + 5 * zi) + 2) 0#64, ws.getD ((5 * (n1 + n2) + 5 * zi) + 3) 0#64, ws.getD ((5 * (n1 + n2) + 5 * zi) + 4) 0#64])).toArray 136 (0, 0)) :: (some b, .cells #[.slice (ownA key) ws.length c, .pointer none, i64 (ws.length : Nat), i64 (((5 * (n1 + n2) + 5 * zi) + 5 : Nat))] 141 (0, 0)) :: (key, sob E64 32 ws sp) :: (some b23, .cells #[pT b15, pT b19] 25 (0, 0)) :: (some b15, .cells #[.slice (ownA kyta) n1 ccta, .slice (ownA kyba) n2 ccba, .slice (ownA key214) (zi + 1) c215] 135 (0, 0)) :: (some b19, .cells #[.slice (ownA kytb) n1 cctb, .slice (ownA kybb) n2 ccbb, .slice (ownA kyob) zi ccob] 135 (0, 0)) :: (kyta, sob ETr 34 (rowsOf (trA ws) 0 n1) zzta) :: (kytb, sob ETr 34 (rowsOf (trB ws) 0 n1) zztb) :: (kyba, sob ETr 34 (rowsOf (trA ws) (5 * n1) n2) zzba) :: (kybb, sob ETr 34 (rowsOf (biB ws) (5 * n1) n2) zzbb) :: (key214, sob EOt 41 (rowsOf (otA ws) (5 * (n1 + n2)) (zi + 1)) sp216) :: (key245, sob EOt 41 (rowsOf (otB ws) (5 * (n1 + n2)) (zi + 1)) sp247) :: (some b1, .cells #[.pointer none, .pointer none] 25 (0, 0)) :: R)) (by rw [e252])
       exact hK _ _ ⟨b237, key245, c246, sp247, rfl, rfl, hS238, hS253, H254⟩
      refine WalkC.look rfl (fun _ => pT b19) (fun _ _ _ => rfl) (fun q r uw _ _ _ _ => Gives.run rfl (r_nilCheck rfl) ⟨rfl, rfl⟩) ?_
      refine WalkC.look rfl (fun _ => .pointer (some ⟨b19, 2, none⟩)) (fun _ _ _ => rfl) (fun q r uw _ _ _ _ => Gives.run rfl (r_fieldAddr (off' := 2) fld135_2 (by decide) (b := b19) (off := 0) rfl (by omega)) ⟨rfl, rfl⟩) ?_
      refine WalkC.look rfl (fun _ => .pointer (some ⟨b19, 2, none⟩)) (fun _ _ _ => rfl) (fun q r uw _ _ _ _ => Gives.run rfl (r_fieldAddr (off' := 2) fld133_0 (by decide) (b := b19) (off := 2) rfl (by omega)) ⟨rfl, rfl⟩) ?_
      refine WalkC.eff 2 rfl (fun r uw255 hF257 => ?_) ?_
      ·skip
       obtain ⟨b237, key245, c246, sp247, e16, e17, hS238, hS253, H256⟩ := hF257
       dsimp only [List.take, List.map, List.cons_append, List.nil_append]
       rw [e16, e17]
       refine Gives.ofW0 rfl (fun Q' hK => ?_)
       refine d_store (k := 8) (v := .slice (ownA key245) (zi + 1) c246) (cs' := #[.slice (ownA kytb) n1 cctb, .slice (ownA kybb) n2 ccbb, .slice (ownA key245) (zi + 1) c246]) H256 rfl rfl rfl siz50 (by rfl) (by intro u hu; simp [Value.cells] at hu; first | (subst hu; rfl) | (rcases hu with rfl <;> rfl)) (by exact bLe rfl) (by rfl) ?_
       intro w258 H259 hC260
       have H259' := H259.as (L' := (((some b237), sob EOt 41 ([⟨ws.getD ((5 * (n1 + n2) + 5 * zi) + 2) 0#64, ws.getD ((5 * (n1 + n2) + 5 * zi) + 3) 0#64, 0#64, 0#64, true⟩] : List Ot) ([])) :: ((some b206), sob EOt 41 ([⟨ws.getD (5 * (n1 + n2) + 5 * zi) 0#64, ws.getD ((5 * (n1 + n2) + 5 * zi) + 1) 0#64, ws.getD ((5 * (n1 + n2) + 5 * zi) + 2) 0#64, ws.getD ((5 * (n1 + n2) + 5 * zi) + 3) 0#64, false⟩] : List Ot) ([])) :: (some b196, .cells #[u64 (ws.getD (5 * (n1 + n2) + 5 * zi) 0#64), u64 (ws.getD ((5 * (n1 + n2) + 5 * zi) + 1) 0#64), u64 (ws.getD ((5 * (n1 + n2) + 5 * zi) + 2) 0#64), u64 (ws.getD ((5 * (n1 + n2) + 5 * zi) + 3) 0#64), .bool (false)] 41 (0, 0)) :: (some b189, .cells (cel E64 ([ws.getD (5 * (n1 + n2) + 5 * zi) 0#64, ws.getD ((5 * (n1 + n2) + 5 * zi) + 1) 0#64, ws.getD ((5 * (n1 + n2) + 5 * zi) + 2) 0#64, ws.getD ((5 * (n1 + n2) + 5 * zi) + 3) 0#64, ws.getD ((5 * (n1 + n2) + 5 * zi) + 4) 0#64])).toArray 136 (0, 0)) :: (some b, .cells #[.slice (ownA key) ws.length c, .pointer none, i64 (ws.length : Nat), i64 (((5 * (n1 + n2) + 5 * zi) + 5 : Nat))] 141 (0, 0)) :: (key, sob E64 32 ws sp) :: (some b23, .cells #[pT b15, pT b19] 25 (0, 0)) :: (some b15, .cells #[.slice (ownA kyta) n1 ccta, .slice (ownA kyba) n2 ccba, .slice (ownA key214) (zi + 1) c215] 135 (0, 0)) :: (some b19, .cells #[.slice (ownA kytb) n1 cctb, .slice (ownA kybb) n2 ccbb, .slice (ownA key245) (zi + 1) c246] 135 (0, 0)) :: (kyta, sob ETr 34 (rowsOf (trA ws) 0 n1) zzta) :: (kytb, sob ETr 34 (rowsOf (trB ws) 0 n1) zztb) :: (kyba, sob ETr 34 (rowsOf (trA ws) (5 * n1) n2) zzba) :: (kybb, sob ETr 34 (rowsOf (biB ws) (5 * n1) n2) zzbb) :: (key214, sob EOt 41 (rowsOf (otA ws) (5 * (n1 + n2)) (zi + 1)) sp216) :: (key245, sob EOt 41 (rowsOf (otB ws) (5 * (n1 + n2)) (zi + 1)) sp247) :: (some b1, .cells #[.pointer none, .pointer none] 25 (0, 0)) :: R)) rfl
       clear H259
       exact hK _ (fun _ => ⟨b237, key245, c246, sp247, rfl, rfl, trivial, hS238, hS253, H259'⟩)
      refine WalkC.nil ?_
      intro r261 w262 hF264
      obtain ⟨b237, key245, c246, sp247, e16, e17, e21, hS238, hS253, H263⟩ := hF264
      dsimp only
      rw [e16, e17]
      refine wnil ?_
      refine blockNormal ?_
      refine thenNormal ?_
      refine oneRegion ?_
      refine sq (r_addI (a := (zi : Nat)) (b := (1 : Int)) rfl rfl (by omega)) ?_
      refine sM (i64 ((zi : Nat) + (1 : Int))) rfl ?_
      refine wnil ?_
      refine thenNormal ?_
      rw [show (5 * (n1 + n2) + 5 * zi) + 5 = 5 * (n1 + n2) + 5 * (zi + 1) by omega] at H263
      exact ⟨(zi + 1, key214, c215, sp216, key245, c246, sp247), _, rfl, ⟨rfl, rfl, rfl, rfl, rfl, rfl, rfl, rfl, rfl, trivial⟩, ⟨⟨by omega, hS222, hS253⟩, (H263.pick 16 [6, 7, 8, 9, 10, 11, 12, 13, 14, 15, 4, 5] (by decide) (by decide))⟩, by show n3 - (zi + 1) < n3 - zi; omega⟩
     ·skip
      refine sR ?_
      have hodd0 := (odd_and _).resolve_right hodd
      refine sq (r_indexA (off' := 4) (j := 4) arr136 (b := b189) (off := 0) rfl rfl (by first | rfl | omega | (simp; omega)) (by omega) (by omega)) ?_
      refine sq (r_ld1 (E := E64) (l := [ws.getD (5 * (n1 + n2) + 5 * zi) 0#64, ws.getD ((5 * (n1 + n2) + 5 * zi) + 1) 0#64, ws.getD ((5 * (n1 + n2) + 5 * zi) + 2) 0#64, ws.getD ((5 * (n1 + n2) + 5 * zi) + 3) 0#64, ws.getD ((5 * (n1 + n2) + 5 * zi) + 4) 0#64]) (j := 4) (a := ws.getD ((5 * (n1 + n2) + 5 * zi) + 4) 0#64) fits32 (H201'.get (k := 1) rfl) (by rfl) rfl rfl) ?_
      refine sq ((r_and64 (a := ws.getD ((5 * (n1 + n2) + 5 * zi) + 4) 0#64) (b := 1#64) rfl rfl).as (v' := u64 (0#64)) (by exact congrArg u64 hodd0)) ?_
      refine sA (u64 (0#64)) rfl ?_
      refine wend ?_
      refine seqAny ?_
      refine drawC (m := 15) [0, 1, 0, 4, 12, 28, 60, 124, 0, 256, 1020, 2047, 4095, 8191, 16383] [9, 10, 14] (fun q vs w' => match q, vs with | 0, [] => Hp No w₀ w' ((some b196, .cells #[u64 (ws.getD (5 * (n1 + n2) + 5 * zi) 0#64), u64 (ws.getD ((5 * (n1 + n2) + 5 * zi) + 1) 0#64), u64 (ws.getD ((5 * (n1 + n2) + 5 * zi) + 2) 0#64), u64 (ws.getD ((5 * (n1 + n2) + 5 * zi) + 3) 0#64), .bool (false)] 41 (0, 0)) :: (some b189, .cells (cel E64 ([ws.getD (5 * (n1 + n2) + 5 * zi) 0#64, ws.getD ((5 * (n1 + n2) + 5 * zi) + 1) 0#64, ws.getD ((5 * (n1 + n2) + 5 * zi) + 2) 0#64, ws.getD ((5 * (n1 + n2) + 5 * zi) + 3) 0#64, ws.getD ((5 * (n1 + n2) + 5 * zi) + 4) 0#64])).toArray 136 (0, 0)) :: (some b, .cells #[.slice (ownA key) ws.length c, .pointer none, i64 (ws.length : Nat), i64 (((5 * (n1 + n2) + 5 * zi) + 5 : Nat))] 141 (0, 0)) :: (key, sob E64 32 ws sp) :: (some b23, .cells #[pT b15, pT b19] 25 (0, 0)) :: (some b15, .cells #[.slice (ownA kyta) n1 ccta, .slice (ownA kyba) n2 ccba, .slice (ownA kyoa) zi ccoa] 135 (0, 0)) :: (some b19, .cells #[.slice (ownA kytb) n1 cctb, .slice (ownA kybb) n2 ccbb, .slice (ownA kyob) zi ccob] 135 (0, 0)) :: (kyta, sob ETr 34 (rowsOf (trA ws) 0 n1) zzta) :: (kytb, sob ETr 34 (rowsOf (trB ws) 0 n1) zztb) :: (kyba, sob ETr 34 (rowsOf (trA ws) (5 * n1) n2) zzba) :: (kybb, sob ETr 34 (rowsOf (biB ws) (5 * n1) n2) zzbb) :: (kyoa, sob EOt 41 (rowsOf (otA ws) (5 * (n1 + n2)) zi) zzoa) :: (kyob, sob EOt 41 (rowsOf (otB ws) (5 * (n1 + n2)) zi) zzob) :: (some b1, .cells #[.pointer none, .pointer none] 25 (0, 0)) :: R) | 1, [v0] => ∃ (b268 : Nat), v0 = .slice (ownA (some b268)) 1 1 ∧ Sl EOt (some b268) ([⟨ws.getD (5 * (n1 + n2) + 5 * zi) 0#64, ws.getD ((5 * (n1 + n2) + 5 * zi) + 1) 0#64, ws.getD ((5 * (n1 + n2) + 5 * zi) + 2) 0#64, ws.getD ((5 * (n1 + n2) + 5 * zi) + 3) 0#64, false⟩] : List Ot) 1 ([]) ∧ Hp No w₀ w' (((some b268), sob EOt 41 ([⟨ws.getD (5 * (n1 + n2) + 5 * zi) 0#64, ws.getD ((5 * (n1 + n2) + 5 * zi) + 1) 0#64, ws.getD ((5 * (n1 + n2) + 5 * zi) + 2) 0#64, ws.getD ((5 * (n1 + n2) + 5 * zi) + 3) 0#64, false⟩] : List Ot) ([])) :: (some b196, .cells #[u64 (ws.getD (5 * (n1 + n2) + 5 * zi) 0#64), u64 (ws.getD ((5 * (n1 + n2) + 5 * zi) + 1) 0#64), u64 (ws.getD ((5 * (n1 + n2) + 5 * zi) + 2) 0#64), u64 (ws.getD ((5 * (n1 + n2) + 5 * zi) + 3) 0#64), .bool (false)] 41 (0, 0)) :: (some b189, .cells (cel E64 ([ws.getD (5 * (n1 + n2) + 5 * zi) 0#64, ws.getD ((5 * (n1 + n2) + 5 * zi) + 1) 0#64, ws.getD ((5 * (n1 + n2) + 5 * zi) + 2) 0#64, ws.getD ((5 * (n1 + n2) + 5 * zi) + 3) 0#64, ws.getD ((5 * (n1 + n2) + 5 * zi) + 4) 0#64])).toArray 136 (0, 0)) :: (some b, .cells #[.slice (ownA key) ws.length c, .pointer none, i64 (ws.length : Nat), i64 (((5 * (n1 + n2) + 5 * zi) + 5 : Nat))] 141 (0, 0)) :: (key, sob E64 32 ws sp) :: (some b23, .cells #[pT b15, pT b19] 25 (0, 0)) :: (some b15, .cells #[.slice (ownA kyta) n1 ccta, .slice (ownA kyba) n2 ccba, .slice (ownA kyoa) zi ccoa] 135 (0, 0)) :: (some b19, .cells #[.slice (ownA kytb) n1 cctb, .slice (ownA kybb) n2 ccbb, .slice (ownA kyob) zi ccob] 135 (0, 0)) :: (kyta, sob ETr 34 (rowsOf (trA ws) 0 n1) zzta) :: (kytb, sob ETr 34 (rowsOf (trB ws) 0 n1) zztb) :: (kyba, sob ETr 34 (rowsOf (trA ws) (5 * n1) n2) zzba) :: (kybb, sob ETr 34 (rowsOf (biB ws) (5 * n1) n2) zzbb) :: (kyoa, sob EOt 41 (rowsOf (otA ws) (5 * (n1 + n2)) zi) zzoa) :: (kyob, sob EOt 41 (rowsOf (otB ws) (5 * (n1 + n2)) zi) zzob) :: (some b1, .cells #[.pointer none, .pointer none] 25 (0, 0)) :: R) | 2, [v0, v1] => ∃ (b268 : Nat) (key276 : Option Nat) (c277 : Nat) (sp278 : List Value), v0 = .slice (ownA (some b268)) 1 1 ∧ v1 = .slice (ownA key276) (zi + 1) c277 ∧ Sl EOt (some b268) ([⟨ws.getD (5 * (n1 + n2) + 5 * zi) 0#64, ws.getD ((5 * (n1 + n2) + 5 * zi) + 1) 0#64, ws.getD ((5 * (n1 + n2) + 5 * zi) + 2) 0#64, ws.getD ((5 * (n1 + n2) + 5 * zi) + 3) 0#64, false⟩] : List Ot) 1 ([]) ∧ Sl EOt key276 (rowsOf (otA ws) (5 * (n1 + n2)) (zi + 1)) c277 sp278 ∧ Hp No w₀ w' (((some b268), sob EOt 41 ([⟨ws.getD (5 * (n1 + n2) + 5 * zi) 0#64, ws.getD ((5 * (n1 + n2) + 5 * zi) + 1) 0#64, ws.getD ((5 * (n1 + n2) + 5 * zi) + 2) 0#64, ws.getD ((5 * (n1 + n2) + 5 * zi) + 3) 0#64, false⟩] : List Ot) ([])) :: (some b196, .cells #[u64 (ws.getD (5 * (n1 + n2) + 5 * zi) 0#64), u64 (ws.getD ((5 * (n1 + n2) + 5 * zi) + 1) 0#64), u64 (ws.getD ((5 * (n1 + n2) + 5 * zi) + 2) 0#64), u64 (ws.getD ((5 * (n1 + n2) + 5 * zi) + 3) 0#64), .bool (false)] 41 (0, 0)) :: (some b189, .cells (cel E64 ([ws.getD (5 * (n1 + n2) + 5 * zi) 0#64, ws.getD ((5 * (n1 + n2) + 5 * zi) + 1) 0#64, ws.getD ((5 * (n1 + n2) + 5 * zi) + 2) 0#64, ws.getD ((5 * (n1 + n2) + 5 * zi) + 3) 0#64, ws.getD ((5 * (n1 + n2) + 5 * zi) + 4) 0#64])).toArray 136 (0, 0)) :: (some b, .cells #[.slice (ownA key) ws.length c, .pointer none, i64 (ws.length : Nat), i64 (((5 * (n1 + n2) + 5 * zi) + 5 : Nat))] 141 (0, 0)) :: (key, sob E64 32 ws sp) :: (some b23, .cells #[pT b15, pT b19] 25 (0, 0)) :: (some b15, .cells #[.slice (ownA kyta) n1 ccta, .slice (ownA kyba) n2 ccba, .slice (ownA kyoa) zi ccoa] 135 (0, 0)) :: (some b19, .cells #[.slice (ownA kytb) n1 cctb, .slice (ownA kybb) n2 ccbb, .slice (ownA kyob) zi ccob] 135 (0, 0)) :: (kyta, sob ETr 34 (rowsOf (trA ws) 0 n1) zzta) :: (kytb, sob ETr 34 (rowsOf (trB ws) 0 n1) zztb) :: (kyba, sob ETr 34 (rowsOf (trA ws) (5 * n1) n2) zzba) :: (kybb, sob ETr 34 (rowsOf (biB ws) (5 * n1) n2) zzbb) :: (key276, sob EOt 41 (rowsOf (otA ws) (5 * (n1 + n2)) (zi + 1)) sp278) :: (kyob, sob EOt 41 (rowsOf (otB ws) (5 * (n1 + n2)) zi) zzob) :: (some b1, .cells #[.pointer none, .pointer none] 25 (0, 0)) :: R) | 3, [v0, v1, _] => ∃ (b268 : Nat) (key276 : Option Nat) (c277 : Nat) (sp278 : List Value), v0 = .slice (ownA (some b268)) 1 1 ∧ v1 = .slice (ownA key276) (zi + 1) c277 ∧ True ∧ Sl EOt (some b268) ([⟨ws.getD (5 * (n1 + n2) + 5 * zi) 0#64, ws.getD ((5 * (n1 + n2) + 5 * zi) + 1) 0#64, ws.getD ((5 * (n1 + n2) + 5 * zi) + 2) 0#64, ws.getD ((5 * (n1 + n2) + 5 * zi) + 3) 0#64, false⟩] : List Ot) 1 ([]) ∧ Sl EOt key276 (rowsOf (otA ws) (5 * (n1 + n2)) (zi + 1)) c277 sp278 ∧ Hp No w₀ w' (((some b268), sob EOt 41 ([⟨ws.getD (5 * (n1 + n2) + 5 * zi) 0#64, ws.getD ((5 * (n1 + n2) + 5 * zi) + 1) 0#64, ws.getD ((5 * (n1 + n2) + 5 * zi) + 2) 0#64, ws.getD ((5 * (n1 + n2) + 5 * zi) + 3) 0#64, false⟩] : List Ot) ([])) :: (some b196, .cells #[u64 (ws.getD (5 * (n1 + n2) + 5 * zi) 0#64), u64 (ws.getD ((5 * (n1 + n2) + 5 * zi) + 1) 0#64), u64 (ws.getD ((5 * (n1 + n2) + 5 * zi) + 2) 0#64), u64 (ws.getD ((5 * (n1 + n2) + 5 * zi) + 3) 0#64), .bool (false)] 41 (0, 0)) :: (some b189, .cells (cel E64 ([ws.getD (5 * (n1 + n2) + 5 * zi) 0#64, ws.getD ((5 * (n1 + n2) + 5 * zi) + 1) 0#64, ws.getD ((5 * (n1 + n2) + 5 * zi) + 2) 0#64, ws.getD ((5 * (n1 + n2) + 5 * zi) + 3) 0#64, ws.getD ((5 * (n1 + n2) + 5 * zi) + 4) 0#64])).toArray 136 (0, 0)) :: (some b, .cells #[.slice (ownA key) ws.length c, .pointer none, i64 (ws.length : Nat), i64 (((5 * (n1 + n2) + 5 * zi) + 5 : Nat))] 141 (0, 0)) :: (key, sob E64 32 ws sp) :: (some b23, .cells #[pT b15, pT b19] 25 (0, 0)) :: (some b15, .cells #[.slice (ownA kyta) n1 ccta, .slice (ownA kyba) n2 ccba, .slice (ownA key276) (zi + 1) c277] 135 (0, 0)) :: (some b19, .cells #[.slice (ownA kytb) n1 cctb, .slice (ownA kybb) n2 ccbb, .slice (ownA kyob) zi ccob] 135 (0, 0)) :: (kyta, sob ETr 34 (rowsOf (trA ws) 0 n1) zzta) :: (kytb, sob ETr 34 (rowsOf (trB ws) 0 n1) zztb) :: (kyba, sob ETr 34 (rowsOf (trA ws) (5 * n1) n2) zzba) :: (kybb, sob ETr 34 (rowsOf (biB ws) (5 * n1) n2) zzbb) :: (key276, sob EOt 41 (rowsOf (otA ws) (5 * (n1 + n2)) (zi + 1)) sp278) :: (kyob, sob EOt 41 (rowsOf (otB ws) (5 * (n1 + n2)) zi) zzob) :: (some b1, .cells #[.pointer none, .pointer none] 25 (0, 0)) :: R) | _, _ => False) mixed (by kernel_rfl) (by kernel_rfl) H201'.drew ?_
      refine WalkC.look rfl (fun _ => pT b23) (fun _ _ _ => rfl) (fun q r uw _ _ _ _ => Gives.run rfl (r_indexA (off' := 0) (j := 0) arr25 (b := b23) (off := 0) rfl rfl (by first | rfl | omega | (simp; omega)) (by omega) (by omega)) ⟨rfl, rfl⟩) ?_
      refine WalkC.look rfl (fun _ => pT b15) (fun _ _ _ => rfl) (fun q r uw hlo hhi hle hF => ?_) ?_
      ·skip
       have h1 : 0 ≤ q := Nat.zero_le _
       have h2 : q ≤ 2 := hhi 2 14 rfl rfl
       rcases (show q = 0 ∨ q = 1 ∨ q = 2 by omega) with rfl | rfl | rfl
       ·skip
        have HH := hF
        exact Gives.run rfl (r_loadC (v := pT b15) one24 (HH.get (k := 4) rfl) (off := 0) rfl (by rfl)) ⟨rfl, rfl⟩
       ·skip
        obtain ⟨b268, e9, hS269, HH⟩ := hF
        exact Gives.run rfl (r_loadC (v := pT b15) one24 (HH.get (k := 5) rfl) (off := 0) rfl (by rfl)) ⟨rfl, rfl⟩
       ·skip
        obtain ⟨b268, key276, c277, sp278, e9, e10, hS269, hS284, HH⟩ := hF
        exact Gives.run rfl (r_loadC (v := pT b15) one24 (HH.get (k := 5) rfl) (off := 0) rfl (by rfl)) ⟨rfl, rfl⟩
      refine WalkC.look rfl (fun _ => pT b23) (fun _ _ _ => rfl) (fun q r uw _ _ _ _ => Gives.run rfl (r_indexA (off' := 0) (j := 0) arr25 (b := b23) (off := 0) rfl rfl (by first | rfl | omega | (simp; omega)) (by omega) (by omega)) ⟨rfl, rfl⟩) ?_
      refine WalkC.look rfl (fun _ => pT b15) (fun _ _ _ => rfl) (fun q r uw hlo hhi hle hF => ?_) ?_
      ·skip
       have h1 : 0 ≤ q := Nat.zero_le _
       have h2 : q ≤ 1 := hhi 1 10 rfl rfl
       rcases (show q = 0 ∨ q = 1 by omega) with rfl | rfl
       ·skip
        have HH := hF
        exact Gives.run rfl (r_loadC (v := pT b15) one24 (HH.get (k := 4) rfl) (off := 0) rfl (by rfl)) ⟨rfl, rfl⟩
       ·skip
        obtain ⟨b268, e9, hS269, HH⟩ := hF
        exact Gives.run rfl (r_loadC (v := pT b15) one24 (HH.get (k := 5) rfl) (off := 0) rfl (by rfl)) ⟨rfl, rfl⟩
      refine WalkC.look rfl (fun _ => pT b15) (fun _ _ _ => rfl) (fun q r uw _ _ _ _ => Gives.run rfl (r_nilCheck rfl) ⟨rfl, rfl⟩) ?_
      refine WalkC.look rfl (fun _ => .pointer (some ⟨b15, 2, none⟩)) (fun _ _ _ => rfl) (fun q r uw _ _ _ _ => Gives.run rfl (r_fieldAddr (off' := 2) fld135_2 (by decide) (b := b15) (off := 0) rfl (by omega)) ⟨rfl, rfl⟩) ?_
      refine WalkC.look rfl (fun _ => .pointer (some ⟨b15, 2, none⟩)) (fun _ _ _ => rfl) (fun q r uw _ _ _ _ => Gives.run rfl (r_fieldAddr (off' := 2) fld133_0 (by decide) (b := b15) (off := 2) rfl (by omega)) ⟨rfl, rfl⟩) ?_
      refine WalkC.look rfl (fun _ => .slice (ownA kyoa) zi ccoa) (fun _ _ _ => rfl) (fun q r uw hlo hhi hle hF => ?_) ?_
      ·skip
       have h1 : 0 ≤ q := Nat.zero_le _
       have h2 : q ≤ 1 := hhi 1 10 rfl rfl
       rcases (show q = 0 ∨ q = 1 by omega) with rfl | rfl
       ·skip
        have HH := hF
        exact Gives.run rfl (r_loadC (v := .slice (ownA kyoa) zi ccoa) one50 (HH.get (k := 5) rfl) (off := 2) rfl (by rfl)) ⟨rfl, rfl⟩
       ·skip
        obtain ⟨b268, e9, hS269, HH⟩ := hF
        exact Gives.run rfl (r_loadC (v := .slice (ownA kyoa) zi ccoa) one50 (HH.get (k := 6) rfl) (off := 2) rfl (by rfl)) ⟨rfl, rfl⟩
      refine WalkC.look rfl (fun _ => .agg #[u64 (ws.getD (5 * (n1 + n2) + 5 * zi) 0#64), u64 (ws.getD ((5 * (n1 + n2) + 5 * zi) + 1) 0#64), u64 (ws.getD ((5 * (n1 + n2) + 5 * zi) + 2) 0#64), u64 (ws.getD ((5 * (n1 + n2) + 5 * zi) + 3) 0#64), .bool (false)]) (fun _ _ _ => rfl) (fun q r uw hlo hhi hle hF => ?_) ?_
      ·skip
       have h1 : 0 ≤ q := Nat.zero_le _
       have h2 : q ≤ 0 := hhi 0 9 rfl rfl
       rcases (show q = 0 by omega) with rfl
       ·skip
        have HH := hF
        exact Gives.run rfl (r_loadA (cs' := #[u64 (ws.getD (5 * (n1 + n2) + 5 * zi) 0#64), u64 (ws.getD ((5 * (n1 + n2) + 5 * zi) + 1) 0#64), u64 (ws.getD ((5 * (n1 + n2) + 5 * zi) + 2) 0#64), u64 (ws.getD ((5 * (n1 + n2) + 5 * zi) + 3) 0#64), .bool (false)]) agg41 siz41 (HH.get (k := 0) rfl) (off := 0) rfl (by exact bLe rfl) (by rfl)) ⟨rfl, rfl⟩
      refine WalkC.eff 0 rfl (fun r uw265 hF267 => ?_) ?_
      ·skip
       have H266 := hF267
       dsimp only [List.take, List.map, List.cons_append, List.nil_append]
       refine Gives.ofW (d := 202) rfl rfl (fun Q' hK => ?_)
       refine q_buildSlice (E := EOt) (l := ([⟨ws.getD (5 * (n1 + n2) + 5 * zi) 0#64, ws.getD ((5 * (n1 + n2) + 5 * zi) + 1) 0#64, ws.getD ((5 * (n1 + n2) + 5 * zi) + 2) 0#64, ws.getD ((5 * (n1 + n2) + 5 * zi) + 3) 0#64, false⟩] : List Ot)) H266 sli50 zer41 (bLe rfl) (ps := [(0, .agg #[u64 (ws.getD (5 * (n1 + n2) + 5 * zi) 0#64), u64 (ws.getD ((5 * (n1 + n2) + 5 * zi) + 1) 0#64), u64 (ws.getD ((5 * (n1 + n2) + 5 * zi) + 2) 0#64), u64 (ws.getD ((5 * (n1 + n2) + 5 * zi) + 3) 0#64), .bool (false)])]) rfl (by exact fillAll rfl rfl) rfl ?_
       intro b268 w270 hS269 H271 hE272
       exact hK _ _ ⟨b268, rfl, hS269, H271⟩
      refine WalkC.eff 1 rfl (fun r uw273 hF275 => ?_) ?_
      ·skip
       obtain ⟨b268, e9, hS269, H274⟩ := hF275
       dsimp only [List.take, List.map, List.cons_append, List.nil_append]
       rw [e9]
       refine Gives.ofW (d := 203) rfl rfl (fun Q' hK => ?_)
       refine q_append (E := EOt) (k := 12) (l := rowsOf (otA ws) (5 * (n1 + n2)) zi) (l2 := ([⟨ws.getD (5 * (n1 + n2) + 5 * zi) 0#64, ws.getD ((5 * (n1 + n2) + 5 * zi) + 1) 0#64, ws.getD ((5 * (n1 + n2) + 5 * zi) + 2) 0#64, ws.getD ((5 * (n1 + n2) + 5 * zi) + 3) 0#64, false⟩] : List Ot)) H274 rfl hkyoa sli50 zer41 rfl byt41 (H274.rd (k := 0) rfl hS269) rfl (by rw [rowsOf_len]) rfl (by rfl) (by omega) ?_
       intro key276 c277 sp278 w280 hS279 hne282 H281
       have H281' := H281.as (L' := (((some b268), sob EOt 41 ([⟨ws.getD (5 * (n1 + n2) + 5 * zi) 0#64, ws.getD ((5 * (n1 + n2) + 5 * zi) + 1) 0#64, ws.getD ((5 * (n1 + n2) + 5 * zi) + 2) 0#64, ws.getD ((5 * (n1 + n2) + 5 * zi) + 3) 0#64, false⟩] : List Ot) ([])) :: (some b196, .cells #[u64 (ws.getD (5 * (n1 + n2) + 5 * zi) 0#64), u64 (ws.getD ((5 * (n1 + n2) + 5 * zi) + 1) 0#64), u64 (ws.getD ((5 * (n1 + n2) + 5 * zi) + 2) 0#64), u64 (ws.getD ((5 * (n1 + n2) + 5 * zi) + 3) 0#64), .bool (false)] 41 (0, 0)) :: (some b189, .cells (cel E64 ([ws.getD (5 * (n1 + n2) + 5 * zi) 0#64, ws.getD ((5 * (n1 + n2) + 5 * zi) + 1) 0#64, ws.getD ((5 * (n1 + n2) + 5 * zi) + 2) 0#64, ws.getD ((5 * (n1 + n2) + 5 * zi) + 3) 0#64, ws.getD ((5 * (n1 + n2) + 5 * zi) + 4) 0#64])).toArray 136 (0, 0)) :: (some b, .cells #[.slice (ownA key) ws.length c, .pointer none, i64 (ws.length : Nat), i64 (((5 * (n1 + n2) + 5 * zi) + 5 : Nat))] 141 (0, 0)) :: (key, sob E64 32 ws sp) :: (some b23, .cells #[pT b15, pT b19] 25 (0, 0)) :: (some b15, .cells #[.slice (ownA kyta) n1 ccta, .slice (ownA kyba) n2 ccba, .slice (ownA kyoa) zi ccoa] 135 (0, 0)) :: (some b19, .cells #[.slice (ownA kytb) n1 cctb, .slice (ownA kybb) n2 ccbb, .slice (ownA kyob) zi ccob] 135 (0, 0)) :: (kyta, sob ETr 34 (rowsOf (trA ws) 0 n1) zzta) :: (kytb, sob ETr 34 (rowsOf (trB ws) 0 n1) zztb) :: (kyba, sob ETr 34 (rowsOf (trA ws) (5 * n1) n2) zzba) :: (kybb, sob ETr 34 (rowsOf (biB ws) (5 * n1) n2) zzbb) :: (key276, sob EOt 41 ((rowsOf (otA ws) (5 * (n1 + n2)) zi) ++ ([⟨ws.getD (5 * (n1 + n2) + 5 * zi) 0#64, ws.getD ((5 * (n1 + n2) + 5 * zi) + 1) 0#64, ws.getD ((5 * (n1 + n2) + 5 * zi) + 2) 0#64, ws.getD ((5 * (n1 + n2) + 5 * zi) + 3) 0#64, false⟩] : List Ot)) sp278) :: (kyob, sob EOt 41 (rowsOf (otB ws) (5 * (n1 + n2)) zi) zzob) :: (some b1, .cells #[.pointer none, .pointer none] 25 (0, 0)) :: R)) rfl
       clear H281
       have e283 : (rowsOf (otA ws) (5 * (n1 + n2)) zi) ++ ([⟨ws.getD (5 * (n1 + n2) + 5 * zi) 0#64, ws.getD ((5 * (n1 + n2) + 5 * zi) + 1) 0#64, ws.getD ((5 * (n1 + n2) + 5 * zi) + 2) 0#64, ws.getD ((5 * (n1 + n2) + 5 * zi) + 3) 0#64, false⟩] : List Ot) = rowsOf (otA ws) (5 * (n1 + n2)) (zi + 1) := by rw [rowsOf_succ]; rfl
       have hS284 := hS279
       rw [e283] at hS284
       have H285 := H281'.as (L' := (((some b268), sob EOt 41 ([⟨ws.getD (5 * (n1 + n2) + 5 * zi) 0#64, ws.getD ((5 * (n1 + n2) + 5 * zi) + 1) 0#64, ws.getD ((5 * (n1 + n2) + 5 * zi) + 2) 0#64, ws.getD ((5 * (n1 + n2) + 5 * zi) + 3) 0#64, false⟩] : List Ot) ([])) :: (some b196, .cells #[u64 (ws.getD (5 * (n1 + n2) + 5 * zi) 0#64), u64 (ws.getD ((5 * (n1 + n2) + 5 * zi) + 1) 0#64), u64 (ws.getD ((5 * (n1 + n2) + 5 * zi) + 2) 0#64), u64 (ws.getD ((5 * (n1 + n2) + 5 * zi) + 3) 0#64), .bool (false)] 41 (0, 0)) :: (some b189, .cells (cel E64 ([ws.getD (5 * (n1 + n2) + 5 * zi) 0#64, ws.getD ((5 * (n1 + n2) + 5 * zi) + 1) 0#64, ws.getD ((5 * (n1 + n2) + 5 * zi) + 2) 0#64, ws.getD ((5 * (n1 + n2) + 5 * zi) + 3) 0#64, ws.getD ((5 * (n1 + n2) + 5 * zi) + 4) 0#64])).toArray 136 (0, 0)) :: (some b, .cells #[.slice (ownA key) ws.length c, .pointer none, i64 (ws.length : Nat), i64 (((5 * (n1 + n2) + 5 * zi) + 5 : Nat))] 141 (0, 0)) :: (key, sob E64 32 ws sp) :: (some b23, .cells #[pT b15, pT b19] 25 (0, 0)) :: (some b15, .cells #[.slice (ownA kyta) n1 ccta, .slice (ownA kyba) n2 ccba, .slice (ownA kyoa) zi ccoa] 135 (0, 0)) :: (some b19, .cells #[.slice (ownA kytb) n1 cctb, .slice (ownA kybb) n2 ccbb, .slice (ownA kyob) zi ccob] 135 (0, 0)) :: (kyta, sob ETr 34 (rowsOf (trA ws) 0 n1) zzta) :: (kytb, sob ETr 34 (rowsOf (trB ws) 0 n1) zztb) :: (kyba, sob ETr 34 (rowsOf (trA ws) (5 * n1) n2) zzba) :: (kybb, sob ETr 34 (rowsOf (biB ws) (5 * n1) n2) zzbb) :: (key276, sob EOt 41 (rowsOf (otA ws) (5 * (n1 + n2)) (zi + 1)) sp278) :: (kyob, sob EOt 41 (rowsOf (otB ws) (5 * (n1 + n2)) zi) zzob) :: (some b1, .cells #[.pointer none, .pointer none] 25 (0, 0)) :: R)) (by rw [e283])
       exact hK _ _ ⟨b268, key276, c277, sp278, rfl, rfl, hS269, hS284, H285⟩
      refine WalkC.look rfl (fun _ => pT b15) (fun _ _ _ => rfl) (fun q r uw _ _ _ _ => Gives.run rfl (r_nilCheck rfl) ⟨rfl, rfl⟩) ?_
      refine WalkC.look rfl (fun _ => .pointer (some ⟨b15, 2, none⟩)) (fun _ _ _ => rfl) (fun q r uw _ _ _ _ => Gives.run rfl (r_fieldAddr (off' := 2) fld135_2 (by decide) (b := b15) (off := 0) rfl (by omega)) ⟨rfl, rfl⟩) ?_
      refine WalkC.look rfl (fun _ => .pointer (some ⟨b15, 2, none⟩)) (fun _ _ _ => rfl) (fun q r uw _ _ _ _ => Gives.run rfl (r_fieldAddr (off' := 2) fld133_0 (by decide) (b := b15) (off := 2) rfl (by omega)) ⟨rfl, rfl⟩) ?_
      refine WalkC.eff 2 rfl (fun r uw286 hF288 => ?_) ?_
      ·skip
       obtain ⟨b268, key276, c277, sp278, e9, e10, hS269, hS284, H287⟩ := hF288
       dsimp only [List.take, List.map, List.cons_append, List.nil_append]
       rw [e9, e10]
       refine Gives.ofW0 rfl (fun Q' hK => ?_)
       refine d_store (k := 6) (v := .slice (ownA key276) (zi + 1) c277) (cs' := #[.slice (ownA kyta) n1 ccta, .slice (ownA kyba) n2 ccba, .slice (ownA key276) (zi + 1) c277]) H287 rfl rfl rfl siz50 (by rfl) (by intro u hu; simp [Value.cells] at hu; first | (subst hu; rfl) | (rcases hu with rfl <;> rfl)) (by exact bLe rfl) (by rfl) ?_
       intro w289 H290 hC291
       have H290' := H290.as (L' := (((some b268), sob EOt 41 ([⟨ws.getD (5 * (n1 + n2) + 5 * zi) 0#64, ws.getD ((5 * (n1 + n2) + 5 * zi) + 1) 0#64, ws.getD ((5 * (n1 + n2) + 5 * zi) + 2) 0#64, ws.getD ((5 * (n1 + n2) + 5 * zi) + 3) 0#64, false⟩] : List Ot) ([])) :: (some b196, .cells #[u64 (ws.getD (5 * (n1 + n2) + 5 * zi) 0#64), u64 (ws.getD ((5 * (n1 + n2) + 5 * zi) + 1) 0#64), u64 (ws.getD ((5 * (n1 + n2) + 5 * zi) + 2) 0#64), u64 (ws.getD ((5 * (n1 + n2) + 5 * zi) + 3) 0#64), .bool (false)] 41 (0, 0)) :: (some b189, .cells (cel E64 ([ws.getD (5 * (n1 + n2) + 5 * zi) 0#64, ws.getD ((5 * (n1 + n2) + 5 * zi) + 1) 0#64, ws.getD ((5 * (n1 + n2) + 5 * zi) + 2) 0#64, ws.getD ((5 * (n1 + n2) + 5 * zi) + 3) 0#64, ws.getD ((5 * (n1 + n2) + 5 * zi) + 4) 0#64])).toArray 136 (0, 0)) :: (some b, .cells #[.slice (ownA key) ws.length c, .pointer none, i64 (ws.length : Nat), i64 (((5 * (n1 + n2) + 5 * zi) + 5 : Nat))] 141 (0, 0)) :: (key, sob E64 32 ws sp) :: (some b23, .cells #[pT b15, pT b19] 25 (0, 0)) :: (some b15, .cells #[.slice (ownA kyta) n1 ccta, .slice (ownA kyba) n2 ccba, .slice (ownA key276) (zi + 1) c277] 135 (0, 0)) :: (some b19, .cells #[.slice (ownA kytb) n1 cctb, .slice (ownA kybb) n2 ccbb, .slice (ownA kyob) zi ccob] 135 (0, 0)) :: (kyta, sob ETr 34 (rowsOf (trA ws) 0 n1) zzta) :: (kytb, sob ETr 34 (rowsOf (trB ws) 0 n1) zztb) :: (kyba, sob ETr 34 (rowsOf (trA ws) (5 * n1) n2) zzba) :: (kybb, sob ETr 34 (rowsOf (biB ws) (5 * n1) n2) zzbb) :: (key276, sob EOt 41 (rowsOf (otA ws) (5 * (n1 + n2)) (zi + 1)) sp278) :: (kyob, sob EOt 41 (rowsOf (otB ws) (5 * (n1 + n2)) zi) zzob) :: (some b1, .cells #[.pointer none, .pointer none] 25 (0, 0)) :: R)) rfl
       clear H290
       exact hK _ (fun _ => ⟨b268, key276, c277, sp278, rfl, rfl, trivial, hS269, hS284, H290'⟩)
      refine WalkC.nil ?_
      intro r292 w293 hF295
      obtain ⟨b268, key276, c277, sp278, e9, e10, e14, hS269, hS284, H294⟩ := hF295
      dsimp only
      rw [e9, e10]
      refine wnil ?_
      refine thenNormal ?_
      refine drawC (m := 22) [0, 1, 0, 4, 12, 28, 60, 124, 0, 0, 768, 1792, 3840, 0, 8192, 32512, 65280, 131068, 262143, 524287, 1048575, 2097151] [16, 17, 21] (fun q vs w' => match q, vs with | 0, [] => Hp No w₀ w' (((some b268), sob EOt 41 ([⟨ws.getD (5 * (n1 + n2) + 5 * zi) 0#64, ws.getD ((5 * (n1 + n2) + 5 * zi) + 1) 0#64, ws.getD ((5 * (n1 + n2) + 5 * zi) + 2) 0#64, ws.getD ((5 * (n1 + n2) + 5 * zi) + 3) 0#64, false⟩] : List Ot) ([])) :: (some b196, .cells #[u64 (ws.getD (5 * (n1 + n2) + 5 * zi) 0#64), u64 (ws.getD ((5 * (n1 + n2) + 5 * zi) + 1) 0#64), u64 (ws.getD ((5 * (n1 + n2) + 5 * zi) + 2) 0#64), u64 (ws.getD ((5 * (n1 + n2) + 5 * zi) + 3) 0#64), .bool (false)] 41 (0, 0)) :: (some b189, .cells (cel E64 ([ws.getD (5 * (n1 + n2) + 5 * zi) 0#64, ws.getD ((5 * (n1 + n2) + 5 * zi) + 1) 0#64, ws.getD ((5 * (n1 + n2) + 5 * zi) + 2) 0#64, ws.getD ((5 * (n1 + n2) + 5 * zi) + 3) 0#64, ws.getD ((5 * (n1 + n2) + 5 * zi) + 4) 0#64])).toArray 136 (0, 0)) :: (some b, .cells #[.slice (ownA key) ws.length c, .pointer none, i64 (ws.length : Nat), i64 (((5 * (n1 + n2) + 5 * zi) + 5 : Nat))] 141 (0, 0)) :: (key, sob E64 32 ws sp) :: (some b23, .cells #[pT b15, pT b19] 25 (0, 0)) :: (some b15, .cells #[.slice (ownA kyta) n1 ccta, .slice (ownA kyba) n2 ccba, .slice (ownA key276) (zi + 1) c277] 135 (0, 0)) :: (some b19, .cells #[.slice (ownA kytb) n1 cctb, .slice (ownA kybb) n2 ccbb, .slice (ownA kyob) zi ccob] 135 (0, 0)) :: (kyta, sob ETr 34 (rowsOf (trA ws) 0 n1) zzta) :: (kytb, sob ETr 34 (rowsOf (trB ws) 0 n1) zztb) :: (kyba, sob ETr 34 (rowsOf (trA ws) (5 * n1) n2) zzba) :: (kybb, sob ETr 34 (rowsOf (biB ws) (5 * n1) n2) zzbb) :: (key276, sob EOt 41 (rowsOf (otA ws) (5 * (n1 + n2)) (zi + 1)) sp278) :: (kyob, sob EOt 41 (rowsOf (otB ws) (5 * (n1 + n2)) zi) zzob) :: (some b1, .cells #[.pointer none, .pointer none] 25 (0, 0)) :: R) | 1, [v0] => ∃ (b299 : Nat), v0 = .slice (ownA (some b299)) 1 1 ∧ Sl EOt (some b299) ([⟨ws.getD (5 * (n1 + n2) + 5 * zi) 0#64, ws.getD ((5 * (n1 + n2) + 5 * zi) + 1) 0#64, 0#64, 0#64, false⟩] : List Ot) 1 ([]) ∧ Hp No w₀ w' (((some b299), sob EOt 41 ([⟨ws.getD (5 * (n1 + n2) + 5 * zi) 0#64, ws.getD ((5 * (n1 + n2) + 5 * zi) + 1) 0#64, 0#64, 0#64, false⟩] : List Ot) ([])) :: ((some b268), sob EOt 41 ([⟨ws.getD (5 * (n1 + n2) + 5 * zi) 0#64, ws.getD ((5 * (n1 + n2) + 5 * zi) + 1) 0#64, ws.getD ((5 * (n1 + n2) + 5 * zi) + 2) 0#64, ws.getD ((5 * (n1 + n2) + 5 * zi) + 3) 0#64, false⟩] : List Ot) ([])) :: (some b196, .cells #[u64 (ws.getD (5 * (n1 + n2) + 5 * zi) 0#64), u64 (ws.getD ((5 * (n1 + n2) + 5 * zi) + 1) 0#64), u64 (ws.getD ((5 * (n1 + n2) + 5 * zi) + 2) 0#64), u64 (ws.getD ((5 * (n1 + n2) + 5 * zi) + 3) 0#64), .bool (false)] 41 (0, 0)) :: (some b189, .cells (cel E64 ([ws.getD (5 * (n1 + n2) + 5 * zi) 0#64, ws.getD ((5 * (n1 + n2) + 5 * zi) + 1) 0#64, ws.getD ((5 * (n1 + n2) + 5 * zi) + 2) 0#64, ws.getD ((5 * (n1 + n2) + 5 * zi) + 3) 0#64, ws.getD ((5 * (n1 + n2) + 5 * zi) + 4) 0#64])).toArray 136 (0, 0)) :: (some b, .cells #[.slice (ownA key) ws.length c, .pointer none, i64 (ws.length : Nat), i64 (((5 * (n1 + n2) + 5 * zi) + 5 : Nat))] 141 (0, 0)) :: (key, sob E64 32 ws sp) :: (some b23, .cells #[pT b15, pT b19] 25 (0, 0)) :: (some b15, .cells #[.slice (ownA kyta) n1 ccta, .slice (ownA kyba) n2 ccba, .slice (ownA key276) (zi + 1) c277] 135 (0, 0)) :: (some b19, .cells #[.slice (ownA kytb) n1 cctb, .slice (ownA kybb) n2 ccbb, .slice (ownA kyob) zi ccob] 135 (0, 0)) :: (kyta, sob ETr 34 (rowsOf (trA ws) 0 n1) zzta) :: (kytb, sob ETr 34 (rowsOf (trB ws) 0 n1) zztb) :: (kyba, sob ETr 34 (rowsOf (trA ws) (5 * n1) n2) zzba) :: (kybb, sob ETr 34 (rowsOf (biB ws) (5 * n1) n2) zzbb) :: (key276, sob EOt 41 (rowsOf (otA ws) (5 * (n1 + n2)) (zi + 1)) sp278) :: (kyob, sob EOt 41 (rowsOf (otB ws) (5 * (n1 + n2)) zi) zzob) :: (some b1, .cells #[.pointer none, .pointer none] 25 (0, 0)) :: R) | 2, [v0, v1] => ∃ (b299 : Nat) (key307 : Option Nat) (c308 : Nat) (sp309 : List Value), v0 = .slice (ownA (some b299)) 1 1 ∧ v1 = .slice (ownA key307) (zi + 1) c308 ∧ Sl EOt (some b299) ([⟨ws.getD (5 * (n1 + n2) + 5 * zi) 0#64, ws.getD ((5 * (n1 + n2) + 5 * zi) + 1) 0#64, 0#64, 0#64, false⟩] : List Ot) 1 ([]) ∧ Sl EOt key307 (rowsOf (otB ws) (5 * (n1 + n2)) (zi + 1)) c308 sp309 ∧ Hp No w₀ w' (((some b299), sob EOt 41 ([⟨ws.getD (5 * (n1 + n2) + 5 * zi) 0#64, ws.getD ((5 * (n1 + n2) + 5 * zi) + 1) 0#64, 0#64, 0#64, false⟩] : List Ot) ([])) :: ((some b268), sob EOt 41 ([⟨ws.getD (5 * (n1 + n2) + 5 * zi) 0#64, ws.getD ((5 * (n1 + n2) + 5 * zi) + 1) 0#64, ws.getD ((5 * (n1 + n2) + 5 * zi) + 2) 0#64, ws.getD ((5 * (n1 + n2) + 5 * zi) + 3) 0#64, false⟩] : List Ot) ([])) :: (some b196, .cells #[u64 (ws.getD (5 * (n1 + n2) + 5 * zi) 0#64), u64 (ws.getD ((5 * (n1 + n2) + 5 * zi) + 1) 0#64), u64 (ws.getD ((5 * (n1 + n2) + 5 * zi) + 2) 0#64), u64 (ws.getD ((5 * (n1 + n2) + 5 * zi) + 3) 0#64), .bool (false)] 41 (0, 0)) :: (some b189, .cells (cel E64 ([ws.getD (5 * (n1 + n2) + 5 * zi) 0#64, ws.getD ((5 * (n1 + n2) + 5 * zi) + 1) 0#64, ws.getD ((5 * (n1 + n2) + 5 * zi) + 2) 0#64, ws.getD ((5 * (n1 + n2) + 5 * zi) + 3) 0#64, ws.getD ((5 * (n1 + n2) + 5 * zi) + 4) 0#64])).toArray 136 (0, 0)) :: (some b, .cells #[.slice (ownA key) ws.length c, .pointer none, i64 (ws.length : Nat), i64 (((5 * (n1 + n2) + 5 * zi) + 5 : Nat))] 141 (0, 0)) :: (key, sob E64 32 ws sp) :: (some b23, .cells #[pT b15, pT b19] 25 (0, 0)) :: (some b15, .cells #[.slice (ownA kyta) n1 ccta, .slice (ownA kyba) n2 ccba, .slice (ownA key276) (zi + 1) c277] 135 (0, 0)) :: (some b19, .cells #[.slice (ownA kytb) n1 cctb, .slice (ownA kybb) n2 ccbb, .slice (ownA kyob) zi ccob] 135 (0, 0)) :: (kyta, sob ETr 34 (rowsOf (trA ws) 0 n1) zzta) :: (kytb, sob ETr 34 (rowsOf (trB ws) 0 n1) zztb) :: (kyba, sob ETr 34 (rowsOf (trA ws) (5 * n1) n2) zzba) :: (kybb, sob ETr 34 (rowsOf (biB ws) (5 * n1) n2) zzbb) :: (key276, sob EOt 41 (rowsOf (otA ws) (5 * (n1 + n2)) (zi + 1)) sp278) :: (key307, sob EOt 41 (rowsOf (otB ws) (5 * (n1 + n2)) (zi + 1)) sp309) :: (some b1, .cells #[.pointer none, .pointer none] 25 (0, 0)) :: R) | 3, [v0, v1, _] => ∃ (b299 : Nat) (key307 : Option Nat) (c308 : Nat) (sp309 : List Value), v0 = .slice (ownA (some b299)) 1 1 ∧ v1 = .slice (ownA key307) (zi + 1) c308 ∧ True ∧ Sl EOt (some b299) ([⟨ws.getD (5 * (n1 + n2) + 5 * zi) 0#64, ws.getD ((5 * (n1 + n2) + 5 * zi) + 1) 0#64, 0#64, 0#64, false⟩] : List Ot) 1 ([]) ∧ Sl EOt key307 (rowsOf (otB ws) (5 * (n1 + n2)) (zi + 1)) c308 sp309 ∧ Hp No w₀ w' (((some b299), sob EOt 41 ([⟨ws.getD (5 * (n1 + n2) + 5 * zi) 0#64, ws.getD ((5 * (n1 + n2) + 5 * zi) + 1) 0#64, 0#64, 0#64, false⟩] : List Ot) ([])) :: ((some b268), sob EOt 41 ([⟨ws.getD (5 * (n1 + n2) + 5 * zi) 0#64, ws.getD ((5 * (n1 + n2) + 5 * zi) + 1) 0#64, ws.getD ((5 * (n1 + n2) + 5 * zi) + 2) 0#64, ws.getD ((5 * (n1 + n2) + 5 * zi) + 3) 0#64, false⟩] : List Ot) ([])) :: (some b196, .cells #[u64 (ws.getD (5 * (n1 + n2) + 5 * zi) 0#64), u64 (ws.getD ((5 * (n1 + n2) + 5 * zi) + 1) 0#64), u64 (ws.getD ((5 * (n1 + n2) + 5 * zi) + 2) 0#64), u64 (ws.getD ((5 * (n1 + n2) + 5 * zi) + 3) 0#64), .bool (false)] 41 (0, 0)) :: (some b189, .cells (cel E64 ([ws.getD (5 * (n1 + n2) + 5 * zi) 0#64, ws.getD ((5 * (n1 + n2) + 5 * zi) + 1) 0#64, ws.getD ((5 * (n1 + n2) + 5 * zi) + 2) 0#64, ws.getD ((5 * (n1 + n2) + 5 * zi) + 3) 0#64, ws.getD ((5 * (n1 + n2) + 5 * zi) + 4) 0#64])).toArray 136 (0, 0)) :: (some b, .cells #[.slice (ownA key) ws.length c, .pointer none, i64 (ws.length : Nat), i64 (((5 * (n1 + n2) + 5 * zi) + 5 : Nat))] 141 (0, 0)) :: (key, sob E64 32 ws sp) :: (some b23, .cells #[pT b15, pT b19] 25 (0, 0)) :: (some b15, .cells #[.slice (ownA kyta) n1 ccta, .slice (ownA kyba) n2 ccba, .slice (ownA key276) (zi + 1) c277] 135 (0, 0)) :: (some b19, .cells #[.slice (ownA kytb) n1 cctb, .slice (ownA kybb) n2 ccbb, .slice (ownA key307) (zi + 1) c308] 135 (0, 0)) :: (kyta, sob ETr 34 (rowsOf (trA ws) 0 n1) zzta) :: (kytb, sob ETr 34 (rowsOf (trB ws) 0 n1) zztb) :: (kyba, sob ETr 34 (rowsOf (trA ws) (5 * n1) n2) zzba) :: (kybb, sob ETr 34 (rowsOf (biB ws) (5 * n1) n2) zzbb) :: (key276, sob EOt 41 (rowsOf (otA ws) (5 * (n1 + n2)) (zi + 1)) sp278) :: (key307, sob EOt 41 (rowsOf (otB ws) (5 * (n1 + n2)) (zi + 1)) sp309) :: (some b1, .cells #[.pointer none, .pointer none] 25 (0, 0)) :: R) | _, _ => False) mixed (by kernel_rfl) (by kernel_rfl) H294.drew ?_
      refine WalkC.look rfl (fun _ => .pointer (some ⟨b23, 1, none⟩)) (fun _ _ _ => rfl) (fun q r uw _ _ _ _ => Gives.run rfl (r_indexA (off' := 1) (j := 1) arr25 (b := b23) (off := 0) rfl rfl (by first | rfl | omega | (simp; omega)) (by omega) (by omega)) ⟨rfl, rfl⟩) ?_
      refine WalkC.look rfl (fun _ => pT b19) (fun _ _ _ => rfl) (fun q r uw hlo hhi hle hF => ?_) ?_
      ·skip
       have h1 : 0 ≤ q := Nat.zero_le _
       have h2 : q ≤ 2 := hhi 2 21 rfl rfl
       rcases (show q = 0 ∨ q = 1 ∨ q = 2 by omega) with rfl | rfl | rfl
       ·skip
        have HH := hF
        exact Gives.run rfl (r_loadC (v := pT b19) one24 (HH.get (k := 5) rfl) (off := 1) rfl (by rfl)) ⟨rfl, rfl⟩
       ·skip
        obtain ⟨b299, e16, hS300, HH⟩ := hF
        exact Gives.run rfl (r_loadC (v := pT b19) one24 (HH.get (k := 6) rfl) (off := 1) rfl (by rfl)) ⟨rfl, rfl⟩
       ·skip
        obtain ⟨b299, key307, c308, sp309, e16, e17, hS300, hS315, HH⟩ := hF
        exact Gives.run rfl (r_loadC (v := pT b19) one24 (HH.get (k := 6) rfl) (off := 1) rfl (by rfl)) ⟨rfl, rfl⟩
      refine WalkC.look rfl (fun _ => .pointer (some ⟨b23, 1, none⟩)) (fun _ _ _ => rfl) (fun q r uw _ _ _ _ => Gives.run rfl (r_indexA (off' := 1) (j := 1) arr25 (b := b23) (off := 0) rfl rfl (by first | rfl | omega | (simp; omega)) (by omega) (by omega)) ⟨rfl, rfl⟩) ?_
      refine WalkC.look rfl (fun _ => pT b19) (fun _ _ _ => rfl) (fun q r uw hlo hhi hle hF => ?_) ?_
      ·skip
       have h1 : 0 ≤ q := Nat.zero_le _
       have h2 : q ≤ 1 := hhi 1 17 rfl rfl
       rcases (show q = 0 ∨ q = 1 by omega) with rfl | rfl
       ·skip
        have HH := hF
        exact Gives.run rfl (r_loadC (v := pT b19) one24 (HH.get (k := 5) rfl) (off := 1) rfl (by rfl)) ⟨rfl, rfl⟩
       ·skip
        obtain ⟨b299, e16, hS300, HH⟩ := hF
        exact Gives.run rfl (r_loadC (v := pT b19) one24 (HH.get (k := 6) rfl) (off := 1) rfl (by rfl)) ⟨rfl, rfl⟩
      refine WalkC.look rfl (fun _ => pT b19) (fun _ _ _ => rfl) (fun q r uw _ _ _ _ => Gives.run rfl (r_nilCheck rfl) ⟨rfl, rfl⟩) ?_
      refine WalkC.look rfl (fun _ => .pointer (some ⟨b19, 2, none⟩)) (fun _ _ _ => rfl) (fun q r uw _ _ _ _ => Gives.run rfl (r_fieldAddr (off' := 2) fld135_2 (by decide) (b := b19) (off := 0) rfl (by omega)) ⟨rfl, rfl⟩) ?_
      refine WalkC.look rfl (fun _ => .pointer (some ⟨b19, 2, none⟩)) (fun _ _ _ => rfl) (fun q r uw _ _ _ _ => Gives.run rfl (r_fieldAddr (off' := 2) fld133_0 (by decide) (b := b19) (off := 2) rfl (by omega)) ⟨rfl, rfl⟩) ?_
      refine WalkC.look rfl (fun _ => .slice (ownA kyob) zi ccob) (fun _ _ _ => rfl) (fun q r uw hlo hhi hle hF => ?_) ?_
      ·skip
       have h1 : 0 ≤ q := Nat.zero_le _
       have h2 : q ≤ 1 := hhi 1 17 rfl rfl
       rcases (show q = 0 ∨ q = 1 by omega) with rfl | rfl
       ·skip
        have HH := hF
        exact Gives.run rfl (r_loadC (v := .slice (ownA kyob) zi ccob) one50 (HH.get (k := 7) rfl) (off := 2) rfl (by rfl)) ⟨rfl, rfl⟩
       ·skip
        obtain ⟨b299, e16, hS300, HH⟩ := hF
        exact Gives.run rfl (r_loadC (v := .slice (ownA kyob) zi ccob) one50 (HH.get (k := 8) rfl) (off := 2) rfl (by rfl)) ⟨rfl, rfl⟩
      refine WalkC.look rfl (fun _ => u64 (0#64)) (fun _ _ _ => rfl) (fun q r uw _ _ _ _ => Gives.run rfl (r_move (v := u64 (0#64)) rfl) ⟨rfl, rfl⟩) ?_
      refine WalkC.look rfl (fun _ => pT b196) (fun _ _ _ => rfl) (fun q r uw _ _ _ _ => Gives.run rfl (r_fieldAddr (off' := 0) fld41_0 (by decide) (b := b196) (off := 0) rfl (by omega)) ⟨rfl, rfl⟩) ?_
      refine WalkC.look rfl (fun _ => pT b196) (fun _ _ _ => rfl) (fun q r uw _ _ _ _ => Gives.run rfl (r_indexA (off' := 0) (j := 0) arr39 (b := b196) (off := 0) rfl rfl (by first | rfl | omega | (simp; omega)) (by omega) (by omega)) ⟨rfl, rfl⟩) ?_
      refine WalkC.look rfl (fun _ => .agg (cel E64 [ws.getD (5 * (n1 + n2) + 5 * zi) 0#64, ws.getD ((5 * (n1 + n2) + 5 * zi) + 1) 0#64]).toArray) (fun _ _ _ => rfl) (fun q r uw hlo hhi hle hF => ?_) ?_
      ·skip
       have h1 : 0 ≤ q := Nat.zero_le _
       have h2 : q ≤ 0 := hhi 0 16 rfl rfl
       rcases (show q = 0 by omega) with rfl
       ·skip
        have HH := hF
        exact Gives.run rfl (r_loadA (cs' := (cel E64 [ws.getD (5 * (n1 + n2) + 5 * zi) 0#64, ws.getD ((5 * (n1 + n2) + 5 * zi) + 1) 0#64]).toArray) agg38 siz38 (HH.get (k := 1) rfl) (off := 0) rfl (by exact bLe rfl) (by rfl)) ⟨rfl, rfl⟩
      refine WalkC.look rfl (fun _ => .agg #[u64 (ws.getD (5 * (n1 + n2) + 5 * zi) 0#64), u64 (ws.getD ((5 * (n1 + n2) + 5 * zi) + 1) 0#64), u64 (0#64), u64 (0#64)]) (fun _ _ _ => rfl) (fun q r uw _ _ _ _ => Gives.run rfl (r_buildA (cs' := #[u64 (ws.getD (5 * (n1 + n2) + 5 * zi) 0#64), u64 (ws.getD ((5 * (n1 + n2) + 5 * zi) + 1) 0#64), u64 (0#64), u64 (0#64)]) (ps := [(0, .agg (cel E64 [ws.getD (5 * (n1 + n2) + 5 * zi) 0#64, ws.getD ((5 * (n1 + n2) + 5 * zi) + 1) 0#64]).toArray)]) zer39 arr39 rfl (by rfl)) ⟨rfl, rfl⟩) ?_
      refine WalkC.look rfl (fun _ => u64 (0#64)) (fun _ _ _ => rfl) (fun q r uw _ _ _ _ => Gives.run rfl (r_move (v := u64 (0#64)) rfl) ⟨rfl, rfl⟩) ?_
      refine WalkC.look rfl (fun _ => .bool (false)) (fun _ _ _ => rfl) (fun q r uw _ _ _ _ => Gives.run rfl ((r_eql64 (a := 0#64) (b := 1#64) rfl rfl).as (v' := .bool (false)) (by rfl)) ⟨rfl, rfl⟩) ?_
      refine WalkC.look rfl (fun _ => .agg #[u64 (ws.getD (5 * (n1 + n2) + 5 * zi) 0#64), u64 (ws.getD ((5 * (n1 + n2) + 5 * zi) + 1) 0#64), u64 (0#64), u64 (0#64), .bool (false)]) (fun _ _ _ => rfl) (fun q r uw _ _ _ _ => Gives.run rfl (r_build (cs' := #[u64 (ws.getD (5 * (n1 + n2) + 5 * zi) 0#64), u64 (ws.getD ((5 * (n1 + n2) + 5 * zi) + 1) 0#64), u64 (0#64), u64 (0#64), .bool (false)]) (ps := [(0, .agg #[u64 (ws.getD (5 * (n1 + n2) + 5 * zi) 0#64), u64 (ws.getD ((5 * (n1 + n2) + 5 * zi) + 1) 0#64), u64 (0#64), u64 (0#64)]), (1, .bool (false))]) zer41 pls41 rfl (by rfl)) ⟨rfl, rfl⟩) ?_
      refine WalkC.eff 0 rfl (fun r uw296 hF298 => ?_) ?_
      ·skip
       have H297 := hF298
       dsimp only [List.take, List.map, List.cons_append, List.nil_append]
       refine Gives.ofW (d := 223) rfl rfl (fun Q' hK => ?_)
       refine q_buildSlice (E := EOt) (l := ([⟨ws.getD (5 * (n1 + n2) + 5 * zi) 0#64, ws.getD ((5 * (n1 + n2) + 5 * zi) + 1) 0#64, 0#64, 0#64, false⟩] : List Ot)) H297 sli50 zer41 (bLe rfl) (ps := [(0, .agg #[u64 (ws.getD (5 * (n1 + n2) + 5 * zi) 0#64), u64 (ws.getD ((5 * (n1 + n2) + 5 * zi) + 1) 0#64), u64 (0#64), u64 (0#64), .bool (false)])]) rfl (by exact fillAll rfl rfl) rfl ?_
       intro b299 w301 hS300 H302 hE303
       exact hK _ _ ⟨b299, rfl, hS300, H302⟩
      refine WalkC.eff 1 rfl (fun r uw304 hF306 => ?_) ?_
      ·skip
       obtain ⟨b299, e16, hS300, H305⟩ := hF306
       dsimp only [List.take, List.map, List.cons_append, List.nil_append]
       rw [e16]
       refine Gives.ofW (d := 224) rfl rfl (fun Q' hK => ?_)
       refine q_append (E := EOt) (k := 14) (l := rowsOf (otB ws) (5 * (n1 + n2)) zi) (l2 := ([⟨ws.getD (5 * (n1 + n2) + 5 * zi) 0#64, ws.getD ((5 * (n1 + n2) + 5 * zi) + 1) 0#64, 0#64, 0#64, false⟩] : List Ot)) H305 rfl hkyob sli50 zer41 rfl byt41 (H305.rd (k := 0) rfl hS300) rfl (by rw [rowsOf_len]) rfl (by rfl) (by omega) ?_
       intro key307 c308 sp309 w311 hS310 hne313 H312
       have H312' := H312.as (L' := (((some b299), sob EOt 41 ([⟨ws.getD (5 * (n1 + n2) + 5 * zi) 0#64, ws.getD ((5 * (n1 + n2) + 5 * zi) + 1) 0#64, 0#64, 0#64, false⟩] : List Ot) ([])) :: ((some b268), sob EOt 41 ([⟨ws.getD (5 * (n1 + n2) + 5 * zi) 0#64, ws.getD ((5 * (n1 + n2) + 5 * zi) + 1) 0#64, ws.getD ((5 * (n1 + n2) + 5 * zi) + 2) 0#64, ws.getD ((5 * (n1 + n2) + 5 * zi) + 3) 0#64, false⟩] : List Ot) ([])) :: (some b196, .cells #[u64 (ws.getD (5 * (n1 + n2) + 5 * zi) 0#64), u64 (ws.getD ((5 * (n1 + n2) + 5 * zi) + 1) 0#64), u64 (ws.getD ((5 * (n1 + n2) + 5 * zi) + 2) 0#64), u64 (ws.getD ((5 * (n1 + n2) + 5 * zi) + 3) 0#64), .bool (false)] 41 (0, 0)) :: (some b189, .cells (cel E64 ([ws.getD (5 * (n1 + n2) + 5 * zi) 0#64, ws.getD ((5 * (n1 + n2) + 5 * zi) + 1) 0#64, ws.getD ((5 * (n1 + n2) + 5 * zi) + 2) 0#64, ws.getD ((5 * (n1 + n2) + 5 * zi) + 3) 0#64, ws.getD ((5 * (n1 + n2) + 5 * zi) + 4) 0#64])).toArray 136 (0, 0)) :: (some b, .cells #[.slice (ownA key) ws.length c, .pointer none, i64 (ws.length : Nat), i64 (((5 * (n1 + n2) + 5 * zi) + 5 : Nat))] 141 (0, 0)) :: (key, sob E64 32 ws sp) :: (some b23, .cells #[pT b15, pT b19] 25 (0, 0)) :: (some b15, .cells #[.slice (ownA kyta) n1 ccta, .slice (ownA kyba) n2 ccba, .slice (ownA key276) (zi + 1) c277] 135 (0, 0)) :: (some b19, .cells #[.slice (ownA kytb) n1 cctb, .slice (ownA kybb) n2 ccbb, .slice (ownA kyob) zi ccob] 135 (0, 0)) :: (kyta, sob ETr 34 (rowsOf (trA ws) 0 n1) zzta) :: (kytb, sob ETr 34 (rowsOf (trB ws) 0 n1) zztb) :: (kyba, sob ETr 34 (rowsOf (trA ws) (5 * n1) n2) zzba) :: (kybb, sob ETr 34 (rowsOf (biB ws) (5 * n1) n2) zzbb) :: (key276, sob EOt 41 (rowsOf (otA ws) (5 * (n1 + n2)) (zi + 1)) sp278) :: (key307, sob EOt 41 ((rowsOf (otB ws) (5 * (n1 + n2)) zi) ++ ([⟨ws.getD (5 * (n1 + n2) + 5 * zi) 0#64, ws.getD ((5 * (n1 + n2) + 5 * zi) + 1) 0#64, 0#64, 0#64, false⟩] : List Ot)) sp309) :: (some b1, .cells #[.pointer none, .pointer none] 25 (0, 0)) :: R)) rfl
       clear H312
       have e314 : (rowsOf (otB ws) (5 * (n1 + n2)) zi) ++ ([⟨ws.getD (5 * (n1 + n2) + 5 * zi) 0#64, ws.getD ((5 * (n1 + n2) + 5 * zi) + 1) 0#64, 0#64, 0#64, false⟩] : List Ot) = rowsOf (otB ws) (5 * (n1 + n2)) (zi + 1) := by rw [rowsOf_succ, otB_f hodd]; rfl
       have hS315 := hS310
       rw [e314] at hS315
       have H316 := H312'.as (L' := (((some b299), sob EOt 41 ([⟨ws.getD (5 * (n1 + n2) + 5 * zi) 0#64, ws.getD ((5 * (n1 + n2) + 5 * zi) + 1) 0#64, 0#64, 0#64, false⟩] : List Ot) ([])) :: ((some b268), sob EOt 41 ([⟨ws.getD (5 * (n1 + n2) + 5 * zi) 0#64, ws.getD ((5 * (n1 + n2) + 5 * zi) + 1) 0#64, ws.getD ((5 * (n1 + n2) + 5 * zi) + 2) 0#64, ws.getD ((5 * (n1 + n2) + 5 * zi) + 3) 0#64, false⟩] : List Ot) ([])) :: (some b196, .cells #[u64 (ws.getD (5 * (n1 + n2) + 5 * zi) 0#64), u64 (ws.getD ((5 * (n1 + n2) + 5 * zi) + 1) 0#64), u64 (ws.getD ((5 * (n1 + n2) + 5 * zi) + 2) 0#64), u64 (ws.getD ((5 * (n1 + n2) + 5 * zi) + 3) 0#64), .bool (false)] 41 (0, 0)) :: (some b189, .cells (cel E64 ([ws.getD (5 * (n1 + n2) + 5 * zi) 0#64, ws.getD ((5 * (n1 + n2) + 5 * zi) + 1) 0#64, ws.getD ((5 * (n1 + n2) + 5 * zi) + 2) 0#64, ws.getD ((5 * (n1 + n2) + 5 * zi) + 3) 0#64, ws.getD ((5 * (n1 + n2) + 5 * zi) + 4) 0#64])).toArray 136 (0, 0)) :: (some b, .cells #[.slice (ownA key) ws.length c, .pointer none, i64 (ws.length : Nat), i64 (((5 * (n1 + n2) + 5 * zi) + 5 : Nat))] 141 (0, 0)) :: (key, sob E64 32 ws sp) :: (some b23, .cells #[pT b15, pT b19] 25 (0, 0)) :: (some b15, .cells #[.slice (ownA kyta) n1 ccta, .slice (ownA kyba) n2 ccba, .slice (ownA key276) (zi + 1) c277] 135 (0, 0)) :: (some b19, .cells #[.slice (ownA kytb) n1 cctb, .slice (ownA kybb) n2 ccbb, .slice (ownA kyob) zi ccob] 135 (0, 0)) :: (kyta, sob ETr 34 (rowsOf (trA ws) 0 n1) zzta) :: (kytb, sob ETr 34 (rowsOf (trB ws) 0 n1) zztb) :: (kyba, sob ETr 34 (rowsOf (trA ws) (5 * n1) n2) zzba) :: (kybb, sob ETr 34 (rowsOf (biB ws) (5 * n1) n2) zzbb) :: (key276, sob EOt 41 (rowsOf (otA ws) (5 * (n1 + n2)) (zi + 1)) sp278) :: (key307, sob EOt 41 (rowsOf (otB ws) (5 * (n1 + n2)) (zi + 1)) sp309) :: (some b1, .cells #[.pointer none, .pointer none] 25 (0, 0)) :: R)) (by rw [e314])
       exact hK _ _ ⟨b299, key307, c308, sp309, rfl, rfl, hS300, hS315, H316⟩
      refine WalkC.look rfl (fun _ => pT b19) (fun _ _ _ => rfl) (fun q r uw _ _ _ _ => Gives.run rfl (r_nilCheck rfl) ⟨rfl, rfl⟩) ?_
      refine WalkC.look rfl (fun _ => .pointer (some ⟨b19, 2, none⟩)) (fun _ _ _ => rfl) (fun q r uw _ _ _ _ => Gives.run rfl (r_fieldAddr (off' := 2) fld135_2 (by decide) (b := b19) (off := 0) rfl (by omega)) ⟨rfl, rfl⟩) ?_
      refine WalkC.look rfl (fun _ => .pointer (some ⟨b19, 2, none⟩)) (fun _ _ _ => rfl) (fun q r uw _ _ _ _ => Gives.run rfl (r_fieldAddr (off' := 2) fld133_0 (by decide) (b := b19) (off := 2) rfl (by omega)) ⟨rfl, rfl⟩) ?_
      refine WalkC.eff 2 rfl (fun r uw317 hF319 => ?_) ?_
      ·skip
       obtain ⟨b299, key307, c308, sp309, e16, e17, hS300, hS315, H318⟩ := hF319
       dsimp only [List.take, List.map, List.cons_append, List.nil_append]
       rw [e16, e17]
       refine Gives.ofW0 rfl (fun Q' hK => ?_)
       refine d_store (k := 8) (v := .slice (ownA key307) (zi + 1) c308) (cs' := #[.slice (ownA kytb) n1 cctb, .slice (ownA kybb) n2 ccbb, .slice (ownA key307) (zi + 1) c308]) H318 rfl rfl rfl siz50 (by rfl) (by intro u hu; simp [Value.cells] at hu; first | (subst hu; rfl) | (rcases hu with rfl <;> rfl)) (by exact bLe rfl) (by rfl) ?_
       intro w320 H321 hC322
       have H321' := H321.as (L' := (((some b299), sob EOt 41 ([⟨ws.getD (5 * (n1 + n2) + 5 * zi) 0#64, ws.getD ((5 * (n1 + n2) + 5 * zi) + 1) 0#64, 0#64, 0#64, false⟩] : List Ot) ([])) :: ((some b268), sob EOt 41 ([⟨ws.getD (5 * (n1 + n2) + 5 * zi) 0#64, ws.getD ((5 * (n1 + n2) + 5 * zi) + 1) 0#64, ws.getD ((5 * (n1 + n2) + 5 * zi) + 2) 0#64, ws.getD ((5 * (n1 + n2) + 5 * zi) + 3) 0#64, false⟩] : List Ot) ([])) :: (some b196, .cells #[u64 (ws.getD (5 * (n1 + n2) + 5 * zi) 0#64), u64 (ws.getD ((5 * (n1 + n2) + 5 * zi) + 1) 0#64), u64 (ws.getD ((5 * (n1 + n2) + 5 * zi) + 2) 0#64), u64 (ws.getD ((5 * (n1 + n2) + 5 * zi) + 3) 0#64), .bool (false)] 41 (0, 0)) :: (some b189, .cells (cel E64 ([ws.getD (5 * (n1 + n2) + 5 * zi) 0#64, ws.getD ((5 * (n1 + n2) + 5 * zi) + 1) 0#64, ws.getD ((5 * (n1 + n2) + 5 * zi) + 2) 0#64, ws.getD ((5 * (n1 + n2) + 5 * zi) + 3) 0#64, ws.getD ((5 * (n1 + n2) + 5 * zi) + 4) 0#64])).toArray 136 (0, 0)) :: (some b, .cells #[.slice (ownA key) ws.length c, .pointer none, i64 (ws.length : Nat), i64 (((5 * (n1 + n2) + 5 * zi) + 5 : Nat))] 141 (0, 0)) :: (key, sob E64 32 ws sp) :: (some b23, .cells #[pT b15, pT b19] 25 (0, 0)) :: (some b15, .cells #[.slice (ownA kyta) n1 ccta, .slice (ownA kyba) n2 ccba, .slice (ownA key276) (zi + 1) c277] 135 (0, 0)) :: (some b19, .cells #[.slice (ownA kytb) n1 cctb, .slice (ownA kybb) n2 ccbb, .slice (ownA key307) (zi + 1) c308] 135 (0, 0)) :: (kyta, sob ETr 34 (rowsOf (trA ws) 0 n1) zzta) :: (kytb, sob ETr 34 (rowsOf (trB ws) 0 n1) zztb) :: (kyba, sob ETr 34 (rowsOf (trA ws) (5 * n1) n2) zzba) :: (kybb, sob ETr 34 (rowsOf (biB ws) (5 * n1) n2) zzbb) :: (key276, sob EOt 41 (rowsOf (otA ws) (5 * (n1 + n2)) (zi + 1)) sp278) :: (key307, sob EOt 41 (rowsOf (otB ws) (5 * (n1 + n2)) (zi + 1)) sp309) :: (some b1, .cells #[.pointer none, .pointer none] 25 (0, 0)) :: R)) rfl
       clear H321
       exact hK _ (fun _ => ⟨b299, key307, c308, sp309, rfl, rfl, trivial, hS300, hS315, H321'⟩)
      refine WalkC.nil ?_
      intro r323 w324 hF326
      obtain ⟨b299, key307, c308, sp309, e16, e17, e21, hS300, hS315, H325⟩ := hF326
      dsimp only
      rw [e16, e17]
      refine wnil ?_
      refine blockNormal ?_
      refine thenNormal ?_
      refine oneRegion ?_
      refine sq (r_addI (a := (zi : Nat)) (b := (1 : Int)) rfl rfl (by omega)) ?_
      refine sM (i64 ((zi : Nat) + (1 : Int))) rfl ?_
      refine wnil ?_
      refine thenNormal ?_
      rw [show (5 * (n1 + n2) + 5 * zi) + 5 = 5 * (n1 + n2) + 5 * (zi + 1) by omega] at H325
      exact ⟨(zi + 1, key276, c277, sp278, key307, c308, sp309), _, rfl, ⟨rfl, rfl, rfl, rfl, rfl, rfl, rfl, rfl, rfl, trivial⟩, ⟨⟨by omega, hS284, hS315⟩, (H325.pick 16 [6, 7, 8, 9, 10, 11, 12, 13, 14, 15, 4, 5] (by decide) (by decide))⟩, by show n3 - (zi + 1) < n3 - zi; omega⟩
    ·skip
     obtain rfl : n3 = zi := by omega
     refine exitAny ?_
     refine thenExit ?_
     refine thenExit ?_
     refine blockHere ?_
     refine thenNormal ?_
     refine sR ?_
     refine sq (r_loadA (cs' := #[pT b15, pT b19]) agg25 siz25 (HL2.get (k := 0) rfl) (off := 0) rfl (by exact bLe rfl) (by rfl)) ?_
     refine d_store (k := 9) (v := .agg #[pT b15, pT b19]) (cs' := #[pT b15, pT b19]) HL2 rfl rfl rfl siz25 (by rfl) (by intro u hu; simp [Value.cells] at hu; first | (subst hu; rfl) | (rcases hu with rfl | rfl <;> rfl)) (by exact bLe rfl) (by rfl) ?_
     intro w327 H328 hC329
     have H328' := H328.as (L' := ((some b23, .cells #[pT b15, pT b19] 25 (0, 0)) :: (some b15, .cells #[.slice (ownA kyta) n1 ccta, .slice (ownA kyba) n2 ccba, .slice (ownA kyoa) n3 ccoa] 135 (0, 0)) :: (some b19, .cells #[.slice (ownA kytb) n1 cctb, .slice (ownA kybb) n2 ccbb, .slice (ownA kyob) n3 ccob] 135 (0, 0)) :: (kyta, sob ETr 34 (rowsOf (trA ws) 0 n1) zzta) :: (kytb, sob ETr 34 (rowsOf (trB ws) 0 n1) zztb) :: (kyba, sob ETr 34 (rowsOf (trA ws) (5 * n1) n2) zzba) :: (kybb, sob ETr 34 (rowsOf (biB ws) (5 * n1) n2) zzbb) :: (kyoa, sob EOt 41 (rowsOf (otA ws) (5 * (n1 + n2)) n3) zzoa) :: (kyob, sob EOt 41 (rowsOf (otB ws) (5 * (n1 + n2)) n3) zzob) :: (some b1, .cells #[pT b15, pT b19] 25 (0, 0)) :: (some b, .cells #[.slice (ownA key) ws.length c, .pointer none, i64 (ws.length : Nat), i64 ((5 * (n1 + n2) + 5 * n3 : Nat))] 141 (0, 0)) :: (key, sob E64 32 ws sp) :: R)) rfl
     clear H328
     refine sA (.nilIface) rfl ?_
     refine wend ?_
     refine retAny ?_
     refine retG (rs := [.cell 8 25, .tmp 9]) (vs := [.agg #[pT b15, pT b19], .nilIface]) rfl ⟨r_loadA (cs' := #[pT b15, pT b19]) agg25 siz25 (H328'.get (k := 9) rfl) (off := 0) rfl (by exact bLe rfl) (by rfl), ⟨rfl, rfl⟩, trivial⟩ ?_
     refine ⟨_, rfl, b15, b19, ⟨cpOf kyta ccta zzta (rowsOf (trA ws) 0 n1), cpOf kyba ccba zzba (rowsOf (trA ws) (5 * n1) n2), cpOf kyoa ccoa zzoa (rowsOf (otA ws) (5 * (n1 + n2)) n3)⟩, ⟨cpOf kytb cctb zztb (rowsOf (trB ws) 0 n1), cpOf kybb ccbb zzbb (rowsOf (biB ws) (5 * n1) n2), cpOf kyob ccob zzob (rowsOf (otB ws) (5 * (n1 + n2)) n3)⟩, rfl, ⟨cpOf_ok hkyta, cpOf_ok hkyba, cpOf_ok hkyoa⟩, ⟨cpOf_ok hkytb, cpOf_ok hkybb, cpOf_ok hkyob⟩, ⟨rfl, rfl, rfl, rfl, rfl, rfl⟩, ?_⟩
     unfold skR Sk.ob cpOf
     dsimp only
     simp only [rowsOf_len]
     exact (H328'.pick 12 [1, 3, 5, 7, 2, 4, 6, 8, 10, 11] (by decide) (by decide))
end Go.Proofs.YteofdmdpaejgaaaDoor.Co
