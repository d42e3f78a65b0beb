/- The walks of the stocks. -/
import Derived.Test.YteofdmdpaejgaaaDoorCorr3
namespace Go.Proofs.YteofdmdpaejgaaaDoor.Co
open Go Go.Proofs.YteofdmdpaejgaaaDoor.Vc Go.Proofs.YteofdmdpaejgaaaDoor.Er
set_option linter.unusedVariables false
theorem arr59 : arr Tryd.prog 59 = some (3, 1) := by kernel_rfl
theorem call15 : callable Tryd.prog 15 = true := by kernel_rfl
theorem call19 : callable Tryd.prog 19 = true := by kernel_rfl
theorem call20 : callable Tryd.prog 20 = true := by kernel_rfl
theorem call21 : callable Tryd.prog 21 = true := by kernel_rfl
theorem call22 : callable Tryd.prog 22 = true := by kernel_rfl
theorem fld34_0 : fld Tryd.prog 34 0 = some (0, 1, 32) := by kernel_rfl
theorem fld34_1 : fld Tryd.prog 34 1 = some (1, 1, 32) := by kernel_rfl
theorem fld34_2 : fld Tryd.prog 34 2 = some (2, 1, 32) := by kernel_rfl
theorem fld41_1 : fld Tryd.prog 41 1 = some (4, 1, 4) := by kernel_rfl
theorem fld54_0 : fld Tryd.prog 54 0 = some (0, 1, 49) := by kernel_rfl
theorem fld54_1 : fld Tryd.prog 54 1 = some (1, 1, 49) := by kernel_rfl
theorem fld54_2 : fld Tryd.prog 54 2 = some (2, 1, 50) := by kernel_rfl
theorem gty38 : Tryd.prog.eqGuardType Tryd.prog.depth 38 = false := by kernel_rfl
theorem one32 : isOne Tryd.prog 32 = true := by kernel_rfl
theorem one4 : isOne Tryd.prog 4 = true := by kernel_rfl
theorem siz3 : siz Tryd.prog 3 = some 1 := by kernel_rfl
theorem und3 : Tryd.prog.underlying 3 = some (.int .i64) := by kernel_rfl
theorem und4 : Tryd.prog.underlying 4 = some .bool := by kernel_rfl
theorem und45 : Tryd.prog.underlying 45 = some (.int .u64) := by kernel_rfl
theorem zer59 : zer Tryd.prog 59 = some (.agg (List.replicate 3 (.int .i64 0)).toArray) := by kernel_rfl
set_option maxRecDepth 20000 in
set_option maxHeartbeats 1000000 in
theorem gives_ok (b : Nat) (s : Sk) (hs : s.ok) (ts bs : List Tr) (os : List Ot) (ta ba oa sa : Option Addr) (tc bc oc scc : Nat) (sc : List Int) (ht0 : s.t.l = ts) (hb0 : s.b.l = bs) (ho0 : s.o.l = os) (hl1 : ts.length ≤ 200000) (hl2 : bs.length ≤ 200000) (hl3 : os.length ≤ 200000) (hl4 : sc.length ≤ 200000) (R : List (Option Nat × Obj)) (w₀ w : World) (hG : Gl w₀) (hSc : Rd EI w₀ sa sc) (hT : (∀ w', Ext w₀ w' → (∀ p ∈ R, ∀ b, p.1 = some b → w'.heap[b]? = some p.2) → Rd ETr w' ta ts)) (hB : (∀ w', Ext w₀ w' → (∀ p ∈ R, ∀ b, p.1 = some b → w'.heap[b]? = some p.2) → Rd ETr w' ba bs)) (hO : (∀ w', Ext w₀ w' → (∀ p ∈ R, ∀ b, p.1 = some b → w'.heap[b]? = some p.2) → Rd EOt w' oa os)) (H : Hp No w₀ w (skR 34 41 135 b s ++ R)) : Calls Tryd.prog 23 [.pointer (some ⟨b, 0, none⟩), .agg #[.slice ta ts.length tc, .slice ba bs.length bc, .slice oa os.length oc], .slice sa sc.length scc].toArray w (Ret fun v w' => v = .bool true ∧ ∃ s' : Sk, Hp No w₀ w' (skR 34 41 135 b s' ++ R)) := by
  skip
  have H := H.as (L' := ((some b, .cells #[.slice s.t.a s.t.l.length s.t.c, .slice s.b.a s.b.l.length s.b.c, .slice s.o.a s.o.l.length s.o.c] 135 (0, 0)) :: (s.t.key, sobP ETr 34 s.t.pre s.t.l s.t.sp) :: (s.b.key, sobP ETr 34 s.b.pre s.b.l s.b.sp) :: (s.o.key, sobP EOt 41 s.o.pre s.o.l s.o.sp) :: R)) rfl
  refine enter (n := 169) Tryd.func23 rfl rfl (Nat.le_of_ble_eq_true rfl) ?_
  refine seqRegion ?_
  refine q_box (v := .agg #[.slice ta ts.length tc, .slice ba bs.length bc, .slice oa os.length oc]) (o := .cells #[.slice ta ts.length tc, .slice ba bs.length bc, .slice oa os.length oc] 54 (0, 0)) H rfl (by rfl) ?_
  intro b1 w2 hb1 H3 hE4
  refine sq (r_assign (v := .bool (false)) rfl) ?_
  refine wend ?_
  refine seqAny ?_
  refine seqRegion ?_
  refine sq (r_move (v := .pointer (some ⟨b, 0, none⟩)) rfl) ?_
  refine sq (r_eqlPN und24 rfl rfl) ?_
  refine wend ?_
  refine condFalse rfl ?_
  refine skipAny ?_
  refine thenNormal ?_
  refine seqRegion ?_
  refine q_alloc (o := .cells (cel EI ([0, 0, 0])).toArray 59 (0, 0)) H3 zer59 (by kernel_rfl) ?_
  intro b5 w6 hb5 H7 hE8
  refine wend ?_
  refine seqAny ?_
  refine seqRegion ?_
  refine sq (r_assign (v := i64 ((0 : Int))) rfl) ?_
  refine wend ?_
  refine blockAny ?_
  refine loopAny (σ := Nat × Nat × Nat × Nat × Sk) (fun (zi, a1, a2, a3, x1) => [(0, .pointer (some ⟨b, 0, none⟩)), (2, .slice sa sc.length scc), (4, .pointer (some ⟨b1, 0, none⟩)), (7, .pointer (some ⟨b5, 0, none⟩)), (8, i64 ((zi : Nat)))]) (fun (zi, a1, a2, a3, x1) w' => (zi ≤ (sc.length + ts.length + bs.length + os.length + 3) ∧ a1 ≤ ts.length ∧ a2 ≤ bs.length ∧ a3 ≤ os.length ∧ x1.ok ∧ x1.t.l = (ts).drop a1 ∧ x1.b.l = (bs).drop a2 ∧ x1.o.l = (os).drop a3) ∧ Hp No w₀ w' ((some b5, .cells (cel EI ([(a1 : Nat), (a2 : Nat), (a3 : Nat)])).toArray 59 (0, 0)) :: (some b, .cells #[.slice x1.t.a x1.t.l.length x1.t.c, .slice x1.b.a x1.b.l.length x1.b.c, .slice x1.o.a x1.o.l.length x1.o.c] 135 (0, 0)) :: (x1.t.key, sobP ETr 34 x1.t.pre x1.t.l x1.t.sp) :: (x1.b.key, sobP ETr 34 x1.b.pre x1.b.l x1.b.sp) :: (x1.o.key, sobP EOt 41 x1.o.pre x1.o.l x1.o.sp) :: (some b1, .cells #[.slice ta ts.length tc, .slice ba bs.length bc, .slice oa os.length oc] 54 (0, 0)) :: R)) (fun (zi, a1, a2, a3, x1) => (sc.length + ts.length + bs.length + os.length + 3) - zi) ((0, 0, 0, 0, s)) ?_ ?_ ?_
  · exact ⟨rfl, rfl, rfl, rfl, rfl, trivial⟩
  · exact ⟨⟨Nat.zero_le _, Nat.zero_le _, Nat.zero_le _, Nat.zero_le _, hs, ht0, hb0, ho0⟩, (H7.pick 6 [0, 2, 3, 4, 5, 1] (by decide) (by decide))⟩
  rintro ⟨zi, a1, a2, a3, x1⟩ ρ w9 ⟨⟨hzi, ha1, ha2, ha3, hkx1, hftx1, hfbx1, hfox1⟩, HL⟩
  refine seqAny ?_
  refine seqRegion ?_
  refine sq (r_move (v := i64 ((zi : Nat))) rfl) ?_
  refine sq (r_move (v := .slice sa sc.length scc) rfl) ?_
  refine sq (r_lenS sli60 (a := sa) (m := sc.length) (c := scc) rfl) ?_
  refine sq (r_fieldAddr (off' := 0) fld54_0 (by decide) (b := b1) (off := 0) rfl (by omega)) ?_
  refine sq (r_loadC (v := .slice ta ts.length tc) one49 (HL.get (k := 5) rfl) (off := 0) rfl (by rfl)) ?_
  refine sq (r_lenS sli49 (a := ta) (m := ts.length) (c := tc) rfl) ?_
  refine sq (r_addI (a := (sc.length : Nat)) (b := (ts.length : Nat)) rfl rfl (by omega)) ?_
  refine sq (r_fieldAddr (off' := 1) fld54_1 (by decide) (b := b1) (off := 0) rfl (by omega)) ?_
  refine sq (r_loadC (v := .slice ba bs.length bc) one49 (HL.get (k := 5) rfl) (off := 1) rfl (by rfl)) ?_
  refine sq (r_lenS sli49 (a := ba) (m := bs.length) (c := bc) rfl) ?_
  refine sq (r_addI (a := (sc.length : Nat) + (ts.length : Nat)) (b := (bs.length : Nat)) rfl rfl (by omega)) ?_
  refine sq (r_fieldAddr (off' := 2) fld54_2 (by decide) (b := b1) (off := 0) rfl (by omega)) ?_
  refine sq (r_loadC (v := .slice oa os.length oc) one50 (HL.get (k := 5) rfl) (off := 2) rfl (by rfl)) ?_
  refine sq (r_lenS sli50 (a := oa) (m := os.length) (c := oc) rfl) ?_
  refine sq (r_addI (a := ((sc.length : Nat) + (ts.length : Nat)) + (bs.length : Nat)) (b := (os.length : Nat)) rfl rfl (by omega)) ?_
  refine sq (r_addI (a := (((sc.length : Nat) + (ts.length : Nat)) + (bs.length : Nat)) + (os.length : Nat)) (b := (3 : Int)) rfl rfl (by omega)) ?_
  refine sq (r_lssI (a := (zi : Nat)) (b := ((((sc.length : Nat) + (ts.length : Nat)) + (bs.length : Nat)) + (os.length : Nat)) + (3 : Int)) rfl rfl) ?_
  refine wend ?_
  refine condProp (((zi : Nat) : Int) < (((((sc.length : Nat) + (ts.length : Nat)) + (bs.length : Nat)) + (os.length : Nat)) + (3 : Int))) rfl (fun c36 => ?_) (fun c36 => ?_)
  · skip
    refine skipAny ?_
    refine thenNormal ?_
    refine seqAny ?_
    refine blockAny ?_
    refine seqRegion ?_
    refine sq (r_move (v := i64 ((zi : Nat))) rfl) ?_
    refine sq (r_remI (a := (zi : Nat)) (b := (3 : Int)) rfl rfl (by omega)) ?_
    refine sq (r_assign (v := i64 ((zi : Nat) % (3 : Int))) rfl) ?_
    refine wend ?_
    refine seqJoin (σ := Nat) (fun k => [(0, .pointer (some ⟨b, 0, none⟩)), (2, .slice sa sc.length scc), (4, .pointer (some ⟨b1, 0, none⟩)), (7, .pointer (some ⟨b5, 0, none⟩)), (8, i64 ((zi : Nat))), (9, i64 ((k : Nat)))]) (fun k w' => k < 3 ∧ Hp No w₀ w' ((some b5, .cells (cel EI ([(a1 : Nat), (a2 : Nat), (a3 : Nat)])).toArray 59 (0, 0)) :: (some b, .cells #[.slice x1.t.a x1.t.l.length x1.t.c, .slice x1.b.a x1.b.l.length x1.b.c, .slice x1.o.a x1.o.l.length x1.o.c] 135 (0, 0)) :: (x1.t.key, sobP ETr 34 x1.t.pre x1.t.l x1.t.sp) :: (x1.b.key, sobP ETr 34 x1.b.pre x1.b.l x1.b.sp) :: (x1.o.key, sobP EOt 41 x1.o.pre x1.o.l x1.o.sp) :: (some b1, .cells #[.slice ta ts.length tc, .slice ba bs.length bc, .slice oa os.length oc] 54 (0, 0)) :: R)) ?_ (fun hj11 => ?_)
    · skip
      rintro k ρ w12 ⟨hk, H13⟩
      by_cases hk0 : k = 0
      · skip
        refine seqRegion ?_
        obtain rfl : k = 0 := hk0
        refine sq (r_move (v := .pointer (some ⟨b, 0, none⟩)) rfl) ?_
        refine c_call (vs := [.pointer (some ⟨b, 0, none⟩)]) call21 rfl (left3_ok b x1 w12 (H13.get (k := 1) rfl)) ?_
        rintro _ w14 ⟨rfl, hE15⟩
        have H16 := H13.ext hE15
        refine sq (r_move (v := .tuple #[i64 ((x1.t.l.length : Nat)), i64 ((x1.b.l.length : Nat)), i64 ((x1.o.l.length : Nat))]) rfl) ?_
        refine sq (r_extract (vs := #[i64 ((x1.t.l.length : Nat)), i64 ((x1.b.l.length : Nat)), i64 ((x1.o.l.length : Nat))]) rfl rfl) ?_
        refine sq (r_extract (vs := #[i64 ((x1.t.l.length : Nat)), i64 ((x1.b.l.length : Nat)), i64 ((x1.o.l.length : Nat))]) rfl rfl) ?_
        refine sq (r_extract (vs := #[i64 ((x1.t.l.length : Nat)), i64 ((x1.b.l.length : Nat)), i64 ((x1.o.l.length : Nat))]) rfl rfl) ?_
        refine sq (r_assign (v := i64 ((x1.t.l.length : Nat))) rfl) ?_
        refine sq (r_assign (v := i64 ((x1.b.l.length : Nat))) rfl) ?_
        refine sq (r_assign (v := i64 ((x1.o.l.length : Nat))) rfl) ?_
        refine wend ?_
        refine seqAny ?_
        refine seqRegion ?_
        refine sq (r_move (v := i64 ((x1.t.l.length : Nat))) rfl) ?_
        refine sq (r_fieldAddr (off' := 0) fld54_0 (by decide) (b := b1) (off := 0) rfl (by omega)) ?_
        refine sq (r_loadC (v := .slice ta ts.length tc) one49 (H16.get (k := 5) rfl) (off := 0) rfl (by rfl)) ?_
        refine sq (r_lenS sli49 (a := ta) (m := ts.length) (c := tc) rfl) ?_
        refine sq (r_indexA (off' := 0) (j := 0) arr59 (b := b5) (off := 0) rfl rfl (by first | rfl | omega | (simp; omega)) (by omega) (by omega)) ?_
        refine sq (r_ld1 (E := EI) (l := [(a1 : Nat), (a2 : Nat), (a3 : Nat)]) (j := 0) (a := (a1 : Nat)) fits3 (H16.get (k := 0) rfl) (by rfl) rfl rfl) ?_
        refine sq (r_subI (a := (ts.length : Nat)) (b := (a1 : Nat)) rfl rfl (by omega)) ?_
        refine sq ((r_neqI (a := (x1.t.l.length : Nat)) (b := (ts.length : Nat) - (a1 : Nat)) rfl rfl).as (v' := .bool (false)) (by exact congrArg Value.bool (decide_eq_false (by rw [hftx1, List.length_drop]; omega)))) ?_
        refine sq (r_move (v := .bool (false)) rfl) ?_
        refine sqAny (v := i64 ((x1.b.l.length : Nat))) (w' := w14) (wantedSome (d' := 66) (b := false) rfl rfl rfl) (r_move (v := i64 ((x1.b.l.length : Nat))) rfl) ?_
        refine sqAny (v := .pointer (some ⟨b1, 1, none⟩)) (w' := w14) (wantedSome (d' := 66) (b := false) rfl rfl rfl) (r_fieldAddr (off' := 1) fld54_1 (by decide) (b := b1) (off := 0) rfl (by omega)) ?_
        refine sqAny (v := .slice ba bs.length bc) (w' := w14) (wantedSome (d' := 66) (b := false) rfl rfl rfl) (r_loadC (v := .slice ba bs.length bc) one49 (H16.get (k := 5) rfl) (off := 1) rfl (by rfl)) ?_
        refine sqAny (v := i64 ((bs.length : Nat))) (w' := w14) (wantedSome (d' := 66) (b := false) rfl rfl rfl) (r_lenS sli49 (a := ba) (m := bs.length) (c := bc) rfl) ?_
        refine sqAny (v := .pointer (some ⟨b5, 1, none⟩)) (w' := w14) (wantedSome (d' := 66) (b := false) rfl rfl rfl) (r_indexA (off' := 1) (j := 1) arr59 (b := b5) (off := 0) rfl rfl (by first | rfl | omega | (simp; omega)) (by omega) (by omega)) ?_
        refine sqAny (v := i64 ((a2 : Nat))) (w' := w14) (wantedSome (d' := 66) (b := false) rfl rfl rfl) (r_ld1 (E := EI) (l := [(a1 : Nat), (a2 : Nat), (a3 : Nat)]) (j := 1) (a := (a2 : Nat)) fits3 (H16.get (k := 0) rfl) (by rfl) rfl rfl) ?_
        refine sqAny (v := i64 ((bs.length : Nat) - (a2 : Nat))) (w' := w14) (wantedSome (d' := 66) (b := false) rfl rfl rfl) (r_subI (a := (bs.length : Nat)) (b := (a2 : Nat)) rfl rfl (by omega)) ?_
        refine sqAny (v := .bool (false)) (w' := w14) (wantedSome (d' := 66) (b := false) rfl rfl rfl) ((r_neqI (a := (x1.b.l.length : Nat)) (b := (bs.length : Nat) - (a2 : Nat)) rfl rfl).as (v' := .bool (false)) (by exact congrArg Value.bool (decide_eq_false (by rw [hfbx1, List.length_drop]; omega)))) ?_
        refine sq (r_pickF (v := .bool (false)) rfl rfl) ?_
        refine sq (r_move (v := .bool (false)) rfl) ?_
        refine sqAny (v := i64 ((x1.o.l.length : Nat))) (w' := w14) (wantedSome (d' := 76) (b := false) rfl rfl rfl) (r_move (v := i64 ((x1.o.l.length : Nat))) rfl) ?_
        refine sqAny (v := .pointer (some ⟨b1, 2, none⟩)) (w' := w14) (wantedSome (d' := 76) (b := false) rfl rfl rfl) (r_fieldAddr (off' := 2) fld54_2 (by decide) (b := b1) (off := 0) rfl (by omega)) ?_
        refine sqAny (v := .slice oa os.length oc) (w' := w14) (wantedSome (d' := 76) (b := false) rfl rfl rfl) (r_loadC (v := .slice oa os.length oc) one50 (H16.get (k := 5) rfl) (off := 2) rfl (by rfl)) ?_
        refine sqAny (v := i64 ((os.length : Nat))) (w' := w14) (wantedSome (d' := 76) (b := false) rfl rfl rfl) (r_lenS sli50 (a := oa) (m := os.length) (c := oc) rfl) ?_
        refine sqAny (v := .pointer (some ⟨b5, 2, none⟩)) (w' := w14) (wantedSome (d' := 76) (b := false) rfl rfl rfl) (r_indexA (off' := 2) (j := 2) arr59 (b := b5) (off := 0) rfl rfl (by first | rfl | omega | (simp; omega)) (by omega) (by omega)) ?_
        refine sqAny (v := i64 ((a3 : Nat))) (w' := w14) (wantedSome (d' := 76) (b := false) rfl rfl rfl) (r_ld1 (E := EI) (l := [(a1 : Nat), (a2 : Nat), (a3 : Nat)]) (j := 2) (a := (a3 : Nat)) fits3 (H16.get (k := 0) rfl) (by rfl) rfl rfl) ?_
        refine sqAny (v := i64 ((os.length : Nat) - (a3 : Nat))) (w' := w14) (wantedSome (d' := 76) (b := false) rfl rfl rfl) (r_subI (a := (os.length : Nat)) (b := (a3 : Nat)) rfl rfl (by omega)) ?_
        refine sqAny (v := .bool (false)) (w' := w14) (wantedSome (d' := 76) (b := false) rfl rfl rfl) ((r_neqI (a := (x1.o.l.length : Nat)) (b := (os.length : Nat) - (a3 : Nat)) rfl rfl).as (v' := .bool (false)) (by exact congrArg Value.bool (decide_eq_false (by rw [hfox1, List.length_drop]; omega)))) ?_
        refine sq (r_pickF (v := .bool (false)) rfl rfl) ?_
        refine wend ?_
        refine condFalse rfl ?_
        refine skipAny ?_
        refine thenNormal ?_
        refine seqAny ?_
        refine seqRegion ?_
        refine sq (r_move (v := i64 ((0 : Nat))) rfl) ?_
        refine wend ?_
        refine blockAny ?_
        refine seqAny ?_
        refine seqRegion ?_
        refine sq ((r_eqlI (a := (0 : Nat)) (b := (0 : Int)) rfl rfl).as (v' := .bool (true)) (by rfl)) ?_
        refine sq (r_assign (v := .bool (true)) rfl) ?_
        refine wend ?_
        refine condTrue rfl ?_
        refine skipAny ?_
        refine thenNormal ?_
        refine condTrue rfl ?_
        refine seqRegion ?_
        refine sq (r_fieldAddr (off' := 0) fld54_0 (by decide) (b := b1) (off := 0) rfl (by omega)) ?_
        refine sq (r_loadC (v := .slice ta ts.length tc) one49 (H16.get (k := 5) rfl) (off := 0) rfl (by rfl)) ?_
        refine sq (r_assign (v := .slice ta ts.length tc) rfl) ?_
        refine wend ?_
        refine seqRegion ?_
        refine sq (r_build (cs' := #[.int .u64 0, .int .u64 0, .int .u64 0]) (ps := []) zer34 pls34 rfl (by rfl)) ?_
        refine q_alloc (o := .cells #[u64 (0#64), u64 (0#64), u64 (0#64)] 34 (0, 0)) H16 zer34 (by kernel_rfl) ?_
        intro b17 w18 hb17 H19 hE20
        refine d_store (k := 0) (v := .agg #[.int .u64 0, .int .u64 0, .int .u64 0]) (cs' := #[u64 (0#64), u64 (0#64), u64 (0#64)]) H19 rfl rfl rfl siz34 (by rfl) (by intro u hu; simp [Value.cells] at hu; first | (subst hu; rfl) | (rcases hu with rfl | rfl | rfl <;> rfl)) (by exact Nat.le_of_ble_eq_true rfl) (by rfl) ?_
        intro w21 H22 hC23
        have H22' := H22.as (L' := ((some b17, .cells #[u64 (0#64), u64 (0#64), u64 (0#64)] 34 (0, 0)) :: (some b5, .cells (cel EI ([(a1 : Nat), (a2 : Nat), (a3 : Nat)])).toArray 59 (0, 0)) :: (some b, .cells #[.slice x1.t.a x1.t.l.length x1.t.c, .slice x1.b.a x1.b.l.length x1.b.c, .slice x1.o.a x1.o.l.length x1.o.c] 135 (0, 0)) :: (x1.t.key, sobP ETr 34 x1.t.pre x1.t.l x1.t.sp) :: (x1.b.key, sobP ETr 34 x1.b.pre x1.b.l x1.b.sp) :: (x1.o.key, sobP EOt 41 x1.o.pre x1.o.l x1.o.sp) :: (some b1, .cells #[.slice ta ts.length tc, .slice ba bs.length bc, .slice oa os.length oc] 54 (0, 0)) :: R)) rfl
        clear H22
        refine sq (r_assign (v := .nilIface) rfl) ?_
        refine wend ?_
        refine seqAny ?_
        refine seqRegion ?_
        refine sq (r_move (v := i64 ((0 : Nat))) rfl) ?_
        refine sq ((r_eqlI (a := (0 : Nat)) (b := (0 : Int)) rfl rfl).as (v' := .bool (true)) (by rfl)) ?_
        refine wend ?_
        refine condTrue rfl ?_
        by_cases hA25 : a1 < ts.length
        · skip
          refine oneRegion ?_
          refine sq (r_move (v := .pointer (some ⟨b, 0, none⟩)) rfl) ?_
          have H24 := ((H22'.pick 7 [2, 3, 4, 5, 0, 1, 6] (by decide) (by decide))).as (L' := skR 34 41 135 b x1 ++ ((some b17, .cells #[u64 (0#64), u64 (0#64), u64 (0#64)] 34 (0, 0)) :: (some b5, .cells (cel EI ([(a1 : Nat), (a2 : Nat), (a3 : Nat)])).toArray 59 (0, 0)) :: (some b1, .cells #[.slice ta ts.length tc, .slice ba bs.length bc, .slice oa os.length oc] 54 (0, 0)) :: R)) rfl
          refine c_call (vs := [.pointer (some ⟨b, 0, none⟩)]) call18 rfl (take0_hit b x1 hkx1 ((some b17, .cells #[u64 (0#64), u64 (0#64), u64 (0#64)] 34 (0, 0)) :: (some b5, .cells (cel EI ([(a1 : Nat), (a2 : Nat), (a3 : Nat)])).toArray 59 (0, 0)) :: (some b1, .cells #[.slice ta ts.length tc, .slice ba bs.length bc, .slice oa os.length oc] 54 (0, 0)) :: R) w₀ w21 H24 (by rw [hftx1]; rw [List.length_drop]; omega)) ?_
          rintro _ w25 ⟨rfl, s27, HN28, hok29, hd30, he31, he32⟩
          have H33 := HN28.as (L' := ((some b, .cells #[.slice s27.t.a s27.t.l.length s27.t.c, .slice s27.b.a s27.b.l.length s27.b.c, .slice s27.o.a s27.o.l.length s27.o.c] 135 (0, 0)) :: (s27.t.key, sobP ETr 34 s27.t.pre s27.t.l s27.t.sp) :: (s27.b.key, sobP ETr 34 s27.b.pre s27.b.l s27.b.sp) :: (s27.o.key, sobP EOt 41 s27.o.pre s27.o.l s27.o.sp) :: (some b17, .cells #[u64 (0#64), u64 (0#64), u64 (0#64)] 34 (0, 0)) :: (some b5, .cells (cel EI ([(a1 : Nat), (a2 : Nat), (a3 : Nat)])).toArray 59 (0, 0)) :: (some b1, .cells #[.slice ta ts.length tc, .slice ba bs.length bc, .slice oa os.length oc] 54 (0, 0)) :: R)) rfl
          rw [hftx1]
          rw [show ((ts).drop a1).getD 0 tr0 = (ts).getD a1 tr0 from by exact drop_getD]
          have hf34 : s27.b.l = (bs).drop a2 := by rw [he31]; exact hfbx1
          have hf35 : s27.o.l = (os).drop a3 := by rw [he32]; exact hfox1
          have hf36 : s27.t.l = (ts).drop (a1 + 1) := by rw [hd30, hftx1, List.drop_drop]
          refine sq (r_move (v := .tuple #[.agg #[u64 ((ts).getD a1 tr0).a, u64 ((ts).getD a1 tr0).b, u64 ((ts).getD a1 tr0).c], .nilIface]) rfl) ?_
          refine sq (r_extract (vs := #[.agg #[u64 ((ts).getD a1 tr0).a, u64 ((ts).getD a1 tr0).b, u64 ((ts).getD a1 tr0).c], .nilIface]) rfl rfl) ?_
          refine sq (r_extract (vs := #[.agg #[u64 ((ts).getD a1 tr0).a, u64 ((ts).getD a1 tr0).b, u64 ((ts).getD a1 tr0).c], .nilIface]) rfl rfl) ?_
          refine d_store (k := 4) (v := .agg #[u64 ((ts).getD a1 tr0).a, u64 ((ts).getD a1 tr0).b, u64 ((ts).getD a1 tr0).c]) (cs' := #[u64 (((ts).getD a1 tr0).a), u64 (((ts).getD a1 tr0).b), u64 (((ts).getD a1 tr0).c)]) H33 rfl rfl rfl siz34 (by rfl) (by intro u hu; simp [Value.cells] at hu; first | (subst hu; rfl) | (rcases hu with rfl | rfl | rfl <;> rfl)) (by exact Nat.le_of_ble_eq_true rfl) (by rfl) ?_
          intro w37 H38 hC39
          have H38' := H38.as (L' := ((some b, .cells #[.slice s27.t.a s27.t.l.length s27.t.c, .slice s27.b.a s27.b.l.length s27.b.c, .slice s27.o.a s27.o.l.length s27.o.c] 135 (0, 0)) :: (s27.t.key, sobP ETr 34 s27.t.pre s27.t.l s27.t.sp) :: (s27.b.key, sobP ETr 34 s27.b.pre s27.b.l s27.b.sp) :: (s27.o.key, sobP EOt 41 s27.o.pre s27.o.l s27.o.sp) :: (some b17, .cells #[u64 (((ts).getD a1 tr0).a), u64 (((ts).getD a1 tr0).b), u64 (((ts).getD a1 tr0).c)] 34 (0, 0)) :: (some b5, .cells (cel EI ([(a1 : Nat), (a2 : Nat), (a3 : Nat)])).toArray 59 (0, 0)) :: (some b1, .cells #[.slice ta ts.length tc, .slice ba bs.length bc, .slice oa os.length oc] 54 (0, 0)) :: R)) rfl
          clear H38
          refine sq (r_assign (v := .nilIface) rfl) ?_
          refine wnil ?_
          refine thenNormal ?_
          refine seqAny ?_
          refine seqRegion ?_
          refine sq (r_move (v := i64 ((0 : Nat))) rfl) ?_
          refine sq (r_indexA (off' := 0) (j := 0) arr59 (b := b5) (off := 0) rfl rfl (by first | rfl | omega | (simp; omega)) (by omega) (by omega)) ?_
          refine sq (r_ld1 (E := EI) (l := [(a1 : Nat), (a2 : Nat), (a3 : Nat)]) (j := 0) (a := (a1 : Nat)) fits3 (H38'.get (k := 5) rfl) (by rfl) rfl rfl) ?_
          refine sq (r_move (v := .slice ta ts.length tc) rfl) ?_
          refine sq (r_lenS sli49 (a := ta) (m := ts.length) (c := tc) rfl) ?_
          refine sq ((r_geqI (a := (a1 : Nat)) (b := (ts.length : Nat)) rfl rfl).as (v' := .bool (false)) (by exact congrArg Value.bool (decide_eq_false (by omega)))) ?_
          refine wend ?_
          refine condFalse rfl ?_
          refine skipAny ?_
          refine thenNormal ?_
          refine seqAny ?_
          refine drawAny (K := [none, none, none, none, none, none, none, none, none, none, none, none]) [0, 1, 3, 7, 7, 7, 39, 103, 247, 503, 1023, 2047] (fun w' => Ext w37 w') (fun w' w'' => Ext w' w'') mixed (by kernel_rfl) (Ext.drew _) (fun _ _ h h' => h.trans h') ?_ ?_
          · exact relNone (by decide)
          refine ⟨.nilIface, fun _ uw40 hC41 _ => Gives.run rfl (r_move (v := .nilIface) rfl) ⟨rfl, Chg.refl _ _⟩, ?_⟩
          refine ⟨.bool (false), fun _ uw42 hC43 _ => Gives.run rfl (r_neqNN isI27 rfl rfl) ⟨rfl, Chg.refl _ _⟩, ?_⟩
          refine ⟨.bool (false), fun _ uw44 hC45 _ => Gives.run rfl (r_move (v := .bool (false)) rfl) ⟨rfl, Chg.refl _ _⟩, ?_⟩
          refine ⟨.agg #[u64 (((ts).getD a1 tr0).a), u64 (((ts).getD a1 tr0).b), u64 (((ts).getD a1 tr0).c)], fun _ uw46 hC47 _ => Gives.runW (wantedSome (d' := 154) (b := false) rfl rfl rfl) (r_loadA (cs' := #[u64 (((ts).getD a1 tr0).a), u64 (((ts).getD a1 tr0).b), u64 (((ts).getD a1 tr0).c)]) agg34 siz34 ((H38'.ext hC47).get (k := 4) rfl) (off := 0) rfl (by exact Nat.le_of_ble_eq_true rfl) (by rfl)) ⟨rfl, Chg.refl _ _⟩, ?_⟩
          refine ⟨.slice ta ts.length tc, fun _ uw48 hC49 _ => Gives.runW (wantedSome (d' := 154) (b := false) rfl rfl rfl) (r_move (v := .slice ta ts.length tc) rfl) ⟨rfl, Chg.refl _ _⟩, ?_⟩
          refine ⟨i64 ((0 : Nat)), fun _ uw50 hC51 _ => Gives.runW (wantedSome (d' := 154) (b := false) rfl rfl rfl) (r_move (v := i64 ((0 : Nat))) rfl) ⟨rfl, Chg.refl _ _⟩, ?_⟩
          refine ⟨.pointer (some ⟨b5, 0, none⟩), fun _ uw52 hC53 _ => Gives.runW (wantedSome (d' := 154) (b := false) rfl rfl rfl) (r_indexA (off' := 0) (j := 0) arr59 (b := b5) (off := 0) rfl rfl (by first | rfl | omega | (simp; omega)) (by omega) (by omega)) ⟨rfl, Chg.refl _ _⟩, ?_⟩
          refine ⟨i64 ((a1 : Nat)), fun _ uw54 hC55 _ => Gives.runW (wantedSome (d' := 154) (b := false) rfl rfl rfl) (r_ld1 (E := EI) (l := [(a1 : Nat), (a2 : Nat), (a3 : Nat)]) (j := 0) (a := (a1 : Nat)) fits3 ((H38'.ext hC55).get (k := 5) rfl) (by rfl) rfl rfl) ⟨rfl, Chg.refl _ _⟩, ?_⟩
          refine ⟨.pointer (adr ta (a1 * 3)), fun _ uw56 hC57 _ => Gives.runW (wantedSome (d' := 154) (b := false) rfl rfl rfl) (r_idxS (E := ETr) (l := ts) (j := a1) sli49 (hT _ (H38'.ext hC57).chg (fun p hp => (H38'.ext hC57).has p (List.mem_cons_of_mem _ (List.mem_cons_of_mem _ (List.mem_cons_of_mem _ (List.mem_cons_of_mem _ (List.mem_cons_of_mem _ (List.mem_cons_of_mem _ (List.mem_cons_of_mem _ (hp)))))))))) rfl rfl (by first | rfl | omega | (simp; omega)) (by rfl) (by omega)) ⟨rfl, Chg.refl _ _⟩, ?_⟩
          refine ⟨.agg #[u64 (((ts).getD a1 tr0).a), u64 (((ts).getD a1 tr0).b), u64 (((ts).getD a1 tr0).c)], fun _ uw58 hC59 _ => Gives.runW (wantedSome (d' := 154) (b := false) rfl rfl rfl) ((r_ldS (E := ETr) (l := ts) (j := a1) (v := (ts).getD a1 tr0) fits34 (hT _ (H38'.ext hC59).chg (fun p hp => (H38'.ext hC59).has p (List.mem_cons_of_mem _ (List.mem_cons_of_mem _ (List.mem_cons_of_mem _ (List.mem_cons_of_mem _ (List.mem_cons_of_mem _ (List.mem_cons_of_mem _ (List.mem_cons_of_mem _ (hp)))))))))) rfl rfl (at_getD (by omega))).as (v' := .agg #[u64 (((ts).getD a1 tr0).a), u64 (((ts).getD a1 tr0).b), u64 (((ts).getD a1 tr0).c)]) rfl) ⟨rfl, Chg.refl _ _⟩, ?_⟩
          refine ⟨.bool (false), fun _ uw60 hC61 _ => Gives.runW (wantedSome (d' := 154) (b := false) rfl rfl rfl) (r_neqSame34 rfl rfl) ⟨rfl, Chg.refl _ _⟩, ?_⟩
          refine ⟨.bool (false), fun _ uw62 hC63 _ => Gives.run rfl (r_pickF (v := .bool (false)) rfl rfl) ⟨rfl, Chg.refl _ _⟩, ?_⟩
          intro r67 w64 hE66 hF
          have H65 := H38'.ext hE66
          refine wnil ?_
          refine thenNormal ?_
          refine condFalse rfl ?_
          refine skipAny ?_
          refine blockNormal ?_
          refine thenNormal ?_
          refine oneRegion ?_
          refine sq (r_move (v := i64 ((0 : Nat))) rfl) ?_
          refine sq (r_indexA (off' := 0) (j := 0) arr59 (b := b5) (off := 0) rfl rfl (by first | rfl | omega | (simp; omega)) (by omega) (by omega)) ?_
          refine sq (r_ld1 (E := EI) (l := [(a1 : Nat), (a2 : Nat), (a3 : Nat)]) (j := 0) (a := (a1 : Nat)) fits3 (H65.get (k := 5) rfl) (by rfl) rfl rfl) ?_
          refine sq ((r_addI (a := (a1 : Nat)) (b := (1 : Int)) rfl rfl (by omega)).as (v' := i64 (((a1 + 1) : Nat))) (by rfl)) ?_
          refine sq (r_indexA (off' := 0) (j := 0) arr59 (b := b5) (off := 0) rfl rfl (by first | rfl | omega | (simp; omega)) (by omega) (by omega)) ?_
          refine d_store (k := 5) (v := i64 (((a1 + 1) : Nat))) (cs' := (cel EI ([((a1 + 1) : Nat), (a2 : Nat), (a3 : Nat)])).toArray) H65 rfl rfl rfl siz3 (by rfl) (by exact EI.one _) (by rw [List.size_toArray, cel_length]; show _ ≤ _ * 1; first | omega | (simp only [List.length_set]; omega) | exact Nat.le_of_ble_eq_true rfl | (simp <;> omega)) (by exact put1 (E := EI) rfl _ _ _) ?_
          intro w68 H69 hC70
          have H69' := H69.as (L' := ((some b, .cells #[.slice s27.t.a s27.t.l.length s27.t.c, .slice s27.b.a s27.b.l.length s27.b.c, .slice s27.o.a s27.o.l.length s27.o.c] 135 (0, 0)) :: (s27.t.key, sobP ETr 34 s27.t.pre s27.t.l s27.t.sp) :: (s27.b.key, sobP ETr 34 s27.b.pre s27.b.l s27.b.sp) :: (s27.o.key, sobP EOt 41 s27.o.pre s27.o.l s27.o.sp) :: (some b17, .cells #[u64 (((ts).getD a1 tr0).a), u64 (((ts).getD a1 tr0).b), u64 (((ts).getD a1 tr0).c)] 34 (0, 0)) :: (some b5, .cells (cel EI ([((a1 + 1) : Nat), (a2 : Nat), (a3 : Nat)])).toArray 59 (0, 0)) :: (some b1, .cells #[.slice ta ts.length tc, .slice ba bs.length bc, .slice oa os.length oc] 54 (0, 0)) :: R)) rfl
          clear H69
          refine wnil ?_
          refine blockNormal ?_
          refine thenNormal ?_
          refine oneRegion ?_
          refine sq (r_move (v := i64 ((zi : Nat))) rfl) ?_
          refine sq (r_addI (a := (zi : Nat)) (b := (1 : Int)) rfl rfl (by omega)) ?_
          refine sq (r_assign (v := i64 ((zi : Nat) + (1 : Int))) rfl) ?_
          refine wnil ?_
          refine thenNormal ?_
          exact ⟨(zi + 1, (a1 + 1), a2, a3, s27), _, rfl, ⟨rfl, rfl, rfl, rfl, rfl, trivial⟩, ⟨⟨by omega, by omega, by omega, by omega, hok29, hf36, hf34, hf35⟩, (H69'.pick 7 [5, 0, 1, 2, 3, 6] (by decide) (by decide))⟩, by show (sc.length + ts.length + bs.length + os.length + 3) - (zi + 1) < (sc.length + ts.length + bs.length + os.length + 3) - zi; omega⟩
        · skip
          refine oneRegion ?_
          refine sq (r_move (v := .pointer (some ⟨b, 0, none⟩)) rfl) ?_
          have := H22'.lt (List.mem_of_getElem? (i := 0) rfl) rfl
          have := H22'.lt (List.mem_of_getElem? (i := 1) rfl) rfl
          have := H22'.lt (List.mem_of_getElem? (i := 2) rfl) rfl
          have := H22'.lt (List.mem_of_getElem? (i := 6) rfl) rfl
          refine c_call (vs := [.pointer (some ⟨b, 0, none⟩)]) call18 rfl (take0_end b x1 w21 (H22'.get (k := 2) rfl) (Chg.gl H22'.chg (fun x => x) hG) (by rw [hftx1]; rw [List.length_drop]; omega)) ?_
          rintro _ w72 ⟨⟨v74, rfl, hEr75⟩, hE76⟩
          have H77 := H22'.ext hE76
          obtain ⟨T78, x79, rfl⟩ := hEr75.iface
          refine sq (r_move (v := .tuple #[.agg #[u64 (0#64), u64 (0#64), u64 (0#64)], .iface T78 (x79)]) rfl) ?_
          refine sq (r_extract (vs := #[.agg #[u64 (0#64), u64 (0#64), u64 (0#64)], .iface T78 (x79)]) rfl rfl) ?_
          refine sq (r_extract (vs := #[.agg #[u64 (0#64), u64 (0#64), u64 (0#64)], .iface T78 (x79)]) rfl rfl) ?_
          refine d_store (k := 0) (v := .agg #[u64 (0#64), u64 (0#64), u64 (0#64)]) (cs' := #[u64 (0#64), u64 (0#64), u64 (0#64)]) H77 rfl rfl rfl siz34 (by rfl) (by intro u hu; simp [Value.cells] at hu; first | (subst hu; rfl) | (rcases hu with rfl | rfl | rfl <;> rfl)) (by exact Nat.le_of_ble_eq_true rfl) (by rfl) ?_
          intro w80 H81 hC82
          have H81' := H81.as (L' := ((some b17, .cells #[u64 (0#64), u64 (0#64), u64 (0#64)] 34 (0, 0)) :: (some b5, .cells (cel EI ([(a1 : Nat), (a2 : Nat), (a3 : Nat)])).toArray 59 (0, 0)) :: (some b, .cells #[.slice x1.t.a x1.t.l.length x1.t.c, .slice x1.b.a x1.b.l.length x1.b.c, .slice x1.o.a x1.o.l.length x1.o.c] 135 (0, 0)) :: (x1.t.key, sobP ETr 34 x1.t.pre x1.t.l x1.t.sp) :: (x1.b.key, sobP ETr 34 x1.b.pre x1.b.l x1.b.sp) :: (x1.o.key, sobP EOt 41 x1.o.pre x1.o.l x1.o.sp) :: (some b1, .cells #[.slice ta ts.length tc, .slice ba bs.length bc, .slice oa os.length oc] 54 (0, 0)) :: R)) rfl
          clear H81
          refine sq (r_assign (v := .iface T78 (x79)) rfl) ?_
          refine wnil ?_
          refine thenNormal ?_
          refine seqAny ?_
          refine seqRegion ?_
          refine sq (r_move (v := i64 ((0 : Nat))) rfl) ?_
          refine sq (r_indexA (off' := 0) (j := 0) arr59 (b := b5) (off := 0) rfl rfl (by first | rfl | omega | (simp; omega)) (by omega) (by omega)) ?_
          refine sq (r_ld1 (E := EI) (l := [(a1 : Nat), (a2 : Nat), (a3 : Nat)]) (j := 0) (a := (a1 : Nat)) fits3 (H81'.get (k := 1) rfl) (by rfl) rfl rfl) ?_
          refine sq (r_move (v := .slice ta ts.length tc) rfl) ?_
          refine sq (r_lenS sli49 (a := ta) (m := ts.length) (c := tc) rfl) ?_
          refine sq ((r_geqI (a := (a1 : Nat)) (b := (ts.length : Nat)) rfl rfl).as (v' := .bool (true)) (by exact congrArg Value.bool (decide_eq_true (by omega)))) ?_
          refine wend ?_
          refine condTrue rfl ?_
          refine seqAny ?_
          refine seqRegion ?_
          refine sq (r_loadA (cs' := #[u64 (0#64), u64 (0#64), u64 (0#64)]) agg34 siz34 (H81'.get (k := 0) rfl) (off := 0) rfl (by exact Nat.le_of_ble_eq_true rfl) (by rfl)) ?_
          refine sq (r_build (cs' := #[.int .u64 0, .int .u64 0, .int .u64 0]) (ps := []) zer34 pls34 rfl (by rfl)) ?_
          refine sq (r_neqSame34 rfl rfl) ?_
          refine sq (r_move (v := .bool (false)) rfl) ?_
          refine sqAny (v := .iface T78 (x79)) (w' := w80) (wantedSome (d' := 147) (b := false) rfl rfl rfl) (r_move (v := .iface T78 (x79)) rfl) ?_
          refine caAny (wantedSome (d' := 147) (b := false) rfl rfl rfl) (Enters.callL (vs := [.iface T78 (x79), i64 ((80 : Int))]) call24 rfl) (is_ok 80 (80 : Int) 1 (.iface T78 (x79)) w21.heap.size w80 ((Er.chgs (hC82.mono (M' := fun x => x = b17) (fun _ h => by subst h; simp)) (fun x h1 h2 h3 => by have := hC82.size; rcases h3 with rfl <;> omega) hEr75))) ?_
          rintro _ w83 ⟨rfl, hE84⟩
          have H85 := H81'.ext hE84
          refine sqAny (v := .bool (false)) (w' := w83) (wantedSome (d' := 147) (b := false) rfl rfl rfl) (r_notT rfl) ?_
          refine sq (r_pickF (v := .bool (false)) rfl rfl) ?_
          refine wend ?_
          refine condFalse rfl ?_
          refine skipAny ?_
          refine thenNormal ?_
          refine exitAny ?_
          refine thenExit ?_
          refine blockOut rfl ?_
          refine thenExit ?_
          refine blockHere ?_
          refine thenNormal ?_
          refine oneRegion ?_
          refine sq (r_move (v := i64 ((zi : Nat))) rfl) ?_
          refine sq (r_addI (a := (zi : Nat)) (b := (1 : Int)) rfl rfl (by omega)) ?_
          refine sq (r_assign (v := i64 ((zi : Nat) + (1 : Int))) rfl) ?_
          refine wnil ?_
          refine thenNormal ?_
          exact ⟨(zi + 1, a1, a2, a3, x1), _, rfl, ⟨rfl, rfl, rfl, rfl, rfl, trivial⟩, ⟨⟨by omega, by omega, by omega, by omega, hkx1, hftx1, hfbx1, hfox1⟩, (H85.dropk 0)⟩, by show (sc.length + ts.length + bs.length + os.length + 3) - (zi + 1) < (sc.length + ts.length + bs.length + os.length + 3) - zi; omega⟩
      · skip
        refine seqRegion ?_
        refine sq (r_move (v := .pointer (some ⟨b, 0, none⟩)) rfl) ?_
        refine c_call (vs := [.pointer (some ⟨b, 0, none⟩)]) call21 rfl (left3_ok b x1 w12 (H13.get (k := 1) rfl)) ?_
        rintro _ w86 ⟨rfl, hE87⟩
        have H88 := H13.ext hE87
        refine sq (r_move (v := .tuple #[i64 ((x1.t.l.length : Nat)), i64 ((x1.b.l.length : Nat)), i64 ((x1.o.l.length : Nat))]) rfl) ?_
        refine sq (r_extract (vs := #[i64 ((x1.t.l.length : Nat)), i64 ((x1.b.l.length : Nat)), i64 ((x1.o.l.length : Nat))]) rfl rfl) ?_
        refine sq (r_extract (vs := #[i64 ((x1.t.l.length : Nat)), i64 ((x1.b.l.length : Nat)), i64 ((x1.o.l.length : Nat))]) rfl rfl) ?_
        refine sq (r_extract (vs := #[i64 ((x1.t.l.length : Nat)), i64 ((x1.b.l.length : Nat)), i64 ((x1.o.l.length : Nat))]) rfl rfl) ?_
        refine sq (r_assign (v := i64 ((x1.t.l.length : Nat))) rfl) ?_
        refine sq (r_assign (v := i64 ((x1.b.l.length : Nat))) rfl) ?_
        refine sq (r_assign (v := i64 ((x1.o.l.length : Nat))) rfl) ?_
        refine wend ?_
        refine seqAny ?_
        by_cases hk1 : k = 1
        · skip
          refine seqRegion ?_
          obtain rfl : k = 1 := hk1
          refine sq (r_move (v := i64 ((x1.t.l.length : Nat))) rfl) ?_
          refine sq (r_fieldAddr (off' := 0) fld54_0 (by decide) (b := b1) (off := 0) rfl (by omega)) ?_
          refine sq (r_loadC (v := .slice ta ts.length tc) one49 (H88.get (k := 5) rfl) (off := 0) rfl (by rfl)) ?_
          refine sq (r_lenS sli49 (a := ta) (m := ts.length) (c := tc) rfl) ?_
          refine sq (r_indexA (off' := 0) (j := 0) arr59 (b := b5) (off := 0) rfl rfl (by first | rfl | omega | (simp; omega)) (by omega) (by omega)) ?_
          refine sq (r_ld1 (E := EI) (l := [(a1 : Nat), (a2 : Nat), (a3 : Nat)]) (j := 0) (a := (a1 : Nat)) fits3 (H88.get (k := 0) rfl) (by rfl) rfl rfl) ?_
          refine sq (r_subI (a := (ts.length : Nat)) (b := (a1 : Nat)) rfl rfl (by omega)) ?_
          refine sq ((r_neqI (a := (x1.t.l.length : Nat)) (b := (ts.length : Nat) - (a1 : Nat)) rfl rfl).as (v' := .bool (false)) (by exact congrArg Value.bool (decide_eq_false (by rw [hftx1, List.length_drop]; omega)))) ?_
          refine sq (r_move (v := .bool (false)) rfl) ?_
          refine sqAny (v := i64 ((x1.b.l.length : Nat))) (w' := w86) (wantedSome (d' := 66) (b := false) rfl rfl rfl) (r_move (v := i64 ((x1.b.l.length : Nat))) rfl) ?_
          refine sqAny (v := .pointer (some ⟨b1, 1, none⟩)) (w' := w86) (wantedSome (d' := 66) (b := false) rfl rfl rfl) (r_fieldAddr (off' := 1) fld54_1 (by decide) (b := b1) (off := 0) rfl (by omega)) ?_
          refine sqAny (v := .slice ba bs.length bc) (w' := w86) (wantedSome (d' := 66) (b := false) rfl rfl rfl) (r_loadC (v := .slice ba bs.length bc) one49 (H88.get (k := 5) rfl) (off := 1) rfl (by rfl)) ?_
          refine sqAny (v := i64 ((bs.length : Nat))) (w' := w86) (wantedSome (d' := 66) (b := false) rfl rfl rfl) (r_lenS sli49 (a := ba) (m := bs.length) (c := bc) rfl) ?_
          refine sqAny (v := .pointer (some ⟨b5, 1, none⟩)) (w' := w86) (wantedSome (d' := 66) (b := false) rfl rfl rfl) (r_indexA (off' := 1) (j := 1) arr59 (b := b5) (off := 0) rfl rfl (by first | rfl | omega | (simp; omega)) (by omega) (by omega)) ?_
          refine sqAny (v := i64 ((a2 : Nat))) (w' := w86) (wantedSome (d' := 66) (b := false) rfl rfl rfl) (r_ld1 (E := EI) (l := [(a1 : Nat), (a2 : Nat), (a3 : Nat)]) (j := 1) (a := (a2 : Nat)) fits3 (H88.get (k := 0) rfl) (by rfl) rfl rfl) ?_
          refine sqAny (v := i64 ((bs.length : Nat) - (a2 : Nat))) (w' := w86) (wantedSome (d' := 66) (b := false) rfl rfl rfl) (r_subI (a := (bs.length : Nat)) (b := (a2 : Nat)) rfl rfl (by omega)) ?_
          refine sqAny (v := .bool (false)) (w' := w86) (wantedSome (d' := 66) (b := false) rfl rfl rfl) ((r_neqI (a := (x1.b.l.length : Nat)) (b := (bs.length : Nat) - (a2 : Nat)) rfl rfl).as (v' := .bool (false)) (by exact congrArg Value.bool (decide_eq_false (by rw [hfbx1, List.length_drop]; omega)))) ?_
          refine sq (r_pickF (v := .bool (false)) rfl rfl) ?_
          refine sq (r_move (v := .bool (false)) rfl) ?_
          refine sqAny (v := i64 ((x1.o.l.length : Nat))) (w' := w86) (wantedSome (d' := 76) (b := false) rfl rfl rfl) (r_move (v := i64 ((x1.o.l.length : Nat))) rfl) ?_
          refine sqAny (v := .pointer (some ⟨b1, 2, none⟩)) (w' := w86) (wantedSome (d' := 76) (b := false) rfl rfl rfl) (r_fieldAddr (off' := 2) fld54_2 (by decide) (b := b1) (off := 0) rfl (by omega)) ?_
          refine sqAny (v := .slice oa os.length oc) (w' := w86) (wantedSome (d' := 76) (b := false) rfl rfl rfl) (r_loadC (v := .slice oa os.length oc) one50 (H88.get (k := 5) rfl) (off := 2) rfl (by rfl)) ?_
          refine sqAny (v := i64 ((os.length : Nat))) (w' := w86) (wantedSome (d' := 76) (b := false) rfl rfl rfl) (r_lenS sli50 (a := oa) (m := os.length) (c := oc) rfl) ?_
          refine sqAny (v := .pointer (some ⟨b5, 2, none⟩)) (w' := w86) (wantedSome (d' := 76) (b := false) rfl rfl rfl) (r_indexA (off' := 2) (j := 2) arr59 (b := b5) (off := 0) rfl rfl (by first | rfl | omega | (simp; omega)) (by omega) (by omega)) ?_
          refine sqAny (v := i64 ((a3 : Nat))) (w' := w86) (wantedSome (d' := 76) (b := false) rfl rfl rfl) (r_ld1 (E := EI) (l := [(a1 : Nat), (a2 : Nat), (a3 : Nat)]) (j := 2) (a := (a3 : Nat)) fits3 (H88.get (k := 0) rfl) (by rfl) rfl rfl) ?_
          refine sqAny (v := i64 ((os.length : Nat) - (a3 : Nat))) (w' := w86) (wantedSome (d' := 76) (b := false) rfl rfl rfl) (r_subI (a := (os.length : Nat)) (b := (a3 : Nat)) rfl rfl (by omega)) ?_
          refine sqAny (v := .bool (false)) (w' := w86) (wantedSome (d' := 76) (b := false) rfl rfl rfl) ((r_neqI (a := (x1.o.l.length : Nat)) (b := (os.length : Nat) - (a3 : Nat)) rfl rfl).as (v' := .bool (false)) (by exact congrArg Value.bool (decide_eq_false (by rw [hfox1, List.length_drop]; omega)))) ?_
          refine sq (r_pickF (v := .bool (false)) rfl rfl) ?_
          refine wend ?_
          refine condFalse rfl ?_
          refine skipAny ?_
          refine thenNormal ?_
          refine seqAny ?_
          refine seqRegion ?_
          refine sq (r_move (v := i64 ((1 : Nat))) rfl) ?_
          refine wend ?_
          refine blockAny ?_
          refine seqAny ?_
          refine seqRegion ?_
          refine sq ((r_eqlI (a := (1 : Nat)) (b := (0 : Int)) rfl rfl).as (v' := .bool (false)) (by rfl)) ?_
          refine sq (r_assign (v := .bool (false)) rfl) ?_
          refine wend ?_
          refine condFalse rfl ?_
          refine oneRegion ?_
          refine sq ((r_eqlI (a := (1 : Nat)) (b := (1 : Int)) rfl rfl).as (v' := .bool (true)) (by rfl)) ?_
          refine sq (r_assign (v := .bool (true)) rfl) ?_
          refine wnil ?_
          refine thenNormal ?_
          refine condTrue rfl ?_
          refine seqRegion ?_
          refine sq (r_fieldAddr (off' := 0) fld54_0 (by decide) (b := b1) (off := 0) rfl (by omega)) ?_
          refine sq (r_loadC (v := .slice ta ts.length tc) one49 (H88.get (k := 5) rfl) (off := 0) rfl (by rfl)) ?_
          refine sq (r_assign (v := .slice ta ts.length tc) rfl) ?_
          refine wend ?_
          refine seqRegion ?_
          refine sq (r_build (cs' := #[.int .u64 0, .int .u64 0, .int .u64 0]) (ps := []) zer34 pls34 rfl (by rfl)) ?_
          refine q_alloc (o := .cells #[u64 (0#64), u64 (0#64), u64 (0#64)] 34 (0, 0)) H88 zer34 (by kernel_rfl) ?_
          intro b89 w90 hb89 H91 hE92
          refine d_store (k := 0) (v := .agg #[.int .u64 0, .int .u64 0, .int .u64 0]) (cs' := #[u64 (0#64), u64 (0#64), u64 (0#64)]) H91 rfl rfl rfl siz34 (by rfl) (by intro u hu; simp [Value.cells] at hu; first | (subst hu; rfl) | (rcases hu with rfl | rfl | rfl <;> rfl)) (by exact Nat.le_of_ble_eq_true rfl) (by rfl) ?_
          intro w93 H94 hC95
          have H94' := H94.as (L' := ((some b89, .cells #[u64 (0#64), u64 (0#64), u64 (0#64)] 34 (0, 0)) :: (some b5, .cells (cel EI ([(a1 : Nat), (a2 : Nat), (a3 : Nat)])).toArray 59 (0, 0)) :: (some b, .cells #[.slice x1.t.a x1.t.l.length x1.t.c, .slice x1.b.a x1.b.l.length x1.b.c, .slice x1.o.a x1.o.l.length x1.o.c] 135 (0, 0)) :: (x1.t.key, sobP ETr 34 x1.t.pre x1.t.l x1.t.sp) :: (x1.b.key, sobP ETr 34 x1.b.pre x1.b.l x1.b.sp) :: (x1.o.key, sobP EOt 41 x1.o.pre x1.o.l x1.o.sp) :: (some b1, .cells #[.slice ta ts.length tc, .slice ba bs.length bc, .slice oa os.length oc] 54 (0, 0)) :: R)) rfl
          clear H94
          refine sq (r_assign (v := .nilIface) rfl) ?_
          refine wend ?_
          refine seqAny ?_
          refine seqRegion ?_
          refine sq (r_move (v := i64 ((1 : Nat))) rfl) ?_
          refine sq ((r_eqlI (a := (1 : Nat)) (b := (0 : Int)) rfl rfl).as (v' := .bool (false)) (by rfl)) ?_
          refine wend ?_
          refine condFalse rfl ?_
          by_cases hA26 : a2 < bs.length
          · skip
            refine seqRegion ?_
            refine sq (r_move (v := .pointer (some ⟨b, 0, none⟩)) rfl) ?_
            have H96 := ((H94'.pick 7 [2, 3, 4, 5, 0, 1, 6] (by decide) (by decide))).as (L' := skR 34 41 135 b x1 ++ ((some b89, .cells #[u64 (0#64), u64 (0#64), u64 (0#64)] 34 (0, 0)) :: (some b5, .cells (cel EI ([(a1 : Nat), (a2 : Nat), (a3 : Nat)])).toArray 59 (0, 0)) :: (some b1, .cells #[.slice ta ts.length tc, .slice ba bs.length bc, .slice oa os.length oc] 54 (0, 0)) :: R)) rfl
            refine c_call (vs := [.pointer (some ⟨b, 0, none⟩)]) call19 rfl (take1_hit b x1 hkx1 ((some b89, .cells #[u64 (0#64), u64 (0#64), u64 (0#64)] 34 (0, 0)) :: (some b5, .cells (cel EI ([(a1 : Nat), (a2 : Nat), (a3 : Nat)])).toArray 59 (0, 0)) :: (some b1, .cells #[.slice ta ts.length tc, .slice ba bs.length bc, .slice oa os.length oc] 54 (0, 0)) :: R) w₀ w93 H96 (by rw [hfbx1]; rw [List.length_drop]; omega)) ?_
            rintro _ w97 ⟨rfl, s99, HN100, hok101, hd102, he103, he104⟩
            have H105 := HN100.as (L' := ((some b, .cells #[.slice s99.t.a s99.t.l.length s99.t.c, .slice s99.b.a s99.b.l.length s99.b.c, .slice s99.o.a s99.o.l.length s99.o.c] 135 (0, 0)) :: (s99.t.key, sobP ETr 34 s99.t.pre s99.t.l s99.t.sp) :: (s99.b.key, sobP ETr 34 s99.b.pre s99.b.l s99.b.sp) :: (s99.o.key, sobP EOt 41 s99.o.pre s99.o.l s99.o.sp) :: (some b89, .cells #[u64 (0#64), u64 (0#64), u64 (0#64)] 34 (0, 0)) :: (some b5, .cells (cel EI ([(a1 : Nat), (a2 : Nat), (a3 : Nat)])).toArray 59 (0, 0)) :: (some b1, .cells #[.slice ta ts.length tc, .slice ba bs.length bc, .slice oa os.length oc] 54 (0, 0)) :: R)) rfl
            rw [hfbx1]
            rw [show ((bs).drop a2).getD 0 tr0 = (bs).getD a2 tr0 from by exact drop_getD]
            have hf106 : s99.t.l = (ts).drop a1 := by rw [he103]; exact hftx1
            have hf107 : s99.o.l = (os).drop a3 := by rw [he104]; exact hfox1
            have hf108 : s99.b.l = (bs).drop (a2 + 1) := by rw [hd102, hfbx1, List.drop_drop]
            refine sq (r_move (v := .tuple #[.agg #[u64 ((bs).getD a2 tr0).a, u64 ((bs).getD a2 tr0).b, u64 ((bs).getD a2 tr0).c], .nilIface]) rfl) ?_
            refine sq (r_extract (vs := #[.agg #[u64 ((bs).getD a2 tr0).a, u64 ((bs).getD a2 tr0).b, u64 ((bs).getD a2 tr0).c], .nilIface]) rfl rfl) ?_
            refine sq (r_extract (vs := #[.agg #[u64 ((bs).getD a2 tr0).a, u64 ((bs).getD a2 tr0).b, u64 ((bs).getD a2 tr0).c], .nilIface]) rfl rfl) ?_
            refine d_store (k := 4) (v := .agg #[u64 ((bs).getD a2 tr0).a, u64 ((bs).getD a2 tr0).b, u64 ((bs).getD a2 tr0).c]) (cs' := #[u64 (((bs).getD a2 tr0).a), u64 (((bs).getD a2 tr0).b), u64 (((bs).getD a2 tr0).c)]) H105 rfl rfl rfl siz34 (by rfl) (by intro u hu; simp [Value.cells] at hu; first | (subst hu; rfl) | (rcases hu with rfl | rfl | rfl <;> rfl)) (by exact Nat.le_of_ble_eq_true rfl) (by rfl) ?_
            intro w109 H110 hC111
            have H110' := H110.as (L' := ((some b, .cells #[.slice s99.t.a s99.t.l.length s99.t.c, .slice s99.b.a s99.b.l.length s99.b.c, .slice s99.o.a s99.o.l.length s99.o.c] 135 (0, 0)) :: (s99.t.key, sobP ETr 34 s99.t.pre s99.t.l s99.t.sp) :: (s99.b.key, sobP ETr 34 s99.b.pre s99.b.l s99.b.sp) :: (s99.o.key, sobP EOt 41 s99.o.pre s99.o.l s99.o.sp) :: (some b89, .cells #[u64 (((bs).getD a2 tr0).a), u64 (((bs).getD a2 tr0).b), u64 (((bs).getD a2 tr0).c)] 34 (0, 0)) :: (some b5, .cells (cel EI ([(a1 : Nat), (a2 : Nat), (a3 : Nat)])).toArray 59 (0, 0)) :: (some b1, .cells #[.slice ta ts.length tc, .slice ba bs.length bc, .slice oa os.length oc] 54 (0, 0)) :: R)) rfl
            clear H110
            refine sq (r_assign (v := .nilIface) rfl) ?_
            refine wend ?_
            refine oneRegion ?_
            refine sq (r_fieldAddr (off' := 1) fld54_1 (by decide) (b := b1) (off := 0) rfl (by omega)) ?_
            refine sq (r_loadC (v := .slice ba bs.length bc) one49 (H110'.get (k := 6) rfl) (off := 1) rfl (by rfl)) ?_
            refine sq (r_assign (v := .slice ba bs.length bc) rfl) ?_
            refine wnil ?_
            refine thenNormal ?_
            refine seqAny ?_
            refine seqRegion ?_
            refine sq (r_move (v := i64 ((1 : Nat))) rfl) ?_
            refine sq (r_indexA (off' := 1) (j := 1) arr59 (b := b5) (off := 0) rfl rfl (by first | rfl | omega | (simp; omega)) (by omega) (by omega)) ?_
            refine sq (r_ld1 (E := EI) (l := [(a1 : Nat), (a2 : Nat), (a3 : Nat)]) (j := 1) (a := (a2 : Nat)) fits3 (H110'.get (k := 5) rfl) (by rfl) rfl rfl) ?_
            refine sq (r_move (v := .slice ba bs.length bc) rfl) ?_
            refine sq (r_lenS sli49 (a := ba) (m := bs.length) (c := bc) rfl) ?_
            refine sq ((r_geqI (a := (a2 : Nat)) (b := (bs.length : Nat)) rfl rfl).as (v' := .bool (false)) (by exact congrArg Value.bool (decide_eq_false (by omega)))) ?_
            refine wend ?_
            refine condFalse rfl ?_
            refine skipAny ?_
            refine thenNormal ?_
            refine seqAny ?_
            refine drawAny (K := [none, none, none, none, none, none, none, none, none, none, none, none]) [0, 1, 3, 7, 7, 7, 39, 103, 247, 503, 1023, 2047] (fun w' => Ext w109 w') (fun w' w'' => Ext w' w'') mixed (by kernel_rfl) (Ext.drew _) (fun _ _ h h' => h.trans h') ?_ ?_
            · exact relNone (by decide)
            refine ⟨.nilIface, fun _ uw112 hC113 _ => Gives.run rfl (r_move (v := .nilIface) rfl) ⟨rfl, Chg.refl _ _⟩, ?_⟩
            refine ⟨.bool (false), fun _ uw114 hC115 _ => Gives.run rfl (r_neqNN isI27 rfl rfl) ⟨rfl, Chg.refl _ _⟩, ?_⟩
            refine ⟨.bool (false), fun _ uw116 hC117 _ => Gives.run rfl (r_move (v := .bool (false)) rfl) ⟨rfl, Chg.refl _ _⟩, ?_⟩
            refine ⟨.agg #[u64 (((bs).getD a2 tr0).a), u64 (((bs).getD a2 tr0).b), u64 (((bs).getD a2 tr0).c)], fun _ uw118 hC119 _ => Gives.runW (wantedSome (d' := 154) (b := false) rfl rfl rfl) (r_loadA (cs' := #[u64 (((bs).getD a2 tr0).a), u64 (((bs).getD a2 tr0).b), u64 (((bs).getD a2 tr0).c)]) agg34 siz34 ((H110'.ext hC119).get (k := 4) rfl) (off := 0) rfl (by exact Nat.le_of_ble_eq_true rfl) (by rfl)) ⟨rfl, Chg.refl _ _⟩, ?_⟩
            refine ⟨.slice ba bs.length bc, fun _ uw120 hC121 _ => Gives.runW (wantedSome (d' := 154) (b := false) rfl rfl rfl) (r_move (v := .slice ba bs.length bc) rfl) ⟨rfl, Chg.refl _ _⟩, ?_⟩
            refine ⟨i64 ((1 : Nat)), fun _ uw122 hC123 _ => Gives.runW (wantedSome (d' := 154) (b := false) rfl rfl rfl) (r_move (v := i64 ((1 : Nat))) rfl) ⟨rfl, Chg.refl _ _⟩, ?_⟩
            refine ⟨.pointer (some ⟨b5, 1, none⟩), fun _ uw124 hC125 _ => Gives.runW (wantedSome (d' := 154) (b := false) rfl rfl rfl) (r_indexA (off' := 1) (j := 1) arr59 (b := b5) (off := 0) rfl rfl (by first | rfl | omega | (simp; omega)) (by omega) (by omega)) ⟨rfl, Chg.refl _ _⟩, ?_⟩
            refine ⟨i64 ((a2 : Nat)), fun _ uw126 hC127 _ => Gives.runW (wantedSome (d' := 154) (b := false) rfl rfl rfl) (r_ld1 (E := EI) (l := [(a1 : Nat), (a2 : Nat), (a3 : Nat)]) (j := 1) (a := (a2 : Nat)) fits3 ((H110'.ext hC127).get (k := 5) rfl) (by rfl) rfl rfl) ⟨rfl, Chg.refl _ _⟩, ?_⟩
            refine ⟨.pointer (adr ba (a2 * 3)), fun _ uw128 hC129 _ => Gives.runW (wantedSome (d' := 154) (b := false) rfl rfl rfl) (r_idxS (E := ETr) (l := bs) (j := a2) sli49 (hB _ (H110'.ext hC129).chg (fun p hp => (H110'.ext hC129).has p (List.mem_cons_of_mem _ (List.mem_cons_of_mem _ (List.mem_cons_of_mem _ (List.mem_cons_of_mem _ (List.mem_cons_of_mem _ (List.mem_cons_of_mem _ (List.mem_cons_of_mem _ (hp)))))))))) rfl rfl (by first | rfl | omega | (simp; omega)) (by rfl) (by omega)) ⟨rfl, Chg.refl _ _⟩, ?_⟩
            refine ⟨.agg #[u64 (((bs).getD a2 tr0).a), u64 (((bs).getD a2 tr0).b), u64 (((bs).getD a2 tr0).c)], fun _ uw130 hC131 _ => Gives.runW (wantedSome (d' := 154) (b := false) rfl rfl rfl) ((r_ldS (E := ETr) (l := bs) (j := a2) (v := (bs).getD a2 tr0) fits34 (hB _ (H110'.ext hC131).chg (fun p hp => (H110'.ext hC131).has p (List.mem_cons_of_mem _ (List.mem_cons_of_mem _ (List.mem_cons_of_mem _ (List.mem_cons_of_mem _ (List.mem_cons_of_mem _ (List.mem_cons_of_mem _ (List.mem_cons_of_mem _ (hp)))))))))) rfl rfl (at_getD (by omega))).as (v' := .agg #[u64 (((bs).getD a2 tr0).a), u64 (((bs).getD a2 tr0).b), u64 (((bs).getD a2 tr0).c)]) rfl) ⟨rfl, Chg.refl _ _⟩, ?_⟩
            refine ⟨.bool (false), fun _ uw132 hC133 _ => Gives.runW (wantedSome (d' := 154) (b := false) rfl rfl rfl) (r_neqSame34 rfl rfl) ⟨rfl, Chg.refl _ _⟩, ?_⟩
            refine ⟨.bool (false), fun _ uw134 hC135 _ => Gives.run rfl (r_pickF (v := .bool (false)) rfl rfl) ⟨rfl, Chg.refl _ _⟩, ?_⟩
            intro r139 w136 hE138 hF
            have H137 := H110'.ext hE138
            refine wnil ?_
            refine thenNormal ?_
            refine condFalse rfl ?_
            refine skipAny ?_
            refine blockNormal ?_
            refine thenNormal ?_
            refine oneRegion ?_
            refine sq (r_move (v := i64 ((1 : Nat))) rfl) ?_
            refine sq (r_indexA (off' := 1) (j := 1) arr59 (b := b5) (off := 0) rfl rfl (by first | rfl | omega | (simp; omega)) (by omega) (by omega)) ?_
            refine sq (r_ld1 (E := EI) (l := [(a1 : Nat), (a2 : Nat), (a3 : Nat)]) (j := 1) (a := (a2 : Nat)) fits3 (H137.get (k := 5) rfl) (by rfl) rfl rfl) ?_
            refine sq ((r_addI (a := (a2 : Nat)) (b := (1 : Int)) rfl rfl (by omega)).as (v' := i64 (((a2 + 1) : Nat))) (by rfl)) ?_
            refine sq (r_indexA (off' := 1) (j := 1) arr59 (b := b5) (off := 0) rfl rfl (by first | rfl | omega | (simp; omega)) (by omega) (by omega)) ?_
            refine d_store (k := 5) (v := i64 (((a2 + 1) : Nat))) (cs' := (cel EI ([(a1 : Nat), ((a2 + 1) : Nat), (a3 : Nat)])).toArray) H137 rfl rfl rfl siz3 (by rfl) (by exact EI.one _) (by rw [List.size_toArray, cel_length]; show _ ≤ _ * 1; first | omega | (simp only [List.length_set]; omega) | exact Nat.le_of_ble_eq_true rfl | (simp <;> omega)) (by exact put1 (E := EI) rfl _ _ _) ?_
            intro w140 H141 hC142
            have H141' := H141.as (L' := ((some b, .cells #[.slice s99.t.a s99.t.l.length s99.t.c, .slice s99.b.a s99.b.l.length s99.b.c, .slice s99.o.a s99.o.l.length s99.o.c] 135 (0, 0)) :: (s99.t.key, sobP ETr 34 s99.t.pre s99.t.l s99.t.sp) :: (s99.b.key, sobP ETr 34 s99.b.pre s99.b.l s99.b.sp) :: (s99.o.key, sobP EOt 41 s99.o.pre s99.o.l s99.o.sp) :: (some b89, .cells #[u64 (((bs).getD a2 tr0).a), u64 (((bs).getD a2 tr0).b), u64 (((bs).getD a2 tr0).c)] 34 (0, 0)) :: (some b5, .cells (cel EI ([(a1 : Nat), ((a2 + 1) : Nat), (a3 : Nat)])).toArray 59 (0, 0)) :: (some b1, .cells #[.slice ta ts.length tc, .slice ba bs.length bc, .slice oa os.length oc] 54 (0, 0)) :: R)) rfl
            clear H141
            refine wnil ?_
            refine blockNormal ?_
            refine thenNormal ?_
            refine oneRegion ?_
            refine sq (r_move (v := i64 ((zi : Nat))) rfl) ?_
            refine sq (r_addI (a := (zi : Nat)) (b := (1 : Int)) rfl rfl (by omega)) ?_
            refine sq (r_assign (v := i64 ((zi : Nat) + (1 : Int))) rfl) ?_
            refine wnil ?_
            refine thenNormal ?_
            exact ⟨(zi + 1, a1, (a2 + 1), a3, s99), _, rfl, ⟨rfl, rfl, rfl, rfl, rfl, trivial⟩, ⟨⟨by omega, by omega, by omega, by omega, hok101, hf106, hf108, hf107⟩, (H141'.pick 7 [5, 0, 1, 2, 3, 6] (by decide) (by decide))⟩, by show (sc.length + ts.length + bs.length + os.length + 3) - (zi + 1) < (sc.length + ts.length + bs.length + os.length + 3) - zi; omega⟩
          · skip
            refine seqRegion ?_
            refine sq (r_move (v := .pointer (some ⟨b, 0, none⟩)) rfl) ?_
            have := H94'.lt (List.mem_of_getElem? (i := 0) rfl) rfl
            have := H94'.lt (List.mem_of_getElem? (i := 1) rfl) rfl
            have := H94'.lt (List.mem_of_getElem? (i := 2) rfl) rfl
            have := H94'.lt (List.mem_of_getElem? (i := 6) rfl) rfl
            refine c_call (vs := [.pointer (some ⟨b, 0, none⟩)]) call19 rfl (take1_end b x1 w93 (H94'.get (k := 2) rfl) (Chg.gl H94'.chg (fun x => x) hG) (by rw [hfbx1]; rw [List.length_drop]; omega)) ?_
            rintro _ w144 ⟨⟨v146, rfl, hEr147⟩, hE148⟩
            have H149 := H94'.ext hE148
            obtain ⟨T150, x151, rfl⟩ := hEr147.iface
            refine sq (r_move (v := .tuple #[.agg #[u64 (0#64), u64 (0#64), u64 (0#64)], .iface T150 (x151)]) rfl) ?_
            refine sq (r_extract (vs := #[.agg #[u64 (0#64), u64 (0#64), u64 (0#64)], .iface T150 (x151)]) rfl rfl) ?_
            refine sq (r_extract (vs := #[.agg #[u64 (0#64), u64 (0#64), u64 (0#64)], .iface T150 (x151)]) rfl rfl) ?_
            refine d_store (k := 0) (v := .agg #[u64 (0#64), u64 (0#64), u64 (0#64)]) (cs' := #[u64 (0#64), u64 (0#64), u64 (0#64)]) H149 rfl rfl rfl siz34 (by rfl) (by intro u hu; simp [Value.cells] at hu; first | (subst hu; rfl) | (rcases hu with rfl | rfl | rfl <;> rfl)) (by exact Nat.le_of_ble_eq_true rfl) (by rfl) ?_
            intro w152 H153 hC154
            have H153' := H153.as (L' := ((some b89, .cells #[u64 (0#64), u64 (0#64), u64 (0#64)] 34 (0, 0)) :: (some b5, .cells (cel EI ([(a1 : Nat), (a2 : Nat), (a3 : Nat)])).toArray 59 (0, 0)) :: (some b, .cells #[.slice x1.t.a x1.t.l.length x1.t.c, .slice x1.b.a x1.b.l.length x1.b.c, .slice x1.o.a x1.o.l.length x1.o.c] 135 (0, 0)) :: (x1.t.key, sobP ETr 34 x1.t.pre x1.t.l x1.t.sp) :: (x1.b.key, sobP ETr 34 x1.b.pre x1.b.l x1.b.sp) :: (x1.o.key, sobP EOt 41 x1.o.pre x1.o.l x1.o.sp) :: (some b1, .cells #[.slice ta ts.length tc, .slice ba bs.length bc, .slice oa os.length oc] 54 (0, 0)) :: R)) rfl
            clear H153
            refine sq (r_assign (v := .iface T150 (x151)) rfl) ?_
            refine wend ?_
            refine oneRegion ?_
            refine sq (r_fieldAddr (off' := 1) fld54_1 (by decide) (b := b1) (off := 0) rfl (by omega)) ?_
            refine sq (r_loadC (v := .slice ba bs.length bc) one49 (H153'.get (k := 6) rfl) (off := 1) rfl (by rfl)) ?_
            refine sq (r_assign (v := .slice ba bs.length bc) rfl) ?_
            refine wnil ?_
            refine thenNormal ?_
            refine seqAny ?_
            refine seqRegion ?_
            refine sq (r_move (v := i64 ((1 : Nat))) rfl) ?_
            refine sq (r_indexA (off' := 1) (j := 1) arr59 (b := b5) (off := 0) rfl rfl (by first | rfl | omega | (simp; omega)) (by omega) (by omega)) ?_
            refine sq (r_ld1 (E := EI) (l := [(a1 : Nat), (a2 : Nat), (a3 : Nat)]) (j := 1) (a := (a2 : Nat)) fits3 (H153'.get (k := 1) rfl) (by rfl) rfl rfl) ?_
            refine sq (r_move (v := .slice ba bs.length bc) rfl) ?_
            refine sq (r_lenS sli49 (a := ba) (m := bs.length) (c := bc) rfl) ?_
            refine sq ((r_geqI (a := (a2 : Nat)) (b := (bs.length : Nat)) rfl rfl).as (v' := .bool (true)) (by exact congrArg Value.bool (decide_eq_true (by omega)))) ?_
            refine wend ?_
            refine condTrue rfl ?_
            refine seqAny ?_
            refine seqRegion ?_
            refine sq (r_loadA (cs' := #[u64 (0#64), u64 (0#64), u64 (0#64)]) agg34 siz34 (H153'.get (k := 0) rfl) (off := 0) rfl (by exact Nat.le_of_ble_eq_true rfl) (by rfl)) ?_
            refine sq (r_build (cs' := #[.int .u64 0, .int .u64 0, .int .u64 0]) (ps := []) zer34 pls34 rfl (by rfl)) ?_
            refine sq (r_neqSame34 rfl rfl) ?_
            refine sq (r_move (v := .bool (false)) rfl) ?_
            refine sqAny (v := .iface T150 (x151)) (w' := w152) (wantedSome (d' := 147) (b := false) rfl rfl rfl) (r_move (v := .iface T150 (x151)) rfl) ?_
            refine caAny (wantedSome (d' := 147) (b := false) rfl rfl rfl) (Enters.callL (vs := [.iface T150 (x151), i64 ((80 : Int))]) call24 rfl) (is_ok 80 (80 : Int) 1 (.iface T150 (x151)) w93.heap.size w152 ((Er.chgs (hC154.mono (M' := fun x => x = b89) (fun _ h => by subst h; simp)) (fun x h1 h2 h3 => by have := hC154.size; rcases h3 with rfl <;> omega) hEr147))) ?_
            rintro _ w155 ⟨rfl, hE156⟩
            have H157 := H153'.ext hE156
            refine sqAny (v := .bool (false)) (w' := w155) (wantedSome (d' := 147) (b := false) rfl rfl rfl) (r_notT rfl) ?_
            refine sq (r_pickF (v := .bool (false)) rfl rfl) ?_
            refine wend ?_
            refine condFalse rfl ?_
            refine skipAny ?_
            refine thenNormal ?_
            refine exitAny ?_
            refine thenExit ?_
            refine blockOut rfl ?_
            refine thenExit ?_
            refine blockHere ?_
            refine thenNormal ?_
            refine oneRegion ?_
            refine sq (r_move (v := i64 ((zi : Nat))) rfl) ?_
            refine sq (r_addI (a := (zi : Nat)) (b := (1 : Int)) rfl rfl (by omega)) ?_
            refine sq (r_assign (v := i64 ((zi : Nat) + (1 : Int))) rfl) ?_
            refine wnil ?_
            refine thenNormal ?_
            exact ⟨(zi + 1, a1, a2, a3, x1), _, rfl, ⟨rfl, rfl, rfl, rfl, rfl, trivial⟩, ⟨⟨by omega, by omega, by omega, by omega, hkx1, hftx1, hfbx1, hfox1⟩, (H157.dropk 0)⟩, by show (sc.length + ts.length + bs.length + os.length + 3) - (zi + 1) < (sc.length + ts.length + bs.length + os.length + 3) - zi; omega⟩
        · skip
          refine seqRegion ?_
          obtain rfl : k = 2 := by omega
          refine sq (r_move (v := i64 ((x1.t.l.length : Nat))) rfl) ?_
          refine sq (r_fieldAddr (off' := 0) fld54_0 (by decide) (b := b1) (off := 0) rfl (by omega)) ?_
          refine sq (r_loadC (v := .slice ta ts.length tc) one49 (H88.get (k := 5) rfl) (off := 0) rfl (by rfl)) ?_
          refine sq (r_lenS sli49 (a := ta) (m := ts.length) (c := tc) rfl) ?_
          refine sq (r_indexA (off' := 0) (j := 0) arr59 (b := b5) (off := 0) rfl rfl (by first | rfl | omega | (simp; omega)) (by omega) (by omega)) ?_
          refine sq (r_ld1 (E := EI) (l := [(a1 : Nat), (a2 : Nat), (a3 : Nat)]) (j := 0) (a := (a1 : Nat)) fits3 (H88.get (k := 0) rfl) (by rfl) rfl rfl) ?_
          refine sq (r_subI (a := (ts.length : Nat)) (b := (a1 : Nat)) rfl rfl (by omega)) ?_
          refine sq ((r_neqI (a := (x1.t.l.length : Nat)) (b := (ts.length : Nat) - (a1 : Nat)) rfl rfl).as (v' := .bool (false)) (by exact congrArg Value.bool (decide_eq_false (by rw [hftx1, List.length_drop]; omega)))) ?_
          refine sq (r_move (v := .bool (false)) rfl) ?_
          refine sqAny (v := i64 ((x1.b.l.length : Nat))) (w' := w86) (wantedSome (d' := 66) (b := false) rfl rfl rfl) (r_move (v := i64 ((x1.b.l.length : Nat))) rfl) ?_
          refine sqAny (v := .pointer (some ⟨b1, 1, none⟩)) (w' := w86) (wantedSome (d' := 66) (b := false) rfl rfl rfl) (r_fieldAddr (off' := 1) fld54_1 (by decide) (b := b1) (off := 0) rfl (by omega)) ?_
          refine sqAny (v := .slice ba bs.length bc) (w' := w86) (wantedSome (d' := 66) (b := false) rfl rfl rfl) (r_loadC (v := .slice ba bs.length bc) one49 (H88.get (k := 5) rfl) (off := 1) rfl (by rfl)) ?_
          refine sqAny (v := i64 ((bs.length : Nat))) (w' := w86) (wantedSome (d' := 66) (b := false) rfl rfl rfl) (r_lenS sli49 (a := ba) (m := bs.length) (c := bc) rfl) ?_
          refine sqAny (v := .pointer (some ⟨b5, 1, none⟩)) (w' := w86) (wantedSome (d' := 66) (b := false) rfl rfl rfl) (r_indexA (off' := 1) (j := 1) arr59 (b := b5) (off := 0) rfl rfl (by first | rfl | omega | (simp; omega)) (by omega) (by omega)) ?_
          refine sqAny (v := i64 ((a2 : Nat))) (w' := w86) (wantedSome (d' := 66) (b := false) rfl rfl rfl) (r_ld1 (E := EI) (l := [(a1 : Nat), (a2 : Nat), (a3 : Nat)]) (j := 1) (a := (a2 : Nat)) fits3 (H88.get (k := 0) rfl) (by rfl) rfl rfl) ?_
          refine sqAny (v := i64 ((bs.length : Nat) - (a2 : Nat))) (w' := w86) (wantedSome (d' := 66) (b := false) rfl rfl rfl) (r_subI (a := (bs.length : Nat)) (b := (a2 : Nat)) rfl rfl (by omega)) ?_
          refine sqAny (v := .bool (false)) (w' := w86) (wantedSome (d' := 66) (b := false) rfl rfl rfl) ((r_neqI (a := (x1.b.l.length : Nat)) (b := (bs.length : Nat) - (a2 : Nat)) rfl rfl).as (v' := .bool (false)) (by exact congrArg Value.bool (decide_eq_false (by rw [hfbx1, List.length_drop]; omega)))) ?_
          refine sq (r_pickF (v := .bool (false)) rfl rfl) ?_
          refine sq (r_move (v := .bool (false)) rfl) ?_
          refine sqAny (v := i64 ((x1.o.l.length : Nat))) (w' := w86) (wantedSome (d' := 76) (b := false) rfl rfl rfl) (r_move (v := i64 ((x1.o.l.length : Nat))) rfl) ?_
          refine sqAny (v := .pointer (some ⟨b1, 2, none⟩)) (w' := w86) (wantedSome (d' := 76) (b := false) rfl rfl rfl) (r_fieldAddr (off' := 2) fld54_2 (by decide) (b := b1) (off := 0) rfl (by omega)) ?_
          refine sqAny (v := .slice oa os.length oc) (w' := w86) (wantedSome (d' := 76) (b := false) rfl rfl rfl) (r_loadC (v := .slice oa os.length oc) one50 (H88.get (k := 5) rfl) (off := 2) rfl (by rfl)) ?_
          refine sqAny (v := i64 ((os.length : Nat))) (w' := w86) (wantedSome (d' := 76) (b := false) rfl rfl rfl) (r_lenS sli50 (a := oa) (m := os.length) (c := oc) rfl) ?_
          refine sqAny (v := .pointer (some ⟨b5, 2, none⟩)) (w' := w86) (wantedSome (d' := 76) (b := false) rfl rfl rfl) (r_indexA (off' := 2) (j := 2) arr59 (b := b5) (off := 0) rfl rfl (by first | rfl | omega | (simp; omega)) (by omega) (by omega)) ?_
          refine sqAny (v := i64 ((a3 : Nat))) (w' := w86) (wantedSome (d' := 76) (b := false) rfl rfl rfl) (r_ld1 (E := EI) (l := [(a1 : Nat), (a2 : Nat), (a3 : Nat)]) (j := 2) (a := (a3 : Nat)) fits3 (H88.get (k := 0) rfl) (by rfl) rfl rfl) ?_
          refine sqAny (v := i64 ((os.length : Nat) - (a3 : Nat))) (w' := w86) (wantedSome (d' := 76) (b := false) rfl rfl rfl) (r_subI (a := (os.length : Nat)) (b := (a3 : Nat)) rfl rfl (by omega)) ?_
          refine sqAny (v := .bool (false)) (w' := w86) (wantedSome (d' := 76) (b := false) rfl rfl rfl) ((r_neqI (a := (x1.o.l.length : Nat)) (b := (os.length : Nat) - (a3 : Nat)) rfl rfl).as (v' := .bool (false)) (by exact congrArg Value.bool (decide_eq_false (by rw [hfox1, List.length_drop]; omega)))) ?_
          refine sq (r_pickF (v := .bool (false)) rfl rfl) ?_
          refine wend ?_
          refine condFalse rfl ?_
          refine skipAny ?_
          refine thenNormal ?_
          refine seqAny ?_
          refine seqRegion ?_
          refine sq (r_move (v := i64 ((2 : Nat))) rfl) ?_
          refine wend ?_
          refine blockAny ?_
          refine seqAny ?_
          refine seqRegion ?_
          refine sq ((r_eqlI (a := (2 : Nat)) (b := (0 : Int)) rfl rfl).as (v' := .bool (false)) (by rfl)) ?_
          refine sq (r_assign (v := .bool (false)) rfl) ?_
          refine wend ?_
          refine condFalse rfl ?_
          refine oneRegion ?_
          refine sq ((r_eqlI (a := (2 : Nat)) (b := (1 : Int)) rfl rfl).as (v' := .bool (false)) (by rfl)) ?_
          refine sq (r_assign (v := .bool (false)) rfl) ?_
          refine wnil ?_
          refine thenNormal ?_
          refine condFalse rfl ?_
          by_cases hA14 : a3 < os.length
          · skip
            refine seqRegion ?_
            refine sq (r_move (v := .pointer (some ⟨b, 0, none⟩)) rfl) ?_
            have H158 := ((H88.pick 6 [1, 2, 3, 4, 0, 5] (by decide) (by decide))).as (L' := skR 34 41 135 b x1 ++ ((some b5, .cells (cel EI ([(a1 : Nat), (a2 : Nat), (a3 : Nat)])).toArray 59 (0, 0)) :: (some b1, .cells #[.slice ta ts.length tc, .slice ba bs.length bc, .slice oa os.length oc] 54 (0, 0)) :: R)) rfl
            refine c_call (vs := [.pointer (some ⟨b, 0, none⟩)]) call20 rfl (take2_hit b x1 hkx1 ((some b5, .cells (cel EI ([(a1 : Nat), (a2 : Nat), (a3 : Nat)])).toArray 59 (0, 0)) :: (some b1, .cells #[.slice ta ts.length tc, .slice ba bs.length bc, .slice oa os.length oc] 54 (0, 0)) :: R) w₀ w86 H158 (by rw [hfox1]; rw [List.length_drop]; omega)) ?_
            rintro _ w159 ⟨rfl, s161, HN162, hok163, hd164, he165, he166⟩
            have H167 := HN162.as (L' := ((some b, .cells #[.slice s161.t.a s161.t.l.length s161.t.c, .slice s161.b.a s161.b.l.length s161.b.c, .slice s161.o.a s161.o.l.length s161.o.c] 135 (0, 0)) :: (s161.t.key, sobP ETr 34 s161.t.pre s161.t.l s161.t.sp) :: (s161.b.key, sobP ETr 34 s161.b.pre s161.b.l s161.b.sp) :: (s161.o.key, sobP EOt 41 s161.o.pre s161.o.l s161.o.sp) :: (some b5, .cells (cel EI ([(a1 : Nat), (a2 : Nat), (a3 : Nat)])).toArray 59 (0, 0)) :: (some b1, .cells #[.slice ta ts.length tc, .slice ba bs.length bc, .slice oa os.length oc] 54 (0, 0)) :: R)) rfl
            rw [hfox1]
            rw [show ((os).drop a3).getD 0 ot0 = (os).getD a3 ot0 from by exact drop_getD]
            have hf168 : s161.t.l = (ts).drop a1 := by rw [he165]; exact hftx1
            have hf169 : s161.b.l = (bs).drop a2 := by rw [he166]; exact hfbx1
            have hf170 : s161.o.l = (os).drop (a3 + 1) := by rw [hd164, hfox1, List.drop_drop]
            refine sq (r_move (v := .tuple #[.agg #[u64 (((os).getD a3 ot0).p), u64 (((os).getD a3 ot0).q), u64 (((os).getD a3 ot0).r), u64 (((os).getD a3 ot0).s), .bool (((os).getD a3 ot0).ch)], .nilIface]) rfl) ?_
            refine sq (r_extract (vs := #[.agg #[u64 (((os).getD a3 ot0).p), u64 (((os).getD a3 ot0).q), u64 (((os).getD a3 ot0).r), u64 (((os).getD a3 ot0).s), .bool (((os).getD a3 ot0).ch)], .nilIface]) rfl rfl) ?_
            refine sq (r_extract (vs := #[.agg #[u64 (((os).getD a3 ot0).p), u64 (((os).getD a3 ot0).q), u64 (((os).getD a3 ot0).r), u64 (((os).getD a3 ot0).s), .bool (((os).getD a3 ot0).ch)], .nilIface]) rfl rfl) ?_
            refine q_alloc (o := .cells #[u64 (0#64), u64 (0#64), u64 (0#64), u64 (0#64), .bool (false)] 41 (0, 0)) H167 zer41 (by kernel_rfl) ?_
            intro b171 w172 hb171 H173 hE174
            refine d_store (k := 0) (v := .agg #[u64 (((os).getD a3 ot0).p), u64 (((os).getD a3 ot0).q), u64 (((os).getD a3 ot0).r), u64 (((os).getD a3 ot0).s), .bool (((os).getD a3 ot0).ch)]) (cs' := #[u64 (((os).getD a3 ot0).p), u64 (((os).getD a3 ot0).q), u64 (((os).getD a3 ot0).r), u64 (((os).getD a3 ot0).s), .bool (((os).getD a3 ot0).ch)]) H173 rfl rfl rfl siz41 (by rfl) (by intro u hu; simp [Value.cells] at hu; first | (subst hu; rfl) | (rcases hu with rfl | rfl | rfl | rfl | rfl <;> rfl)) (by exact Nat.le_of_ble_eq_true rfl) (by rfl) ?_
            intro w175 H176 hC177
            have H176' := H176.as (L' := ((some b171, .cells #[u64 (((os).getD a3 ot0).p), u64 (((os).getD a3 ot0).q), u64 (((os).getD a3 ot0).r), u64 (((os).getD a3 ot0).s), .bool (((os).getD a3 ot0).ch)] 41 (0, 0)) :: (some b, .cells #[.slice s161.t.a s161.t.l.length s161.t.c, .slice s161.b.a s161.b.l.length s161.b.c, .slice s161.o.a s161.o.l.length s161.o.c] 135 (0, 0)) :: (s161.t.key, sobP ETr 34 s161.t.pre s161.t.l s161.t.sp) :: (s161.b.key, sobP ETr 34 s161.b.pre s161.b.l s161.b.sp) :: (s161.o.key, sobP EOt 41 s161.o.pre s161.o.l s161.o.sp) :: (some b5, .cells (cel EI ([(a1 : Nat), (a2 : Nat), (a3 : Nat)])).toArray 59 (0, 0)) :: (some b1, .cells #[.slice ta ts.length tc, .slice ba bs.length bc, .slice oa os.length oc] 54 (0, 0)) :: R)) rfl
            clear H176
            refine sq (r_assign (v := .nilIface) rfl) ?_
            refine wend ?_
            refine seqAny ?_
            refine seqRegion ?_
            refine sq (r_indexA (off' := 2) (j := 2) arr59 (b := b5) (off := 0) rfl rfl (by first | rfl | omega | (simp; omega)) (by omega) (by omega)) ?_
            refine sq (r_ld1 (E := EI) (l := [(a1 : Nat), (a2 : Nat), (a3 : Nat)]) (j := 2) (a := (a3 : Nat)) fits3 (H176'.get (k := 5) rfl) (by rfl) rfl rfl) ?_
            refine sq (r_fieldAddr (off' := 2) fld54_2 (by decide) (b := b1) (off := 0) rfl (by omega)) ?_
            refine sq (r_loadC (v := .slice oa os.length oc) one50 (H176'.get (k := 6) rfl) (off := 2) rfl (by rfl)) ?_
            refine sq (r_lenS sli50 (a := oa) (m := os.length) (c := oc) rfl) ?_
            refine sq ((r_geqI (a := (a3 : Nat)) (b := (os.length : Nat)) rfl rfl).as (v' := .bool (false)) (by exact congrArg Value.bool (decide_eq_false (by omega)))) ?_
            refine wend ?_
            refine condFalse rfl ?_
            refine skipAny ?_
            refine thenNormal ?_
            refine seqAny ?_
            refine drawAny (K := [none, none, none, none, none, none, none, none, none, none, none, none]) [0, 1, 3, 7, 7, 23, 7, 71, 247, 503, 1023, 2047] (fun w' => Ext w175 w') (fun w' w'' => Ext w' w'') mixed (by kernel_rfl) (Ext.drew _) (fun _ _ h h' => h.trans h') ?_ ?_
            · exact relNone (by decide)
            refine ⟨.nilIface, fun _ uw178 hC179 _ => Gives.run rfl (r_move (v := .nilIface) rfl) ⟨rfl, Chg.refl _ _⟩, ?_⟩
            refine ⟨.bool (false), fun _ uw180 hC181 _ => Gives.run rfl (r_neqNN isI27 rfl rfl) ⟨rfl, Chg.refl _ _⟩, ?_⟩
            refine ⟨.bool (false), fun _ uw182 hC183 _ => Gives.run rfl (r_move (v := .bool (false)) rfl) ⟨rfl, Chg.refl _ _⟩, ?_⟩
            refine ⟨.agg #[u64 (((os).getD a3 ot0).p), u64 (((os).getD a3 ot0).q), u64 (((os).getD a3 ot0).r), u64 (((os).getD a3 ot0).s), .bool (((os).getD a3 ot0).ch)], fun _ uw184 hC185 _ => Gives.runW (wantedSome (d' := 108) (b := false) rfl rfl rfl) (r_loadA (cs' := #[u64 (((os).getD a3 ot0).p), u64 (((os).getD a3 ot0).q), u64 (((os).getD a3 ot0).r), u64 (((os).getD a3 ot0).s), .bool (((os).getD a3 ot0).ch)]) agg41 siz41 ((H176'.ext hC185).get (k := 0) rfl) (off := 0) rfl (by exact Nat.le_of_ble_eq_true rfl) (by rfl)) ⟨rfl, Chg.refl _ _⟩, ?_⟩
            refine ⟨.pointer (some ⟨b1, 2, none⟩), fun _ uw186 hC187 _ => Gives.runW (wantedSome (d' := 108) (b := false) rfl rfl rfl) (r_fieldAddr (off' := 2) fld54_2 (by decide) (b := b1) (off := 0) rfl (by omega)) ⟨rfl, Chg.refl _ _⟩, ?_⟩
            refine ⟨.slice oa os.length oc, fun _ uw188 hC189 _ => Gives.runW (wantedSome (d' := 108) (b := false) rfl rfl rfl) (r_loadC (v := .slice oa os.length oc) one50 ((H176'.ext hC189).get (k := 6) rfl) (off := 2) rfl (by rfl)) ⟨rfl, Chg.refl _ _⟩, ?_⟩
            refine ⟨.pointer (some ⟨b5, 2, none⟩), fun _ uw190 hC191 _ => Gives.runW (wantedSome (d' := 108) (b := false) rfl rfl rfl) (r_indexA (off' := 2) (j := 2) arr59 (b := b5) (off := 0) rfl rfl (by first | rfl | omega | (simp; omega)) (by omega) (by omega)) ⟨rfl, Chg.refl _ _⟩, ?_⟩
            refine ⟨i64 ((a3 : Nat)), fun _ uw192 hC193 _ => Gives.runW (wantedSome (d' := 108) (b := false) rfl rfl rfl) (r_ld1 (E := EI) (l := [(a1 : Nat), (a2 : Nat), (a3 : Nat)]) (j := 2) (a := (a3 : Nat)) fits3 ((H176'.ext hC193).get (k := 5) rfl) (by rfl) rfl rfl) ⟨rfl, Chg.refl _ _⟩, ?_⟩
            refine ⟨.pointer (adr oa (a3 * 5)), fun _ uw194 hC195 _ => Gives.runW (wantedSome (d' := 108) (b := false) rfl rfl rfl) (r_idxS (E := EOt) (l := os) (j := a3) sli50 (hO _ (H176'.ext hC195).chg (fun p hp => (H176'.ext hC195).has p (List.mem_cons_of_mem _ (List.mem_cons_of_mem _ (List.mem_cons_of_mem _ (List.mem_cons_of_mem _ (List.mem_cons_of_mem _ (List.mem_cons_of_mem _ (List.mem_cons_of_mem _ (hp)))))))))) rfl rfl (by first | rfl | omega | (simp; omega)) (by rfl) (by omega)) ⟨rfl, Chg.refl _ _⟩, ?_⟩
            refine ⟨.agg #[u64 (((os).getD a3 ot0).p), u64 (((os).getD a3 ot0).q), u64 (((os).getD a3 ot0).r), u64 (((os).getD a3 ot0).s), .bool (((os).getD a3 ot0).ch)], fun _ uw196 hC197 _ => Gives.runW (wantedSome (d' := 108) (b := false) rfl rfl rfl) ((r_ldS (E := EOt) (l := os) (j := a3) (v := (os).getD a3 ot0) fits41 (hO _ (H176'.ext hC197).chg (fun p hp => (H176'.ext hC197).has p (List.mem_cons_of_mem _ (List.mem_cons_of_mem _ (List.mem_cons_of_mem _ (List.mem_cons_of_mem _ (List.mem_cons_of_mem _ (List.mem_cons_of_mem _ (List.mem_cons_of_mem _ (hp)))))))))) rfl rfl (at_getD (by omega))).as (v' := .agg #[u64 (((os).getD a3 ot0).p), u64 (((os).getD a3 ot0).q), u64 (((os).getD a3 ot0).r), u64 (((os).getD a3 ot0).s), .bool (((os).getD a3 ot0).ch)]) rfl) ⟨rfl, Chg.refl _ _⟩, ?_⟩
            refine ⟨.bool (false), fun _ uw198 hC199 _ => Gives.runW (wantedSome (d' := 108) (b := false) rfl rfl rfl) (r_neqSame41 rfl rfl) ⟨rfl, Chg.refl _ _⟩, ?_⟩
            refine ⟨.bool (false), fun _ uw200 hC201 _ => Gives.run rfl (r_pickF (v := .bool (false)) rfl rfl) ⟨rfl, Chg.refl _ _⟩, ?_⟩
            intro r205 w202 hE204 hF
            have H203 := H176'.ext hE204
            refine wnil ?_
            refine thenNormal ?_
            refine condFalse rfl ?_
            refine skipAny ?_
            refine blockNormal ?_
            refine thenNormal ?_
            refine oneRegion ?_
            refine sq (r_move (v := i64 ((2 : Nat))) rfl) ?_
            refine sq (r_indexA (off' := 2) (j := 2) arr59 (b := b5) (off := 0) rfl rfl (by first | rfl | omega | (simp; omega)) (by omega) (by omega)) ?_
            refine sq (r_ld1 (E := EI) (l := [(a1 : Nat), (a2 : Nat), (a3 : Nat)]) (j := 2) (a := (a3 : Nat)) fits3 (H203.get (k := 5) rfl) (by rfl) rfl rfl) ?_
            refine sq ((r_addI (a := (a3 : Nat)) (b := (1 : Int)) rfl rfl (by omega)).as (v' := i64 (((a3 + 1) : Nat))) (by rfl)) ?_
            refine sq (r_indexA (off' := 2) (j := 2) arr59 (b := b5) (off := 0) rfl rfl (by first | rfl | omega | (simp; omega)) (by omega) (by omega)) ?_
            refine d_store (k := 5) (v := i64 (((a3 + 1) : Nat))) (cs' := (cel EI ([(a1 : Nat), (a2 : Nat), ((a3 + 1) : Nat)])).toArray) H203 rfl rfl rfl siz3 (by rfl) (by exact EI.one _) (by rw [List.size_toArray, cel_length]; show _ ≤ _ * 1; first | omega | (simp only [List.length_set]; omega) | exact Nat.le_of_ble_eq_true rfl | (simp <;> omega)) (by exact put1 (E := EI) rfl _ _ _) ?_
            intro w206 H207 hC208
            have H207' := H207.as (L' := ((some b171, .cells #[u64 (((os).getD a3 ot0).p), u64 (((os).getD a3 ot0).q), u64 (((os).getD a3 ot0).r), u64 (((os).getD a3 ot0).s), .bool (((os).getD a3 ot0).ch)] 41 (0, 0)) :: (some b, .cells #[.slice s161.t.a s161.t.l.length s161.t.c, .slice s161.b.a s161.b.l.length s161.b.c, .slice s161.o.a s161.o.l.length s161.o.c] 135 (0, 0)) :: (s161.t.key, sobP ETr 34 s161.t.pre s161.t.l s161.t.sp) :: (s161.b.key, sobP ETr 34 s161.b.pre s161.b.l s161.b.sp) :: (s161.o.key, sobP EOt 41 s161.o.pre s161.o.l s161.o.sp) :: (some b5, .cells (cel EI ([(a1 : Nat), (a2 : Nat), ((a3 + 1) : Nat)])).toArray 59 (0, 0)) :: (some b1, .cells #[.slice ta ts.length tc, .slice ba bs.length bc, .slice oa os.length oc] 54 (0, 0)) :: R)) rfl
            clear H207
            refine wnil ?_
            refine blockNormal ?_
            refine thenNormal ?_
            refine oneRegion ?_
            refine sq (r_move (v := i64 ((zi : Nat))) rfl) ?_
            refine sq (r_addI (a := (zi : Nat)) (b := (1 : Int)) rfl rfl (by omega)) ?_
            refine sq (r_assign (v := i64 ((zi : Nat) + (1 : Int))) rfl) ?_
            refine wnil ?_
            refine thenNormal ?_
            exact ⟨(zi + 1, a1, a2, (a3 + 1), s161), _, rfl, ⟨rfl, rfl, rfl, rfl, rfl, trivial⟩, ⟨⟨by omega, by omega, by omega, by omega, hok163, hf168, hf169, hf170⟩, (H207'.pick 7 [5, 1, 2, 3, 4, 6] (by decide) (by decide))⟩, by show (sc.length + ts.length + bs.length + os.length + 3) - (zi + 1) < (sc.length + ts.length + bs.length + os.length + 3) - zi; omega⟩
          · skip
            refine seqRegion ?_
            refine sq (r_move (v := .pointer (some ⟨b, 0, none⟩)) rfl) ?_
            have := H88.lt (List.mem_of_getElem? (i := 0) rfl) rfl
            have := H88.lt (List.mem_of_getElem? (i := 1) rfl) rfl
            have := H88.lt (List.mem_of_getElem? (i := 5) rfl) rfl
            refine c_call (vs := [.pointer (some ⟨b, 0, none⟩)]) call20 rfl (take2_end b x1 w86 (H88.get (k := 1) rfl) (Chg.gl H88.chg (fun x => x) hG) (by rw [hfox1]; rw [List.length_drop]; omega)) ?_
            rintro _ w210 ⟨⟨v212, rfl, hEr213⟩, hE214⟩
            have H215 := H88.ext hE214
            obtain ⟨T216, x217, rfl⟩ := hEr213.iface
            refine sq (r_move (v := .tuple #[.agg #[u64 (0#64), u64 (0#64), u64 (0#64), u64 (0#64), .bool (false)], .iface T216 (x217)]) rfl) ?_
            refine sq (r_extract (vs := #[.agg #[u64 (0#64), u64 (0#64), u64 (0#64), u64 (0#64), .bool (false)], .iface T216 (x217)]) rfl rfl) ?_
            refine sq (r_extract (vs := #[.agg #[u64 (0#64), u64 (0#64), u64 (0#64), u64 (0#64), .bool (false)], .iface T216 (x217)]) rfl rfl) ?_
            refine q_alloc (o := .cells #[u64 (0#64), u64 (0#64), u64 (0#64), u64 (0#64), .bool (false)] 41 (0, 0)) H215 zer41 (by kernel_rfl) ?_
            intro b218 w219 hb218 H220 hE221
            refine d_store (k := 0) (v := .agg #[u64 (0#64), u64 (0#64), u64 (0#64), u64 (0#64), .bool (false)]) (cs' := #[u64 (0#64), u64 (0#64), u64 (0#64), u64 (0#64), .bool (false)]) H220 rfl rfl rfl siz41 (by rfl) (by intro u hu; simp [Value.cells] at hu; first | (subst hu; rfl) | (rcases hu with rfl | rfl | rfl | rfl | rfl <;> rfl)) (by exact Nat.le_of_ble_eq_true rfl) (by rfl) ?_
            intro w222 H223 hC224
            have H223' := H223.as (L' := ((some b218, .cells #[u64 (0#64), u64 (0#64), u64 (0#64), u64 (0#64), .bool (false)] 41 (0, 0)) :: (some b5, .cells (cel EI ([(a1 : Nat), (a2 : Nat), (a3 : Nat)])).toArray 59 (0, 0)) :: (some b, .cells #[.slice x1.t.a x1.t.l.length x1.t.c, .slice x1.b.a x1.b.l.length x1.b.c, .slice x1.o.a x1.o.l.length x1.o.c] 135 (0, 0)) :: (x1.t.key, sobP ETr 34 x1.t.pre x1.t.l x1.t.sp) :: (x1.b.key, sobP ETr 34 x1.b.pre x1.b.l x1.b.sp) :: (x1.o.key, sobP EOt 41 x1.o.pre x1.o.l x1.o.sp) :: (some b1, .cells #[.slice ta ts.length tc, .slice ba bs.length bc, .slice oa os.length oc] 54 (0, 0)) :: R)) rfl
            clear H223
            refine sq (r_assign (v := .iface T216 (x217)) rfl) ?_
            refine wend ?_
            refine seqAny ?_
            refine seqRegion ?_
            refine sq (r_indexA (off' := 2) (j := 2) arr59 (b := b5) (off := 0) rfl rfl (by first | rfl | omega | (simp; omega)) (by omega) (by omega)) ?_
            refine sq (r_ld1 (E := EI) (l := [(a1 : Nat), (a2 : Nat), (a3 : Nat)]) (j := 2) (a := (a3 : Nat)) fits3 (H223'.get (k := 1) rfl) (by rfl) rfl rfl) ?_
            refine sq (r_fieldAddr (off' := 2) fld54_2 (by decide) (b := b1) (off := 0) rfl (by omega)) ?_
            refine sq (r_loadC (v := .slice oa os.length oc) one50 (H223'.get (k := 6) rfl) (off := 2) rfl (by rfl)) ?_
            refine sq (r_lenS sli50 (a := oa) (m := os.length) (c := oc) rfl) ?_
            refine sq ((r_geqI (a := (a3 : Nat)) (b := (os.length : Nat)) rfl rfl).as (v' := .bool (true)) (by exact congrArg Value.bool (decide_eq_true (by omega)))) ?_
            refine wend ?_
            refine condTrue rfl ?_
            refine seqAny ?_
            refine seqRegion ?_
            refine sq (r_loadA (cs' := #[u64 (0#64), u64 (0#64), u64 (0#64), u64 (0#64), .bool (false)]) agg41 siz41 (H223'.get (k := 0) rfl) (off := 0) rfl (by exact Nat.le_of_ble_eq_true rfl) (by rfl)) ?_
            refine sq (r_build (cs' := #[u64 (0#64), u64 (0#64), u64 (0#64), u64 (0#64), .bool (false)]) (ps := []) zer41 pls41 rfl (by rfl)) ?_
            refine sq (r_neqSame41 rfl rfl) ?_
            refine sq (r_move (v := .bool (false)) rfl) ?_
            refine sqAny (v := .iface T216 (x217)) (w' := w222) (wantedSome (d' := 101) (b := false) rfl rfl rfl) (r_move (v := .iface T216 (x217)) rfl) ?_
            refine caAny (wantedSome (d' := 101) (b := false) rfl rfl rfl) (Enters.callL (vs := [.iface T216 (x217), i64 ((80 : Int))]) call24 rfl) (is_ok 80 (80 : Int) 1 (.iface T216 (x217)) w86.heap.size w222 ((Er.chgs ((Ext.chg (M := fun x => x = b218) hE221).trans (hC224.mono (M' := fun x => x = b218) (fun _ h => by subst h; simp))) (fun x h1 h2 h3 => by have := hE221.size; have := hC224.size; rcases h3 with rfl <;> omega) hEr213))) ?_
            rintro _ w225 ⟨rfl, hE226⟩
            have H227 := H223'.ext hE226
            refine sqAny (v := .bool (false)) (w' := w225) (wantedSome (d' := 101) (b := false) rfl rfl rfl) (r_notT rfl) ?_
            refine sq (r_pickF (v := .bool (false)) rfl rfl) ?_
            refine wend ?_
            refine condFalse rfl ?_
            refine skipAny ?_
            refine thenNormal ?_
            refine exitAny ?_
            refine thenExit ?_
            refine blockOut rfl ?_
            refine thenExit ?_
            refine blockHere ?_
            refine thenNormal ?_
            refine oneRegion ?_
            refine sq (r_move (v := i64 ((zi : Nat))) rfl) ?_
            refine sq (r_addI (a := (zi : Nat)) (b := (1 : Int)) rfl rfl (by omega)) ?_
            refine sq (r_assign (v := i64 ((zi : Nat) + (1 : Int))) rfl) ?_
            refine wnil ?_
            refine thenNormal ?_
            exact ⟨(zi + 1, a1, a2, a3, x1), _, rfl, ⟨rfl, rfl, rfl, rfl, rfl, trivial⟩, ⟨⟨by omega, by omega, by omega, by omega, hkx1, hftx1, hfbx1, hfox1⟩, (H227.dropk 0)⟩, by show (sc.length + ts.length + bs.length + os.length + 3) - (zi + 1) < (sc.length + ts.length + bs.length + os.length + 3) - zi; omega⟩
    · skip
      refine seqRegion ?_
      refine sq (r_move (v := i64 ((zi : Nat))) rfl) ?_
      refine sq (r_move (v := .slice sa sc.length scc) rfl) ?_
      refine sq (r_lenS sli60 (a := sa) (m := sc.length) (c := scc) rfl) ?_
      refine sq (r_lssI (a := (zi : Nat)) (b := (sc.length : Nat)) rfl rfl) ?_
      refine wend ?_
      refine condProp (((zi : Nat) : Int) < (sc.length : Nat)) rfl (fun c44 => ?_) (fun c44 => ?_)
      · skip
        refine oneRegion ?_
        refine sq (r_move (v := .slice sa sc.length scc) rfl) ?_
        refine sq (r_move (v := i64 ((zi : Nat))) rfl) ?_
        refine sq (r_idxS (E := EI) (l := sc) (j := zi) sli60 (hSc.ext HL.chg) rfl rfl (by first | rfl | omega | (simp; omega)) (by rfl) (by omega)) ?_
        refine sq (r_ldS (E := EI) (l := sc) (j := zi) (v := (sc).getD zi 0) fits3 (hSc.ext HL.chg) rfl rfl (at_getD (by omega))) ?_
        refine sq (r_Ito64 und3 und45 (a := (sc).getD zi 0) rfl) ?_
        obtain ⟨kx, hkx, hkx2⟩ := modBig (BitVec.ofInt 64 (sc.getD zi 0)) 3#64 3 (by omega) (by omega) rfl
        refine sq (r_rem64 (a := BitVec.ofInt 64 ((sc).getD zi 0)) (b := 3#64) rfl rfl (by decide)) ?_
        refine sq ((r_64toI und45 und3 (a := (BitVec.ofInt 64 ((sc).getD zi 0)) % (3#64)) rfl).as (v' := i64 ((kx : Nat))) (by exact congrArg i64 hkx)) ?_
        refine sq (r_assign (v := i64 ((kx : Nat))) rfl) ?_
        refine wnil ?_
        refine thenNormal ?_
        exact hj11 kx _ _ ⟨rfl, rfl, rfl, rfl, rfl, rfl, trivial⟩ ⟨by omega, HL⟩
      · skip
        refine skipAny ?_
        refine thenNormal ?_
        exact hj11 (zi % 3) _ _ ⟨rfl, rfl, rfl, rfl, rfl, rfl, trivial⟩ ⟨by omega, HL⟩
  · skip
    refine exitAny ?_
    refine thenExit ?_
    refine thenExit ?_
    refine blockHere ?_
    refine thenNormal ?_
    refine seqRegion ?_
    refine sq (r_assign (v := .bool (true)) rfl) ?_
    refine wend ?_
    refine retAny ?_
    refine retG (rs := [.tmp 6]) (vs := [.bool (true)]) rfl ⟨⟨rfl, rfl⟩, trivial⟩ ?_
    exact ⟨_, rfl, rfl, x1, ((HL.dropk 5).dropk 0)⟩
end Go.Proofs.YteofdmdpaejgaaaDoor.Co
