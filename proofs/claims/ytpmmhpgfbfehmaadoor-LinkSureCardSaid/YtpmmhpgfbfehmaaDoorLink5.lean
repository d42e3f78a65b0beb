/- The walks of the links. -/
import Derived.Test.YtpmmhpgfbfehmaaDoorLink4
namespace Go.Proofs.YtpmmhpgfbfehmaaDoor.Lk
open Go Go.Proofs.YtpmmhpgfbfehmaaDoor.Vc Go.Proofs.YtpmmhpgfbfehmaaDoor.Er
set_option linter.unusedVariables false
theorem siz28 : siz Tryd.prog 28 = some 1 := by kernel_rfl
theorem step_die (b : Nat) (e : En) (F R : List (Option Nat × Obj)) (he : e.ok 5 F) (hF : ∀ x ∈ F, x ∈ R) (w₀ w : World) (H : Hp No w₀ w (endR 30 53 89 b e ++ R)) (hd : isDead e.err = false) (hsi : e.since < 1000000000) (hol : e.o.l.length ≤ 1000000) (hG : Gl w₀) (hq0 : 0 < e.q.fs.length) (hs0 : e.sends = 8) (hs1 : ¬ e.since + 1 < 4) : Calls Tryd.prog 28 [.pointer (some ⟨b, 0, none⟩)].toArray w (Ret fun v w' => ∃ (x : Wy) (e' : En) (lo : Nat), v = .slice (ownA x.key) x.fs.length x.c ∧ x.ok ∧ bss x.fs = acks (abs e).owed ∧ e'.ok 5 F ∧ abs e' = { abs e with owed := [], since := (abs e).since + 1, dead := true } ∧ Er lo w' 70 1 e'.err ∧ Hp No w₀ w' (endR 30 53 89 b e' ++ ((x.key, sob ES 30 (svs x.fs) x.sp) :: (frs 5 x.fs ++ R)))) := by
  have hqc := he.q.sl.cap
  have hcc := he.cm.sl.cap
  rw [svs_len] at hqc hcc
  have he0 := he.live hd
  have H := H.as (L' := ((some b, .cells #[.slice e.q.a e.q.fs.length e.q.c, u32 (e.number), i64 ((e.sends : Nat)), i64 ((e.since : Nat)), u32 (e.want), .slice e.cm.a e.cm.fs.length e.cm.c, .slice (ownA e.o.key) e.o.l.length e.o.c, .nilIface] 89 (0, 0)) :: (e.q.key, sobP ES 30 e.q.pre (svs e.q.fs) e.q.sp) :: (e.cm.key, sobP ES 30 e.cm.pre (svs e.cm.fs) e.cm.sp) :: (e.o.key, sob E32 53 e.o.l e.o.sp) :: R)) (by show endR 30 53 89 b e ++ R = _; unfold endR En.ob; rw [he0]; rfl)
  refine enter (n := 99) Tryd.func28 rfl rfl (Nat.le_of_ble_eq_true rfl) ?_
  refine seqRegion ?_
  refine sq (r_assign (v := .slice none 0 0) rfl) ?_
  refine wend ?_
  refine seqRegion ?_
  refine sq (r_assign (v := .slice none 0 0) rfl) ?_
  refine wend ?_
  refine seqAny ?_
  refine seqRegion ?_
  refine sq (r_move (v := .pointer (some ⟨b, 0, none⟩)) rfl) ?_
  refine sq (r_nilCheck rfl) ?_
  refine sq (r_fieldAddr (off' := 6) fld89_6 (by decide) (b := b) (off := 0) rfl (by omega)) ?_
  refine sq (r_loadC (v := .slice (ownA e.o.key) e.o.l.length e.o.c) one87 (H.get (k := 0) rfl) (off := 6) rfl (by rfl)) ?_
  refine sq (r_lenS sli87 (a := ownA e.o.key) (m := e.o.l.length) (c := e.o.c) rfl) ?_
  refine sq (r_move (v := i64 ((0 : Int))) rfl) ?_
  refine wend ?_
  refine blockAny ?_
  refine loopAny (σ := Nat × Wy) (fun (q, x) => [(0, .pointer (some ⟨b, 0, none⟩)), (3, .slice (ownA x.key) x.fs.length x.c), (9, .slice (ownA e.o.key) e.o.l.length e.o.c), (10, i64 ((e.o.l.length : Nat))), (11, i64 ((q : Nat)))]) (fun (q, x) w' => (q ≤ e.o.l.length ∧ x.ok ∧ bss x.fs = acks (e.o.l.take q)) ∧ Hp No w₀ w' ((x.key, sob ES 30 (svs x.fs) x.sp) :: (some b, .cells #[.slice e.q.a e.q.fs.length e.q.c, u32 (e.number), i64 ((e.sends : Nat)), i64 ((e.since : Nat)), u32 (e.want), .slice e.cm.a e.cm.fs.length e.cm.c, .slice (ownA e.o.key) e.o.l.length e.o.c, .nilIface] 89 (0, 0)) :: (e.q.key, sobP ES 30 e.q.pre (svs e.q.fs) e.q.sp) :: (e.cm.key, sobP ES 30 e.cm.pre (svs e.cm.fs) e.cm.sp) :: (e.o.key, sob E32 53 e.o.l e.o.sp) :: (frs 5 x.fs ++ R))) (fun (q, x) => e.o.l.length - q) ((0, wy0)) ?_ ?_ ?_
  · exact ⟨rfl, rfl, rfl, rfl, rfl, trivial⟩
  · exact ⟨⟨Nat.zero_le _, wy0_ok, rfl⟩, H.nil (sob ES 30 [] [])⟩
  rintro ⟨q, x⟩ ρ w1 ⟨⟨hq, hx, hxb⟩, HL⟩
  have hxl := congrArg List.length hxb
  simp only [bss_len, acks, List.length_map, List.length_take] at hxl
  refine seqRegion ?_
  refine sq (r_lssI (a := (q : Nat)) (b := (e.o.l.length : Nat)) rfl rfl) ?_
  refine wend ?_
  refine seqAny ?_
  refine condProp (((q : Nat) : Int) < (e.o.l.length : Nat)) rfl (fun c12 => ?_) (fun c12 => ?_)
  · skip
    refine skipAny ?_
    refine thenNormal ?_
    refine seqAny ?_
    refine blockAny ?_
    refine seqRegion ?_
    refine sq (r_idxS (E := E32) (l := e.o.l) (j := q) sli87 (HL.rd (k := 4) rfl he.o) rfl rfl (by first | rfl | omega | (simp; omega)) (by rfl) (by omega)) ?_
    refine sq (r_ldS (E := E32) (l := e.o.l) (j := q) (v := (e.o.l).getD q 0#32) fits53 (HL.rd (k := 4) rfl he.o) rfl rfl (at_getD (by omega))) ?_
    refine sq (r_assign (v := u32 ((e.o.l).getD q 0#32)) rfl) ?_
    refine wend ?_
    refine oneRegion ?_
    refine sq (r_move (v := .slice (ownA x.key) x.fs.length x.c) rfl) ?_
    refine sq (r_move (v := u32 ((e.o.l).getD q 0#32)) rfl) ?_
    refine c_call (vs := [u8 (1#8), u32 ((e.o.l).getD q 0#32), .slice none 0 0]) call30 rfl (seal_ok (1#8) ((e.o.l).getD q 0#32) ([]) (by first | omega | exact Nat.le_of_ble_eq_true rfl | (simp; omega)) none 0 0 (by first | rfl | omega | (simp; omega) | (simp at *; omega)) w1 Rd.nil) ?_
    rintro _ w3 ⟨⟨key5, c6, sp7, rfl, hS8, hk9⟩, hE10⟩
    rw [show (sealF (1#8) ((e.o.l).getD q 0#32) ([])).length = (sealF (1#8) ((e.o.l).getD q 0#32) ([])).length from rfl]
    have H11 := HL.add hE10 hk9
    refine q_buildSlice (E := ES) (l := ([⟨ownA key5, (sealF (1#8) ((e.o.l).getD q 0#32) ([])).length, c6⟩] : List SlV)) H11 sli22 zer30 (Nat.le_of_ble_eq_true rfl) (ps := [(0, .slice (ownA key5) ((sealF (1#8) ((e.o.l).getD q 0#32) ([])).length) c6)]) rfl (by exact fillAll rfl rfl) rfl ?_
    intro b12 w14 hS13 H15 hE16
    refine q_append (E := ES) (k := 2) (l := svs x.fs) (l2 := ([⟨ownA key5, (sealF (1#8) ((e.o.l).getD q 0#32) ([])).length, c6⟩] : List SlV)) H15 rfl hx.sl sli22 zer30 rfl byt30 (H15.rd (k := 0) rfl hS13) rfl (by exact (svs_len _).symm) rfl (by rfl) (by omega) ?_
    intro key17 c18 sp19 w21 hS20 hne23 H22
    have H22' := H22.as (L' := (((some b12), sob ES 30 ([⟨ownA key5, (sealF (1#8) ((e.o.l).getD q 0#32) ([])).length, c6⟩] : List SlV) ([])) :: (key5, sob E8 5 (sealF (1#8) ((e.o.l).getD q 0#32) ([])) sp7) :: (key17, sob ES 30 ((svs x.fs) ++ ([⟨ownA key5, (sealF (1#8) ((e.o.l).getD q 0#32) ([])).length, c6⟩] : List SlV)) sp19) :: (some b, .cells #[.slice e.q.a e.q.fs.length e.q.c, u32 (e.number), i64 ((e.sends : Nat)), i64 ((e.since : Nat)), u32 (e.want), .slice e.cm.a e.cm.fs.length e.cm.c, .slice (ownA e.o.key) e.o.l.length e.o.c, .nilIface] 89 (0, 0)) :: (e.q.key, sobP ES 30 e.q.pre (svs e.q.fs) e.q.sp) :: (e.cm.key, sobP ES 30 e.cm.pre (svs e.cm.fs) e.cm.sp) :: (e.o.key, sob E32 53 e.o.l e.o.sp) :: (frs 5 x.fs ++ R))) rfl
    clear H22
    refine sq (r_assign (v := .slice (ownA key17) (x.fs.length + 1) c18) rfl) ?_
    refine wnil ?_
    refine blockNormal ?_
    refine thenNormal ?_
    refine oneRegion ?_
    refine sq (r_addI (a := (q : Nat)) (b := (1 : Int)) rfl rfl (by omega)) ?_
    refine sq (r_move (v := i64 ((q : Nat) + (1 : Int))) rfl) ?_
    refine wnil ?_
    refine thenNormal ?_
    have hfam24 := ((H22'.dropk 0)).intoFs5 (f := (⟨key5, sealF (1#8) ((e.o.l).getD q 0#32) ([]), c6, sp7⟩ : Fr)) (T := 5)
    have hx2 : Wy.ok (⟨key17, c18, sp19, x.fs ++ [(⟨key5, sealF (1#8) ((e.o.l).getD q 0#32) ([]), c6, sp7⟩ : Fr)]⟩ : Wy) := ⟨by dsimp only; rw [svs_snoc]; exact hS20, fun g hg => by rcases (List.mem_append.1 hg).imp_right List.mem_singleton.1 with hg | rfl <;> first | exact hx.each _ hg | exact hS8⟩
    have hl2 : (x.fs ++ [(⟨key5, sealF (1#8) ((e.o.l).getD q 0#32) ([]), c6, sp7⟩ : Fr)]).length = x.fs.length + 1 := by rw [List.length_append]; rfl
    exact ⟨(q + 1, (⟨key17, c18, sp19, x.fs ++ [(⟨key5, sealF (1#8) ((e.o.l).getD q 0#32) ([]), c6, sp7⟩ : Fr)]⟩ : Wy)), _, rfl, ⟨rfl, by dsimp only; rw [hl2]; rfl, rfl, rfl, rfl, trivial⟩, ⟨⟨by omega, hx2, by dsimp only; rw [bss_snoc, hxb, acks_take (by omega)]⟩, by dsimp only; rw [svs_snoc]; exact hfam24⟩, by show e.o.l.length - (q + 1) < e.o.l.length - q; omega⟩
  · skip
    obtain rfl : q = e.o.l.length := by omega
    rw [acks_all] at hxb
    refine exitAny ?_
    refine thenExit ?_
    refine thenExit ?_
    refine blockHere ?_
    refine thenNormal ?_
    refine seqRegion ?_
    refine sq (r_move (v := .pointer (some ⟨b, 0, none⟩)) rfl) ?_
    refine sq (r_nilCheck rfl) ?_
    refine sq (r_fieldAddr (off' := 6) fld89_6 (by decide) (b := b) (off := 0) rfl (by omega)) ?_
    refine d_store (k := 1) (v := .slice none 0 0) (cs' := #[.slice e.q.a e.q.fs.length e.q.c, u32 (e.number), i64 ((e.sends : Nat)), i64 ((e.since : Nat)), u32 (e.want), .slice e.cm.a e.cm.fs.length e.cm.c, .slice none 0 0, .nilIface]) HL rfl rfl rfl siz87 (by rfl) (by intro u hu; simp [Value.cells] at hu; first | (subst hu; rfl) | (rcases hu with rfl <;> rfl)) (by exact Nat.le_of_ble_eq_true rfl) (by rfl) ?_
    intro w25 H26 hC27
    have H26' := H26.as (L' := ((x.key, sob ES 30 (svs x.fs) x.sp) :: (some b, .cells #[.slice e.q.a e.q.fs.length e.q.c, u32 (e.number), i64 ((e.sends : Nat)), i64 ((e.since : Nat)), u32 (e.want), .slice e.cm.a e.cm.fs.length e.cm.c, .slice none 0 0, .nilIface] 89 (0, 0)) :: (e.q.key, sobP ES 30 e.q.pre (svs e.q.fs) e.q.sp) :: (e.cm.key, sobP ES 30 e.cm.pre (svs e.cm.fs) e.cm.sp) :: (e.o.key, sob E32 53 e.o.l e.o.sp) :: (frs 5 x.fs ++ R))) rfl
    clear H26
    refine wend ?_
    refine seqRegion ?_
    refine sq (r_move (v := .pointer (some ⟨b, 0, none⟩)) rfl) ?_
    refine sq (r_nilCheck rfl) ?_
    refine sq (r_fieldAddr (off' := 3) fld89_3 (by decide) (b := b) (off := 0) rfl (by omega)) ?_
    refine sq (r_loadC (v := i64 ((e.since : Nat))) one3 (H26'.get (k := 1) rfl) (off := 3) rfl (by rfl)) ?_
    refine sq (r_addI (a := (e.since : Nat)) (b := (1 : Int)) rfl rfl (by omega)) ?_
    refine sq (r_nilCheck rfl) ?_
    refine sq (r_fieldAddr (off' := 3) fld89_3 (by decide) (b := b) (off := 0) rfl (by omega)) ?_
    refine d_store (k := 1) (v := i64 ((e.since : Nat) + (1 : Int))) (cs' := #[.slice e.q.a e.q.fs.length e.q.c, u32 (e.number), i64 ((e.sends : Nat)), i64 ((e.since : Nat) + (1 : Int)), u32 (e.want), .slice e.cm.a e.cm.fs.length e.cm.c, .slice none 0 0, .nilIface]) H26' rfl rfl rfl siz3 (by rfl) (by exact EI.one _) (by exact Nat.le_of_ble_eq_true rfl) (by rfl) ?_
    intro w28 H29 hC30
    have H29' := H29.as (L' := ((x.key, sob ES 30 (svs x.fs) x.sp) :: (some b, .cells #[.slice e.q.a e.q.fs.length e.q.c, u32 (e.number), i64 ((e.sends : Nat)), i64 ((e.since : Nat) + (1 : Int)), u32 (e.want), .slice e.cm.a e.cm.fs.length e.cm.c, .slice none 0 0, .nilIface] 89 (0, 0)) :: (e.q.key, sobP ES 30 e.q.pre (svs e.q.fs) e.q.sp) :: (e.cm.key, sobP ES 30 e.cm.pre (svs e.cm.fs) e.cm.sp) :: (e.o.key, sob E32 53 e.o.l e.o.sp) :: (frs 5 x.fs ++ R))) rfl
    clear H29
    refine wend ?_
    refine seqAny ?_
    refine blockAny ?_
    refine seqAny ?_
    refine seqRegion ?_
    refine sq (r_move (v := .pointer (some ⟨b, 0, none⟩)) rfl) ?_
    refine sq (r_nilCheck rfl) ?_
    refine sq (r_fieldAddr (off' := 7) fld89_7 (by decide) (b := b) (off := 0) rfl (by omega)) ?_
    refine sq (r_loadC (v := .nilIface) one28 (H29'.get (k := 1) rfl) (off := 7) rfl (by rfl)) ?_
    refine sq (r_neqNN isI28 rfl rfl) ?_
    refine sq (r_move (v := .bool (false)) rfl) ?_
    refine sqAny (v := .pointer (some ⟨b, 0, none⟩)) (w' := w28) (wantedSome (d' := 37) (b := false) rfl rfl rfl) (r_move (v := .pointer (some ⟨b, 0, none⟩)) rfl) ?_
    refine sqAny (v := .pointer (some ⟨b, 0, none⟩)) (w' := w28) (wantedSome (d' := 37) (b := false) rfl rfl rfl) (r_nilCheck rfl) ?_
    refine sqAny (v := .pointer (some ⟨b, 0, none⟩)) (w' := w28) (wantedSome (d' := 37) (b := false) rfl rfl rfl) (r_fieldAddr (off' := 0) fld89_0 (by decide) (b := b) (off := 0) rfl (by omega)) ?_
    refine sqAny (v := .slice e.q.a e.q.fs.length e.q.c) (w' := w28) (wantedSome (d' := 37) (b := false) rfl rfl rfl) (r_loadC (v := .slice e.q.a e.q.fs.length e.q.c) one22 (H29'.get (k := 1) rfl) (off := 0) rfl (by rfl)) ?_
    refine sqAny (v := i64 ((e.q.fs.length : Nat))) (w' := w28) (wantedSome (d' := 37) (b := false) rfl rfl rfl) (r_lenS sli22 (a := e.q.a) (m := e.q.fs.length) (c := e.q.c) rfl) ?_
    refine sqAny (v := .bool (false)) (w' := w28) (wantedSome (d' := 37) (b := false) rfl rfl rfl) ((r_eqlI (a := (e.q.fs.length : Nat)) (b := (0 : Int)) rfl rfl).as (v' := .bool (false)) (by exact congrArg Value.bool (decide_eq_false (by omega)))) ?_
    refine sq (r_pickF (v := .bool (false)) rfl rfl) ?_
    refine sq (r_assign (v := .bool (false)) rfl) ?_
    refine wend ?_
    refine condFalse rfl ?_
    refine oneRegion ?_
    refine sq (r_move (v := .pointer (some ⟨b, 0, none⟩)) rfl) ?_
    refine sq (r_nilCheck rfl) ?_
    refine sq (r_fieldAddr (off' := 2) fld89_2 (by decide) (b := b) (off := 0) rfl (by omega)) ?_
    refine sq (r_loadC (v := i64 ((e.sends : Nat))) one3 (H29'.get (k := 1) rfl) (off := 2) rfl (by rfl)) ?_
    refine sq ((r_gtrI (a := (e.sends : Nat)) (b := (0 : Int)) rfl rfl).as (v' := .bool (true)) (by exact congrArg Value.bool (decide_eq_true (by omega)))) ?_
    refine sq (r_move (v := .bool (true)) rfl) ?_
    refine sqAny (v := .pointer (some ⟨b, 0, none⟩)) (w' := w28) (wantedSome (d' := 50) (b := true) rfl rfl rfl) (r_move (v := .pointer (some ⟨b, 0, none⟩)) rfl) ?_
    refine sqAny (v := .pointer (some ⟨b, 0, none⟩)) (w' := w28) (wantedSome (d' := 50) (b := true) rfl rfl rfl) (r_nilCheck rfl) ?_
    refine sqAny (v := .pointer (some ⟨b, 3, none⟩)) (w' := w28) (wantedSome (d' := 50) (b := true) rfl rfl rfl) (r_fieldAddr (off' := 3) fld89_3 (by decide) (b := b) (off := 0) rfl (by omega)) ?_
    refine sqAny (v := i64 ((e.since : Nat) + (1 : Int))) (w' := w28) (wantedSome (d' := 50) (b := true) rfl rfl rfl) (r_loadC (v := i64 ((e.since : Nat) + (1 : Int))) one3 (H29'.get (k := 1) rfl) (off := 3) rfl (by rfl)) ?_
    refine sqAny (v := .bool (false)) (w' := w28) (wantedSome (d' := 50) (b := true) rfl rfl rfl) ((r_lssI (a := (e.since : Nat) + (1 : Int)) (b := (4 : Int)) rfl rfl).as (v' := .bool (false)) (by exact congrArg Value.bool (decide_eq_false (by omega)))) ?_
    refine sq (r_pickT (u := .bool (false)) rfl rfl) ?_
    refine sq (r_assign (v := .bool (false)) rfl) ?_
    refine wnil ?_
    refine thenNormal ?_
    refine condFalse rfl ?_
    refine seqRegion ?_
    refine sq (r_move (v := .pointer (some ⟨b, 0, none⟩)) rfl) ?_
    refine sq (r_nilCheck rfl) ?_
    refine sq (r_fieldAddr (off' := 2) fld89_2 (by decide) (b := b) (off := 0) rfl (by omega)) ?_
    refine sq (r_loadC (v := i64 ((e.sends : Nat))) one3 (H29'.get (k := 1) rfl) (off := 2) rfl (by rfl)) ?_
    refine sq ((r_eqlI (a := (e.sends : Nat)) (b := (8 : Int)) rfl rfl).as (v' := .bool (true)) (by exact congrArg Value.bool (decide_eq_true (by omega)))) ?_
    refine sq (r_assign (v := .bool (true)) rfl) ?_
    refine wend ?_
    refine condTrue rfl ?_
    refine seqRegion ?_
    refine sq (r_move (v := .pointer (some ⟨b, 0, none⟩)) rfl) ?_
    refine sq (r_mkI und36 (xv := i64 ((70 : Int))) rfl) ?_
    refine sq (r_move (v := .pointer (some ⟨b, 0, none⟩)) rfl) ?_
    refine sq (r_nilCheck rfl) ?_
    refine sq (r_fieldAddr (off' := 1) fld89_1 (by decide) (b := b) (off := 0) rfl (by omega)) ?_
    refine sq (r_loadC (v := u32 (e.number)) one53 (H29'.get (k := 1) rfl) (off := 1) rfl (by rfl)) ?_
    refine sq (r_32toI und53 und3 (a := e.number) rfl) ?_
    have := H29'.lt (List.mem_of_getElem? (i := 1) rfl) rfl
    refine c_call (vs := [.iface 36 (i64 ((70 : Int))), .string ({data := #[108, 105, 110, 107]}), i64 ((e.number.toNat : Nat))]) call41 rfl (wrap0_ok (70 : Int) (e.number.toNat : Nat) ({data := #[108, 105, 110, 107]}) w28 (Chg.gl H29'.chg (fun x => x) hG)) ?_
    rintro v33 w31 ⟨hEr34, hE35⟩
    have H36 := H29'.ext hE35
    obtain ⟨T37, x38, rfl⟩ := hEr34.iface
    refine sq (r_nilCheck rfl) ?_
    refine sq (r_fieldAddr (off' := 7) fld89_7 (by decide) (b := b) (off := 0) rfl (by omega)) ?_
    refine d_store (k := 1) (v := .iface T37 (x38)) (cs' := #[.slice e.q.a e.q.fs.length e.q.c, u32 (e.number), i64 ((e.sends : Nat)), i64 ((e.since : Nat) + (1 : Int)), u32 (e.want), .slice e.cm.a e.cm.fs.length e.cm.c, .slice none 0 0, .iface T37 (x38)]) H36 rfl rfl rfl siz28 (by rfl) (by intro u hu; simp [Value.cells] at hu; first | (subst hu; rfl) | (rcases hu with rfl <;> rfl)) (by exact Nat.le_of_ble_eq_true rfl) (by rfl) ?_
    intro w39 H40 hC41
    have H40' := H40.as (L' := ((x.key, sob ES 30 (svs x.fs) x.sp) :: (some b, .cells #[.slice e.q.a e.q.fs.length e.q.c, u32 (e.number), i64 ((e.sends : Nat)), i64 ((e.since : Nat) + (1 : Int)), u32 (e.want), .slice e.cm.a e.cm.fs.length e.cm.c, .slice none 0 0, .iface T37 (x38)] 89 (0, 0)) :: (e.q.key, sobP ES 30 e.q.pre (svs e.q.fs) e.q.sp) :: (e.cm.key, sobP ES 30 e.cm.pre (svs e.cm.fs) e.cm.sp) :: (e.o.key, sob E32 53 e.o.l e.o.sp) :: (frs 5 x.fs ++ R))) rfl
    clear H40
    refine wend ?_
    refine seqRegion ?_
    refine sq (r_move (v := .slice (ownA x.key) x.fs.length x.c) rfl) ?_
    refine sq (r_assign (v := .slice (ownA x.key) x.fs.length x.c) rfl) ?_
    refine wend ?_
    refine retAny ?_
    refine blockRet ?_
    refine thenRet ?_
    refine retG (rs := [.tmp 2]) (vs := [.slice (ownA x.key) x.fs.length x.c]) rfl ⟨⟨rfl, rfl⟩, trivial⟩ ?_
    have hfin := ((Hp.sink4 (H40')).newO (sob E32 53 [] []))
    exact ⟨_, rfl, x, { e with o := ow0, sends := e.sends, since := e.since + 1, err := .iface T37 (x38) }, _, rfl, hx, hxb, En.okStep he _ _ (.inr ⟨_, _, rfl⟩), rfl, (Er.chgs (hC41.mono (M' := fun x => x = b) (fun _ h => by subst h; simp)) (fun x h1 h2 h3 => by have := hC41.size; rcases h3 with rfl <;> omega) hEr34), hfin⟩

theorem step_any (b : Nat) (e : En) (F R : List (Option Nat × Obj)) (he : e.ok 5 F) (hF : ∀ x ∈ F, x ∈ R) (w₀ w : World) (H : Hp No w₀ w (endR 30 53 89 b e ++ R)) (hG : Gl w₀) (hsi : e.since < 1000000000) (hol : e.o.l.length ≤ 1000000) (hs8 : e.sends ≤ 8) : Calls Tryd.prog 28 [.pointer (some ⟨b, 0, none⟩)].toArray w (Ret fun v w' => ∃ (x : Wy) (e' : En), v = .slice (ownA x.key) x.fs.length x.c ∧ x.ok ∧ bss x.fs = (stepS (abs e)).2 ∧ e'.ok 5 F ∧ abs e' = (stepS (abs e)).1 ∧ Hp No w₀ w' (endR 30 53 89 b e' ++ ((x.key, sob ES 30 (svs x.fs) x.sp) :: (frs 5 x.fs ++ R)))) := by
  have hlq : (abs e).queue.length = e.q.fs.length := bss_len _
  by_cases hd : isDead e.err = true
  · have h : stepS (abs e) = ({ abs e with owed := [], since := (abs e).since + 1 }, acks (abs e).owed) := if_pos (.inl hd)
    rw [h]; exact step_dead b e F R he hF w₀ w H hd hsi hol
  have hd : isDead e.err = false := by simpa using hd
  by_cases hq0 : e.q.fs.length = 0
  · have h : stepS (abs e) = ({ abs e with owed := [], since := (abs e).since + 1 }, acks (abs e).owed) := if_pos (.inr (.inl (by rw [hlq]; exact hq0)))
    rw [h]; exact step_idle b e F R he hF w₀ w H hd hsi hol hq0
  by_cases hw : 0 < e.sends ∧ e.since + 1 < 4
  · have h : stepS (abs e) = ({ abs e with owed := [], since := (abs e).since + 1 }, acks (abs e).owed) := if_pos (.inr (.inr hw))
    rw [h]; exact step_wait b e F R he hF w₀ w H hd hsi hol (by omega) hw.1 hw.2
  have hn : ¬ ((abs e).dead = true ∨ (abs e).queue.length = 0 ∨ (0 < (abs e).sends ∧ (abs e).since + 1 < 4)) := by
    rintro (h | h | h)
    · rw [show (abs e).dead = isDead e.err from rfl, hd] at h; cases h
    · rw [hlq] at h; exact hq0 h
    · exact hw h
  by_cases h8 : e.sends = 8
  · have h : stepS (abs e) = ({ abs e with owed := [], since := (abs e).since + 1, dead := true }, acks (abs e).owed) := (if_neg hn).trans (if_pos h8)
    rw [h]
    refine (step_die b e F R he hF w₀ w H hd hsi hol hG (by omega) h8 (fun h => hw ⟨by omega, h⟩)).mono ?_
    rintro _ _ ⟨v, h1, x, e', lo, h2, h3, h4, h5, h6, _, h7⟩
    exact ⟨v, h1, x, e', h2, h3, h4, h5, h6, h7⟩
  obtain ⟨f0, hf0⟩ : ∃ f0, e.q.fs[0]? = some f0 := ⟨_, List.getElem?_eq_getElem (by omega)⟩
  have hg : (abs e).queue.getD 0 [] = f0.bs := bss_get hf0
  have h : stepS (abs e) = ({ abs e with owed := [], since := 0, sends := (abs e).sends + 1 }, acks (abs e).owed ++ [sealF 0#8 (abs e).number f0.bs]) := by rw [← hg]; exact (if_neg hn).trans (if_neg h8)
  rw [h]
  by_cases hs0 : e.sends = 0
  · exact step_send0 b e F R he hF w₀ w H hd hsi hol f0 hf0 hs0
  · exact step_sendR b e F R he hF w₀ w H hd hsi hol f0 hf0 (by omega) (fun h => hw ⟨by omega, h⟩) (by omega)

theorem hear_any (b : Nat) (e : En) (F R : List (Option Nat × Obj)) (he : e.ok 5 F) (hF : ∀ x ∈ F, x ∈ R) (w₀ w : World) (H : Hp No w₀ w (endR 30 53 89 b e ++ R)) (fb : List (BitVec 8)) (a0 : Option Addr) (n0 c0 : Nat) (hn0 : n0 = fb.length) (hfc : fb.length ≤ c0) (hfb : fb.length ≤ 1099511627776) (hW : Rd E8 w a0 fb) (ho : e.o.l.length ≤ 1000000) (hcl : e.cm.fs.length ≤ 1000000) : Calls Tryd.prog 27 [.pointer (some ⟨b, 0, none⟩), .slice a0 n0 c0].toArray w (Ret fun v w' => v = .bool (hearS (abs e) fb).2 ∧ ∃ (e' : En) (X : List (Option Nat × Obj)), Hp No w₀ w' (endR 30 53 89 b e' ++ (X ++ R)) ∧ e'.ok 5 (X ++ F) ∧ abs e' = (hearS (abs e) fb).1) := by
  have hlq : (abs e).queue.length = e.q.fs.length := bss_len _
  have hb : w.heap[b]? = some (e.ob 89) := H.get (k := 0) rfl
  cases hopn : opn fb with
  | none =>
    have h : hearS (abs e) fb = (abs e, false) := by simp only [hearS, hopn]
    rw [h]; exact (hear_bad b fb a0 n0 c0 hn0 hfc hfb w hW hopn).mono (fun _ _ ⟨v, h1, h2, h3⟩ => ⟨v, h1, h2, e, [], H.ext h3, he, rfl⟩)
  | some t =>
    obtain ⟨k, n, p⟩ := t
    by_cases h0 : k = 0#8
    · subst h0
      by_cases h1 : n = e.want
      · have h : hearS (abs e) fb = ({ abs e with came := (abs e).came ++ [p], want := e.want + 1#32, owed := (abs e).owed ++ [n] }, true) := by
          simp only [hearS, hopn]; exact if_pos ⟨trivial, h1⟩
        rw [h]; exact hear_new b e F R he hF w₀ w H fb a0 n0 c0 hn0 hfc hfb hW n p hopn h1 ho hcl
      · by_cases h2 : n.toNat < e.want.toNat
        · have h : hearS (abs e) fb = ({ abs e with owed := (abs e).owed ++ [n] }, true) := by
            simp only [hearS, hopn]; exact (if_neg fun h => h1 h.2).trans (if_pos ⟨trivial, h2⟩)
          rw [h]; exact hear_old b e F R he hF w₀ w H fb a0 n0 c0 hn0 hfc hfb hW n p hopn h1 h2 ho
        · have h : hearS (abs e) fb = (abs e, true) := by
            simp only [hearS, hopn]; exact (if_neg fun h => h1 h.2).trans ((if_neg fun h => h2 h.2).trans (if_neg fun h => absurd h.1 (by decide)))
          rw [h]; exact (hear_r1 b e fb a0 n0 c0 hn0 hfc hfb w hb hW n p hopn h1 h2).mono (fun _ _ ⟨v, h1, h2, h3⟩ => ⟨v, h1, h2, e, [], H.ext h3, he, rfl⟩)
    by_cases h1 : k = 1#8
    · subst h1
      have hn1 : ∀ (A B : St × Bool) (c : Prop) [Decidable c], (if 1#8 = 0#8 ∧ c then A else B) = B := fun A B c _ => if_neg fun h => absurd h.1 (by decide)
      by_cases h2 : n = e.number ∧ 0 < e.sends ∧ 0 < e.q.fs.length
      · have h : hearS (abs e) fb = ({ abs e with queue := (abs e).queue.drop 1, number := e.number + 1#32, sends := 0, since := 0 }, true) := by
          simp only [hearS, hopn]; rw [hn1, hn1]; exact if_pos ⟨trivial, h2.1, h2.2.1, by rw [hlq]; exact h2.2.2⟩
        rw [h]; exact hear_ack b e F R he hF w₀ w H fb a0 n0 c0 hn0 hfc hfb hW n p hopn h2.1 h2.2.1 h2.2.2
      · have h : hearS (abs e) fb = (abs e, true) := by
          simp only [hearS, hopn]; rw [hn1, hn1]; exact if_neg fun h => h2 ⟨h.2.1, h.2.2.1, by rw [← hlq]; exact h.2.2.2⟩
        rw [h]
        by_cases h3 : n = e.number
        · by_cases h4 : 0 < e.sends
          · exact (hear_r5 b e fb a0 n0 c0 hn0 hfc hfb w hb hW n p hopn h3 h4 (fun h => h2 ⟨h3, h4, h⟩)).mono (fun _ _ ⟨v, h1, h2, h3⟩ => ⟨v, h1, h2, e, [], H.ext h3, he, rfl⟩)
          · exact (hear_r4 b e fb a0 n0 c0 hn0 hfc hfb w hb hW n p hopn h3 h4).mono (fun _ _ ⟨v, h1, h2, h3⟩ => ⟨v, h1, h2, e, [], H.ext h3, he, rfl⟩)
        · exact (hear_r3 b e fb a0 n0 c0 hn0 hfc hfb w hb hW n p hopn h3).mono (fun _ _ ⟨v, h1, h2, h3⟩ => ⟨v, h1, h2, e, [], H.ext h3, he, rfl⟩)
    · have h : hearS (abs e) fb = (abs e, true) := by
        simp only [hearS, hopn]; exact (if_neg fun h => h0 h.1).trans ((if_neg fun h => h0 h.1).trans (if_neg fun h => h1 h.1))
      rw [h]; exact (hear_r2 b e fb a0 n0 c0 hn0 hfc hfb w hb hW k n p hopn h0 h1).mono (fun _ _ ⟨v, h1, h2, h3⟩ => ⟨v, h1, h2, e, [], H.ext h3, he, rfl⟩)
end Go.Proofs.YtpmmhpgfbfehmaaDoor.Lk
