/- The walks of the links. -/
import Derived.Test.YtpmmhpgfbfehmaaDoorLink3
namespace Go.Proofs.YtpmmhpgfbfehmaaDoor.Lk
open Go Go.Proofs.YtpmmhpgfbfehmaaDoor.Vc Go.Proofs.YtpmmhpgfbfehmaaDoor.Er
set_option linter.unusedVariables false
theorem call30 : callable Tryd.prog 30 = true := by kernel_rfl
theorem fits53 : Fits Tryd.prog 53 E32 := fits32 (by kernel_rfl) (by kernel_rfl)
theorem step_dead (b : Nat) (e : En) (F R : List (Option Nat × Obj)) (he : e.ok 5 F) (hF : ∀ x ∈ F, x ∈ R) (w₀ w : World) (H : Hp No w₀ w (endR 30 53 89 b e ++ R)) (hd : isDead e.err = true) (hsi : e.since < 1000000000) (hol : e.o.l.length ≤ 1000000)  : Calls Tryd.prog 28 [.pointer (some ⟨b, 0, none⟩)].toArray w (Ret fun v w' => ∃ (x : Wy) (e' : En), v = .slice (ownA x.key) x.fs.length x.c ∧ x.ok ∧ bss x.fs = acks (abs e).owed ∧ e'.ok 5 F ∧ abs e' = { abs e with owed := [], since := (abs e).since + 1 } ∧ Hp No w₀ w' (endR 30 53 89 b e' ++ ((x.key, sob ES 30 (svs x.fs) x.sp) :: (frs 5 x.fs ++ R)))) := by
  have hqc := he.q.sl.cap
  have hcc := he.cm.sl.cap
  rw [svs_len] at hqc hcc
  obtain ⟨TE, xe, he0⟩ := he.gone hd
  have H := H.as (L' := ((some b, .cells #[.slice e.q.a e.q.fs.length e.q.c, u32 (e.number), i64 ((e.sends : Nat)), i64 ((e.since : Nat)), u32 (e.want), .slice e.cm.a e.cm.fs.length e.cm.c, .slice (ownA e.o.key) e.o.l.length e.o.c, .iface TE (xe)] 89 (0, 0)) :: (e.q.key, sobP ES 30 e.q.pre (svs e.q.fs) e.q.sp) :: (e.cm.key, sobP ES 30 e.cm.pre (svs e.cm.fs) e.cm.sp) :: (e.o.key, sob E32 53 e.o.l e.o.sp) :: R)) (by show endR 30 53 89 b e ++ R = _; unfold endR En.ob; rw [he0]; rfl)
  refine enter (n := 99) Tryd.func28 rfl rfl (Nat.le_of_ble_eq_true rfl) ?_
  refine seqRegion ?_
  refine sq (r_assign (v := .slice none 0 0) rfl) ?_
  refine wend ?_
  refine seqRegion ?_
  refine sq (r_assign (v := .slice none 0 0) rfl) ?_
  refine wend ?_
  refine seqAny ?_
  refine seqRegion ?_
  refine sq (r_move (v := .pointer (some ⟨b, 0, none⟩)) rfl) ?_
  refine sq (r_nilCheck rfl) ?_
  refine sq (r_fieldAddr (off' := 6) fld89_6 (by decide) (b := b) (off := 0) rfl (by omega)) ?_
  refine sq (r_loadC (v := .slice (ownA e.o.key) e.o.l.length e.o.c) one87 (H.get (k := 0) rfl) (off := 6) rfl (by rfl)) ?_
  refine sq (r_lenS sli87 (a := ownA e.o.key) (m := e.o.l.length) (c := e.o.c) rfl) ?_
  refine sq (r_move (v := i64 ((0 : Int))) rfl) ?_
  refine wend ?_
  refine blockAny ?_
  refine loopAny (σ := Nat × Wy) (fun (q, x) => [(0, .pointer (some ⟨b, 0, none⟩)), (3, .slice (ownA x.key) x.fs.length x.c), (9, .slice (ownA e.o.key) e.o.l.length e.o.c), (10, i64 ((e.o.l.length : Nat))), (11, i64 ((q : Nat)))]) (fun (q, x) w' => (q ≤ e.o.l.length ∧ x.ok ∧ bss x.fs = acks (e.o.l.take q)) ∧ Hp No w₀ w' ((x.key, sob ES 30 (svs x.fs) x.sp) :: (some b, .cells #[.slice e.q.a e.q.fs.length e.q.c, u32 (e.number), i64 ((e.sends : Nat)), i64 ((e.since : Nat)), u32 (e.want), .slice e.cm.a e.cm.fs.length e.cm.c, .slice (ownA e.o.key) e.o.l.length e.o.c, .iface TE (xe)] 89 (0, 0)) :: (e.q.key, sobP ES 30 e.q.pre (svs e.q.fs) e.q.sp) :: (e.cm.key, sobP ES 30 e.cm.pre (svs e.cm.fs) e.cm.sp) :: (e.o.key, sob E32 53 e.o.l e.o.sp) :: (frs 5 x.fs ++ R))) (fun (q, x) => e.o.l.length - q) ((0, wy0)) ?_ ?_ ?_
  · exact ⟨rfl, rfl, rfl, rfl, rfl, trivial⟩
  · exact ⟨⟨Nat.zero_le _, wy0_ok, rfl⟩, H.nil (sob ES 30 [] [])⟩
  rintro ⟨q, x⟩ ρ w1 ⟨⟨hq, hx, hxb⟩, HL⟩
  have hxl := congrArg List.length hxb
  simp only [bss_len, acks, List.length_map, List.length_take] at hxl
  refine seqRegion ?_
  refine sq (r_lssI (a := (q : Nat)) (b := (e.o.l.length : Nat)) rfl rfl) ?_
  refine wend ?_
  refine seqAny ?_
  refine condProp (((q : Nat) : Int) < (e.o.l.length : Nat)) rfl (fun c12 => ?_) (fun c12 => ?_)
  · skip
    refine skipAny ?_
    refine thenNormal ?_
    refine seqAny ?_
    refine blockAny ?_
    refine seqRegion ?_
    refine sq (r_idxS (E := E32) (l := e.o.l) (j := q) sli87 (HL.rd (k := 4) rfl he.o) rfl rfl (by first | rfl | omega | (simp; omega)) (by rfl) (by omega)) ?_
    refine sq (r_ldS (E := E32) (l := e.o.l) (j := q) (v := (e.o.l).getD q 0#32) fits53 (HL.rd (k := 4) rfl he.o) rfl rfl (at_getD (by omega))) ?_
    refine sq (r_assign (v := u32 ((e.o.l).getD q 0#32)) rfl) ?_
    refine wend ?_
    refine oneRegion ?_
    refine sq (r_move (v := .slice (ownA x.key) x.fs.length x.c) rfl) ?_
    refine sq (r_move (v := u32 ((e.o.l).getD q 0#32)) rfl) ?_
    refine c_call (vs := [u8 (1#8), u32 ((e.o.l).getD q 0#32), .slice none 0 0]) call30 rfl (seal_ok (1#8) ((e.o.l).getD q 0#32) ([]) (by first | omega | exact Nat.le_of_ble_eq_true rfl | (simp; omega)) none 0 0 (by first | rfl | omega | (simp; omega) | (simp at *; omega)) w1 Rd.nil) ?_
    rintro _ w3 ⟨⟨key5, c6, sp7, rfl, hS8, hk9⟩, hE10⟩
    rw [show (sealF (1#8) ((e.o.l).getD q 0#32) ([])).length = (sealF (1#8) ((e.o.l).getD q 0#32) ([])).length from rfl]
    have H11 := HL.add hE10 hk9
    refine q_buildSlice (E := ES) (l := ([⟨ownA key5, (sealF (1#8) ((e.o.l).getD q 0#32) ([])).length, c6⟩] : List SlV)) H11 sli22 zer30 (Nat.le_of_ble_eq_true rfl) (ps := [(0, .slice (ownA key5) ((sealF (1#8) ((e.o.l).getD q 0#32) ([])).length) c6)]) rfl (by exact fillAll rfl rfl) rfl ?_
    intro b12 w14 hS13 H15 hE16
    refine q_append (E := ES) (k := 2) (l := svs x.fs) (l2 := ([⟨ownA key5, (sealF (1#8) ((e.o.l).getD q 0#32) ([])).length, c6⟩] : List SlV)) H15 rfl hx.sl sli22 zer30 rfl byt30 (H15.rd (k := 0) rfl hS13) rfl (by exact (svs_len _).symm) rfl (by rfl) (by omega) ?_
    intro key17 c18 sp19 w21 hS20 hne23 H22
    have H22' := H22.as (L' := (((some b12), sob ES 30 ([⟨ownA key5, (sealF (1#8) ((e.o.l).getD q 0#32) ([])).length, c6⟩] : List SlV) ([])) :: (key5, sob E8 5 (sealF (1#8) ((e.o.l).getD q 0#32) ([])) sp7) :: (key17, sob ES 30 ((svs x.fs) ++ ([⟨ownA key5, (sealF (1#8) ((e.o.l).getD q 0#32) ([])).length, c6⟩] : List SlV)) sp19) :: (some b, .cells #[.slice e.q.a e.q.fs.length e.q.c, u32 (e.number), i64 ((e.sends : Nat)), i64 ((e.since : Nat)), u32 (e.want), .slice e.cm.a e.cm.fs.length e.cm.c, .slice (ownA e.o.key) e.o.l.length e.o.c, .iface TE (xe)] 89 (0, 0)) :: (e.q.key, sobP ES 30 e.q.pre (svs e.q.fs) e.q.sp) :: (e.cm.key, sobP ES 30 e.cm.pre (svs e.cm.fs) e.cm.sp) :: (e.o.key, sob E32 53 e.o.l e.o.sp) :: (frs 5 x.fs ++ R))) rfl
    clear H22
    refine sq (r_assign (v := .slice (ownA key17) (x.fs.length + 1) c18) rfl) ?_
    refine wnil ?_
    refine blockNormal ?_
    refine thenNormal ?_
    refine oneRegion ?_
    refine sq (r_addI (a := (q : Nat)) (b := (1 : Int)) rfl rfl (by omega)) ?_
    refine sq (r_move (v := i64 ((q : Nat) + (1 : Int))) rfl) ?_
    refine wnil ?_
    refine thenNormal ?_
    have hfam24 := ((H22'.dropk 0)).intoFs5 (f := (⟨key5, sealF (1#8) ((e.o.l).getD q 0#32) ([]), c6, sp7⟩ : Fr)) (T := 5)
    have hx2 : Wy.ok (⟨key17, c18, sp19, x.fs ++ [(⟨key5, sealF (1#8) ((e.o.l).getD q 0#32) ([]), c6, sp7⟩ : Fr)]⟩ : Wy) := ⟨by dsimp only; rw [svs_snoc]; exact hS20, fun g hg => by rcases (List.mem_append.1 hg).imp_right List.mem_singleton.1 with hg | rfl <;> first | exact hx.each _ hg | exact hS8⟩
    have hl2 : (x.fs ++ [(⟨key5, sealF (1#8) ((e.o.l).getD q 0#32) ([]), c6, sp7⟩ : Fr)]).length = x.fs.length + 1 := by rw [List.length_append]; rfl
    exact ⟨(q + 1, (⟨key17, c18, sp19, x.fs ++ [(⟨key5, sealF (1#8) ((e.o.l).getD q 0#32) ([]), c6, sp7⟩ : Fr)]⟩ : Wy)), _, rfl, ⟨rfl, by dsimp only; rw [hl2]; rfl, rfl, rfl, rfl, trivial⟩, ⟨⟨by omega, hx2, by dsimp only; rw [bss_snoc, hxb, acks_take (by omega)]⟩, by dsimp only; rw [svs_snoc]; exact hfam24⟩, by show e.o.l.length - (q + 1) < e.o.l.length - q; omega⟩
  · skip
    obtain rfl : q = e.o.l.length := by omega
    rw [acks_all] at hxb
    refine exitAny ?_
    refine thenExit ?_
    refine thenExit ?_
    refine blockHere ?_
    refine thenNormal ?_
    refine seqRegion ?_
    refine sq (r_move (v := .pointer (some ⟨b, 0, none⟩)) rfl) ?_
    refine sq (r_nilCheck rfl) ?_
    refine sq (r_fieldAddr (off' := 6) fld89_6 (by decide) (b := b) (off := 0) rfl (by omega)) ?_
    refine d_store (k := 1) (v := .slice none 0 0) (cs' := #[.slice e.q.a e.q.fs.length e.q.c, u32 (e.number), i64 ((e.sends : Nat)), i64 ((e.since : Nat)), u32 (e.want), .slice e.cm.a e.cm.fs.length e.cm.c, .slice none 0 0, .iface TE (xe)]) HL rfl rfl rfl siz87 (by rfl) (by intro u hu; simp [Value.cells] at hu; first | (subst hu; rfl) | (rcases hu with rfl <;> rfl)) (by exact Nat.le_of_ble_eq_true rfl) (by rfl) ?_
    intro w25 H26 hC27
    have H26' := H26.as (L' := ((x.key, sob ES 30 (svs x.fs) x.sp) :: (some b, .cells #[.slice e.q.a e.q.fs.length e.q.c, u32 (e.number), i64 ((e.sends : Nat)), i64 ((e.since : Nat)), u32 (e.want), .slice e.cm.a e.cm.fs.length e.cm.c, .slice none 0 0, .iface TE (xe)] 89 (0, 0)) :: (e.q.key, sobP ES 30 e.q.pre (svs e.q.fs) e.q.sp) :: (e.cm.key, sobP ES 30 e.cm.pre (svs e.cm.fs) e.cm.sp) :: (e.o.key, sob E32 53 e.o.l e.o.sp) :: (frs 5 x.fs ++ R))) rfl
    clear H26
    refine wend ?_
    refine seqRegion ?_
    refine sq (r_move (v := .pointer (some ⟨b, 0, none⟩)) rfl) ?_
    refine sq (r_nilCheck rfl) ?_
    refine sq (r_fieldAddr (off' := 3) fld89_3 (by decide) (b := b) (off := 0) rfl (by omega)) ?_
    refine sq (r_loadC (v := i64 ((e.since : Nat))) one3 (H26'.get (k := 1) rfl) (off := 3) rfl (by rfl)) ?_
    refine sq (r_addI (a := (e.since : Nat)) (b := (1 : Int)) rfl rfl (by omega)) ?_
    refine sq (r_nilCheck rfl) ?_
    refine sq (r_fieldAddr (off' := 3) fld89_3 (by decide) (b := b) (off := 0) rfl (by omega)) ?_
    refine d_store (k := 1) (v := i64 ((e.since : Nat) + (1 : Int))) (cs' := #[.slice e.q.a e.q.fs.length e.q.c, u32 (e.number), i64 ((e.sends : Nat)), i64 ((e.since : Nat) + (1 : Int)), u32 (e.want), .slice e.cm.a e.cm.fs.length e.cm.c, .slice none 0 0, .iface TE (xe)]) H26' rfl rfl rfl siz3 (by rfl) (by exact EI.one _) (by exact Nat.le_of_ble_eq_true rfl) (by rfl) ?_
    intro w28 H29 hC30
    have H29' := H29.as (L' := ((x.key, sob ES 30 (svs x.fs) x.sp) :: (some b, .cells #[.slice e.q.a e.q.fs.length e.q.c, u32 (e.number), i64 ((e.sends : Nat)), i64 ((e.since : Nat) + (1 : Int)), u32 (e.want), .slice e.cm.a e.cm.fs.length e.cm.c, .slice none 0 0, .iface TE (xe)] 89 (0, 0)) :: (e.q.key, sobP ES 30 e.q.pre (svs e.q.fs) e.q.sp) :: (e.cm.key, sobP ES 30 e.cm.pre (svs e.cm.fs) e.cm.sp) :: (e.o.key, sob E32 53 e.o.l e.o.sp) :: (frs 5 x.fs ++ R))) rfl
    clear H29
    refine wend ?_
    refine seqAny ?_
    refine blockAny ?_
    refine seqAny ?_
    refine seqRegion ?_
    refine sq (r_move (v := .pointer (some ⟨b, 0, none⟩)) rfl) ?_
    refine sq (r_nilCheck rfl) ?_
    refine sq (r_fieldAddr (off' := 7) fld89_7 (by decide) (b := b) (off := 0) rfl (by omega)) ?_
    refine sq (r_loadC (v := .iface TE (xe)) one28 (H29'.get (k := 1) rfl) (off := 7) rfl (by rfl)) ?_
    refine sq (r_neqIN isI28 rfl rfl) ?_
    refine sq (r_move (v := .bool (true)) rfl) ?_
    refine skAny (wantedSome (d' := 37) (b := true) rfl rfl rfl) ?_
    refine skAny (wantedSome (d' := 37) (b := true) rfl rfl rfl) ?_
    refine skAny (wantedSome (d' := 37) (b := true) rfl rfl rfl) ?_
    refine skAny (wantedSome (d' := 37) (b := true) rfl rfl rfl) ?_
    refine skAny (wantedSome (d' := 37) (b := true) rfl rfl rfl) ?_
    refine skAny (wantedSome (d' := 37) (b := true) rfl rfl rfl) ?_
    refine sq (r_pickT (u := .bool (true)) rfl rfl) ?_
    refine sq (r_assign (v := .bool (true)) rfl) ?_
    refine wend ?_
    refine condTrue rfl ?_
    refine skipAny ?_
    refine thenNormal ?_
    refine condTrue rfl ?_
    refine seqRegion ?_
    refine sq (r_move (v := .slice (ownA x.key) x.fs.length x.c) rfl) ?_
    refine sq (r_assign (v := .slice (ownA x.key) x.fs.length x.c) rfl) ?_
    refine wend ?_
    refine retAny ?_
    refine blockRet ?_
    refine thenRet ?_
    refine retG (rs := [.tmp 2]) (vs := [.slice (ownA x.key) x.fs.length x.c]) rfl ⟨⟨rfl, rfl⟩, trivial⟩ ?_
    have hfin := ((Hp.sink4 (H29')).newO (sob E32 53 [] []))
    refine ⟨_, rfl, x, { e with o := ow0, sends := e.sends, since := e.since + 1, err := .iface TE xe }, rfl, hx, hxb, En.okStep he _ _ (.inr ⟨_, _, rfl⟩), by simp only [abs, hd]; rfl, hfin⟩

theorem step_idle (b : Nat) (e : En) (F R : List (Option Nat × Obj)) (he : e.ok 5 F) (hF : ∀ x ∈ F, x ∈ R) (w₀ w : World) (H : Hp No w₀ w (endR 30 53 89 b e ++ R)) (hd : isDead e.err = false) (hsi : e.since < 1000000000) (hol : e.o.l.length ≤ 1000000) (hq0 : e.q.fs.length = 0) : Calls Tryd.prog 28 [.pointer (some ⟨b, 0, none⟩)].toArray w (Ret fun v w' => ∃ (x : Wy) (e' : En), v = .slice (ownA x.key) x.fs.length x.c ∧ x.ok ∧ bss x.fs = acks (abs e).owed ∧ e'.ok 5 F ∧ abs e' = { abs e with owed := [], since := (abs e).since + 1 } ∧ Hp No w₀ w' (endR 30 53 89 b e' ++ ((x.key, sob ES 30 (svs x.fs) x.sp) :: (frs 5 x.fs ++ R)))) := by
  have hqc := he.q.sl.cap
  have hcc := he.cm.sl.cap
  rw [svs_len] at hqc hcc
  have he0 := he.live hd
  have H := H.as (L' := ((some b, .cells #[.slice e.q.a e.q.fs.length e.q.c, u32 (e.number), i64 ((e.sends : Nat)), i64 ((e.since : Nat)), u32 (e.want), .slice e.cm.a e.cm.fs.length e.cm.c, .slice (ownA e.o.key) e.o.l.length e.o.c, .nilIface] 89 (0, 0)) :: (e.q.key, sobP ES 30 e.q.pre (svs e.q.fs) e.q.sp) :: (e.cm.key, sobP ES 30 e.cm.pre (svs e.cm.fs) e.cm.sp) :: (e.o.key, sob E32 53 e.o.l e.o.sp) :: R)) (by show endR 30 53 89 b e ++ R = _; unfold endR En.ob; rw [he0]; rfl)
  refine enter (n := 99) Tryd.func28 rfl rfl (Nat.le_of_ble_eq_true rfl) ?_
  refine seqRegion ?_
  refine sq (r_assign (v := .slice none 0 0) rfl) ?_
  refine wend ?_
  refine seqRegion ?_
  refine sq (r_assign (v := .slice none 0 0) rfl) ?_
  refine wend ?_
  refine seqAny ?_
  refine seqRegion ?_
  refine sq (r_move (v := .pointer (some ⟨b, 0, none⟩)) rfl) ?_
  refine sq (r_nilCheck rfl) ?_
  refine sq (r_fieldAddr (off' := 6) fld89_6 (by decide) (b := b) (off := 0) rfl (by omega)) ?_
  refine sq (r_loadC (v := .slice (ownA e.o.key) e.o.l.length e.o.c) one87 (H.get (k := 0) rfl) (off := 6) rfl (by rfl)) ?_
  refine sq (r_lenS sli87 (a := ownA e.o.key) (m := e.o.l.length) (c := e.o.c) rfl) ?_
  refine sq (r_move (v := i64 ((0 : Int))) rfl) ?_
  refine wend ?_
  refine blockAny ?_
  refine loopAny (σ := Nat × Wy) (fun (q, x) => [(0, .pointer (some ⟨b, 0, none⟩)), (3, .slice (ownA x.key) x.fs.length x.c), (9, .slice (ownA e.o.key) e.o.l.length e.o.c), (10, i64 ((e.o.l.length : Nat))), (11, i64 ((q : Nat)))]) (fun (q, x) w' => (q ≤ e.o.l.length ∧ x.ok ∧ bss x.fs = acks (e.o.l.take q)) ∧ Hp No w₀ w' ((x.key, sob ES 30 (svs x.fs) x.sp) :: (some b, .cells #[.slice e.q.a e.q.fs.length e.q.c, u32 (e.number), i64 ((e.sends : Nat)), i64 ((e.since : Nat)), u32 (e.want), .slice e.cm.a e.cm.fs.length e.cm.c, .slice (ownA e.o.key) e.o.l.length e.o.c, .nilIface] 89 (0, 0)) :: (e.q.key, sobP ES 30 e.q.pre (svs e.q.fs) e.q.sp) :: (e.cm.key, sobP ES 30 e.cm.pre (svs e.cm.fs) e.cm.sp) :: (e.o.key, sob E32 53 e.o.l e.o.sp) :: (frs 5 x.fs ++ R))) (fun (q, x) => e.o.l.length - q) ((0, wy0)) ?_ ?_ ?_
  · exact ⟨rfl, rfl, rfl, rfl, rfl, trivial⟩
  · exact ⟨⟨Nat.zero_le _, wy0_ok, rfl⟩, H.nil (sob ES 30 [] [])⟩
  rintro ⟨q, x⟩ ρ w1 ⟨⟨hq, hx, hxb⟩, HL⟩
  have hxl := congrArg List.length hxb
  simp only [bss_len, acks, List.length_map, List.length_take] at hxl
  refine seqRegion ?_
  refine sq (r_lssI (a := (q : Nat)) (b := (e.o.l.length : Nat)) rfl rfl) ?_
  refine wend ?_
  refine seqAny ?_
  refine condProp (((q : Nat) : Int) < (e.o.l.length : Nat)) rfl (fun c12 => ?_) (fun c12 => ?_)
  · skip
    refine skipAny ?_
    refine thenNormal ?_
    refine seqAny ?_
    refine blockAny ?_
    refine seqRegion ?_
    refine sq (r_idxS (E := E32) (l := e.o.l) (j := q) sli87 (HL.rd (k := 4) rfl he.o) rfl rfl (by first | rfl | omega | (simp; omega)) (by rfl) (by omega)) ?_
    refine sq (r_ldS (E := E32) (l := e.o.l) (j := q) (v := (e.o.l).getD q 0#32) fits53 (HL.rd (k := 4) rfl he.o) rfl rfl (at_getD (by omega))) ?_
    refine sq (r_assign (v := u32 ((e.o.l).getD q 0#32)) rfl) ?_
    refine wend ?_
    refine oneRegion ?_
    refine sq (r_move (v := .slice (ownA x.key) x.fs.length x.c) rfl) ?_
    refine sq (r_move (v := u32 ((e.o.l).getD q 0#32)) rfl) ?_
    refine c_call (vs := [u8 (1#8), u32 ((e.o.l).getD q 0#32), .slice none 0 0]) call30 rfl (seal_ok (1#8) ((e.o.l).getD q 0#32) ([]) (by first | omega | exact Nat.le_of_ble_eq_true rfl | (simp; omega)) none 0 0 (by first | rfl | omega | (simp; omega) | (simp at *; omega)) w1 Rd.nil) ?_
    rintro _ w3 ⟨⟨key5, c6, sp7, rfl, hS8, hk9⟩, hE10⟩
    rw [show (sealF (1#8) ((e.o.l).getD q 0#32) ([])).length = (sealF (1#8) ((e.o.l).getD q 0#32) ([])).length from rfl]
    have H11 := HL.add hE10 hk9
    refine q_buildSlice (E := ES) (l := ([⟨ownA key5, (sealF (1#8) ((e.o.l).getD q 0#32) ([])).length, c6⟩] : List SlV)) H11 sli22 zer30 (Nat.le_of_ble_eq_true rfl) (ps := [(0, .slice (ownA key5) ((sealF (1#8) ((e.o.l).getD q 0#32) ([])).length) c6)]) rfl (by exact fillAll rfl rfl) rfl ?_
    intro b12 w14 hS13 H15 hE16
    refine q_append (E := ES) (k := 2) (l := svs x.fs) (l2 := ([⟨ownA key5, (sealF (1#8) ((e.o.l).getD q 0#32) ([])).length, c6⟩] : List SlV)) H15 rfl hx.sl sli22 zer30 rfl byt30 (H15.rd (k := 0) rfl hS13) rfl (by exact (svs_len _).symm) rfl (by rfl) (by omega) ?_
    intro key17 c18 sp19 w21 hS20 hne23 H22
    have H22' := H22.as (L' := (((some b12), sob ES 30 ([⟨ownA key5, (sealF (1#8) ((e.o.l).getD q 0#32) ([])).length, c6⟩] : List SlV) ([])) :: (key5, sob E8 5 (sealF (1#8) ((e.o.l).getD q 0#32) ([])) sp7) :: (key17, sob ES 30 ((svs x.fs) ++ ([⟨ownA key5, (sealF (1#8) ((e.o.l).getD q 0#32) ([])).length, c6⟩] : List SlV)) sp19) :: (some b, .cells #[.slice e.q.a e.q.fs.length e.q.c, u32 (e.number), i64 ((e.sends : Nat)), i64 ((e.since : Nat)), u32 (e.want), .slice e.cm.a e.cm.fs.length e.cm.c, .slice (ownA e.o.key) e.o.l.length e.o.c, .nilIface] 89 (0, 0)) :: (e.q.key, sobP ES 30 e.q.pre (svs e.q.fs) e.q.sp) :: (e.cm.key, sobP ES 30 e.cm.pre (svs e.cm.fs) e.cm.sp) :: (e.o.key, sob E32 53 e.o.l e.o.sp) :: (frs 5 x.fs ++ R))) rfl
    clear H22
    refine sq (r_assign (v := .slice (ownA key17) (x.fs.length + 1) c18) rfl) ?_
    refine wnil ?_
    refine blockNormal ?_
    refine thenNormal ?_
    refine oneRegion ?_
    refine sq (r_addI (a := (q : Nat)) (b := (1 : Int)) rfl rfl (by omega)) ?_
    refine sq (r_move (v := i64 ((q : Nat) + (1 : Int))) rfl) ?_
    refine wnil ?_
    refine thenNormal ?_
    have hfam24 := ((H22'.dropk 0)).intoFs5 (f := (⟨key5, sealF (1#8) ((e.o.l).getD q 0#32) ([]), c6, sp7⟩ : Fr)) (T := 5)
    have hx2 : Wy.ok (⟨key17, c18, sp19, x.fs ++ [(⟨key5, sealF (1#8) ((e.o.l).getD q 0#32) ([]), c6, sp7⟩ : Fr)]⟩ : Wy) := ⟨by dsimp only; rw [svs_snoc]; exact hS20, fun g hg => by rcases (List.mem_append.1 hg).imp_right List.mem_singleton.1 with hg | rfl <;> first | exact hx.each _ hg | exact hS8⟩
    have hl2 : (x.fs ++ [(⟨key5, sealF (1#8) ((e.o.l).getD q 0#32) ([]), c6, sp7⟩ : Fr)]).length = x.fs.length + 1 := by rw [List.length_append]; rfl
    exact ⟨(q + 1, (⟨key17, c18, sp19, x.fs ++ [(⟨key5, sealF (1#8) ((e.o.l).getD q 0#32) ([]), c6, sp7⟩ : Fr)]⟩ : Wy)), _, rfl, ⟨rfl, by dsimp only; rw [hl2]; rfl, rfl, rfl, rfl, trivial⟩, ⟨⟨by omega, hx2, by dsimp only; rw [bss_snoc, hxb, acks_take (by omega)]⟩, by dsimp only; rw [svs_snoc]; exact hfam24⟩, by show e.o.l.length - (q + 1) < e.o.l.length - q; omega⟩
  · skip
    obtain rfl : q = e.o.l.length := by omega
    rw [acks_all] at hxb
    refine exitAny ?_
    refine thenExit ?_
    refine thenExit ?_
    refine blockHere ?_
    refine thenNormal ?_
    refine seqRegion ?_
    refine sq (r_move (v := .pointer (some ⟨b, 0, none⟩)) rfl) ?_
    refine sq (r_nilCheck rfl) ?_
    refine sq (r_fieldAddr (off' := 6) fld89_6 (by decide) (b := b) (off := 0) rfl (by omega)) ?_
    refine d_store (k := 1) (v := .slice none 0 0) (cs' := #[.slice e.q.a e.q.fs.length e.q.c, u32 (e.number), i64 ((e.sends : Nat)), i64 ((e.since : Nat)), u32 (e.want), .slice e.cm.a e.cm.fs.length e.cm.c, .slice none 0 0, .nilIface]) HL rfl rfl rfl siz87 (by rfl) (by intro u hu; simp [Value.cells] at hu; first | (subst hu; rfl) | (rcases hu with rfl <;> rfl)) (by exact Nat.le_of_ble_eq_true rfl) (by rfl) ?_
    intro w25 H26 hC27
    have H26' := H26.as (L' := ((x.key, sob ES 30 (svs x.fs) x.sp) :: (some b, .cells #[.slice e.q.a e.q.fs.length e.q.c, u32 (e.number), i64 ((e.sends : Nat)), i64 ((e.since : Nat)), u32 (e.want), .slice e.cm.a e.cm.fs.length e.cm.c, .slice none 0 0, .nilIface] 89 (0, 0)) :: (e.q.key, sobP ES 30 e.q.pre (svs e.q.fs) e.q.sp) :: (e.cm.key, sobP ES 30 e.cm.pre (svs e.cm.fs) e.cm.sp) :: (e.o.key, sob E32 53 e.o.l e.o.sp) :: (frs 5 x.fs ++ R))) rfl
    clear H26
    refine wend ?_
    refine seqRegion ?_
    refine sq (r_move (v := .pointer (some ⟨b, 0, none⟩)) rfl) ?_
    refine sq (r_nilCheck rfl) ?_
    refine sq (r_fieldAddr (off' := 3) fld89_3 (by decide) (b := b) (off := 0) rfl (by omega)) ?_
    refine sq (r_loadC (v := i64 ((e.since : Nat))) one3 (H26'.get (k := 1) rfl) (off := 3) rfl (by rfl)) ?_
    refine sq (r_addI (a := (e.since : Nat)) (b := (1 : Int)) rfl rfl (by omega)) ?_
    refine sq (r_nilCheck rfl) ?_
    refine sq (r_fieldAddr (off' := 3) fld89_3 (by decide) (b := b) (off := 0) rfl (by omega)) ?_
    refine d_store (k := 1) (v := i64 ((e.since : Nat) + (1 : Int))) (cs' := #[.slice e.q.a e.q.fs.length e.q.c, u32 (e.number), i64 ((e.sends : Nat)), i64 ((e.since : Nat) + (1 : Int)), u32 (e.want), .slice e.cm.a e.cm.fs.length e.cm.c, .slice none 0 0, .nilIface]) H26' rfl rfl rfl siz3 (by rfl) (by exact EI.one _) (by exact Nat.le_of_ble_eq_true rfl) (by rfl) ?_
    intro w28 H29 hC30
    have H29' := H29.as (L' := ((x.key, sob ES 30 (svs x.fs) x.sp) :: (some b, .cells #[.slice e.q.a e.q.fs.length e.q.c, u32 (e.number), i64 ((e.sends : Nat)), i64 ((e.since : Nat) + (1 : Int)), u32 (e.want), .slice e.cm.a e.cm.fs.length e.cm.c, .slice none 0 0, .nilIface] 89 (0, 0)) :: (e.q.key, sobP ES 30 e.q.pre (svs e.q.fs) e.q.sp) :: (e.cm.key, sobP ES 30 e.cm.pre (svs e.cm.fs) e.cm.sp) :: (e.o.key, sob E32 53 e.o.l e.o.sp) :: (frs 5 x.fs ++ R))) rfl
    clear H29
    refine wend ?_
    refine seqAny ?_
    refine blockAny ?_
    refine seqAny ?_
    refine seqRegion ?_
    refine sq (r_move (v := .pointer (some ⟨b, 0, none⟩)) rfl) ?_
    refine sq (r_nilCheck rfl) ?_
    refine sq (r_fieldAddr (off' := 7) fld89_7 (by decide) (b := b) (off := 0) rfl (by omega)) ?_
    refine sq (r_loadC (v := .nilIface) one28 (H29'.get (k := 1) rfl) (off := 7) rfl (by rfl)) ?_
    refine sq (r_neqNN isI28 rfl rfl) ?_
    refine sq (r_move (v := .bool (false)) rfl) ?_
    refine sqAny (v := .pointer (some ⟨b, 0, none⟩)) (w' := w28) (wantedSome (d' := 37) (b := false) rfl rfl rfl) (r_move (v := .pointer (some ⟨b, 0, none⟩)) rfl) ?_
    refine sqAny (v := .pointer (some ⟨b, 0, none⟩)) (w' := w28) (wantedSome (d' := 37) (b := false) rfl rfl rfl) (r_nilCheck rfl) ?_
    refine sqAny (v := .pointer (some ⟨b, 0, none⟩)) (w' := w28) (wantedSome (d' := 37) (b := false) rfl rfl rfl) (r_fieldAddr (off' := 0) fld89_0 (by decide) (b := b) (off := 0) rfl (by omega)) ?_
    refine sqAny (v := .slice e.q.a e.q.fs.length e.q.c) (w' := w28) (wantedSome (d' := 37) (b := false) rfl rfl rfl) (r_loadC (v := .slice e.q.a e.q.fs.length e.q.c) one22 (H29'.get (k := 1) rfl) (off := 0) rfl (by rfl)) ?_
    refine sqAny (v := i64 ((e.q.fs.length : Nat))) (w' := w28) (wantedSome (d' := 37) (b := false) rfl rfl rfl) (r_lenS sli22 (a := e.q.a) (m := e.q.fs.length) (c := e.q.c) rfl) ?_
    refine sqAny (v := .bool (true)) (w' := w28) (wantedSome (d' := 37) (b := false) rfl rfl rfl) ((r_eqlI (a := (e.q.fs.length : Nat)) (b := (0 : Int)) rfl rfl).as (v' := .bool (true)) (by exact congrArg Value.bool (decide_eq_true (by omega)))) ?_
    refine sq (r_pickF (v := .bool (true)) rfl rfl) ?_
    refine sq (r_assign (v := .bool (true)) rfl) ?_
    refine wend ?_
    refine condTrue rfl ?_
    refine skipAny ?_
    refine thenNormal ?_
    refine condTrue rfl ?_
    refine seqRegion ?_
    refine sq (r_move (v := .slice (ownA x.key) x.fs.length x.c) rfl) ?_
    refine sq (r_assign (v := .slice (ownA x.key) x.fs.length x.c) rfl) ?_
    refine wend ?_
    refine retAny ?_
    refine blockRet ?_
    refine thenRet ?_
    refine retG (rs := [.tmp 2]) (vs := [.slice (ownA x.key) x.fs.length x.c]) rfl ⟨⟨rfl, rfl⟩, trivial⟩ ?_
    have hfin := ((Hp.sink4 (H29')).newO (sob E32 53 [] []))
    refine ⟨_, rfl, x, { e with o := ow0, sends := e.sends, since := e.since + 1, err := .nilIface }, rfl, hx, hxb, En.okStep he _ _ (.inl rfl), by simp only [abs, hd]; rfl, hfin⟩

theorem step_wait (b : Nat) (e : En) (F R : List (Option Nat × Obj)) (he : e.ok 5 F) (hF : ∀ x ∈ F, x ∈ R) (w₀ w : World) (H : Hp No w₀ w (endR 30 53 89 b e ++ R)) (hd : isDead e.err = false) (hsi : e.since < 1000000000) (hol : e.o.l.length ≤ 1000000) (hq0 : 0 < e.q.fs.length) (hs0 : 0 < e.sends) (hs1 : e.since + 1 < 4) : Calls Tryd.prog 28 [.pointer (some ⟨b, 0, none⟩)].toArray w (Ret fun v w' => ∃ (x : Wy) (e' : En), v = .slice (ownA x.key) x.fs.length x.c ∧ x.ok ∧ bss x.fs = acks (abs e).owed ∧ e'.ok 5 F ∧ abs e' = { abs e with owed := [], since := (abs e).since + 1 } ∧ Hp No w₀ w' (endR 30 53 89 b e' ++ ((x.key, sob ES 30 (svs x.fs) x.sp) :: (frs 5 x.fs ++ R)))) := by
  have hqc := he.q.sl.cap
  have hcc := he.cm.sl.cap
  rw [svs_len] at hqc hcc
  have he0 := he.live hd
  have H := H.as (L' := ((some b, .cells #[.slice e.q.a e.q.fs.length e.q.c, u32 (e.number), i64 ((e.sends : Nat)), i64 ((e.since : Nat)), u32 (e.want), .slice e.cm.a e.cm.fs.length e.cm.c, .slice (ownA e.o.key) e.o.l.length e.o.c, .nilIface] 89 (0, 0)) :: (e.q.key, sobP ES 30 e.q.pre (svs e.q.fs) e.q.sp) :: (e.cm.key, sobP ES 30 e.cm.pre (svs e.cm.fs) e.cm.sp) :: (e.o.key, sob E32 53 e.o.l e.o.sp) :: R)) (by show endR 30 53 89 b e ++ R = _; unfold endR En.ob; rw [he0]; rfl)
  refine enter (n := 99) Tryd.func28 rfl rfl (Nat.le_of_ble_eq_true rfl) ?_
  refine seqRegion ?_
  refine sq (r_assign (v := .slice none 0 0) rfl) ?_
  refine wend ?_
  refine seqRegion ?_
  refine sq (r_assign (v := .slice none 0 0) rfl) ?_
  refine wend ?_
  refine seqAny ?_
  refine seqRegion ?_
  refine sq (r_move (v := .pointer (some ⟨b, 0, none⟩)) rfl) ?_
  refine sq (r_nilCheck rfl) ?_
  refine sq (r_fieldAddr (off' := 6) fld89_6 (by decide) (b := b) (off := 0) rfl (by omega)) ?_
  refine sq (r_loadC (v := .slice (ownA e.o.key) e.o.l.length e.o.c) one87 (H.get (k := 0) rfl) (off := 6) rfl (by rfl)) ?_
  refine sq (r_lenS sli87 (a := ownA e.o.key) (m := e.o.l.length) (c := e.o.c) rfl) ?_
  refine sq (r_move (v := i64 ((0 : Int))) rfl) ?_
  refine wend ?_
  refine blockAny ?_
  refine loopAny (σ := Nat × Wy) (fun (q, x) => [(0, .pointer (some ⟨b, 0, none⟩)), (3, .slice (ownA x.key) x.fs.length x.c), (9, .slice (ownA e.o.key) e.o.l.length e.o.c), (10, i64 ((e.o.l.length : Nat))), (11, i64 ((q : Nat)))]) (fun (q, x) w' => (q ≤ e.o.l.length ∧ x.ok ∧ bss x.fs = acks (e.o.l.take q)) ∧ Hp No w₀ w' ((x.key, sob ES 30 (svs x.fs) x.sp) :: (some b, .cells #[.slice e.q.a e.q.fs.length e.q.c, u32 (e.number), i64 ((e.sends : Nat)), i64 ((e.since : Nat)), u32 (e.want), .slice e.cm.a e.cm.fs.length e.cm.c, .slice (ownA e.o.key) e.o.l.length e.o.c, .nilIface] 89 (0, 0)) :: (e.q.key, sobP ES 30 e.q.pre (svs e.q.fs) e.q.sp) :: (e.cm.key, sobP ES 30 e.cm.pre (svs e.cm.fs) e.cm.sp) :: (e.o.key, sob E32 53 e.o.l e.o.sp) :: (frs 5 x.fs ++ R))) (fun (q, x) => e.o.l.length - q) ((0, wy0)) ?_ ?_ ?_
  · exact ⟨rfl, rfl, rfl, rfl, rfl, trivial⟩
  · exact ⟨⟨Nat.zero_le _, wy0_ok, rfl⟩, H.nil (sob ES 30 [] [])⟩
  rintro ⟨q, x⟩ ρ w1 ⟨⟨hq, hx, hxb⟩, HL⟩
  have hxl := congrArg List.length hxb
  simp only [bss_len, acks, List.length_map, List.length_take] at hxl
  refine seqRegion ?_
  refine sq (r_lssI (a := (q : Nat)) (b := (e.o.l.length : Nat)) rfl rfl) ?_
  refine wend ?_
  refine seqAny ?_
  refine condProp (((q : Nat) : Int) < (e.o.l.length : Nat)) rfl (fun c12 => ?_) (fun c12 => ?_)
  · skip
    refine skipAny ?_
    refine thenNormal ?_
    refine seqAny ?_
    refine blockAny ?_
    refine seqRegion ?_
    refine sq (r_idxS (E := E32) (l := e.o.l) (j := q) sli87 (HL.rd (k := 4) rfl he.o) rfl rfl (by first | rfl | omega | (simp; omega)) (by rfl) (by omega)) ?_
    refine sq (r_ldS (E := E32) (l := e.o.l) (j := q) (v := (e.o.l).getD q 0#32) fits53 (HL.rd (k := 4) rfl he.o) rfl rfl (at_getD (by omega))) ?_
    refine sq (r_assign (v := u32 ((e.o.l).getD q 0#32)) rfl) ?_
    refine wend ?_
    refine oneRegion ?_
    refine sq (r_move (v := .slice (ownA x.key) x.fs.length x.c) rfl) ?_
    refine sq (r_move (v := u32 ((e.o.l).getD q 0#32)) rfl) ?_
    refine c_call (vs := [u8 (1#8), u32 ((e.o.l).getD q 0#32), .slice none 0 0]) call30 rfl (seal_ok (1#8) ((e.o.l).getD q 0#32) ([]) (by first | omega | exact Nat.le_of_ble_eq_true rfl | (simp; omega)) none 0 0 (by first | rfl | omega | (simp; omega) | (simp at *; omega)) w1 Rd.nil) ?_
    rintro _ w3 ⟨⟨key5, c6, sp7, rfl, hS8, hk9⟩, hE10⟩
    rw [show (sealF (1#8) ((e.o.l).getD q 0#32) ([])).length = (sealF (1#8) ((e.o.l).getD q 0#32) ([])).length from rfl]
    have H11 := HL.add hE10 hk9
    refine q_buildSlice (E := ES) (l := ([⟨ownA key5, (sealF (1#8) ((e.o.l).getD q 0#32) ([])).length, c6⟩] : List SlV)) H11 sli22 zer30 (Nat.le_of_ble_eq_true rfl) (ps := [(0, .slice (ownA key5) ((sealF (1#8) ((e.o.l).getD q 0#32) ([])).length) c6)]) rfl (by exact fillAll rfl rfl) rfl ?_
    intro b12 w14 hS13 H15 hE16
    refine q_append (E := ES) (k := 2) (l := svs x.fs) (l2 := ([⟨ownA key5, (sealF (1#8) ((e.o.l).getD q 0#32) ([])).length, c6⟩] : List SlV)) H15 rfl hx.sl sli22 zer30 rfl byt30 (H15.rd (k := 0) rfl hS13) rfl (by exact (svs_len _).symm) rfl (by rfl) (by omega) ?_
    intro key17 c18 sp19 w21 hS20 hne23 H22
    have H22' := H22.as (L' := (((some b12), sob ES 30 ([⟨ownA key5, (sealF (1#8) ((e.o.l).getD q 0#32) ([])).length, c6⟩] : List SlV) ([])) :: (key5, sob E8 5 (sealF (1#8) ((e.o.l).getD q 0#32) ([])) sp7) :: (key17, sob ES 30 ((svs x.fs) ++ ([⟨ownA key5, (sealF (1#8) ((e.o.l).getD q 0#32) ([])).length, c6⟩] : List SlV)) sp19) :: (some b, .cells #[.slice e.q.a e.q.fs.length e.q.c, u32 (e.number), i64 ((e.sends : Nat)), i64 ((e.since : Nat)), u32 (e.want), .slice e.cm.a e.cm.fs.length e.cm.c, .slice (ownA e.o.key) e.o.l.length e.o.c, .nilIface] 89 (0, 0)) :: (e.q.key, sobP ES 30 e.q.pre (svs e.q.fs) e.q.sp) :: (e.cm.key, sobP ES 30 e.cm.pre (svs e.cm.fs) e.cm.sp) :: (e.o.key, sob E32 53 e.o.l e.o.sp) :: (frs 5 x.fs ++ R))) rfl
    clear H22
    refine sq (r_assign (v := .slice (ownA key17) (x.fs.length + 1) c18) rfl) ?_
    refine wnil ?_
    refine blockNormal ?_
    refine thenNormal ?_
    refine oneRegion ?_
    refine sq (r_addI (a := (q : Nat)) (b := (1 : Int)) rfl rfl (by omega)) ?_
    refine sq (r_move (v := i64 ((q : Nat) + (1 : Int))) rfl) ?_
    refine wnil ?_
    refine thenNormal ?_
    have hfam24 := ((H22'.dropk 0)).intoFs5 (f := (⟨key5, sealF (1#8) ((e.o.l).getD q 0#32) ([]), c6, sp7⟩ : Fr)) (T := 5)
    have hx2 : Wy.ok (⟨key17, c18, sp19, x.fs ++ [(⟨key5, sealF (1#8) ((e.o.l).getD q 0#32) ([]), c6, sp7⟩ : Fr)]⟩ : Wy) := ⟨by dsimp only; rw [svs_snoc]; exact hS20, fun g hg => by rcases (List.mem_append.1 hg).imp_right List.mem_singleton.1 with hg | rfl <;> first | exact hx.each _ hg | exact hS8⟩
    have hl2 : (x.fs ++ [(⟨key5, sealF (1#8) ((e.o.l).getD q 0#32) ([]), c6, sp7⟩ : Fr)]).length = x.fs.length + 1 := by rw [List.length_append]; rfl
    exact ⟨(q + 1, (⟨key17, c18, sp19, x.fs ++ [(⟨key5, sealF (1#8) ((e.o.l).getD q 0#32) ([]), c6, sp7⟩ : Fr)]⟩ : Wy)), _, rfl, ⟨rfl, by dsimp only; rw [hl2]; rfl, rfl, rfl, rfl, trivial⟩, ⟨⟨by omega, hx2, by dsimp only; rw [bss_snoc, hxb, acks_take (by omega)]⟩, by dsimp only; rw [svs_snoc]; exact hfam24⟩, by show e.o.l.length - (q + 1) < e.o.l.length - q; omega⟩
  · skip
    obtain rfl : q = e.o.l.length := by omega
    rw [acks_all] at hxb
    refine exitAny ?_
    refine thenExit ?_
    refine thenExit ?_
    refine blockHere ?_
    refine thenNormal ?_
    refine seqRegion ?_
    refine sq (r_move (v := .pointer (some ⟨b, 0, none⟩)) rfl) ?_
    refine sq (r_nilCheck rfl) ?_
    refine sq (r_fieldAddr (off' := 6) fld89_6 (by decide) (b := b) (off := 0) rfl (by omega)) ?_
    refine d_store (k := 1) (v := .slice none 0 0) (cs' := #[.slice e.q.a e.q.fs.length e.q.c, u32 (e.number), i64 ((e.sends : Nat)), i64 ((e.since : Nat)), u32 (e.want), .slice e.cm.a e.cm.fs.length e.cm.c, .slice none 0 0, .nilIface]) HL rfl rfl rfl siz87 (by rfl) (by intro u hu; simp [Value.cells] at hu; first | (subst hu; rfl) | (rcases hu with rfl <;> rfl)) (by exact Nat.le_of_ble_eq_true rfl) (by rfl) ?_
    intro w25 H26 hC27
    have H26' := H26.as (L' := ((x.key, sob ES 30 (svs x.fs) x.sp) :: (some b, .cells #[.slice e.q.a e.q.fs.length e.q.c, u32 (e.number), i64 ((e.sends : Nat)), i64 ((e.since : Nat)), u32 (e.want), .slice e.cm.a e.cm.fs.length e.cm.c, .slice none 0 0, .nilIface] 89 (0, 0)) :: (e.q.key, sobP ES 30 e.q.pre (svs e.q.fs) e.q.sp) :: (e.cm.key, sobP ES 30 e.cm.pre (svs e.cm.fs) e.cm.sp) :: (e.o.key, sob E32 53 e.o.l e.o.sp) :: (frs 5 x.fs ++ R))) rfl
    clear H26
    refine wend ?_
    refine seqRegion ?_
    refine sq (r_move (v := .pointer (some ⟨b, 0, none⟩)) rfl) ?_
    refine sq (r_nilCheck rfl) ?_
    refine sq (r_fieldAddr (off' := 3) fld89_3 (by decide) (b := b) (off := 0) rfl (by omega)) ?_
    refine sq (r_loadC (v := i64 ((e.since : Nat))) one3 (H26'.get (k := 1) rfl) (off := 3) rfl (by rfl)) ?_
    refine sq (r_addI (a := (e.since : Nat)) (b := (1 : Int)) rfl rfl (by omega)) ?_
    refine sq (r_nilCheck rfl) ?_
    refine sq (r_fieldAddr (off' := 3) fld89_3 (by decide) (b := b) (off := 0) rfl (by omega)) ?_
    refine d_store (k := 1) (v := i64 ((e.since : Nat) + (1 : Int))) (cs' := #[.slice e.q.a e.q.fs.length e.q.c, u32 (e.number), i64 ((e.sends : Nat)), i64 ((e.since : Nat) + (1 : Int)), u32 (e.want), .slice e.cm.a e.cm.fs.length e.cm.c, .slice none 0 0, .nilIface]) H26' rfl rfl rfl siz3 (by rfl) (by exact EI.one _) (by exact Nat.le_of_ble_eq_true rfl) (by rfl) ?_
    intro w28 H29 hC30
    have H29' := H29.as (L' := ((x.key, sob ES 30 (svs x.fs) x.sp) :: (some b, .cells #[.slice e.q.a e.q.fs.length e.q.c, u32 (e.number), i64 ((e.sends : Nat)), i64 ((e.since : Nat) + (1 : Int)), u32 (e.want), .slice e.cm.a e.cm.fs.length e.cm.c, .slice none 0 0, .nilIface] 89 (0, 0)) :: (e.q.key, sobP ES 30 e.q.pre (svs e.q.fs) e.q.sp) :: (e.cm.key, sobP ES 30 e.cm.pre (svs e.cm.fs) e.cm.sp) :: (e.o.key, sob E32 53 e.o.l e.o.sp) :: (frs 5 x.fs ++ R))) rfl
    clear H29
    refine wend ?_
    refine seqAny ?_
    refine blockAny ?_
    refine seqAny ?_
    refine seqRegion ?_
    refine sq (r_move (v := .pointer (some ⟨b, 0, none⟩)) rfl) ?_
    refine sq (r_nilCheck rfl) ?_
    refine sq (r_fieldAddr (off' := 7) fld89_7 (by decide) (b := b) (off := 0) rfl (by omega)) ?_
    refine sq (r_loadC (v := .nilIface) one28 (H29'.get (k := 1) rfl) (off := 7) rfl (by rfl)) ?_
    refine sq (r_neqNN isI28 rfl rfl) ?_
    refine sq (r_move (v := .bool (false)) rfl) ?_
    refine sqAny (v := .pointer (some ⟨b, 0, none⟩)) (w' := w28) (wantedSome (d' := 37) (b := false) rfl rfl rfl) (r_move (v := .pointer (some ⟨b, 0, none⟩)) rfl) ?_
    refine sqAny (v := .pointer (some ⟨b, 0, none⟩)) (w' := w28) (wantedSome (d' := 37) (b := false) rfl rfl rfl) (r_nilCheck rfl) ?_
    refine sqAny (v := .pointer (some ⟨b, 0, none⟩)) (w' := w28) (wantedSome (d' := 37) (b := false) rfl rfl rfl) (r_fieldAddr (off' := 0) fld89_0 (by decide) (b := b) (off := 0) rfl (by omega)) ?_
    refine sqAny (v := .slice e.q.a e.q.fs.length e.q.c) (w' := w28) (wantedSome (d' := 37) (b := false) rfl rfl rfl) (r_loadC (v := .slice e.q.a e.q.fs.length e.q.c) one22 (H29'.get (k := 1) rfl) (off := 0) rfl (by rfl)) ?_
    refine sqAny (v := i64 ((e.q.fs.length : Nat))) (w' := w28) (wantedSome (d' := 37) (b := false) rfl rfl rfl) (r_lenS sli22 (a := e.q.a) (m := e.q.fs.length) (c := e.q.c) rfl) ?_
    refine sqAny (v := .bool (false)) (w' := w28) (wantedSome (d' := 37) (b := false) rfl rfl rfl) ((r_eqlI (a := (e.q.fs.length : Nat)) (b := (0 : Int)) rfl rfl).as (v' := .bool (false)) (by exact congrArg Value.bool (decide_eq_false (by omega)))) ?_
    refine sq (r_pickF (v := .bool (false)) rfl rfl) ?_
    refine sq (r_assign (v := .bool (false)) rfl) ?_
    refine wend ?_
    refine condFalse rfl ?_
    refine oneRegion ?_
    refine sq (r_move (v := .pointer (some ⟨b, 0, none⟩)) rfl) ?_
    refine sq (r_nilCheck rfl) ?_
    refine sq (r_fieldAddr (off' := 2) fld89_2 (by decide) (b := b) (off := 0) rfl (by omega)) ?_
    refine sq (r_loadC (v := i64 ((e.sends : Nat))) one3 (H29'.get (k := 1) rfl) (off := 2) rfl (by rfl)) ?_
    refine sq ((r_gtrI (a := (e.sends : Nat)) (b := (0 : Int)) rfl rfl).as (v' := .bool (true)) (by exact congrArg Value.bool (decide_eq_true (by omega)))) ?_
    refine sq (r_move (v := .bool (true)) rfl) ?_
    refine sqAny (v := .pointer (some ⟨b, 0, none⟩)) (w' := w28) (wantedSome (d' := 50) (b := true) rfl rfl rfl) (r_move (v := .pointer (some ⟨b, 0, none⟩)) rfl) ?_
    refine sqAny (v := .pointer (some ⟨b, 0, none⟩)) (w' := w28) (wantedSome (d' := 50) (b := true) rfl rfl rfl) (r_nilCheck rfl) ?_
    refine sqAny (v := .pointer (some ⟨b, 3, none⟩)) (w' := w28) (wantedSome (d' := 50) (b := true) rfl rfl rfl) (r_fieldAddr (off' := 3) fld89_3 (by decide) (b := b) (off := 0) rfl (by omega)) ?_
    refine sqAny (v := i64 ((e.since : Nat) + (1 : Int))) (w' := w28) (wantedSome (d' := 50) (b := true) rfl rfl rfl) (r_loadC (v := i64 ((e.since : Nat) + (1 : Int))) one3 (H29'.get (k := 1) rfl) (off := 3) rfl (by rfl)) ?_
    refine sqAny (v := .bool (true)) (w' := w28) (wantedSome (d' := 50) (b := true) rfl rfl rfl) ((r_lssI (a := (e.since : Nat) + (1 : Int)) (b := (4 : Int)) rfl rfl).as (v' := .bool (true)) (by exact congrArg Value.bool (decide_eq_true (by omega)))) ?_
    refine sq (r_pickT (u := .bool (true)) rfl rfl) ?_
    refine sq (r_assign (v := .bool (true)) rfl) ?_
    refine wnil ?_
    refine thenNormal ?_
    refine condTrue rfl ?_
    refine seqRegion ?_
    refine sq (r_move (v := .slice (ownA x.key) x.fs.length x.c) rfl) ?_
    refine sq (r_assign (v := .slice (ownA x.key) x.fs.length x.c) rfl) ?_
    refine wend ?_
    refine retAny ?_
    refine blockRet ?_
    refine thenRet ?_
    refine retG (rs := [.tmp 2]) (vs := [.slice (ownA x.key) x.fs.length x.c]) rfl ⟨⟨rfl, rfl⟩, trivial⟩ ?_
    have hfin := ((Hp.sink4 (H29')).newO (sob E32 53 [] []))
    refine ⟨_, rfl, x, { e with o := ow0, sends := e.sends, since := e.since + 1, err := .nilIface }, rfl, hx, hxb, En.okStep he _ _ (.inl rfl), by simp only [abs, hd]; rfl, hfin⟩

theorem step_send0 (b : Nat) (e : En) (F R : List (Option Nat × Obj)) (he : e.ok 5 F) (hF : ∀ x ∈ F, x ∈ R) (w₀ w : World) (H : Hp No w₀ w (endR 30 53 89 b e ++ R)) (hd : isDead e.err = false) (hsi : e.since < 1000000000) (hol : e.o.l.length ≤ 1000000) (f0 : Fr) (hf0 : e.q.fs[0]? = some f0) (hs0 : e.sends = 0) : Calls Tryd.prog 28 [.pointer (some ⟨b, 0, none⟩)].toArray w (Ret fun v w' => ∃ (x : Wy) (e' : En), v = .slice (ownA x.key) x.fs.length x.c ∧ x.ok ∧ bss x.fs = acks (abs e).owed ++ [sealF 0#8 (abs e).number f0.bs] ∧ e'.ok 5 F ∧ abs e' = { abs e with owed := [], since := 0, sends := (abs e).sends + 1 } ∧ Hp No w₀ w' (endR 30 53 89 b e' ++ ((x.key, sob ES 30 (svs x.fs) x.sp) :: (frs 5 x.fs ++ R)))) := by
  have hqc := he.q.sl.cap
  have hcc := he.cm.sl.cap
  rw [svs_len] at hqc hcc
  have he0 := he.live hd
  have hf0k := he.q.each f0 (List.mem_of_getElem? hf0)
  have hf0l := he.small f0 (List.mem_of_getElem? hf0)
  have hq0 := (List.getElem?_eq_some_iff.1 hf0).1
  have H := H.as (L' := ((some b, .cells #[.slice e.q.a e.q.fs.length e.q.c, u32 (e.number), i64 ((e.sends : Nat)), i64 ((e.since : Nat)), u32 (e.want), .slice e.cm.a e.cm.fs.length e.cm.c, .slice (ownA e.o.key) e.o.l.length e.o.c, .nilIface] 89 (0, 0)) :: (e.q.key, sobP ES 30 e.q.pre (svs e.q.fs) e.q.sp) :: (e.cm.key, sobP ES 30 e.cm.pre (svs e.cm.fs) e.cm.sp) :: (e.o.key, sob E32 53 e.o.l e.o.sp) :: R)) (by show endR 30 53 89 b e ++ R = _; unfold endR En.ob; rw [he0]; rfl)
  refine enter (n := 99) Tryd.func28 rfl rfl (Nat.le_of_ble_eq_true rfl) ?_
  refine seqRegion ?_
  refine sq (r_assign (v := .slice none 0 0) rfl) ?_
  refine wend ?_
  refine seqRegion ?_
  refine sq (r_assign (v := .slice none 0 0) rfl) ?_
  refine wend ?_
  refine seqAny ?_
  refine seqRegion ?_
  refine sq (r_move (v := .pointer (some ⟨b, 0, none⟩)) rfl) ?_
  refine sq (r_nilCheck rfl) ?_
  refine sq (r_fieldAddr (off' := 6) fld89_6 (by decide) (b := b) (off := 0) rfl (by omega)) ?_
  refine sq (r_loadC (v := .slice (ownA e.o.key) e.o.l.length e.o.c) one87 (H.get (k := 0) rfl) (off := 6) rfl (by rfl)) ?_
  refine sq (r_lenS sli87 (a := ownA e.o.key) (m := e.o.l.length) (c := e.o.c) rfl) ?_
  refine sq (r_move (v := i64 ((0 : Int))) rfl) ?_
  refine wend ?_
  refine blockAny ?_
  refine loopAny (σ := Nat × Wy) (fun (q, x) => [(0, .pointer (some ⟨b, 0, none⟩)), (3, .slice (ownA x.key) x.fs.length x.c), (9, .slice (ownA e.o.key) e.o.l.length e.o.c), (10, i64 ((e.o.l.length : Nat))), (11, i64 ((q : Nat)))]) (fun (q, x) w' => (q ≤ e.o.l.length ∧ x.ok ∧ bss x.fs = acks (e.o.l.take q)) ∧ Hp No w₀ w' ((x.key, sob ES 30 (svs x.fs) x.sp) :: (some b, .cells #[.slice e.q.a e.q.fs.length e.q.c, u32 (e.number), i64 ((e.sends : Nat)), i64 ((e.since : Nat)), u32 (e.want), .slice e.cm.a e.cm.fs.length e.cm.c, .slice (ownA e.o.key) e.o.l.length e.o.c, .nilIface] 89 (0, 0)) :: (e.q.key, sobP ES 30 e.q.pre (svs e.q.fs) e.q.sp) :: (e.cm.key, sobP ES 30 e.cm.pre (svs e.cm.fs) e.cm.sp) :: (e.o.key, sob E32 53 e.o.l e.o.sp) :: (frs 5 x.fs ++ R))) (fun (q, x) => e.o.l.length - q) ((0, wy0)) ?_ ?_ ?_
  · exact ⟨rfl, rfl, rfl, rfl, rfl, trivial⟩
  · exact ⟨⟨Nat.zero_le _, wy0_ok, rfl⟩, H.nil (sob ES 30 [] [])⟩
  rintro ⟨q, x⟩ ρ w1 ⟨⟨hq, hx, hxb⟩, HL⟩
  have hxl := congrArg List.length hxb
  simp only [bss_len, acks, List.length_map, List.length_take] at hxl
  refine seqRegion ?_
  refine sq (r_lssI (a := (q : Nat)) (b := (e.o.l.length : Nat)) rfl rfl) ?_
  refine wend ?_
  refine seqAny ?_
  refine condProp (((q : Nat) : Int) < (e.o.l.length : Nat)) rfl (fun c12 => ?_) (fun c12 => ?_)
  · skip
    refine skipAny ?_
    refine thenNormal ?_
    refine seqAny ?_
    refine blockAny ?_
    refine seqRegion ?_
    refine sq (r_idxS (E := E32) (l := e.o.l) (j := q) sli87 (HL.rd (k := 4) rfl he.o) rfl rfl (by first | rfl | omega | (simp; omega)) (by rfl) (by omega)) ?_
    refine sq (r_ldS (E := E32) (l := e.o.l) (j := q) (v := (e.o.l).getD q 0#32) fits53 (HL.rd (k := 4) rfl he.o) rfl rfl (at_getD (by omega))) ?_
    refine sq (r_assign (v := u32 ((e.o.l).getD q 0#32)) rfl) ?_
    refine wend ?_
    refine oneRegion ?_
    refine sq (r_move (v := .slice (ownA x.key) x.fs.length x.c) rfl) ?_
    refine sq (r_move (v := u32 ((e.o.l).getD q 0#32)) rfl) ?_
    refine c_call (vs := [u8 (1#8), u32 ((e.o.l).getD q 0#32), .slice none 0 0]) call30 rfl (seal_ok (1#8) ((e.o.l).getD q 0#32) ([]) (by first | omega | exact Nat.le_of_ble_eq_true rfl | (simp; omega)) none 0 0 (by first | rfl | omega | (simp; omega) | (simp at *; omega)) w1 Rd.nil) ?_
    rintro _ w3 ⟨⟨key5, c6, sp7, rfl, hS8, hk9⟩, hE10⟩
    rw [show (sealF (1#8) ((e.o.l).getD q 0#32) ([])).length = (sealF (1#8) ((e.o.l).getD q 0#32) ([])).length from rfl]
    have H11 := HL.add hE10 hk9
    refine q_buildSlice (E := ES) (l := ([⟨ownA key5, (sealF (1#8) ((e.o.l).getD q 0#32) ([])).length, c6⟩] : List SlV)) H11 sli22 zer30 (Nat.le_of_ble_eq_true rfl) (ps := [(0, .slice (ownA key5) ((sealF (1#8) ((e.o.l).getD q 0#32) ([])).length) c6)]) rfl (by exact fillAll rfl rfl) rfl ?_
    intro b12 w14 hS13 H15 hE16
    refine q_append (E := ES) (k := 2) (l := svs x.fs) (l2 := ([⟨ownA key5, (sealF (1#8) ((e.o.l).getD q 0#32) ([])).length, c6⟩] : List SlV)) H15 rfl hx.sl sli22 zer30 rfl byt30 (H15.rd (k := 0) rfl hS13) rfl (by exact (svs_len _).symm) rfl (by rfl) (by omega) ?_
    intro key17 c18 sp19 w21 hS20 hne23 H22
    have H22' := H22.as (L' := (((some b12), sob ES 30 ([⟨ownA key5, (sealF (1#8) ((e.o.l).getD q 0#32) ([])).length, c6⟩] : List SlV) ([])) :: (key5, sob E8 5 (sealF (1#8) ((e.o.l).getD q 0#32) ([])) sp7) :: (key17, sob ES 30 ((svs x.fs) ++ ([⟨ownA key5, (sealF (1#8) ((e.o.l).getD q 0#32) ([])).length, c6⟩] : List SlV)) sp19) :: (some b, .cells #[.slice e.q.a e.q.fs.length e.q.c, u32 (e.number), i64 ((e.sends : Nat)), i64 ((e.since : Nat)), u32 (e.want), .slice e.cm.a e.cm.fs.length e.cm.c, .slice (ownA e.o.key) e.o.l.length e.o.c, .nilIface] 89 (0, 0)) :: (e.q.key, sobP ES 30 e.q.pre (svs e.q.fs) e.q.sp) :: (e.cm.key, sobP ES 30 e.cm.pre (svs e.cm.fs) e.cm.sp) :: (e.o.key, sob E32 53 e.o.l e.o.sp) :: (frs 5 x.fs ++ R))) rfl
    clear H22
    refine sq (r_assign (v := .slice (ownA key17) (x.fs.length + 1) c18) rfl) ?_
    refine wnil ?_
    refine blockNormal ?_
    refine thenNormal ?_
    refine oneRegion ?_
    refine sq (r_addI (a := (q : Nat)) (b := (1 : Int)) rfl rfl (by omega)) ?_
    refine sq (r_move (v := i64 ((q : Nat) + (1 : Int))) rfl) ?_
    refine wnil ?_
    refine thenNormal ?_
    have hfam24 := ((H22'.dropk 0)).intoFs5 (f := (⟨key5, sealF (1#8) ((e.o.l).getD q 0#32) ([]), c6, sp7⟩ : Fr)) (T := 5)
    have hx2 : Wy.ok (⟨key17, c18, sp19, x.fs ++ [(⟨key5, sealF (1#8) ((e.o.l).getD q 0#32) ([]), c6, sp7⟩ : Fr)]⟩ : Wy) := ⟨by dsimp only; rw [svs_snoc]; exact hS20, fun g hg => by rcases (List.mem_append.1 hg).imp_right List.mem_singleton.1 with hg | rfl <;> first | exact hx.each _ hg | exact hS8⟩
    have hl2 : (x.fs ++ [(⟨key5, sealF (1#8) ((e.o.l).getD q 0#32) ([]), c6, sp7⟩ : Fr)]).length = x.fs.length + 1 := by rw [List.length_append]; rfl
    exact ⟨(q + 1, (⟨key17, c18, sp19, x.fs ++ [(⟨key5, sealF (1#8) ((e.o.l).getD q 0#32) ([]), c6, sp7⟩ : Fr)]⟩ : Wy)), _, rfl, ⟨rfl, by dsimp only; rw [hl2]; rfl, rfl, rfl, rfl, trivial⟩, ⟨⟨by omega, hx2, by dsimp only; rw [bss_snoc, hxb, acks_take (by omega)]⟩, by dsimp only; rw [svs_snoc]; exact hfam24⟩, by show e.o.l.length - (q + 1) < e.o.l.length - q; omega⟩
  · skip
    obtain rfl : q = e.o.l.length := by omega
    rw [acks_all] at hxb
    refine exitAny ?_
    refine thenExit ?_
    refine thenExit ?_
    refine blockHere ?_
    refine thenNormal ?_
    refine seqRegion ?_
    refine sq (r_move (v := .pointer (some ⟨b, 0, none⟩)) rfl) ?_
    refine sq (r_nilCheck rfl) ?_
    refine sq (r_fieldAddr (off' := 6) fld89_6 (by decide) (b := b) (off := 0) rfl (by omega)) ?_
    refine d_store (k := 1) (v := .slice none 0 0) (cs' := #[.slice e.q.a e.q.fs.length e.q.c, u32 (e.number), i64 ((e.sends : Nat)), i64 ((e.since : Nat)), u32 (e.want), .slice e.cm.a e.cm.fs.length e.cm.c, .slice none 0 0, .nilIface]) HL rfl rfl rfl siz87 (by rfl) (by intro u hu; simp [Value.cells] at hu; first | (subst hu; rfl) | (rcases hu with rfl <;> rfl)) (by exact Nat.le_of_ble_eq_true rfl) (by rfl) ?_
    intro w25 H26 hC27
    have H26' := H26.as (L' := ((x.key, sob ES 30 (svs x.fs) x.sp) :: (some b, .cells #[.slice e.q.a e.q.fs.length e.q.c, u32 (e.number), i64 ((e.sends : Nat)), i64 ((e.since : Nat)), u32 (e.want), .slice e.cm.a e.cm.fs.length e.cm.c, .slice none 0 0, .nilIface] 89 (0, 0)) :: (e.q.key, sobP ES 30 e.q.pre (svs e.q.fs) e.q.sp) :: (e.cm.key, sobP ES 30 e.cm.pre (svs e.cm.fs) e.cm.sp) :: (e.o.key, sob E32 53 e.o.l e.o.sp) :: (frs 5 x.fs ++ R))) rfl
    clear H26
    refine wend ?_
    refine seqRegion ?_
    refine sq (r_move (v := .pointer (some ⟨b, 0, none⟩)) rfl) ?_
    refine sq (r_nilCheck rfl) ?_
    refine sq (r_fieldAddr (off' := 3) fld89_3 (by decide) (b := b) (off := 0) rfl (by omega)) ?_
    refine sq (r_loadC (v := i64 ((e.since : Nat))) one3 (H26'.get (k := 1) rfl) (off := 3) rfl (by rfl)) ?_
    refine sq (r_addI (a := (e.since : Nat)) (b := (1 : Int)) rfl rfl (by omega)) ?_
    refine sq (r_nilCheck rfl) ?_
    refine sq (r_fieldAddr (off' := 3) fld89_3 (by decide) (b := b) (off := 0) rfl (by omega)) ?_
    refine d_store (k := 1) (v := i64 ((e.since : Nat) + (1 : Int))) (cs' := #[.slice e.q.a e.q.fs.length e.q.c, u32 (e.number), i64 ((e.sends : Nat)), i64 ((e.since : Nat) + (1 : Int)), u32 (e.want), .slice e.cm.a e.cm.fs.length e.cm.c, .slice none 0 0, .nilIface]) H26' rfl rfl rfl siz3 (by rfl) (by exact EI.one _) (by exact Nat.le_of_ble_eq_true rfl) (by rfl) ?_
    intro w28 H29 hC30
    have H29' := H29.as (L' := ((x.key, sob ES 30 (svs x.fs) x.sp) :: (some b, .cells #[.slice e.q.a e.q.fs.length e.q.c, u32 (e.number), i64 ((e.sends : Nat)), i64 ((e.since : Nat) + (1 : Int)), u32 (e.want), .slice e.cm.a e.cm.fs.length e.cm.c, .slice none 0 0, .nilIface] 89 (0, 0)) :: (e.q.key, sobP ES 30 e.q.pre (svs e.q.fs) e.q.sp) :: (e.cm.key, sobP ES 30 e.cm.pre (svs e.cm.fs) e.cm.sp) :: (e.o.key, sob E32 53 e.o.l e.o.sp) :: (frs 5 x.fs ++ R))) rfl
    clear H29
    refine wend ?_
    refine seqAny ?_
    refine blockAny ?_
    refine seqAny ?_
    refine seqRegion ?_
    refine sq (r_move (v := .pointer (some ⟨b, 0, none⟩)) rfl) ?_
    refine sq (r_nilCheck rfl) ?_
    refine sq (r_fieldAddr (off' := 7) fld89_7 (by decide) (b := b) (off := 0) rfl (by omega)) ?_
    refine sq (r_loadC (v := .nilIface) one28 (H29'.get (k := 1) rfl) (off := 7) rfl (by rfl)) ?_
    refine sq (r_neqNN isI28 rfl rfl) ?_
    refine sq (r_move (v := .bool (false)) rfl) ?_
    refine sqAny (v := .pointer (some ⟨b, 0, none⟩)) (w' := w28) (wantedSome (d' := 37) (b := false) rfl rfl rfl) (r_move (v := .pointer (some ⟨b, 0, none⟩)) rfl) ?_
    refine sqAny (v := .pointer (some ⟨b, 0, none⟩)) (w' := w28) (wantedSome (d' := 37) (b := false) rfl rfl rfl) (r_nilCheck rfl) ?_
    refine sqAny (v := .pointer (some ⟨b, 0, none⟩)) (w' := w28) (wantedSome (d' := 37) (b := false) rfl rfl rfl) (r_fieldAddr (off' := 0) fld89_0 (by decide) (b := b) (off := 0) rfl (by omega)) ?_
    refine sqAny (v := .slice e.q.a e.q.fs.length e.q.c) (w' := w28) (wantedSome (d' := 37) (b := false) rfl rfl rfl) (r_loadC (v := .slice e.q.a e.q.fs.length e.q.c) one22 (H29'.get (k := 1) rfl) (off := 0) rfl (by rfl)) ?_
    refine sqAny (v := i64 ((e.q.fs.length : Nat))) (w' := w28) (wantedSome (d' := 37) (b := false) rfl rfl rfl) (r_lenS sli22 (a := e.q.a) (m := e.q.fs.length) (c := e.q.c) rfl) ?_
    refine sqAny (v := .bool (false)) (w' := w28) (wantedSome (d' := 37) (b := false) rfl rfl rfl) ((r_eqlI (a := (e.q.fs.length : Nat)) (b := (0 : Int)) rfl rfl).as (v' := .bool (false)) (by exact congrArg Value.bool (decide_eq_false (by omega)))) ?_
    refine sq (r_pickF (v := .bool (false)) rfl rfl) ?_
    refine sq (r_assign (v := .bool (false)) rfl) ?_
    refine wend ?_
    refine condFalse rfl ?_
    refine oneRegion ?_
    refine sq (r_move (v := .pointer (some ⟨b, 0, none⟩)) rfl) ?_
    refine sq (r_nilCheck rfl) ?_
    refine sq (r_fieldAddr (off' := 2) fld89_2 (by decide) (b := b) (off := 0) rfl (by omega)) ?_
    refine sq (r_loadC (v := i64 ((e.sends : Nat))) one3 (H29'.get (k := 1) rfl) (off := 2) rfl (by rfl)) ?_
    refine sq ((r_gtrI (a := (e.sends : Nat)) (b := (0 : Int)) rfl rfl).as (v' := .bool (false)) (by exact congrArg Value.bool (decide_eq_false (by omega)))) ?_
    refine sq (r_move (v := .bool (false)) rfl) ?_
    refine skAny (wantedSome (d' := 50) (b := false) rfl rfl rfl) ?_
    refine skAny (wantedSome (d' := 50) (b := false) rfl rfl rfl) ?_
    refine skAny (wantedSome (d' := 50) (b := false) rfl rfl rfl) ?_
    refine skAny (wantedSome (d' := 50) (b := false) rfl rfl rfl) ?_
    refine skAny (wantedSome (d' := 50) (b := false) rfl rfl rfl) ?_
    refine sq (r_pickF (v := .bool (false)) rfl rfl) ?_
    refine sq (r_assign (v := .bool (false)) rfl) ?_
    refine wnil ?_
    refine thenNormal ?_
    refine condFalse rfl ?_
    refine seqRegion ?_
    refine sq (r_move (v := .pointer (some ⟨b, 0, none⟩)) rfl) ?_
    refine sq (r_nilCheck rfl) ?_
    refine sq (r_fieldAddr (off' := 2) fld89_2 (by decide) (b := b) (off := 0) rfl (by omega)) ?_
    refine sq (r_loadC (v := i64 ((e.sends : Nat))) one3 (H29'.get (k := 1) rfl) (off := 2) rfl (by rfl)) ?_
    refine sq ((r_eqlI (a := (e.sends : Nat)) (b := (8 : Int)) rfl rfl).as (v' := .bool (false)) (by exact congrArg Value.bool (decide_eq_false (by omega)))) ?_
    refine sq (r_assign (v := .bool (false)) rfl) ?_
    refine wend ?_
    refine condFalse rfl ?_
    refine skipAny ?_
    refine blockNormal ?_
    refine thenNormal ?_
    refine seqRegion ?_
    refine sq (r_move (v := .pointer (some ⟨b, 0, none⟩)) rfl) ?_
    refine sq (r_nilCheck rfl) ?_
    refine sq (r_fieldAddr (off' := 2) fld89_2 (by decide) (b := b) (off := 0) rfl (by omega)) ?_
    refine sq (r_loadC (v := i64 ((e.sends : Nat))) one3 (H29'.get (k := 1) rfl) (off := 2) rfl (by rfl)) ?_
    refine sq (r_addI (a := (e.sends : Nat)) (b := (1 : Int)) rfl rfl (by omega)) ?_
    refine sq (r_nilCheck rfl) ?_
    refine sq (r_fieldAddr (off' := 2) fld89_2 (by decide) (b := b) (off := 0) rfl (by omega)) ?_
    refine d_store (k := 1) (v := i64 ((e.sends : Nat) + (1 : Int))) (cs' := #[.slice e.q.a e.q.fs.length e.q.c, u32 (e.number), i64 ((e.sends : Nat) + (1 : Int)), i64 ((e.since : Nat) + (1 : Int)), u32 (e.want), .slice e.cm.a e.cm.fs.length e.cm.c, .slice none 0 0, .nilIface]) H29' rfl rfl rfl siz3 (by rfl) (by exact EI.one _) (by exact Nat.le_of_ble_eq_true rfl) (by rfl) ?_
    intro w31 H32 hC33
    have H32' := H32.as (L' := ((x.key, sob ES 30 (svs x.fs) x.sp) :: (some b, .cells #[.slice e.q.a e.q.fs.length e.q.c, u32 (e.number), i64 ((e.sends : Nat) + (1 : Int)), i64 ((e.since : Nat) + (1 : Int)), u32 (e.want), .slice e.cm.a e.cm.fs.length e.cm.c, .slice none 0 0, .nilIface] 89 (0, 0)) :: (e.q.key, sobP ES 30 e.q.pre (svs e.q.fs) e.q.sp) :: (e.cm.key, sobP ES 30 e.cm.pre (svs e.cm.fs) e.cm.sp) :: (e.o.key, sob E32 53 e.o.l e.o.sp) :: (frs 5 x.fs ++ R))) rfl
    clear H32
    refine wend ?_
    refine seqRegion ?_
    refine sq (r_move (v := .pointer (some ⟨b, 0, none⟩)) rfl) ?_
    refine sq (r_nilCheck rfl) ?_
    refine sq (r_fieldAddr (off' := 3) fld89_3 (by decide) (b := b) (off := 0) rfl (by omega)) ?_
    refine d_store (k := 1) (v := i64 ((0 : Int))) (cs' := #[.slice e.q.a e.q.fs.length e.q.c, u32 (e.number), i64 ((e.sends : Nat) + (1 : Int)), i64 ((0 : Int)), u32 (e.want), .slice e.cm.a e.cm.fs.length e.cm.c, .slice none 0 0, .nilIface]) H32' rfl rfl rfl siz3 (by rfl) (by exact EI.one _) (by exact Nat.le_of_ble_eq_true rfl) (by rfl) ?_
    intro w34 H35 hC36
    have H35' := H35.as (L' := ((x.key, sob ES 30 (svs x.fs) x.sp) :: (some b, .cells #[.slice e.q.a e.q.fs.length e.q.c, u32 (e.number), i64 ((e.sends : Nat) + (1 : Int)), i64 ((0 : Int)), u32 (e.want), .slice e.cm.a e.cm.fs.length e.cm.c, .slice none 0 0, .nilIface] 89 (0, 0)) :: (e.q.key, sobP ES 30 e.q.pre (svs e.q.fs) e.q.sp) :: (e.cm.key, sobP ES 30 e.cm.pre (svs e.cm.fs) e.cm.sp) :: (e.o.key, sob E32 53 e.o.l e.o.sp) :: (frs 5 x.fs ++ R))) rfl
    clear H35
    refine wend ?_
    refine seqAny ?_
    refine drawC (m := 15) [0, 0, 2, 6, 14, 0, 32, 96, 224, 480, 992, 2046, 4094, 8191, 16383] [11, 12, 13] (fun q vs w' => match q, vs with | 0, [] => Hp No w₀ w' ((x.key, sob ES 30 (svs x.fs) x.sp) :: (some b, .cells #[.slice e.q.a e.q.fs.length e.q.c, u32 (e.number), i64 ((e.sends : Nat) + (1 : Int)), i64 ((0 : Int)), u32 (e.want), .slice e.cm.a e.cm.fs.length e.cm.c, .slice none 0 0, .nilIface] 89 (0, 0)) :: (e.q.key, sobP ES 30 e.q.pre (svs e.q.fs) e.q.sp) :: (e.cm.key, sobP ES 30 e.cm.pre (svs e.cm.fs) e.cm.sp) :: (e.o.key, sob E32 53 e.o.l e.o.sp) :: (frs 5 x.fs ++ R)) | 1, [v0] => ∃ (key42 : Option Nat) (c43 : Nat) (sp44 : List Value), v0 = .slice (ownA key42) ((sealF (0#8) e.number f0.bs).length) c43 ∧ Sl E8 key42 (sealF (0#8) e.number f0.bs) c43 sp44 ∧ Hp No w₀ w' ((key42, sob E8 5 (sealF (0#8) e.number f0.bs) sp44) :: (x.key, sob ES 30 (svs x.fs) x.sp) :: (some b, .cells #[.slice e.q.a e.q.fs.length e.q.c, u32 (e.number), i64 ((e.sends : Nat) + (1 : Int)), i64 ((0 : Int)), u32 (e.want), .slice e.cm.a e.cm.fs.length e.cm.c, .slice none 0 0, .nilIface] 89 (0, 0)) :: (e.q.key, sobP ES 30 e.q.pre (svs e.q.fs) e.q.sp) :: (e.cm.key, sobP ES 30 e.cm.pre (svs e.cm.fs) e.cm.sp) :: (e.o.key, sob E32 53 e.o.l e.o.sp) :: (frs 5 x.fs ++ R)) | 2, [v0, v1] => ∃ (key42 : Option Nat) (c43 : Nat) (sp44 : List Value) (b52 : Nat), v0 = .slice (ownA key42) ((sealF (0#8) e.number f0.bs).length) c43 ∧ v1 = .slice (ownA (some b52)) 1 1 ∧ Sl ES (some b52) ([⟨ownA key42, (sealF (0#8) e.number f0.bs).length, c43⟩] : List SlV) 1 ([]) ∧ Sl E8 key42 (sealF (0#8) e.number f0.bs) c43 sp44 ∧ Hp No w₀ w' (((some b52), sob ES 30 ([⟨ownA key42, (sealF (0#8) e.number f0.bs).length, c43⟩] : List SlV) ([])) :: (key42, sob E8 5 (sealF (0#8) e.number f0.bs) sp44) :: (x.key, sob ES 30 (svs x.fs) x.sp) :: (some b, .cells #[.slice e.q.a e.q.fs.length e.q.c, u32 (e.number), i64 ((e.sends : Nat) + (1 : Int)), i64 ((0 : Int)), u32 (e.want), .slice e.cm.a e.cm.fs.length e.cm.c, .slice none 0 0, .nilIface] 89 (0, 0)) :: (e.q.key, sobP ES 30 e.q.pre (svs e.q.fs) e.q.sp) :: (e.cm.key, sobP ES 30 e.cm.pre (svs e.cm.fs) e.cm.sp) :: (e.o.key, sob E32 53 e.o.l e.o.sp) :: (frs 5 x.fs ++ R)) | 3, [v0, v1, v2] => ∃ (key42 : Option Nat) (c43 : Nat) (sp44 : List Value) (b52 : Nat) (key60 : Option Nat) (c61 : Nat) (sp62 : List Value), v0 = .slice (ownA key42) ((sealF (0#8) e.number f0.bs).length) c43 ∧ v1 = .slice (ownA (some b52)) 1 1 ∧ v2 = .slice (ownA key60) (x.fs.length + 1) c61 ∧ Sl ES (some b52) ([⟨ownA key42, (sealF (0#8) e.number f0.bs).length, c43⟩] : List SlV) 1 ([]) ∧ Sl E8 key42 (sealF (0#8) e.number f0.bs) c43 sp44 ∧ Sl ES key60 ((svs x.fs) ++ ([⟨ownA key42, (sealF (0#8) e.number f0.bs).length, c43⟩] : List SlV)) c61 sp62 ∧ Hp No w₀ w' (((some b52), sob ES 30 ([⟨ownA key42, (sealF (0#8) e.number f0.bs).length, c43⟩] : List SlV) ([])) :: (key42, sob E8 5 (sealF (0#8) e.number f0.bs) sp44) :: (key60, sob ES 30 ((svs x.fs) ++ ([⟨ownA key42, (sealF (0#8) e.number f0.bs).length, c43⟩] : List SlV)) sp62) :: (some b, .cells #[.slice e.q.a e.q.fs.length e.q.c, u32 (e.number), i64 ((e.sends : Nat) + (1 : Int)), i64 ((0 : Int)), u32 (e.want), .slice e.cm.a e.cm.fs.length e.cm.c, .slice none 0 0, .nilIface] 89 (0, 0)) :: (e.q.key, sobP ES 30 e.q.pre (svs e.q.fs) e.q.sp) :: (e.cm.key, sobP ES 30 e.cm.pre (svs e.cm.fs) e.cm.sp) :: (e.o.key, sob E32 53 e.o.l e.o.sp) :: (frs 5 x.fs ++ R)) | _, _ => False) mixed (by kernel_rfl) (by kernel_rfl) H35'.drew ?_
    refine WalkC.look rfl (fun _ => .slice (ownA x.key) x.fs.length x.c) (fun _ _ _ => rfl) (fun q r uw _ _ _ _ => Gives.run rfl (r_move (v := .slice (ownA x.key) x.fs.length x.c) rfl) ⟨rfl, rfl⟩) ?_
    refine WalkC.look rfl (fun _ => .pointer (some ⟨b, 0, none⟩)) (fun _ _ _ => rfl) (fun q r uw _ _ _ _ => Gives.run rfl (r_move (v := .pointer (some ⟨b, 0, none⟩)) rfl) ⟨rfl, rfl⟩) ?_
    refine WalkC.look rfl (fun _ => .pointer (some ⟨b, 0, none⟩)) (fun _ _ _ => rfl) (fun q r uw _ _ _ _ => Gives.run rfl (r_nilCheck rfl) ⟨rfl, rfl⟩) ?_
    refine WalkC.look rfl (fun _ => .pointer (some ⟨b, 1, none⟩)) (fun _ _ _ => rfl) (fun q r uw _ _ _ _ => Gives.run rfl (r_fieldAddr (off' := 1) fld89_1 (by decide) (b := b) (off := 0) rfl (by omega)) ⟨rfl, rfl⟩) ?_
    refine WalkC.look rfl (fun _ => u32 (e.number)) (fun _ _ _ => rfl) (fun q r uw hlo hhi hle hF => ?_) ?_
    · skip
      have h1 : 0 ≤ q := Nat.zero_le _
      have h2 : q ≤ 0 := hhi 0 11 rfl rfl
      rcases (show q = 0 by omega) with rfl
      · skip
        have HH := hF
        exact Gives.run rfl (r_loadC (v := u32 (e.number)) one53 (HH.get (k := 1) rfl) (off := 1) rfl (by rfl)) ⟨rfl, rfl⟩
    refine WalkC.look rfl (fun _ => .pointer (some ⟨b, 0, none⟩)) (fun _ _ _ => rfl) (fun q r uw _ _ _ _ => Gives.run rfl (r_move (v := .pointer (some ⟨b, 0, none⟩)) rfl) ⟨rfl, rfl⟩) ?_
    refine WalkC.look rfl (fun _ => .pointer (some ⟨b, 0, none⟩)) (fun _ _ _ => rfl) (fun q r uw _ _ _ _ => Gives.run rfl (r_nilCheck rfl) ⟨rfl, rfl⟩) ?_
    refine WalkC.look rfl (fun _ => .pointer (some ⟨b, 0, none⟩)) (fun _ _ _ => rfl) (fun q r uw _ _ _ _ => Gives.run rfl (r_fieldAddr (off' := 0) fld89_0 (by decide) (b := b) (off := 0) rfl (by omega)) ⟨rfl, rfl⟩) ?_
    refine WalkC.look rfl (fun _ => .slice e.q.a e.q.fs.length e.q.c) (fun _ _ _ => rfl) (fun q r uw hlo hhi hle hF => ?_) ?_
    · skip
      have h1 : 0 ≤ q := Nat.zero_le _
      have h2 : q ≤ 0 := hhi 0 11 rfl rfl
      rcases (show q = 0 by omega) with rfl
      · skip
        have HH := hF
        exact Gives.run rfl (r_loadC (v := .slice e.q.a e.q.fs.length e.q.c) one22 (HH.get (k := 1) rfl) (off := 0) rfl (by rfl)) ⟨rfl, rfl⟩
    refine WalkC.look rfl (fun _ => .pointer (adr e.q.a (0 * 1))) (fun _ _ _ => rfl) (fun q r uw hlo hhi hle hF => ?_) ?_
    · skip
      have h1 : 0 ≤ q := Nat.zero_le _
      have h2 : q ≤ 0 := hhi 0 11 rfl rfl
      rcases (show q = 0 by omega) with rfl
      · skip
        have HH := hF
        exact Gives.run rfl (r_idxS (E := ES) (l := svs e.q.fs) (j := 0) sli22 (HH.rdP (k := 2) rfl he.q.sl) rfl rfl (by first | rfl | omega | (simp; omega)) (by exact (svs_len _).symm) (by rw [svs_len]; omega)) ⟨rfl, rfl⟩
    refine WalkC.look rfl (fun _ => .slice (ownA f0.key) f0.bs.length f0.c) (fun _ _ _ => rfl) (fun q r uw hlo hhi hle hF => ?_) ?_
    · skip
      have h1 : 0 ≤ q := Nat.zero_le _
      have h2 : q ≤ 0 := hhi 0 11 rfl rfl
      rcases (show q = 0 by omega) with rfl
      · skip
        have HH := hF
        exact Gives.run rfl ((r_ldS (E := ES) (l := svs e.q.fs) (j := 0) (v := (svs e.q.fs).getD 0 sv0) fits30 (HH.rdP (k := 2) rfl he.q.sl) rfl rfl (at_getD (by rw [svs_len]; omega))).as (v' := .slice (ownA f0.key) f0.bs.length f0.c) (by rw [svs_get hf0]; rfl)) ⟨rfl, rfl⟩
    refine WalkC.eff 0 rfl (fun r uw37 hF39 => ?_) ?_
    · skip
      have H38 := hF39
      dsimp only [List.take, List.map, List.cons_append, List.nil_append]
      refine Gives.ofW (d := 96) rfl rfl (fun Q' hK => ?_)
      refine c_call (vs := [u8 (0#8), u32 (e.number), .slice (ownA f0.key) f0.bs.length f0.c]) call30 rfl (seal_ok (0#8) e.number f0.bs (by omega) (ownA f0.key) f0.bs.length f0.c (by rfl) uw37 (H38.rdm (T := 5) hf0k (List.mem_cons_of_mem _ (List.mem_cons_of_mem _ (List.mem_cons_of_mem _ (List.mem_cons_of_mem _ (List.mem_cons_of_mem _ (List.mem_append_right _ (hF _ (he.qm f0 (List.mem_of_getElem? hf0))))))))))) ?_
      rintro _ w40 ⟨⟨key42, c43, sp44, rfl, hS45, hk46⟩, hE47⟩
      rw [show (sealF (0#8) e.number f0.bs).length = (sealF (0#8) e.number f0.bs).length from rfl]
      have H48 := H38.add hE47 hk46
      exact hK _ _ ⟨key42, c43, sp44, rfl, hS45, H48⟩
    refine WalkC.eff 1 rfl (fun r uw49 hF51 => ?_) ?_
    · skip
      obtain ⟨key42, c43, sp44, e11, hS45, H50⟩ := hF51
      dsimp only [List.take, List.map, List.cons_append, List.nil_append]
      rw [e11]
      refine Gives.ofW (d := 97) rfl rfl (fun Q' hK => ?_)
      refine q_buildSlice (E := ES) (l := ([⟨ownA key42, (sealF (0#8) e.number f0.bs).length, c43⟩] : List SlV)) H50 sli22 zer30 (Nat.le_of_ble_eq_true rfl) (ps := [(0, .slice (ownA key42) ((sealF (0#8) e.number f0.bs).length) c43)]) rfl (by exact fillAll rfl rfl) rfl ?_
      intro b52 w54 hS53 H55 hE56
      exact hK _ _ ⟨key42, c43, sp44, b52, rfl, rfl, hS53, hS45, H55⟩
    refine WalkC.eff 2 rfl (fun r uw57 hF59 => ?_) ?_
    · skip
      obtain ⟨key42, c43, sp44, b52, e11, e12, hS53, hS45, H58⟩ := hF59
      dsimp only [List.take, List.map, List.cons_append, List.nil_append]
      rw [e11, e12]
      refine Gives.ofW (d := 98) rfl rfl (fun Q' hK => ?_)
      refine q_append (E := ES) (k := 2) (l := svs x.fs) (l2 := ([⟨ownA key42, (sealF (0#8) e.number f0.bs).length, c43⟩] : List SlV)) H58 rfl hx.sl sli22 zer30 rfl byt30 (H58.rd (k := 0) rfl hS53) rfl (by exact (svs_len _).symm) rfl (by rfl) (by omega) ?_
      intro key60 c61 sp62 w64 hS63 hne66 H65
      have H65' := H65.as (L' := (((some b52), sob ES 30 ([⟨ownA key42, (sealF (0#8) e.number f0.bs).length, c43⟩] : List SlV) ([])) :: (key42, sob E8 5 (sealF (0#8) e.number f0.bs) sp44) :: (key60, sob ES 30 ((svs x.fs) ++ ([⟨ownA key42, (sealF (0#8) e.number f0.bs).length, c43⟩] : List SlV)) sp62) :: (some b, .cells #[.slice e.q.a e.q.fs.length e.q.c, u32 (e.number), i64 ((e.sends : Nat) + (1 : Int)), i64 ((0 : Int)), u32 (e.want), .slice e.cm.a e.cm.fs.length e.cm.c, .slice none 0 0, .nilIface] 89 (0, 0)) :: (e.q.key, sobP ES 30 e.q.pre (svs e.q.fs) e.q.sp) :: (e.cm.key, sobP ES 30 e.cm.pre (svs e.cm.fs) e.cm.sp) :: (e.o.key, sob E32 53 e.o.l e.o.sp) :: (frs 5 x.fs ++ R))) rfl
      clear H65
      exact hK _ _ ⟨key42, c43, sp44, b52, key60, c61, sp62, rfl, rfl, rfl, hS53, hS45, hS63, H65'⟩
    refine WalkC.look rfl (fun r => r 13) (fun r r' h => h 13 (by decide) rfl) (fun q r uw _ _ _ _ => Gives.run rfl (r_assign rfl) ⟨rfl, rfl⟩) ?_
    refine WalkC.nil ?_
    intro r67 w68 hF70
    obtain ⟨key42, c43, sp44, b52, key60, c61, sp62, e11, e12, e13, hS53, hS45, hS63, H69⟩ := hF70
    dsimp only
    rw [e11, e12, e13]
    refine wnil ?_
    refine thenNormal ?_
    refine retAny ?_
    refine retG (rs := [.tmp 2]) (vs := [.slice (ownA key60) (x.fs.length + 1) c61]) rfl ⟨⟨rfl, rfl⟩, trivial⟩ ?_
    have hfam71 := ((H69.dropk 0)).intoFs5 (f := (⟨key42, sealF (0#8) e.number f0.bs, c43, sp44⟩ : Fr)) (T := 5)
    have hfin := ((Hp.sink4 hfam71).newO (sob E32 53 [] []))
    have hx2 : Wy.ok (⟨key60, c61, sp62, x.fs ++ [(⟨key42, sealF (0#8) e.number f0.bs, c43, sp44⟩ : Fr)]⟩ : Wy) := ⟨by dsimp only; rw [svs_snoc]; exact hS63, fun g hg => by rcases (List.mem_append.1 hg).imp_right List.mem_singleton.1 with hg | rfl <;> first | exact hx.each _ hg | exact hS45⟩
    have hl2 : (x.fs ++ [(⟨key42, sealF (0#8) e.number f0.bs, c43, sp44⟩ : Fr)]).length = x.fs.length + 1 := by rw [List.length_append]; rfl
    refine ⟨_, rfl, (⟨key60, c61, sp62, x.fs ++ [(⟨key42, sealF (0#8) e.number f0.bs, c43, sp44⟩ : Fr)]⟩ : Wy), { e with o := ow0, sends := e.sends + 1, since := 0, err := .nilIface }, by dsimp only; rw [hl2]; rfl, hx2, by dsimp only; rw [bss_snoc, hxb]; rfl, En.okStep he _ _ (.inl rfl), by simp only [abs, hd]; rfl, ?_⟩
    dsimp only
    rw [svs_snoc]
    exact hfin

theorem step_sendR (b : Nat) (e : En) (F R : List (Option Nat × Obj)) (he : e.ok 5 F) (hF : ∀ x ∈ F, x ∈ R) (w₀ w : World) (H : Hp No w₀ w (endR 30 53 89 b e ++ R)) (hd : isDead e.err = false) (hsi : e.since < 1000000000) (hol : e.o.l.length ≤ 1000000) (f0 : Fr) (hf0 : e.q.fs[0]? = some f0) (hs0 : 0 < e.sends) (hs1 : ¬ e.since + 1 < 4) (hs8 : e.sends < 8) : Calls Tryd.prog 28 [.pointer (some ⟨b, 0, none⟩)].toArray w (Ret fun v w' => ∃ (x : Wy) (e' : En), v = .slice (ownA x.key) x.fs.length x.c ∧ x.ok ∧ bss x.fs = acks (abs e).owed ++ [sealF 0#8 (abs e).number f0.bs] ∧ e'.ok 5 F ∧ abs e' = { abs e with owed := [], since := 0, sends := (abs e).sends + 1 } ∧ Hp No w₀ w' (endR 30 53 89 b e' ++ ((x.key, sob ES 30 (svs x.fs) x.sp) :: (frs 5 x.fs ++ R)))) := by
  have hqc := he.q.sl.cap
  have hcc := he.cm.sl.cap
  rw [svs_len] at hqc hcc
  have he0 := he.live hd
  have hf0k := he.q.each f0 (List.mem_of_getElem? hf0)
  have hf0l := he.small f0 (List.mem_of_getElem? hf0)
  have hq0 := (List.getElem?_eq_some_iff.1 hf0).1
  have H := H.as (L' := ((some b, .cells #[.slice e.q.a e.q.fs.length e.q.c, u32 (e.number), i64 ((e.sends : Nat)), i64 ((e.since : Nat)), u32 (e.want), .slice e.cm.a e.cm.fs.length e.cm.c, .slice (ownA e.o.key) e.o.l.length e.o.c, .nilIface] 89 (0, 0)) :: (e.q.key, sobP ES 30 e.q.pre (svs e.q.fs) e.q.sp) :: (e.cm.key, sobP ES 30 e.cm.pre (svs e.cm.fs) e.cm.sp) :: (e.o.key, sob E32 53 e.o.l e.o.sp) :: R)) (by show endR 30 53 89 b e ++ R = _; unfold endR En.ob; rw [he0]; rfl)
  refine enter (n := 99) Tryd.func28 rfl rfl (Nat.le_of_ble_eq_true rfl) ?_
  refine seqRegion ?_
  refine sq (r_assign (v := .slice none 0 0) rfl) ?_
  refine wend ?_
  refine seqRegion ?_
  refine sq (r_assign (v := .slice none 0 0) rfl) ?_
  refine wend ?_
  refine seqAny ?_
  refine seqRegion ?_
  refine sq (r_move (v := .pointer (some ⟨b, 0, none⟩)) rfl) ?_
  refine sq (r_nilCheck rfl) ?_
  refine sq (r_fieldAddr (off' := 6) fld89_6 (by decide) (b := b) (off := 0) rfl (by omega)) ?_
  refine sq (r_loadC (v := .slice (ownA e.o.key) e.o.l.length e.o.c) one87 (H.get (k := 0) rfl) (off := 6) rfl (by rfl)) ?_
  refine sq (r_lenS sli87 (a := ownA e.o.key) (m := e.o.l.length) (c := e.o.c) rfl) ?_
  refine sq (r_move (v := i64 ((0 : Int))) rfl) ?_
  refine wend ?_
  refine blockAny ?_
  refine loopAny (σ := Nat × Wy) (fun (q, x) => [(0, .pointer (some ⟨b, 0, none⟩)), (3, .slice (ownA x.key) x.fs.length x.c), (9, .slice (ownA e.o.key) e.o.l.length e.o.c), (10, i64 ((e.o.l.length : Nat))), (11, i64 ((q : Nat)))]) (fun (q, x) w' => (q ≤ e.o.l.length ∧ x.ok ∧ bss x.fs = acks (e.o.l.take q)) ∧ Hp No w₀ w' ((x.key, sob ES 30 (svs x.fs) x.sp) :: (some b, .cells #[.slice e.q.a e.q.fs.length e.q.c, u32 (e.number), i64 ((e.sends : Nat)), i64 ((e.since : Nat)), u32 (e.want), .slice e.cm.a e.cm.fs.length e.cm.c, .slice (ownA e.o.key) e.o.l.length e.o.c, .nilIface] 89 (0, 0)) :: (e.q.key, sobP ES 30 e.q.pre (svs e.q.fs) e.q.sp) :: (e.cm.key, sobP ES 30 e.cm.pre (svs e.cm.fs) e.cm.sp) :: (e.o.key, sob E32 53 e.o.l e.o.sp) :: (frs 5 x.fs ++ R))) (fun (q, x) => e.o.l.length - q) ((0, wy0)) ?_ ?_ ?_
  · exact ⟨rfl, rfl, rfl, rfl, rfl, trivial⟩
  · exact ⟨⟨Nat.zero_le _, wy0_ok, rfl⟩, H.nil (sob ES 30 [] [])⟩
  rintro ⟨q, x⟩ ρ w1 ⟨⟨hq, hx, hxb⟩, HL⟩
  have hxl := congrArg List.length hxb
  simp only [bss_len, acks, List.length_map, List.length_take] at hxl
  refine seqRegion ?_
  refine sq (r_lssI (a := (q : Nat)) (b := (e.o.l.length : Nat)) rfl rfl) ?_
  refine wend ?_
  refine seqAny ?_
  refine condProp (((q : Nat) : Int) < (e.o.l.length : Nat)) rfl (fun c12 => ?_) (fun c12 => ?_)
  · skip
    refine skipAny ?_
    refine thenNormal ?_
    refine seqAny ?_
    refine blockAny ?_
    refine seqRegion ?_
    refine sq (r_idxS (E := E32) (l := e.o.l) (j := q) sli87 (HL.rd (k := 4) rfl he.o) rfl rfl (by first | rfl | omega | (simp; omega)) (by rfl) (by omega)) ?_
    refine sq (r_ldS (E := E32) (l := e.o.l) (j := q) (v := (e.o.l).getD q 0#32) fits53 (HL.rd (k := 4) rfl he.o) rfl rfl (at_getD (by omega))) ?_
    refine sq (r_assign (v := u32 ((e.o.l).getD q 0#32)) rfl) ?_
    refine wend ?_
    refine oneRegion ?_
    refine sq (r_move (v := .slice (ownA x.key) x.fs.length x.c) rfl) ?_
    refine sq (r_move (v := u32 ((e.o.l).getD q 0#32)) rfl) ?_
    refine c_call (vs := [u8 (1#8), u32 ((e.o.l).getD q 0#32), .slice none 0 0]) call30 rfl (seal_ok (1#8) ((e.o.l).getD q 0#32) ([]) (by first | omega | exact Nat.le_of_ble_eq_true rfl | (simp; omega)) none 0 0 (by first | rfl | omega | (simp; omega) | (simp at *; omega)) w1 Rd.nil) ?_
    rintro _ w3 ⟨⟨key5, c6, sp7, rfl, hS8, hk9⟩, hE10⟩
    rw [show (sealF (1#8) ((e.o.l).getD q 0#32) ([])).length = (sealF (1#8) ((e.o.l).getD q 0#32) ([])).length from rfl]
    have H11 := HL.add hE10 hk9
    refine q_buildSlice (E := ES) (l := ([⟨ownA key5, (sealF (1#8) ((e.o.l).getD q 0#32) ([])).length, c6⟩] : List SlV)) H11 sli22 zer30 (Nat.le_of_ble_eq_true rfl) (ps := [(0, .slice (ownA key5) ((sealF (1#8) ((e.o.l).getD q 0#32) ([])).length) c6)]) rfl (by exact fillAll rfl rfl) rfl ?_
    intro b12 w14 hS13 H15 hE16
    refine q_append (E := ES) (k := 2) (l := svs x.fs) (l2 := ([⟨ownA key5, (sealF (1#8) ((e.o.l).getD q 0#32) ([])).length, c6⟩] : List SlV)) H15 rfl hx.sl sli22 zer30 rfl byt30 (H15.rd (k := 0) rfl hS13) rfl (by exact (svs_len _).symm) rfl (by rfl) (by omega) ?_
    intro key17 c18 sp19 w21 hS20 hne23 H22
    have H22' := H22.as (L' := (((some b12), sob ES 30 ([⟨ownA key5, (sealF (1#8) ((e.o.l).getD q 0#32) ([])).length, c6⟩] : List SlV) ([])) :: (key5, sob E8 5 (sealF (1#8) ((e.o.l).getD q 0#32) ([])) sp7) :: (key17, sob ES 30 ((svs x.fs) ++ ([⟨ownA key5, (sealF (1#8) ((e.o.l).getD q 0#32) ([])).length, c6⟩] : List SlV)) sp19) :: (some b, .cells #[.slice e.q.a e.q.fs.length e.q.c, u32 (e.number), i64 ((e.sends : Nat)), i64 ((e.since : Nat)), u32 (e.want), .slice e.cm.a e.cm.fs.length e.cm.c, .slice (ownA e.o.key) e.o.l.length e.o.c, .nilIface] 89 (0, 0)) :: (e.q.key, sobP ES 30 e.q.pre (svs e.q.fs) e.q.sp) :: (e.cm.key, sobP ES 30 e.cm.pre (svs e.cm.fs) e.cm.sp) :: (e.o.key, sob E32 53 e.o.l e.o.sp) :: (frs 5 x.fs ++ R))) rfl
    clear H22
    refine sq (r_assign (v := .slice (ownA key17) (x.fs.length + 1) c18) rfl) ?_
    refine wnil ?_
    refine blockNormal ?_
    refine thenNormal ?_
    refine oneRegion ?_
    refine sq (r_addI (a := (q : Nat)) (b := (1 : Int)) rfl rfl (by omega)) ?_
    refine sq (r_move (v := i64 ((q : Nat) + (1 : Int))) rfl) ?_
    refine wnil ?_
    refine thenNormal ?_
    have hfam24 := ((H22'.dropk 0)).intoFs5 (f := (⟨key5, sealF (1#8) ((e.o.l).getD q 0#32) ([]), c6, sp7⟩ : Fr)) (T := 5)
    have hx2 : Wy.ok (⟨key17, c18, sp19, x.fs ++ [(⟨key5, sealF (1#8) ((e.o.l).getD q 0#32) ([]), c6, sp7⟩ : Fr)]⟩ : Wy) := ⟨by dsimp only; rw [svs_snoc]; exact hS20, fun g hg => by rcases (List.mem_append.1 hg).imp_right List.mem_singleton.1 with hg | rfl <;> first | exact hx.each _ hg | exact hS8⟩
    have hl2 : (x.fs ++ [(⟨key5, sealF (1#8) ((e.o.l).getD q 0#32) ([]), c6, sp7⟩ : Fr)]).length = x.fs.length + 1 := by rw [List.length_append]; rfl
    exact ⟨(q + 1, (⟨key17, c18, sp19, x.fs ++ [(⟨key5, sealF (1#8) ((e.o.l).getD q 0#32) ([]), c6, sp7⟩ : Fr)]⟩ : Wy)), _, rfl, ⟨rfl, by dsimp only; rw [hl2]; rfl, rfl, rfl, rfl, trivial⟩, ⟨⟨by omega, hx2, by dsimp only; rw [bss_snoc, hxb, acks_take (by omega)]⟩, by dsimp only; rw [svs_snoc]; exact hfam24⟩, by show e.o.l.length - (q + 1) < e.o.l.length - q; omega⟩
  · skip
    obtain rfl : q = e.o.l.length := by omega
    rw [acks_all] at hxb
    refine exitAny ?_
    refine thenExit ?_
    refine thenExit ?_
    refine blockHere ?_
    refine thenNormal ?_
    refine seqRegion ?_
    refine sq (r_move (v := .pointer (some ⟨b, 0, none⟩)) rfl) ?_
    refine sq (r_nilCheck rfl) ?_
    refine sq (r_fieldAddr (off' := 6) fld89_6 (by decide) (b := b) (off := 0) rfl (by omega)) ?_
    refine d_store (k := 1) (v := .slice none 0 0) (cs' := #[.slice e.q.a e.q.fs.length e.q.c, u32 (e.number), i64 ((e.sends : Nat)), i64 ((e.since : Nat)), u32 (e.want), .slice e.cm.a e.cm.fs.length e.cm.c, .slice none 0 0, .nilIface]) HL rfl rfl rfl siz87 (by rfl) (by intro u hu; simp [Value.cells] at hu; first | (subst hu; rfl) | (rcases hu with rfl <;> rfl)) (by exact Nat.le_of_ble_eq_true rfl) (by rfl) ?_
    intro w25 H26 hC27
    have H26' := H26.as (L' := ((x.key, sob ES 30 (svs x.fs) x.sp) :: (some b, .cells #[.slice e.q.a e.q.fs.length e.q.c, u32 (e.number), i64 ((e.sends : Nat)), i64 ((e.since : Nat)), u32 (e.want), .slice e.cm.a e.cm.fs.length e.cm.c, .slice none 0 0, .nilIface] 89 (0, 0)) :: (e.q.key, sobP ES 30 e.q.pre (svs e.q.fs) e.q.sp) :: (e.cm.key, sobP ES 30 e.cm.pre (svs e.cm.fs) e.cm.sp) :: (e.o.key, sob E32 53 e.o.l e.o.sp) :: (frs 5 x.fs ++ R))) rfl
    clear H26
    refine wend ?_
    refine seqRegion ?_
    refine sq (r_move (v := .pointer (some ⟨b, 0, none⟩)) rfl) ?_
    refine sq (r_nilCheck rfl) ?_
    refine sq (r_fieldAddr (off' := 3) fld89_3 (by decide) (b := b) (off := 0) rfl (by omega)) ?_
    refine sq (r_loadC (v := i64 ((e.since : Nat))) one3 (H26'.get (k := 1) rfl) (off := 3) rfl (by rfl)) ?_
    refine sq (r_addI (a := (e.since : Nat)) (b := (1 : Int)) rfl rfl (by omega)) ?_
    refine sq (r_nilCheck rfl) ?_
    refine sq (r_fieldAddr (off' := 3) fld89_3 (by decide) (b := b) (off := 0) rfl (by omega)) ?_
    refine d_store (k := 1) (v := i64 ((e.since : Nat) + (1 : Int))) (cs' := #[.slice e.q.a e.q.fs.length e.q.c, u32 (e.number), i64 ((e.sends : Nat)), i64 ((e.since : Nat) + (1 : Int)), u32 (e.want), .slice e.cm.a e.cm.fs.length e.cm.c, .slice none 0 0, .nilIface]) H26' rfl rfl rfl siz3 (by rfl) (by exact EI.one _) (by exact Nat.le_of_ble_eq_true rfl) (by rfl) ?_
    intro w28 H29 hC30
    have H29' := H29.as (L' := ((x.key, sob ES 30 (svs x.fs) x.sp) :: (some b, .cells #[.slice e.q.a e.q.fs.length e.q.c, u32 (e.number), i64 ((e.sends : Nat)), i64 ((e.since : Nat) + (1 : Int)), u32 (e.want), .slice e.cm.a e.cm.fs.length e.cm.c, .slice none 0 0, .nilIface] 89 (0, 0)) :: (e.q.key, sobP ES 30 e.q.pre (svs e.q.fs) e.q.sp) :: (e.cm.key, sobP ES 30 e.cm.pre (svs e.cm.fs) e.cm.sp) :: (e.o.key, sob E32 53 e.o.l e.o.sp) :: (frs 5 x.fs ++ R))) rfl
    clear H29
    refine wend ?_
    refine seqAny ?_
    refine blockAny ?_
    refine seqAny ?_
    refine seqRegion ?_
    refine sq (r_move (v := .pointer (some ⟨b, 0, none⟩)) rfl) ?_
    refine sq (r_nilCheck rfl) ?_
    refine sq (r_fieldAddr (off' := 7) fld89_7 (by decide) (b := b) (off := 0) rfl (by omega)) ?_
    refine sq (r_loadC (v := .nilIface) one28 (H29'.get (k := 1) rfl) (off := 7) rfl (by rfl)) ?_
    refine sq (r_neqNN isI28 rfl rfl) ?_
    refine sq (r_move (v := .bool (false)) rfl) ?_
    refine sqAny (v := .pointer (some ⟨b, 0, none⟩)) (w' := w28) (wantedSome (d' := 37) (b := false) rfl rfl rfl) (r_move (v := .pointer (some ⟨b, 0, none⟩)) rfl) ?_
    refine sqAny (v := .pointer (some ⟨b, 0, none⟩)) (w' := w28) (wantedSome (d' := 37) (b := false) rfl rfl rfl) (r_nilCheck rfl) ?_
    refine sqAny (v := .pointer (some ⟨b, 0, none⟩)) (w' := w28) (wantedSome (d' := 37) (b := false) rfl rfl rfl) (r_fieldAddr (off' := 0) fld89_0 (by decide) (b := b) (off := 0) rfl (by omega)) ?_
    refine sqAny (v := .slice e.q.a e.q.fs.length e.q.c) (w' := w28) (wantedSome (d' := 37) (b := false) rfl rfl rfl) (r_loadC (v := .slice e.q.a e.q.fs.length e.q.c) one22 (H29'.get (k := 1) rfl) (off := 0) rfl (by rfl)) ?_
    refine sqAny (v := i64 ((e.q.fs.length : Nat))) (w' := w28) (wantedSome (d' := 37) (b := false) rfl rfl rfl) (r_lenS sli22 (a := e.q.a) (m := e.q.fs.length) (c := e.q.c) rfl) ?_
    refine sqAny (v := .bool (false)) (w' := w28) (wantedSome (d' := 37) (b := false) rfl rfl rfl) ((r_eqlI (a := (e.q.fs.length : Nat)) (b := (0 : Int)) rfl rfl).as (v' := .bool (false)) (by exact congrArg Value.bool (decide_eq_false (by omega)))) ?_
    refine sq (r_pickF (v := .bool (false)) rfl rfl) ?_
    refine sq (r_assign (v := .bool (false)) rfl) ?_
    refine wend ?_
    refine condFalse rfl ?_
    refine oneRegion ?_
    refine sq (r_move (v := .pointer (some ⟨b, 0, none⟩)) rfl) ?_
    refine sq (r_nilCheck rfl) ?_
    refine sq (r_fieldAddr (off' := 2) fld89_2 (by decide) (b := b) (off := 0) rfl (by omega)) ?_
    refine sq (r_loadC (v := i64 ((e.sends : Nat))) one3 (H29'.get (k := 1) rfl) (off := 2) rfl (by rfl)) ?_
    refine sq ((r_gtrI (a := (e.sends : Nat)) (b := (0 : Int)) rfl rfl).as (v' := .bool (true)) (by exact congrArg Value.bool (decide_eq_true (by omega)))) ?_
    refine sq (r_move (v := .bool (true)) rfl) ?_
    refine sqAny (v := .pointer (some ⟨b, 0, none⟩)) (w' := w28) (wantedSome (d' := 50) (b := true) rfl rfl rfl) (r_move (v := .pointer (some ⟨b, 0, none⟩)) rfl) ?_
    refine sqAny (v := .pointer (some ⟨b, 0, none⟩)) (w' := w28) (wantedSome (d' := 50) (b := true) rfl rfl rfl) (r_nilCheck rfl) ?_
    refine sqAny (v := .pointer (some ⟨b, 3, none⟩)) (w' := w28) (wantedSome (d' := 50) (b := true) rfl rfl rfl) (r_fieldAddr (off' := 3) fld89_3 (by decide) (b := b) (off := 0) rfl (by omega)) ?_
    refine sqAny (v := i64 ((e.since : Nat) + (1 : Int))) (w' := w28) (wantedSome (d' := 50) (b := true) rfl rfl rfl) (r_loadC (v := i64 ((e.since : Nat) + (1 : Int))) one3 (H29'.get (k := 1) rfl) (off := 3) rfl (by rfl)) ?_
    refine sqAny (v := .bool (false)) (w' := w28) (wantedSome (d' := 50) (b := true) rfl rfl rfl) ((r_lssI (a := (e.since : Nat) + (1 : Int)) (b := (4 : Int)) rfl rfl).as (v' := .bool (false)) (by exact congrArg Value.bool (decide_eq_false (by omega)))) ?_
    refine sq (r_pickT (u := .bool (false)) rfl rfl) ?_
    refine sq (r_assign (v := .bool (false)) rfl) ?_
    refine wnil ?_
    refine thenNormal ?_
    refine condFalse rfl ?_
    refine seqRegion ?_
    refine sq (r_move (v := .pointer (some ⟨b, 0, none⟩)) rfl) ?_
    refine sq (r_nilCheck rfl) ?_
    refine sq (r_fieldAddr (off' := 2) fld89_2 (by decide) (b := b) (off := 0) rfl (by omega)) ?_
    refine sq (r_loadC (v := i64 ((e.sends : Nat))) one3 (H29'.get (k := 1) rfl) (off := 2) rfl (by rfl)) ?_
    refine sq ((r_eqlI (a := (e.sends : Nat)) (b := (8 : Int)) rfl rfl).as (v' := .bool (false)) (by exact congrArg Value.bool (decide_eq_false (by omega)))) ?_
    refine sq (r_assign (v := .bool (false)) rfl) ?_
    refine wend ?_
    refine condFalse rfl ?_
    refine skipAny ?_
    refine blockNormal ?_
    refine thenNormal ?_
    refine seqRegion ?_
    refine sq (r_move (v := .pointer (some ⟨b, 0, none⟩)) rfl) ?_
    refine sq (r_nilCheck rfl) ?_
    refine sq (r_fieldAddr (off' := 2) fld89_2 (by decide) (b := b) (off := 0) rfl (by omega)) ?_
    refine sq (r_loadC (v := i64 ((e.sends : Nat))) one3 (H29'.get (k := 1) rfl) (off := 2) rfl (by rfl)) ?_
    refine sq (r_addI (a := (e.sends : Nat)) (b := (1 : Int)) rfl rfl (by omega)) ?_
    refine sq (r_nilCheck rfl) ?_
    refine sq (r_fieldAddr (off' := 2) fld89_2 (by decide) (b := b) (off := 0) rfl (by omega)) ?_
    refine d_store (k := 1) (v := i64 ((e.sends : Nat) + (1 : Int))) (cs' := #[.slice e.q.a e.q.fs.length e.q.c, u32 (e.number), i64 ((e.sends : Nat) + (1 : Int)), i64 ((e.since : Nat) + (1 : Int)), u32 (e.want), .slice e.cm.a e.cm.fs.length e.cm.c, .slice none 0 0, .nilIface]) H29' rfl rfl rfl siz3 (by rfl) (by exact EI.one _) (by exact Nat.le_of_ble_eq_true rfl) (by rfl) ?_
    intro w31 H32 hC33
    have H32' := H32.as (L' := ((x.key, sob ES 30 (svs x.fs) x.sp) :: (some b, .cells #[.slice e.q.a e.q.fs.length e.q.c, u32 (e.number), i64 ((e.sends : Nat) + (1 : Int)), i64 ((e.since : Nat) + (1 : Int)), u32 (e.want), .slice e.cm.a e.cm.fs.length e.cm.c, .slice none 0 0, .nilIface] 89 (0, 0)) :: (e.q.key, sobP ES 30 e.q.pre (svs e.q.fs) e.q.sp) :: (e.cm.key, sobP ES 30 e.cm.pre (svs e.cm.fs) e.cm.sp) :: (e.o.key, sob E32 53 e.o.l e.o.sp) :: (frs 5 x.fs ++ R))) rfl
    clear H32
    refine wend ?_
    refine seqRegion ?_
    refine sq (r_move (v := .pointer (some ⟨b, 0, none⟩)) rfl) ?_
    refine sq (r_nilCheck rfl) ?_
    refine sq (r_fieldAddr (off' := 3) fld89_3 (by decide) (b := b) (off := 0) rfl (by omega)) ?_
    refine d_store (k := 1) (v := i64 ((0 : Int))) (cs' := #[.slice e.q.a e.q.fs.length e.q.c, u32 (e.number), i64 ((e.sends : Nat) + (1 : Int)), i64 ((0 : Int)), u32 (e.want), .slice e.cm.a e.cm.fs.length e.cm.c, .slice none 0 0, .nilIface]) H32' rfl rfl rfl siz3 (by rfl) (by exact EI.one _) (by exact Nat.le_of_ble_eq_true rfl) (by rfl) ?_
    intro w34 H35 hC36
    have H35' := H35.as (L' := ((x.key, sob ES 30 (svs x.fs) x.sp) :: (some b, .cells #[.slice e.q.a e.q.fs.length e.q.c, u32 (e.number), i64 ((e.sends : Nat) + (1 : Int)), i64 ((0 : Int)), u32 (e.want), .slice e.cm.a e.cm.fs.length e.cm.c, .slice none 0 0, .nilIface] 89 (0, 0)) :: (e.q.key, sobP ES 30 e.q.pre (svs e.q.fs) e.q.sp) :: (e.cm.key, sobP ES 30 e.cm.pre (svs e.cm.fs) e.cm.sp) :: (e.o.key, sob E32 53 e.o.l e.o.sp) :: (frs 5 x.fs ++ R))) rfl
    clear H35
    refine wend ?_
    refine seqAny ?_
    refine drawC (m := 15) [0, 0, 2, 6, 14, 0, 32, 96, 224, 480, 992, 2046, 4094, 8191, 16383] [11, 12, 13] (fun q vs w' => match q, vs with | 0, [] => Hp No w₀ w' ((x.key, sob ES 30 (svs x.fs) x.sp) :: (some b, .cells #[.slice e.q.a e.q.fs.length e.q.c, u32 (e.number), i64 ((e.sends : Nat) + (1 : Int)), i64 ((0 : Int)), u32 (e.want), .slice e.cm.a e.cm.fs.length e.cm.c, .slice none 0 0, .nilIface] 89 (0, 0)) :: (e.q.key, sobP ES 30 e.q.pre (svs e.q.fs) e.q.sp) :: (e.cm.key, sobP ES 30 e.cm.pre (svs e.cm.fs) e.cm.sp) :: (e.o.key, sob E32 53 e.o.l e.o.sp) :: (frs 5 x.fs ++ R)) | 1, [v0] => ∃ (key42 : Option Nat) (c43 : Nat) (sp44 : List Value), v0 = .slice (ownA key42) ((sealF (0#8) e.number f0.bs).length) c43 ∧ Sl E8 key42 (sealF (0#8) e.number f0.bs) c43 sp44 ∧ Hp No w₀ w' ((key42, sob E8 5 (sealF (0#8) e.number f0.bs) sp44) :: (x.key, sob ES 30 (svs x.fs) x.sp) :: (some b, .cells #[.slice e.q.a e.q.fs.length e.q.c, u32 (e.number), i64 ((e.sends : Nat) + (1 : Int)), i64 ((0 : Int)), u32 (e.want), .slice e.cm.a e.cm.fs.length e.cm.c, .slice none 0 0, .nilIface] 89 (0, 0)) :: (e.q.key, sobP ES 30 e.q.pre (svs e.q.fs) e.q.sp) :: (e.cm.key, sobP ES 30 e.cm.pre (svs e.cm.fs) e.cm.sp) :: (e.o.key, sob E32 53 e.o.l e.o.sp) :: (frs 5 x.fs ++ R)) | 2, [v0, v1] => ∃ (key42 : Option Nat) (c43 : Nat) (sp44 : List Value) (b52 : Nat), v0 = .slice (ownA key42) ((sealF (0#8) e.number f0.bs).length) c43 ∧ v1 = .slice (ownA (some b52)) 1 1 ∧ Sl ES (some b52) ([⟨ownA key42, (sealF (0#8) e.number f0.bs).length, c43⟩] : List SlV) 1 ([]) ∧ Sl E8 key42 (sealF (0#8) e.number f0.bs) c43 sp44 ∧ Hp No w₀ w' (((some b52), sob ES 30 ([⟨ownA key42, (sealF (0#8) e.number f0.bs).length, c43⟩] : List SlV) ([])) :: (key42, sob E8 5 (sealF (0#8) e.number f0.bs) sp44) :: (x.key, sob ES 30 (svs x.fs) x.sp) :: (some b, .cells #[.slice e.q.a e.q.fs.length e.q.c, u32 (e.number), i64 ((e.sends : Nat) + (1 : Int)), i64 ((0 : Int)), u32 (e.want), .slice e.cm.a e.cm.fs.length e.cm.c, .slice none 0 0, .nilIface] 89 (0, 0)) :: (e.q.key, sobP ES 30 e.q.pre (svs e.q.fs) e.q.sp) :: (e.cm.key, sobP ES 30 e.cm.pre (svs e.cm.fs) e.cm.sp) :: (e.o.key, sob E32 53 e.o.l e.o.sp) :: (frs 5 x.fs ++ R)) | 3, [v0, v1, v2] => ∃ (key42 : Option Nat) (c43 : Nat) (sp44 : List Value) (b52 : Nat) (key60 : Option Nat) (c61 : Nat) (sp62 : List Value), v0 = .slice (ownA key42) ((sealF (0#8) e.number f0.bs).length) c43 ∧ v1 = .slice (ownA (some b52)) 1 1 ∧ v2 = .slice (ownA key60) (x.fs.length + 1) c61 ∧ Sl ES (some b52) ([⟨ownA key42, (sealF (0#8) e.number f0.bs).length, c43⟩] : List SlV) 1 ([]) ∧ Sl E8 key42 (sealF (0#8) e.number f0.bs) c43 sp44 ∧ Sl ES key60 ((svs x.fs) ++ ([⟨ownA key42, (sealF (0#8) e.number f0.bs).length, c43⟩] : List SlV)) c61 sp62 ∧ Hp No w₀ w' (((some b52), sob ES 30 ([⟨ownA key42, (sealF (0#8) e.number f0.bs).length, c43⟩] : List SlV) ([])) :: (key42, sob E8 5 (sealF (0#8) e.number f0.bs) sp44) :: (key60, sob ES 30 ((svs x.fs) ++ ([⟨ownA key42, (sealF (0#8) e.number f0.bs).length, c43⟩] : List SlV)) sp62) :: (some b, .cells #[.slice e.q.a e.q.fs.length e.q.c, u32 (e.number), i64 ((e.sends : Nat) + (1 : Int)), i64 ((0 : Int)), u32 (e.want), .slice e.cm.a e.cm.fs.length e.cm.c, .slice none 0 0, .nilIface] 89 (0, 0)) :: (e.q.key, sobP ES 30 e.q.pre (svs e.q.fs) e.q.sp) :: (e.cm.key, sobP ES 30 e.cm.pre (svs e.cm.fs) e.cm.sp) :: (e.o.key, sob E32 53 e.o.l e.o.sp) :: (frs 5 x.fs ++ R)) | _, _ => False) mixed (by kernel_rfl) (by kernel_rfl) H35'.drew ?_
    refine WalkC.look rfl (fun _ => .slice (ownA x.key) x.fs.length x.c) (fun _ _ _ => rfl) (fun q r uw _ _ _ _ => Gives.run rfl (r_move (v := .slice (ownA x.key) x.fs.length x.c) rfl) ⟨rfl, rfl⟩) ?_
    refine WalkC.look rfl (fun _ => .pointer (some ⟨b, 0, none⟩)) (fun _ _ _ => rfl) (fun q r uw _ _ _ _ => Gives.run rfl (r_move (v := .pointer (some ⟨b, 0, none⟩)) rfl) ⟨rfl, rfl⟩) ?_
    refine WalkC.look rfl (fun _ => .pointer (some ⟨b, 0, none⟩)) (fun _ _ _ => rfl) (fun q r uw _ _ _ _ => Gives.run rfl (r_nilCheck rfl) ⟨rfl, rfl⟩) ?_
    refine WalkC.look rfl (fun _ => .pointer (some ⟨b, 1, none⟩)) (fun _ _ _ => rfl) (fun q r uw _ _ _ _ => Gives.run rfl (r_fieldAddr (off' := 1) fld89_1 (by decide) (b := b) (off := 0) rfl (by omega)) ⟨rfl, rfl⟩) ?_
    refine WalkC.look rfl (fun _ => u32 (e.number)) (fun _ _ _ => rfl) (fun q r uw hlo hhi hle hF => ?_) ?_
    · skip
      have h1 : 0 ≤ q := Nat.zero_le _
      have h2 : q ≤ 0 := hhi 0 11 rfl rfl
      rcases (show q = 0 by omega) with rfl
      · skip
        have HH := hF
        exact Gives.run rfl (r_loadC (v := u32 (e.number)) one53 (HH.get (k := 1) rfl) (off := 1) rfl (by rfl)) ⟨rfl, rfl⟩
    refine WalkC.look rfl (fun _ => .pointer (some ⟨b, 0, none⟩)) (fun _ _ _ => rfl) (fun q r uw _ _ _ _ => Gives.run rfl (r_move (v := .pointer (some ⟨b, 0, none⟩)) rfl) ⟨rfl, rfl⟩) ?_
    refine WalkC.look rfl (fun _ => .pointer (some ⟨b, 0, none⟩)) (fun _ _ _ => rfl) (fun q r uw _ _ _ _ => Gives.run rfl (r_nilCheck rfl) ⟨rfl, rfl⟩) ?_
    refine WalkC.look rfl (fun _ => .pointer (some ⟨b, 0, none⟩)) (fun _ _ _ => rfl) (fun q r uw _ _ _ _ => Gives.run rfl (r_fieldAddr (off' := 0) fld89_0 (by decide) (b := b) (off := 0) rfl (by omega)) ⟨rfl, rfl⟩) ?_
    refine WalkC.look rfl (fun _ => .slice e.q.a e.q.fs.length e.q.c) (fun _ _ _ => rfl) (fun q r uw hlo hhi hle hF => ?_) ?_
    · skip
      have h1 : 0 ≤ q := Nat.zero_le _
      have h2 : q ≤ 0 := hhi 0 11 rfl rfl
      rcases (show q = 0 by omega) with rfl
      · skip
        have HH := hF
        exact Gives.run rfl (r_loadC (v := .slice e.q.a e.q.fs.length e.q.c) one22 (HH.get (k := 1) rfl) (off := 0) rfl (by rfl)) ⟨rfl, rfl⟩
    refine WalkC.look rfl (fun _ => .pointer (adr e.q.a (0 * 1))) (fun _ _ _ => rfl) (fun q r uw hlo hhi hle hF => ?_) ?_
    · skip
      have h1 : 0 ≤ q := Nat.zero_le _
      have h2 : q ≤ 0 := hhi 0 11 rfl rfl
      rcases (show q = 0 by omega) with rfl
      · skip
        have HH := hF
        exact Gives.run rfl (r_idxS (E := ES) (l := svs e.q.fs) (j := 0) sli22 (HH.rdP (k := 2) rfl he.q.sl) rfl rfl (by first | rfl | omega | (simp; omega)) (by exact (svs_len _).symm) (by rw [svs_len]; omega)) ⟨rfl, rfl⟩
    refine WalkC.look rfl (fun _ => .slice (ownA f0.key) f0.bs.length f0.c) (fun _ _ _ => rfl) (fun q r uw hlo hhi hle hF => ?_) ?_
    · skip
      have h1 : 0 ≤ q := Nat.zero_le _
      have h2 : q ≤ 0 := hhi 0 11 rfl rfl
      rcases (show q = 0 by omega) with rfl
      · skip
        have HH := hF
        exact Gives.run rfl ((r_ldS (E := ES) (l := svs e.q.fs) (j := 0) (v := (svs e.q.fs).getD 0 sv0) fits30 (HH.rdP (k := 2) rfl he.q.sl) rfl rfl (at_getD (by rw [svs_len]; omega))).as (v' := .slice (ownA f0.key) f0.bs.length f0.c) (by rw [svs_get hf0]; rfl)) ⟨rfl, rfl⟩
    refine WalkC.eff 0 rfl (fun r uw37 hF39 => ?_) ?_
    · skip
      have H38 := hF39
      dsimp only [List.take, List.map, List.cons_append, List.nil_append]
      refine Gives.ofW (d := 96) rfl rfl (fun Q' hK => ?_)
      refine c_call (vs := [u8 (0#8), u32 (e.number), .slice (ownA f0.key) f0.bs.length f0.c]) call30 rfl (seal_ok (0#8) e.number f0.bs (by omega) (ownA f0.key) f0.bs.length f0.c (by rfl) uw37 (H38.rdm (T := 5) hf0k (List.mem_cons_of_mem _ (List.mem_cons_of_mem _ (List.mem_cons_of_mem _ (List.mem_cons_of_mem _ (List.mem_cons_of_mem _ (List.mem_append_right _ (hF _ (he.qm f0 (List.mem_of_getElem? hf0))))))))))) ?_
      rintro _ w40 ⟨⟨key42, c43, sp44, rfl, hS45, hk46⟩, hE47⟩
      rw [show (sealF (0#8) e.number f0.bs).length = (sealF (0#8) e.number f0.bs).length from rfl]
      have H48 := H38.add hE47 hk46
      exact hK _ _ ⟨key42, c43, sp44, rfl, hS45, H48⟩
    refine WalkC.eff 1 rfl (fun r uw49 hF51 => ?_) ?_
    · skip
      obtain ⟨key42, c43, sp44, e11, hS45, H50⟩ := hF51
      dsimp only [List.take, List.map, List.cons_append, List.nil_append]
      rw [e11]
      refine Gives.ofW (d := 97) rfl rfl (fun Q' hK => ?_)
      refine q_buildSlice (E := ES) (l := ([⟨ownA key42, (sealF (0#8) e.number f0.bs).length, c43⟩] : List SlV)) H50 sli22 zer30 (Nat.le_of_ble_eq_true rfl) (ps := [(0, .slice (ownA key42) ((sealF (0#8) e.number f0.bs).length) c43)]) rfl (by exact fillAll rfl rfl) rfl ?_
      intro b52 w54 hS53 H55 hE56
      exact hK _ _ ⟨key42, c43, sp44, b52, rfl, rfl, hS53, hS45, H55⟩
    refine WalkC.eff 2 rfl (fun r uw57 hF59 => ?_) ?_
    · skip
      obtain ⟨key42, c43, sp44, b52, e11, e12, hS53, hS45, H58⟩ := hF59
      dsimp only [List.take, List.map, List.cons_append, List.nil_append]
      rw [e11, e12]
      refine Gives.ofW (d := 98) rfl rfl (fun Q' hK => ?_)
      refine q_append (E := ES) (k := 2) (l := svs x.fs) (l2 := ([⟨ownA key42, (sealF (0#8) e.number f0.bs).length, c43⟩] : List SlV)) H58 rfl hx.sl sli22 zer30 rfl byt30 (H58.rd (k := 0) rfl hS53) rfl (by exact (svs_len _).symm) rfl (by rfl) (by omega) ?_
      intro key60 c61 sp62 w64 hS63 hne66 H65
      have H65' := H65.as (L' := (((some b52), sob ES 30 ([⟨ownA key42, (sealF (0#8) e.number f0.bs).length, c43⟩] : List SlV) ([])) :: (key42, sob E8 5 (sealF (0#8) e.number f0.bs) sp44) :: (key60, sob ES 30 ((svs x.fs) ++ ([⟨ownA key42, (sealF (0#8) e.number f0.bs).length, c43⟩] : List SlV)) sp62) :: (some b, .cells #[.slice e.q.a e.q.fs.length e.q.c, u32 (e.number), i64 ((e.sends : Nat) + (1 : Int)), i64 ((0 : Int)), u32 (e.want), .slice e.cm.a e.cm.fs.length e.cm.c, .slice none 0 0, .nilIface] 89 (0, 0)) :: (e.q.key, sobP ES 30 e.q.pre (svs e.q.fs) e.q.sp) :: (e.cm.key, sobP ES 30 e.cm.pre (svs e.cm.fs) e.cm.sp) :: (e.o.key, sob E32 53 e.o.l e.o.sp) :: (frs 5 x.fs ++ R))) rfl
      clear H65
      exact hK _ _ ⟨key42, c43, sp44, b52, key60, c61, sp62, rfl, rfl, rfl, hS53, hS45, hS63, H65'⟩
    refine WalkC.look rfl (fun r => r 13) (fun r r' h => h 13 (by decide) rfl) (fun q r uw _ _ _ _ => Gives.run rfl (r_assign rfl) ⟨rfl, rfl⟩) ?_
    refine WalkC.nil ?_
    intro r67 w68 hF70
    obtain ⟨key42, c43, sp44, b52, key60, c61, sp62, e11, e12, e13, hS53, hS45, hS63, H69⟩ := hF70
    dsimp only
    rw [e11, e12, e13]
    refine wnil ?_
    refine thenNormal ?_
    refine retAny ?_
    refine retG (rs := [.tmp 2]) (vs := [.slice (ownA key60) (x.fs.length + 1) c61]) rfl ⟨⟨rfl, rfl⟩, trivial⟩ ?_
    have hfam71 := ((H69.dropk 0)).intoFs5 (f := (⟨key42, sealF (0#8) e.number f0.bs, c43, sp44⟩ : Fr)) (T := 5)
    have hfin := ((Hp.sink4 hfam71).newO (sob E32 53 [] []))
    have hx2 : Wy.ok (⟨key60, c61, sp62, x.fs ++ [(⟨key42, sealF (0#8) e.number f0.bs, c43, sp44⟩ : Fr)]⟩ : Wy) := ⟨by dsimp only; rw [svs_snoc]; exact hS63, fun g hg => by rcases (List.mem_append.1 hg).imp_right List.mem_singleton.1 with hg | rfl <;> first | exact hx.each _ hg | exact hS45⟩
    have hl2 : (x.fs ++ [(⟨key42, sealF (0#8) e.number f0.bs, c43, sp44⟩ : Fr)]).length = x.fs.length + 1 := by rw [List.length_append]; rfl
    refine ⟨_, rfl, (⟨key60, c61, sp62, x.fs ++ [(⟨key42, sealF (0#8) e.number f0.bs, c43, sp44⟩ : Fr)]⟩ : Wy), { e with o := ow0, sends := e.sends + 1, since := 0, err := .nilIface }, by dsimp only; rw [hl2]; rfl, hx2, by dsimp only; rw [bss_snoc, hxb]; rfl, En.okStep he _ _ (.inl rfl), by simp only [abs, hd]; rfl, ?_⟩
    dsimp only
    rw [svs_snoc]
    exact hfin
end Go.Proofs.YtpmmhpgfbfehmaaDoor.Lk
