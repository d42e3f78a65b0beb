/- The walks of the links. -/
import Derived.Test.YtpmmhpgfbfehmaaDoorLink
namespace Go.Proofs.YtpmmhpgfbfehmaaDoor.Lk
open Go Go.Proofs.YtpmmhpgfbfehmaaDoor.Vc Go.Proofs.YtpmmhpgfbfehmaaDoor.Er
set_option linter.unusedVariables false
theorem byt30 : byt Tryd.prog 30 = some 24 := by kernel_rfl
theorem call41 : callable Tryd.prog 41 = true := by kernel_rfl
theorem fld89_0 : fld Tryd.prog 89 0 = some (0, 1, 22) := by kernel_rfl
theorem fld89_5 : fld Tryd.prog 89 5 = some (5, 1, 22) := by kernel_rfl
theorem fld89_7 : fld Tryd.prog 89 7 = some (7, 1, 28) := by kernel_rfl
theorem isI28 : isI Tryd.prog 28 = true := by kernel_rfl
theorem one22 : isOne Tryd.prog 22 = true := by kernel_rfl
theorem one28 : isOne Tryd.prog 28 = true := by kernel_rfl
theorem pls89 : pls Tryd.prog 89 = some #[(0, 1), (1, 1), (2, 1), (3, 1), (4, 1), (5, 1), (6, 1), (7, 1)] := by kernel_rfl
theorem siz22 : siz Tryd.prog 22 = some 1 := by kernel_rfl
theorem und36 : Tryd.prog.underlying 36 = some (.int .i64) := by kernel_rfl
theorem zer89 : zer Tryd.prog 89 = some (.agg #[.slice none 0 0, .int .u32 0, .int .i64 0, .int .i64 0, .int .u32 0, .slice none 0 0, .slice none 0 0, .nilIface]) := by kernel_rfl
theorem lnew_ok (w : World) : Calls Tryd.prog 23 [].toArray w (Ret fun v w' => (∃ b, v = .pointer (some ⟨b, 0, none⟩) ∧ Hp No w w' (endR 30 53 89 b en0 ++ [])) ∧ Ext w w') := by
  have H := Hp.start No w
  refine enter (n := 3) Tryd.func23 rfl rfl (Nat.le_of_ble_eq_true rfl) ?_
  refine seqRegion ?_
  refine sq (r_assign (v := .pointer none) rfl) ?_
  refine wend ?_
  refine seqRegion ?_
  refine sq (r_build (cs' := #[.slice none 0 0, .int .u32 0, .int .i64 0, .int .i64 0, .int .u32 0, .slice none 0 0, .slice none 0 0, .nilIface]) (ps := []) zer89 pls89 rfl (by rfl)) ?_
  refine q_box (v := .agg #[.slice none 0 0, .int .u32 0, .int .i64 0, .int .i64 0, .int .u32 0, .slice none 0 0, .slice none 0 0, .nilIface]) (o := .cells #[.slice none 0 0, u32 (0#32), i64 ((0 : Int)), i64 ((0 : Int)), u32 (0#32), .slice none 0 0, .slice none 0 0, .nilIface] 89 (0, 0)) H rfl (by rfl) ?_
  intro b1 w2 hb1 H3 hE4
  refine sq (r_assign (v := .pointer (some ⟨b1, 0, none⟩)) rfl) ?_
  refine wend ?_
  refine retAny ?_
  refine retG (rs := [.tmp 0]) (vs := [.pointer (some ⟨b1, 0, none⟩)]) rfl ⟨⟨rfl, rfl⟩, trivial⟩ ?_
  exact ⟨_, rfl, ⟨b1, rfl, ((H3.nil (sob E32 53 [] [])).nil (sobP ES 30 [] [] [])).nil (sobP ES 30 [] [] []) |> fun h => (Hp.rise (A := [_, _, _]) h : Hp No w _ (_ :: _ :: _ :: _ :: []))⟩, H3.chg⟩

theorem send_ok (b : Nat) (e : En) (F R : List (Option Nat × Obj)) (he : e.ok 5 F) (hF : ∀ x ∈ F, x ∈ R) (w₀ w : World) (H : Hp No w₀ w (endR 30 53 89 b e ++ R)) (hd : isDead e.err = false) (bs : List (BitVec 8)) (a0 : Option Addr) (n0 c0 : Nat) (hn0 : n0 = bs.length) (hW : Rd E8 w a0 bs) (hbs : bs.length ≤ 1048576) (hlen : e.q.fs.length < 64) : Calls Tryd.prog 25 [.pointer (some ⟨b, 0, none⟩), .slice a0 n0 c0].toArray w (Ret fun v w' => v = .nilIface ∧ ∃ (e' : En) (X : List (Option Nat × Obj)), Hp No w₀ w' (endR 30 53 89 b e' ++ (X ++ R)) ∧ e'.ok 5 (X ++ F) ∧ abs e' = sendS (abs e) bs) := by
  subst hn0
  have hqc := he.q.sl.cap
  have hcc := he.cm.sl.cap
  rw [svs_len] at hqc hcc
  have he0 := he.live hd
  have H := H.as (L' := ((some b, .cells #[.slice e.q.a e.q.fs.length e.q.c, u32 (e.number), i64 ((e.sends : Nat)), i64 ((e.since : Nat)), u32 (e.want), .slice e.cm.a e.cm.fs.length e.cm.c, .slice (ownA e.o.key) e.o.l.length e.o.c, .nilIface] 89 (0, 0)) :: (e.q.key, sobP ES 30 e.q.pre (svs e.q.fs) e.q.sp) :: (e.cm.key, sobP ES 30 e.cm.pre (svs e.cm.fs) e.cm.sp) :: (e.o.key, sob E32 53 e.o.l e.o.sp) :: R)) (by show endR 30 53 89 b e ++ R = _; unfold endR En.ob; rw [he0]; rfl)
  refine enter (n := 48) Tryd.func25 rfl rfl (Nat.le_of_ble_eq_true rfl) ?_
  refine seqRegion ?_
  refine sq (r_assign (v := .nilIface) rfl) ?_
  refine wend ?_
  refine seqAny ?_
  refine blockAny ?_
  refine seqRegion ?_
  refine sq (r_move (v := .pointer (some ⟨b, 0, none⟩)) rfl) ?_
  refine sq (r_nilCheck rfl) ?_
  refine sq (r_fieldAddr (off' := 7) fld89_7 (by decide) (b := b) (off := 0) rfl (by omega)) ?_
  refine sq (r_loadC (v := .nilIface) one28 (H.get (k := 0) rfl) (off := 7) rfl (by rfl)) ?_
  refine sq ((r_neqNN isI28 rfl rfl).as (v' := .bool (false)) (by rfl)) ?_
  refine sq (r_assign (v := .bool (false)) rfl) ?_
  refine wend ?_
  refine condFalse rfl ?_
  refine seqRegion ?_
  refine sq (r_move (v := .slice a0 bs.length c0) rfl) ?_
  refine sq (r_lenS sli30 (a := a0) (m := bs.length) (c := c0) rfl) ?_
  refine sq ((r_gtrI (a := (bs.length : Nat)) (b := (1048576 : Int)) rfl rfl).as (v' := .bool (false)) (by exact congrArg Value.bool (decide_eq_false (by omega)))) ?_
  refine sq (r_assign (v := .bool (false)) rfl) ?_
  refine wend ?_
  refine condFalse rfl ?_
  refine seqRegion ?_
  refine sq (r_move (v := .pointer (some ⟨b, 0, none⟩)) rfl) ?_
  refine sq (r_nilCheck rfl) ?_
  refine sq (r_fieldAddr (off' := 0) fld89_0 (by decide) (b := b) (off := 0) rfl (by omega)) ?_
  refine sq (r_loadC (v := .slice e.q.a e.q.fs.length e.q.c) one22 (H.get (k := 0) rfl) (off := 0) rfl (by rfl)) ?_
  refine sq (r_lenS sli22 (a := e.q.a) (m := e.q.fs.length) (c := e.q.c) rfl) ?_
  refine sq ((r_geqI (a := (e.q.fs.length : Nat)) (b := (64 : Int)) rfl rfl).as (v' := .bool (false)) (by exact congrArg Value.bool (decide_eq_false (by omega)))) ?_
  refine sq (r_assign (v := .bool (false)) rfl) ?_
  refine wend ?_
  refine condFalse rfl ?_
  refine skipAny ?_
  refine blockNormal ?_
  refine thenNormal ?_
  refine seqAny ?_
  refine drawC (m := 12) [0, 0, 2, 6, 14, 0, 32, 96, 254, 511, 1023, 2047] [6, 7, 8, 11] (fun q vs w' => match q, vs with | 0, [] => Ext w w' ∧ Hp No w₀ w' ((some b, .cells #[.slice e.q.a e.q.fs.length e.q.c, u32 (e.number), i64 ((e.sends : Nat)), i64 ((e.since : Nat)), u32 (e.want), .slice e.cm.a e.cm.fs.length e.cm.c, .slice (ownA e.o.key) e.o.l.length e.o.c, .nilIface] 89 (0, 0)) :: (e.q.key, sobP ES 30 e.q.pre (svs e.q.fs) e.q.sp) :: (e.cm.key, sobP ES 30 e.cm.pre (svs e.cm.fs) e.cm.sp) :: (e.o.key, sob E32 53 e.o.l e.o.sp) :: R) | 1, [v0] => ∃ (key6 : Option Nat) (c7 : Nat) (sp8 : List Value), v0 = .slice (ownA key6) bs.length c7 ∧ Sl E8 key6 bs c7 sp8 ∧ Ext w w' ∧ Hp No w₀ w' ((key6, sob E8 5 bs sp8) :: (some b, .cells #[.slice e.q.a e.q.fs.length e.q.c, u32 (e.number), i64 ((e.sends : Nat)), i64 ((e.since : Nat)), u32 (e.want), .slice e.cm.a e.cm.fs.length e.cm.c, .slice (ownA e.o.key) e.o.l.length e.o.c, .nilIface] 89 (0, 0)) :: (e.q.key, sobP ES 30 e.q.pre (svs e.q.fs) e.q.sp) :: (e.cm.key, sobP ES 30 e.cm.pre (svs e.cm.fs) e.cm.sp) :: (e.o.key, sob E32 53 e.o.l e.o.sp) :: R) | 2, [v0, v1] => ∃ (key6 : Option Nat) (c7 : Nat) (sp8 : List Value) (b16 : Nat), v0 = .slice (ownA key6) bs.length c7 ∧ v1 = .slice (ownA (some b16)) 1 1 ∧ Sl ES (some b16) ([⟨ownA key6, bs.length, c7⟩] : List SlV) 1 ([]) ∧ Sl E8 key6 bs c7 sp8 ∧ Ext w w' ∧ Hp No w₀ w' (((some b16), sob ES 30 ([⟨ownA key6, bs.length, c7⟩] : List SlV) ([])) :: (key6, sob E8 5 bs sp8) :: (some b, .cells #[.slice e.q.a e.q.fs.length e.q.c, u32 (e.number), i64 ((e.sends : Nat)), i64 ((e.since : Nat)), u32 (e.want), .slice e.cm.a e.cm.fs.length e.cm.c, .slice (ownA e.o.key) e.o.l.length e.o.c, .nilIface] 89 (0, 0)) :: (e.q.key, sobP ES 30 e.q.pre (svs e.q.fs) e.q.sp) :: (e.cm.key, sobP ES 30 e.cm.pre (svs e.cm.fs) e.cm.sp) :: (e.o.key, sob E32 53 e.o.l e.o.sp) :: R) | 3, [v0, v1, v2] => ∃ (key6 : Option Nat) (c7 : Nat) (sp8 : List Value) (b16 : Nat) (key24 : Option Nat) (c27 : Nat) (sp28 : List Value) (ad25 : Option Addr) (pre26 : List Value), v0 = .slice (ownA key6) bs.length c7 ∧ v1 = .slice (ownA (some b16)) 1 1 ∧ v2 = .slice ad25 (e.q.fs.length + 1) c27 ∧ Sl ES (some b16) ([⟨ownA key6, bs.length, c7⟩] : List SlV) 1 ([]) ∧ Sl E8 key6 bs c7 sp8 ∧ SlP ES key24 ad25 pre26 ((svs e.q.fs) ++ ([⟨ownA key6, bs.length, c7⟩] : List SlV)) c27 sp28 ∧ Hp No w₀ w' (((some b16), sob ES 30 ([⟨ownA key6, bs.length, c7⟩] : List SlV) ([])) :: (key6, sob E8 5 bs sp8) :: (some b, .cells #[.slice e.q.a e.q.fs.length e.q.c, u32 (e.number), i64 ((e.sends : Nat)), i64 ((e.since : Nat)), u32 (e.want), .slice e.cm.a e.cm.fs.length e.cm.c, .slice (ownA e.o.key) e.o.l.length e.o.c, .nilIface] 89 (0, 0)) :: (key24, sobP ES 30 pre26 ((svs e.q.fs) ++ ([⟨ownA key6, bs.length, c7⟩] : List SlV)) sp28) :: (e.cm.key, sobP ES 30 e.cm.pre (svs e.cm.fs) e.cm.sp) :: (e.o.key, sob E32 53 e.o.l e.o.sp) :: R) | 4, [v0, v1, v2, _] => ∃ (key6 : Option Nat) (c7 : Nat) (sp8 : List Value) (b16 : Nat) (key24 : Option Nat) (c27 : Nat) (sp28 : List Value) (ad25 : Option Addr) (pre26 : List Value), v0 = .slice (ownA key6) bs.length c7 ∧ v1 = .slice (ownA (some b16)) 1 1 ∧ v2 = .slice ad25 (e.q.fs.length + 1) c27 ∧ True ∧ Sl ES (some b16) ([⟨ownA key6, bs.length, c7⟩] : List SlV) 1 ([]) ∧ Sl E8 key6 bs c7 sp8 ∧ SlP ES key24 ad25 pre26 ((svs e.q.fs) ++ ([⟨ownA key6, bs.length, c7⟩] : List SlV)) c27 sp28 ∧ Hp No w₀ w' (((some b16), sob ES 30 ([⟨ownA key6, bs.length, c7⟩] : List SlV) ([])) :: (key6, sob E8 5 bs sp8) :: (some b, .cells #[.slice ad25 (e.q.fs.length + 1) c27, u32 (e.number), i64 ((e.sends : Nat)), i64 ((e.since : Nat)), u32 (e.want), .slice e.cm.a e.cm.fs.length e.cm.c, .slice (ownA e.o.key) e.o.l.length e.o.c, .nilIface] 89 (0, 0)) :: (key24, sobP ES 30 pre26 ((svs e.q.fs) ++ ([⟨ownA key6, bs.length, c7⟩] : List SlV)) sp28) :: (e.cm.key, sobP ES 30 e.cm.pre (svs e.cm.fs) e.cm.sp) :: (e.o.key, sob E32 53 e.o.l e.o.sp) :: R) | _, _ => False) mixed (by kernel_rfl) (by kernel_rfl) ⟨Ext.drew _, H.drew⟩ ?_
  refine WalkC.look rfl (fun _ => .pointer (some ⟨b, 0, none⟩)) (fun _ _ _ => rfl) (fun q r uw _ _ _ _ => Gives.run rfl (r_move (v := .pointer (some ⟨b, 0, none⟩)) rfl) ⟨rfl, rfl⟩) ?_
  refine WalkC.look rfl (fun _ => .pointer (some ⟨b, 0, none⟩)) (fun _ _ _ => rfl) (fun q r uw _ _ _ _ => Gives.run rfl (r_move (v := .pointer (some ⟨b, 0, none⟩)) rfl) ⟨rfl, rfl⟩) ?_
  refine WalkC.look rfl (fun _ => .pointer (some ⟨b, 0, none⟩)) (fun _ _ _ => rfl) (fun q r uw _ _ _ _ => Gives.run rfl (r_nilCheck rfl) ⟨rfl, rfl⟩) ?_
  refine WalkC.look rfl (fun _ => .pointer (some ⟨b, 0, none⟩)) (fun _ _ _ => rfl) (fun q r uw _ _ _ _ => Gives.run rfl (r_fieldAddr (off' := 0) fld89_0 (by decide) (b := b) (off := 0) rfl (by omega)) ⟨rfl, rfl⟩) ?_
  refine WalkC.look rfl (fun _ => .slice e.q.a e.q.fs.length e.q.c) (fun _ _ _ => rfl) (fun q r uw hlo hhi hle hF => ?_) ?_
  · skip
    have h1 : 0 ≤ q := Nat.zero_le _
    have h2 : q ≤ 2 := hhi 2 8 rfl rfl
    rcases (show q = 0 ∨ q = 1 ∨ q = 2 by omega) with rfl | rfl | rfl
    · skip
      obtain ⟨hX, HH⟩ := hF
      exact Gives.run rfl (r_loadC (v := .slice e.q.a e.q.fs.length e.q.c) one22 (HH.get (k := 0) rfl) (off := 0) rfl (by rfl)) ⟨rfl, rfl⟩
    · skip
      obtain ⟨key6, c7, sp8, e6, hS9, hX, HH⟩ := hF
      exact Gives.run rfl (r_loadC (v := .slice e.q.a e.q.fs.length e.q.c) one22 (HH.get (k := 1) rfl) (off := 0) rfl (by rfl)) ⟨rfl, rfl⟩
    · skip
      obtain ⟨key6, c7, sp8, b16, e6, e7, hS17, hS9, hX, HH⟩ := hF
      exact Gives.run rfl (r_loadC (v := .slice e.q.a e.q.fs.length e.q.c) one22 (HH.get (k := 2) rfl) (off := 0) rfl (by rfl)) ⟨rfl, rfl⟩
  refine WalkC.look rfl (fun _ => .slice a0 bs.length c0) (fun _ _ _ => rfl) (fun q r uw _ _ _ _ => Gives.run rfl (r_move (v := .slice a0 bs.length c0) rfl) ⟨rfl, rfl⟩) ?_
  refine WalkC.eff 0 rfl (fun r uw1 hF3 => ?_) ?_
  · skip
    obtain ⟨hX, H2⟩ := hF3
    dsimp only [List.take, List.map, List.cons_append, List.nil_append]
    refine Gives.ofW (d := 43) rfl rfl (fun Q' hK => ?_)
    refine c_call (vs := [.slice a0 bs.length c0]) call35 rfl (clone8_ok bs (by omega) a0 bs.length c0 (by rfl) uw1 (hW.ext hX)) ?_
    rintro _ w4 ⟨⟨key6, c7, sp8, rfl, hS9, hk10⟩, hE11⟩
    rw [show bs.length = bs.length from by first | rfl | (simp; omega) | omega]
    have H12 := H2.add hE11 hk10
    exact hK _ _ ⟨key6, c7, sp8, rfl, hS9, (hX.trans hE11), H12⟩
  refine WalkC.eff 1 rfl (fun r uw13 hF15 => ?_) ?_
  · skip
    obtain ⟨key6, c7, sp8, e6, hS9, hX, H14⟩ := hF15
    dsimp only [List.take, List.map, List.cons_append, List.nil_append]
    rw [e6]
    refine Gives.ofW (d := 44) rfl rfl (fun Q' hK => ?_)
    refine q_buildSlice (E := ES) (l := ([⟨ownA key6, bs.length, c7⟩] : List SlV)) H14 sli22 zer30 (Nat.le_of_ble_eq_true rfl) (ps := [(0, .slice (ownA key6) bs.length c7)]) rfl (by exact fillAll rfl rfl) rfl ?_
    intro b16 w18 hS17 H19 hE20
    exact hK _ _ ⟨key6, c7, sp8, b16, rfl, rfl, hS17, hS9, (hX.trans hE20), H19⟩
  refine WalkC.eff 2 rfl (fun r uw21 hF23 => ?_) ?_
  · skip
    obtain ⟨key6, c7, sp8, b16, e6, e7, hS17, hS9, hX, H22⟩ := hF23
    dsimp only [List.take, List.map, List.cons_append, List.nil_append]
    rw [e6, e7]
    refine Gives.ofW (d := 45) rfl rfl (fun Q' hK => ?_)
    refine q_appP (E := ES) (k := 3) (l := svs e.q.fs) (l2 := ([⟨ownA key6, bs.length, c7⟩] : List SlV)) H22 rfl he.q.sl sli22 zer30 rfl byt30 (H22.rd (k := 0) rfl hS17) (Nat.le_of_ble_eq_true rfl) rfl (by exact (svs_len _).symm) rfl (by rfl) (by omega) ?_
    intro key24 ad25 pre26 c27 sp28 w30 hS29 H31
    have H31' := H31.as (L' := (((some b16), sob ES 30 ([⟨ownA key6, bs.length, c7⟩] : List SlV) ([])) :: (key6, sob E8 5 bs sp8) :: (some b, .cells #[.slice e.q.a e.q.fs.length e.q.c, u32 (e.number), i64 ((e.sends : Nat)), i64 ((e.since : Nat)), u32 (e.want), .slice e.cm.a e.cm.fs.length e.cm.c, .slice (ownA e.o.key) e.o.l.length e.o.c, .nilIface] 89 (0, 0)) :: (key24, sobP ES 30 pre26 ((svs e.q.fs) ++ ([⟨ownA key6, bs.length, c7⟩] : List SlV)) sp28) :: (e.cm.key, sobP ES 30 e.cm.pre (svs e.cm.fs) e.cm.sp) :: (e.o.key, sob E32 53 e.o.l e.o.sp) :: R)) rfl
    clear H31
    exact hK _ _ ⟨key6, c7, sp8, b16, key24, c27, sp28, ad25, pre26, rfl, rfl, rfl, hS17, hS9, hS29, H31'⟩
  refine WalkC.look rfl (fun _ => .pointer (some ⟨b, 0, none⟩)) (fun _ _ _ => rfl) (fun q r uw _ _ _ _ => Gives.run rfl (r_nilCheck rfl) ⟨rfl, rfl⟩) ?_
  refine WalkC.look rfl (fun _ => .pointer (some ⟨b, 0, none⟩)) (fun _ _ _ => rfl) (fun q r uw _ _ _ _ => Gives.run rfl (r_fieldAddr (off' := 0) fld89_0 (by decide) (b := b) (off := 0) rfl (by omega)) ⟨rfl, rfl⟩) ?_
  refine WalkC.eff 3 rfl (fun r uw32 hF34 => ?_) ?_
  · skip
    obtain ⟨key6, c7, sp8, b16, key24, c27, sp28, ad25, pre26, e6, e7, e8, hS17, hS9, hS29, H33⟩ := hF34
    dsimp only [List.take, List.map, List.cons_append, List.nil_append]
    rw [e6, e7, e8]
    refine Gives.ofW0 rfl (fun Q' hK => ?_)
    refine d_store (k := 2) (v := .slice ad25 (e.q.fs.length + 1) c27) (cs' := #[.slice ad25 (e.q.fs.length + 1) c27, u32 (e.number), i64 ((e.sends : Nat)), i64 ((e.since : Nat)), u32 (e.want), .slice e.cm.a e.cm.fs.length e.cm.c, .slice (ownA e.o.key) e.o.l.length e.o.c, .nilIface]) H33 rfl rfl rfl siz22 (by rfl) (by intro u hu; simp [Value.cells] at hu; first | (subst hu; rfl) | (rcases hu with rfl <;> rfl)) (by exact Nat.le_of_ble_eq_true rfl) (by rfl) ?_
    intro w35 H36 hC37
    have H36' := H36.as (L' := (((some b16), sob ES 30 ([⟨ownA key6, bs.length, c7⟩] : List SlV) ([])) :: (key6, sob E8 5 bs sp8) :: (some b, .cells #[.slice ad25 (e.q.fs.length + 1) c27, u32 (e.number), i64 ((e.sends : Nat)), i64 ((e.since : Nat)), u32 (e.want), .slice e.cm.a e.cm.fs.length e.cm.c, .slice (ownA e.o.key) e.o.l.length e.o.c, .nilIface] 89 (0, 0)) :: (key24, sobP ES 30 pre26 ((svs e.q.fs) ++ ([⟨ownA key6, bs.length, c7⟩] : List SlV)) sp28) :: (e.cm.key, sobP ES 30 e.cm.pre (svs e.cm.fs) e.cm.sp) :: (e.o.key, sob E32 53 e.o.l e.o.sp) :: R)) rfl
    clear H36
    exact hK _ (fun _ => ⟨key6, c7, sp8, b16, key24, c27, sp28, ad25, pre26, rfl, rfl, rfl, trivial, hS17, hS9, hS29, H36'⟩)
  refine WalkC.nil ?_
  intro r38 w39 hF41
  obtain ⟨key6, c7, sp8, b16, key24, c27, sp28, ad25, pre26, e6, e7, e8, e11, hS17, hS9, hS29, H40⟩ := hF41
  dsimp only
  rw [e6, e7, e8]
  refine wnil ?_
  refine thenNormal ?_
  refine seqRegion ?_
  refine sq (r_assign (v := .nilIface) rfl) ?_
  refine wend ?_
  refine retAny ?_
  refine retG (rs := [.tmp 4]) (vs := [.nilIface]) rfl ⟨⟨rfl, rfl⟩, trivial⟩ ?_
  have hfin := ((H40.dropk 0)).sink4
  refine ⟨_, rfl, rfl, { e with q := ⟨key24, ad25, pre26, c27, sp28, e.q.fs ++ [(⟨key6, bs, c7, sp8⟩ : Fr)]⟩, err := .nilIface }, [Fr.row 5 (⟨key6, bs, c7, sp8⟩ : Fr)], ?_, En.okSend he hS9 hbs hS29, ?_⟩
  · unfold endR En.ob Cw.row
    dsimp only
    rw [svs_snoc, List.length_append, List.length_singleton]
    exact hfin
  · simp only [abs, sendS, bss_snoc, hd]
    rfl

theorem send_long (b : Nat) (e : En) (F : List (Option Nat × Obj)) (he : e.ok 5 F) (w : World) (hb : w.heap[b]? = some (e.ob 89)) (hG : Gl w) (hd : isDead e.err = false) (a0 : Option Addr) (n0 c0 : Nat) (hlen : 1048576 < n0) : Calls Tryd.prog 25 [.pointer (some ⟨b, 0, none⟩), .slice a0 n0 c0].toArray w (Ret fun v w' => (∃ ev, v = ev ∧ Er w.heap.size w' 3 1 ev) ∧ Ext w w') := by
  have he0 := he.live hd
  have H := Hp.start No w
  have hb0 := hb
  unfold En.ob at hb0
  rw [he0] at hb0
  refine enter (n := 48) Tryd.func25 rfl rfl (Nat.le_of_ble_eq_true rfl) ?_
  refine seqRegion ?_
  refine sq (r_assign (v := .nilIface) rfl) ?_
  refine wend ?_
  refine seqAny ?_
  refine blockAny ?_
  refine seqRegion ?_
  refine sq (r_move (v := .pointer (some ⟨b, 0, none⟩)) rfl) ?_
  refine sq (r_nilCheck rfl) ?_
  refine sq (r_fieldAddr (off' := 7) fld89_7 (by decide) (b := b) (off := 0) rfl (by omega)) ?_
  refine sq (r_loadC (v := .nilIface) one28 (H.keepE hb0) (off := 7) rfl (by rfl)) ?_
  refine sq ((r_neqNN isI28 rfl rfl).as (v' := .bool (false)) (by rfl)) ?_
  refine sq (r_assign (v := .bool (false)) rfl) ?_
  refine wend ?_
  refine condFalse rfl ?_
  refine seqRegion ?_
  refine sq (r_move (v := .slice a0 n0 c0) rfl) ?_
  refine sq (r_lenS sli30 (a := a0) (m := n0) (c := c0) rfl) ?_
  refine sq ((r_gtrI (a := (n0 : Nat)) (b := (1048576 : Int)) rfl rfl).as (v' := .bool (true)) (by exact congrArg Value.bool (decide_eq_true (by omega)))) ?_
  refine sq (r_assign (v := .bool (true)) rfl) ?_
  refine wend ?_
  refine condTrue rfl ?_
  refine seqRegion ?_
  refine sq (r_mkI und36 (xv := i64 ((3 : Int))) rfl) ?_
  refine sq (r_move (v := .slice a0 n0 c0) rfl) ?_
  refine sq (r_lenS sli30 (a := a0) (m := n0) (c := c0) rfl) ?_
  refine c_call (vs := [.iface 36 (i64 ((3 : Int))), .string ({data := #[108, 105, 110, 107]}), i64 ((n0 : Nat))]) call41 rfl (wrap0_ok (3 : Int) (n0 : Nat) ({data := #[108, 105, 110, 107]}) w (Chg.gl H.chg (fun x => x) hG)) ?_
  rintro v3 w1 ⟨hEr4, hE5⟩
  have H6 := H.ext hE5
  obtain ⟨T7, x8, rfl⟩ := hEr4.iface
  refine sq (r_assign (v := .iface T7 (x8)) rfl) ?_
  refine wend ?_
  refine retAny ?_
  refine blockRet ?_
  refine thenRet ?_
  refine retG (rs := [.tmp 4]) (vs := [.iface T7 (x8)]) rfl ⟨⟨rfl, rfl⟩, trivial⟩ ?_
  exact ⟨_, rfl, ⟨_, rfl, hEr4.mono H.chg.size⟩, H6.chg⟩

theorem send_full (b : Nat) (e : En) (F : List (Option Nat × Obj)) (he : e.ok 5 F) (w : World) (hb : w.heap[b]? = some (e.ob 89)) (hG : Gl w) (hd : isDead e.err = false) (a0 : Option Addr) (n0 c0 : Nat) (hlen : n0 ≤ 1048576) (hq : 64 ≤ e.q.fs.length) : Calls Tryd.prog 25 [.pointer (some ⟨b, 0, none⟩), .slice a0 n0 c0].toArray w (Ret fun v w' => (∃ ev, v = ev ∧ Er w.heap.size w' 5 1 ev) ∧ Ext w w') := by
  have he0 := he.live hd
  have H := Hp.start No w
  have hb0 := hb
  unfold En.ob at hb0
  rw [he0] at hb0
  refine enter (n := 48) Tryd.func25 rfl rfl (Nat.le_of_ble_eq_true rfl) ?_
  refine seqRegion ?_
  refine sq (r_assign (v := .nilIface) rfl) ?_
  refine wend ?_
  refine seqAny ?_
  refine blockAny ?_
  refine seqRegion ?_
  refine sq (r_move (v := .pointer (some ⟨b, 0, none⟩)) rfl) ?_
  refine sq (r_nilCheck rfl) ?_
  refine sq (r_fieldAddr (off' := 7) fld89_7 (by decide) (b := b) (off := 0) rfl (by omega)) ?_
  refine sq (r_loadC (v := .nilIface) one28 (H.keepE hb0) (off := 7) rfl (by rfl)) ?_
  refine sq ((r_neqNN isI28 rfl rfl).as (v' := .bool (false)) (by rfl)) ?_
  refine sq (r_assign (v := .bool (false)) rfl) ?_
  refine wend ?_
  refine condFalse rfl ?_
  refine seqRegion ?_
  refine sq (r_move (v := .slice a0 n0 c0) rfl) ?_
  refine sq (r_lenS sli30 (a := a0) (m := n0) (c := c0) rfl) ?_
  refine sq ((r_gtrI (a := (n0 : Nat)) (b := (1048576 : Int)) rfl rfl).as (v' := .bool (false)) (by exact congrArg Value.bool (decide_eq_false (by omega)))) ?_
  refine sq (r_assign (v := .bool (false)) rfl) ?_
  refine wend ?_
  refine condFalse rfl ?_
  refine seqRegion ?_
  refine sq (r_move (v := .pointer (some ⟨b, 0, none⟩)) rfl) ?_
  refine sq (r_nilCheck rfl) ?_
  refine sq (r_fieldAddr (off' := 0) fld89_0 (by decide) (b := b) (off := 0) rfl (by omega)) ?_
  refine sq (r_loadC (v := .slice e.q.a e.q.fs.length e.q.c) one22 (H.keepE hb0) (off := 0) rfl (by rfl)) ?_
  refine sq (r_lenS sli22 (a := e.q.a) (m := e.q.fs.length) (c := e.q.c) rfl) ?_
  refine sq ((r_geqI (a := (e.q.fs.length : Nat)) (b := (64 : Int)) rfl rfl).as (v' := .bool (true)) (by exact congrArg Value.bool (decide_eq_true (by omega)))) ?_
  refine sq (r_assign (v := .bool (true)) rfl) ?_
  refine wend ?_
  refine condTrue rfl ?_
  refine seqRegion ?_
  refine sq (r_mkI und36 (xv := i64 ((5 : Int))) rfl) ?_
  refine sq (r_move (v := .pointer (some ⟨b, 0, none⟩)) rfl) ?_
  refine sq (r_nilCheck rfl) ?_
  refine sq (r_fieldAddr (off' := 0) fld89_0 (by decide) (b := b) (off := 0) rfl (by omega)) ?_
  refine sq (r_loadC (v := .slice e.q.a e.q.fs.length e.q.c) one22 (H.keepE hb0) (off := 0) rfl (by rfl)) ?_
  refine sq (r_lenS sli22 (a := e.q.a) (m := e.q.fs.length) (c := e.q.c) rfl) ?_
  refine c_call (vs := [.iface 36 (i64 ((5 : Int))), .string ({data := #[108, 105, 110, 107]}), i64 ((e.q.fs.length : Nat))]) call41 rfl (wrap0_ok (5 : Int) (e.q.fs.length : Nat) ({data := #[108, 105, 110, 107]}) w (Chg.gl H.chg (fun x => x) hG)) ?_
  rintro v3 w1 ⟨hEr4, hE5⟩
  have H6 := H.ext hE5
  obtain ⟨T7, x8, rfl⟩ := hEr4.iface
  refine sq (r_assign (v := .iface T7 (x8)) rfl) ?_
  refine wend ?_
  refine retAny ?_
  refine blockRet ?_
  refine thenRet ?_
  refine retG (rs := [.tmp 4]) (vs := [.iface T7 (x8)]) rfl ⟨⟨rfl, rfl⟩, trivial⟩ ?_
  exact ⟨_, rfl, ⟨_, rfl, hEr4.mono H.chg.size⟩, H6.chg⟩

theorem send_dead (b : Nat) (e : En) (F : List (Option Nat × Obj)) (he : e.ok 5 F) (w : World) (hb : w.heap[b]? = some (e.ob 89)) (hd : isDead e.err = true) (a0 : Option Addr) (n0 c0 : Nat) : Calls Tryd.prog 25 [.pointer (some ⟨b, 0, none⟩), .slice a0 n0 c0].toArray w (Ret fun v w' => v = e.err ∧ Ext w w') := by
  obtain ⟨TE, xe, he0⟩ := he.gone hd
  have H := Hp.start No w
  have hb0 := hb
  unfold En.ob at hb0
  rw [he0] at hb0
  refine enter (n := 48) Tryd.func25 rfl rfl (Nat.le_of_ble_eq_true rfl) ?_
  refine seqRegion ?_
  refine sq (r_assign (v := .nilIface) rfl) ?_
  refine wend ?_
  refine seqAny ?_
  refine blockAny ?_
  refine seqRegion ?_
  refine sq (r_move (v := .pointer (some ⟨b, 0, none⟩)) rfl) ?_
  refine sq (r_nilCheck rfl) ?_
  refine sq (r_fieldAddr (off' := 7) fld89_7 (by decide) (b := b) (off := 0) rfl (by omega)) ?_
  refine sq (r_loadC (v := .iface TE (xe)) one28 (H.keepE hb0) (off := 7) rfl (by rfl)) ?_
  refine sq (r_neqIN isI28 rfl rfl) ?_
  refine sq (r_assign (v := .bool (true)) rfl) ?_
  refine wend ?_
  refine condTrue rfl ?_
  refine seqRegion ?_
  refine sq (r_move (v := .pointer (some ⟨b, 0, none⟩)) rfl) ?_
  refine sq (r_nilCheck rfl) ?_
  refine sq (r_fieldAddr (off' := 7) fld89_7 (by decide) (b := b) (off := 0) rfl (by omega)) ?_
  refine sq (r_loadC (v := .iface TE (xe)) one28 (H.keepE hb0) (off := 7) rfl (by rfl)) ?_
  refine sq (r_assign (v := .iface TE (xe)) rfl) ?_
  refine wend ?_
  refine retAny ?_
  refine blockRet ?_
  refine thenRet ?_
  refine retG (rs := [.tmp 4]) (vs := [.iface TE (xe)]) rfl ⟨⟨rfl, rfl⟩, trivial⟩ ?_
  exact ⟨_, rfl, he0.symm, H.chg⟩

theorem waiting_ok (b : Nat) (e : En) (w : World) (hb : w.heap[b]? = some (e.ob 89)) : Calls Tryd.prog 32 [.pointer (some ⟨b, 0, none⟩)].toArray w (Ret fun v w' => v = i64 (e.q.fs.length : Nat) ∧ Ext w w') := by
  have H := Hp.start No w
  unfold En.ob at hb
  refine enter (n := 8) Tryd.func32 rfl rfl (Nat.le_of_ble_eq_true rfl) ?_
  refine seqRegion ?_
  refine sq (r_assign (v := i64 ((0 : Int))) rfl) ?_
  refine wend ?_
  refine seqRegion ?_
  refine sq (r_move (v := .pointer (some ⟨b, 0, none⟩)) rfl) ?_
  refine sq (r_nilCheck rfl) ?_
  refine sq (r_fieldAddr (off' := 0) fld89_0 (by decide) (b := b) (off := 0) rfl (by omega)) ?_
  refine sq (r_loadC (v := .slice e.q.a e.q.fs.length e.q.c) one22 (H.keepE hb) (off := 0) rfl (by rfl)) ?_
  refine sq (r_lenS sli22 (a := e.q.a) (m := e.q.fs.length) (c := e.q.c) rfl) ?_
  refine sq (r_assign (v := i64 ((e.q.fs.length : Nat))) rfl) ?_
  refine wend ?_
  refine retAny ?_
  refine retG (rs := [.tmp 2]) (vs := [i64 ((e.q.fs.length : Nat))]) rfl ⟨⟨rfl, rfl⟩, trivial⟩ ?_
  exact ⟨_, rfl, rfl, H.chg⟩

theorem err_ok (b : Nat) (e : En) (w : World) (hb : w.heap[b]? = some (e.ob 89)) : Calls Tryd.prog 33 [.pointer (some ⟨b, 0, none⟩)].toArray w (Ret fun v w' => v = e.err ∧ Ext w w') := by
  have H := Hp.start No w
  unfold En.ob at hb
  refine enter (n := 7) Tryd.func33 rfl rfl (Nat.le_of_ble_eq_true rfl) ?_
  refine seqRegion ?_
  refine sq (r_assign (v := .nilIface) rfl) ?_
  refine wend ?_
  refine seqRegion ?_
  refine sq (r_move (v := .pointer (some ⟨b, 0, none⟩)) rfl) ?_
  refine sq (r_nilCheck rfl) ?_
  refine sq (r_fieldAddr (off' := 7) fld89_7 (by decide) (b := b) (off := 0) rfl (by omega)) ?_
  refine sq (r_loadC (v := e.err) one28 (H.keepE hb) (off := 7) rfl (by rfl)) ?_
  refine sq (r_assign (v := e.err) rfl) ?_
  refine wend ?_
  refine retAny ?_
  refine retG (rs := [.tmp 2]) (vs := [e.err]) rfl ⟨⟨rfl, rfl⟩, trivial⟩ ?_
  exact ⟨_, rfl, rfl, H.chg⟩

theorem take_none (b : Nat) (e : En) (w : World) (hb : w.heap[b]? = some (e.ob 89)) (hl : e.cm.fs.length = 0) : Calls Tryd.prog 29 [.pointer (some ⟨b, 0, none⟩)].toArray w (Ret fun v w' => v = .tuple #[.slice none 0 0, .bool false] ∧ Ext w w') := by
  have H := Hp.start No w
  unfold En.ob at hb
  refine enter (n := 26) Tryd.func29 rfl rfl (Nat.le_of_ble_eq_true rfl) ?_
  refine seqRegion ?_
  refine sq (r_assign (v := .slice none 0 0) rfl) ?_
  refine sq (r_assign (v := .bool (false)) rfl) ?_
  refine wend ?_
  refine seqAny ?_
  refine seqRegion ?_
  refine sq (r_move (v := .pointer (some ⟨b, 0, none⟩)) rfl) ?_
  refine sq (r_nilCheck rfl) ?_
  refine sq (r_fieldAddr (off' := 5) fld89_5 (by decide) (b := b) (off := 0) rfl (by omega)) ?_
  refine sq (r_loadC (v := .slice e.cm.a e.cm.fs.length e.cm.c) one22 (H.keepE hb) (off := 5) rfl (by rfl)) ?_
  refine sq (r_lenS sli22 (a := e.cm.a) (m := e.cm.fs.length) (c := e.cm.c) rfl) ?_
  refine sq ((r_eqlI (a := (e.cm.fs.length : Nat)) (b := (0 : Int)) rfl rfl).as (v' := .bool (true)) (by exact congrArg Value.bool (decide_eq_true (by omega)))) ?_
  refine wend ?_
  refine condTrue rfl ?_
  refine seqRegion ?_
  refine sq (r_assign (v := .slice none 0 0) rfl) ?_
  refine sq (r_assign (v := .bool (false)) rfl) ?_
  refine wend ?_
  refine retAny ?_
  refine thenRet ?_
  refine retG (rs := [.tmp 2, .tmp 3]) (vs := [.slice none 0 0, .bool (false)]) rfl ⟨⟨rfl, rfl⟩, ⟨rfl, rfl⟩, trivial⟩ ?_
  exact ⟨_, rfl, rfl, H.chg⟩

theorem take_some (b : Nat) (e : En) (F R : List (Option Nat × Obj)) (he : e.ok 5 F) (hF : ∀ x ∈ F, x ∈ R) (w₀ w : World) (H : Hp No w₀ w (endR 30 53 89 b e ++ R)) (f : Fr) (hf : e.cm.fs[0]? = some f) : Calls Tryd.prog 29 [.pointer (some ⟨b, 0, none⟩)].toArray w (Ret fun v w' => v = .tuple #[.slice (ownA f.key) f.bs.length f.c, .bool true] ∧ ∃ e' : En, Hp No w₀ w' (endR 30 53 89 b e' ++ R) ∧ e'.ok 5 F ∧ abs e' = { abs e with came := (abs e).came.drop 1 }) := by
  have hfl := (List.getElem?_eq_some_iff.1 hf).1
  have hqc := he.q.sl.cap
  have hcc := he.cm.sl.cap
  rw [svs_len] at hqc hcc
  have H := H.as (L' := ((some b, .cells #[.slice e.q.a e.q.fs.length e.q.c, u32 (e.number), i64 ((e.sends : Nat)), i64 ((e.since : Nat)), u32 (e.want), .slice e.cm.a e.cm.fs.length e.cm.c, .slice (ownA e.o.key) e.o.l.length e.o.c, e.err] 89 (0, 0)) :: (e.q.key, sobP ES 30 e.q.pre (svs e.q.fs) e.q.sp) :: (e.cm.key, sobP ES 30 e.cm.pre (svs e.cm.fs) e.cm.sp) :: (e.o.key, sob E32 53 e.o.l e.o.sp) :: R)) rfl
  refine enter (n := 26) Tryd.func29 rfl rfl (Nat.le_of_ble_eq_true rfl) ?_
  refine seqRegion ?_
  refine sq (r_assign (v := .slice none 0 0) rfl) ?_
  refine sq (r_assign (v := .bool (false)) rfl) ?_
  refine wend ?_
  refine seqAny ?_
  refine seqRegion ?_
  refine sq (r_move (v := .pointer (some ⟨b, 0, none⟩)) rfl) ?_
  refine sq (r_nilCheck rfl) ?_
  refine sq (r_fieldAddr (off' := 5) fld89_5 (by decide) (b := b) (off := 0) rfl (by omega)) ?_
  refine sq (r_loadC (v := .slice e.cm.a e.cm.fs.length e.cm.c) one22 (H.get (k := 0) rfl) (off := 5) rfl (by rfl)) ?_
  refine sq (r_lenS sli22 (a := e.cm.a) (m := e.cm.fs.length) (c := e.cm.c) rfl) ?_
  refine sq ((r_eqlI (a := (e.cm.fs.length : Nat)) (b := (0 : Int)) rfl rfl).as (v' := .bool (false)) (by exact congrArg Value.bool (decide_eq_false (by omega)))) ?_
  refine wend ?_
  refine condFalse rfl ?_
  refine skipAny ?_
  refine thenNormal ?_
  refine seqRegion ?_
  refine sq (r_move (v := .pointer (some ⟨b, 0, none⟩)) rfl) ?_
  refine sq (r_nilCheck rfl) ?_
  refine sq (r_fieldAddr (off' := 5) fld89_5 (by decide) (b := b) (off := 0) rfl (by omega)) ?_
  refine sq (r_loadC (v := .slice e.cm.a e.cm.fs.length e.cm.c) one22 (H.get (k := 0) rfl) (off := 5) rfl (by rfl)) ?_
  refine sq (r_idxS (E := ES) (l := svs e.cm.fs) (j := 0) sli22 (H.rdP (k := 2) rfl he.cm.sl) rfl rfl (by first | rfl | omega | (simp; omega)) (by exact (svs_len _).symm) (by rw [svs_len]; omega)) ?_
  refine sq ((r_ldS (E := ES) (l := svs e.cm.fs) (j := 0) (v := (svs e.cm.fs).getD 0 sv0) fits30 (H.rdP (k := 2) rfl he.cm.sl) rfl rfl (at_getD (by rw [svs_len]; omega))).as (v' := .slice (ownA f.key) f.bs.length f.c) (by rw [svs_get hf]; rfl)) ?_
  refine sq (r_assign (v := .slice (ownA f.key) f.bs.length f.c) rfl) ?_
  refine wend ?_
  refine seqRegion ?_
  refine sq (r_move (v := .pointer (some ⟨b, 0, none⟩)) rfl) ?_
  refine sq (r_move (v := .pointer (some ⟨b, 0, none⟩)) rfl) ?_
  refine sq (r_nilCheck rfl) ?_
  refine sq (r_fieldAddr (off' := 5) fld89_5 (by decide) (b := b) (off := 0) rfl (by omega)) ?_
  refine sq (r_loadC (v := .slice e.cm.a e.cm.fs.length e.cm.c) one22 (H.get (k := 0) rfl) (off := 5) rfl (by rfl)) ?_
  refine sq ((r_sliceS (l := 1) (h := e.cm.fs.length) sli22 rfl (.inl ⟨_, _, _, rfl, rfl, by first | rfl | omega | (simp; omega)⟩) (.inr ⟨rfl, rfl⟩) (by omega) (by omega)).as (v' := .slice (if e.cm.c = 1 then e.cm.a else adr e.cm.a (1 * 1)) (e.cm.fs.length - 1) (e.cm.c - 1)) (by first | rfl | (congr 1; omega) | (simp; omega) | simp)) ?_
  refine sq (r_nilCheck rfl) ?_
  refine sq (r_fieldAddr (off' := 5) fld89_5 (by decide) (b := b) (off := 0) rfl (by omega)) ?_
  refine d_store (k := 0) (v := .slice (if e.cm.c = 1 then e.cm.a else adr e.cm.a (1 * 1)) (e.cm.fs.length - 1) (e.cm.c - 1)) (cs' := #[.slice e.q.a e.q.fs.length e.q.c, u32 (e.number), i64 ((e.sends : Nat)), i64 ((e.since : Nat)), u32 (e.want), .slice (if e.cm.c = 1 then e.cm.a else adr e.cm.a (1 * 1)) (e.cm.fs.length - 1) (e.cm.c - 1), .slice (ownA e.o.key) e.o.l.length e.o.c, e.err]) H rfl rfl rfl siz22 (by rfl) (by intro u hu; simp [Value.cells] at hu; first | (subst hu; rfl) | (rcases hu with rfl <;> rfl)) (by exact Nat.le_of_ble_eq_true rfl) (by rfl) ?_
  intro w1 H2 hC3
  have H2' := H2.as (L' := ((some b, .cells #[.slice e.q.a e.q.fs.length e.q.c, u32 (e.number), i64 ((e.sends : Nat)), i64 ((e.since : Nat)), u32 (e.want), .slice (if e.cm.c = 1 then e.cm.a else adr e.cm.a (1 * 1)) (e.cm.fs.length - 1) (e.cm.c - 1), .slice (ownA e.o.key) e.o.l.length e.o.c, e.err] 89 (0, 0)) :: (e.q.key, sobP ES 30 e.q.pre (svs e.q.fs) e.q.sp) :: (e.cm.key, sobP ES 30 e.cm.pre (svs e.cm.fs) e.cm.sp) :: (e.o.key, sob E32 53 e.o.l e.o.sp) :: R)) rfl
  clear H2
  refine wend ?_
  refine seqRegion ?_
  refine sq (r_move (v := .slice (ownA f.key) f.bs.length f.c) rfl) ?_
  refine sq (r_assign (v := .slice (ownA f.key) f.bs.length f.c) rfl) ?_
  refine sq (r_assign (v := .bool (true)) rfl) ?_
  refine wend ?_
  refine retAny ?_
  refine retG (rs := [.tmp 2, .tmp 3]) (vs := [.slice (ownA f.key) f.bs.length f.c, .bool (true)]) rfl ⟨⟨rfl, rfl⟩, ⟨rfl, rfl⟩, trivial⟩ ?_
  refine ⟨_, rfl, rfl, { e with cm := e.cm.cut }, ?_, En.okTake he (by omega), ?_⟩
  · unfold endR En.ob
    dsimp only
    rw [Cw.cut_row (by omega)]
    unfold Cw.cut
    dsimp only
    rw [List.length_drop]
    exact H2'
  · simp only [abs, Cw.cut, bss_drop]
end Go.Proofs.YtpmmhpgfbfehmaaDoor.Lk
