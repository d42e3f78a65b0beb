/- The walks of the nets. -/
import Derived.Test.YtpmmhpgfbfehmaaDoorNet11
namespace Go.Proofs.YtpmmhpgfbfehmaaDoor.Nt
open Go Go.Proofs.YtpmmhpgfbfehmaaDoor.Vc Go.Proofs.YtpmmhpgfbfehmaaDoor.Er
set_option linter.unusedVariables false
theorem fld69_3 : fld Tryd.prog 69 3 = some (3, 1, 3) := by kernel_rfl
theorem play_flip_0 (b : Nat) (a o : Wy) (ha : a.ok) (ho : o.ok) (ka ko : Option Nat) (ca co : Nat) (spa spo : List Value) (la lo : List (List (BitVec 8))) (hSa : Sl ET ka la ca spa) (hSo : Sl ET ko lo co spo) (hea : bss a.fs = la) (heo : bss o.fs = lo) (hla : la.length ≤ 64) (hza : ∀ q ∈ la, q.length ≤ 140737488351232) (X : List (Option Nat × Obj)) (fa : Option Addr) (fc : Nat) (bs : List (BitVec 8)) (hbl : bs.length ≤ 140737488351232) (i : Nat) (hi : i < la.length) (bit : Nat) (hbit : bit / 8 < (la.getD i []).length) (w₀ w : World) (hG : Gl w₀) (hFr : Rd E8 w₀ fa bs) (H : Hp No w₀ w ((some b, .cells (nv false a o) 76 (0, 0)) :: (a.key, sob ES 30 (svs a.fs) a.sp) :: (o.key, sob ES 30 (svs o.fs) o.sp) :: (frs 5 a.fs ++ (frs 5 o.fs ++ ((ka, sob ET 9 la spa) :: (ko, sob ET 9 lo spo) :: X)))))  : Calls Tryd.prog 31 [.pointer (some ⟨b, 0, none⟩), .agg #[.slice (ownA ka) la.length ca, .slice (ownA ko) lo.length co], .agg #[i64 ((5 : Int)), i64 ((0 : Int)), i64 ((i : Nat)), i64 ((bit : Nat)), .slice fa bs.length fc]].toArray w (Ret fun v w' => ∃ (a' : Wy) (ka' : Option Nat) (ca' : Nat) (spa' : List Value) (la' : List (List (BitVec 8))), v = .tuple #[.agg #[.slice (ownA ka') la'.length ca', .slice (ownA ko) lo.length co], .bool true] ∧ a'.ok ∧ Sl ET ka' la' ca' spa' ∧ bss a'.fs = la' ∧ la'.length ≤ 64 ∧ (∀ q ∈ la', q.length ≤ 140737488351232) ∧ Hp No w₀ w' ((some b, .cells (nv false a' o) 76 (0, 0)) :: (a'.key, sob ES 30 (svs a'.fs) a'.sp) :: (o.key, sob ES 30 (svs o.fs) o.sp) :: (frs 5 a'.fs ++ (frs 5 o.fs ++ ((ka', sob ET 9 la' spa') :: (ko, sob ET 9 lo spo) :: X))))) := by
  have hzi : (la.getD i []).length ≤ 140737488351232 := hza _ (getD_mem hi)
  have H := (Hp.fromR [(ka, sob ET 9 la spa), (ko, sob ET 9 lo spo)] (F := frs 5 a.fs) (G := frs 5 o.fs) (X := X) H)
  refine enter (n := 163) Tryd.func31 rfl rfl (Nat.le_of_ble_eq_true rfl) ?_
  refine seqRegion ?_
  refine q_box (v := .agg #[.slice (ownA ka) la.length ca, .slice (ownA ko) lo.length co]) (o := .cells #[.slice (ownA ka) la.length ca, .slice (ownA ko) lo.length co] 42 (0, 0)) H rfl (by rfl) ?_
  intro b1 w2 hb1 H3 hE4
  refine q_box (v := .agg #[i64 ((5 : Int)), i64 ((0 : Int)), i64 ((i : Nat)), i64 ((bit : Nat)), .slice fa bs.length fc]) (o := .cells #[i64 ((5 : Int)), i64 ((0 : Int)), i64 ((i : Nat)), i64 ((bit : Nat)), .slice fa bs.length fc] 69 (0, 0)) H3 rfl (by rfl) ?_
  intro b5 w6 hb5 H7 hE8
  refine q_alloc (o := .cells #[.slice none 0 0, .slice none 0 0] 42 (0, 0)) H7 zer42 (by kernel_rfl) ?_
  intro b9 w10 hb9 H11 hE12
  refine sq (r_assign (v := .bool (false)) rfl) ?_
  refine wend ?_
  refine seqRegion ?_
  refine sq (r_assign (v := .nilIface) rfl) ?_
  refine wend ?_
  refine seqRegion ?_
  refine sq (r_assign (v := i64 ((0 : Int))) rfl) ?_
  refine wend ?_
  refine seqAny ?_
  refine seqRegion ?_
  refine sq (r_fieldAddr (off' := 0) fld69_0 (by decide) (b := b5) (off := 0) rfl (by omega)) ?_
  refine sq (r_loadC (v := i64 ((5 : Int))) one3 (H11.get (k := 1) rfl) (off := 0) rfl (by rfl)) ?_
  refine wend ?_
  refine blockAny ?_
  refine seqRegion ?_
  refine sq ((r_eqlI (a := (5 : Int)) (b := (1 : Int)) rfl rfl).as (v' := .bool (false)) (by rfl)) ?_
  refine sq (r_assign (v := .bool (false)) rfl) ?_
  refine wend ?_
  refine condFalse rfl ?_
  refine seqAny ?_
  refine seqRegion ?_
  refine sq ((r_eqlI (a := (5 : Int)) (b := (2 : Int)) rfl rfl).as (v' := .bool (false)) (by rfl)) ?_
  refine sq (r_assign (v := .bool (false)) rfl) ?_
  refine wend ?_
  refine condFalse rfl ?_
  refine oneRegion ?_
  refine sq ((r_eqlI (a := (5 : Int)) (b := (3 : Int)) rfl rfl).as (v' := .bool (false)) (by rfl)) ?_
  refine sq (r_assign (v := .bool (false)) rfl) ?_
  refine wnil ?_
  refine thenNormal ?_
  refine condFalse rfl ?_
  refine seqRegion ?_
  refine sq ((r_eqlI (a := (5 : Int)) (b := (4 : Int)) rfl rfl).as (v' := .bool (false)) (by rfl)) ?_
  refine sq (r_assign (v := .bool (false)) rfl) ?_
  refine wend ?_
  refine condFalse rfl ?_
  refine seqRegion ?_
  refine sq ((r_eqlI (a := (5 : Int)) (b := (5 : Int)) rfl rfl).as (v' := .bool (true)) (by rfl)) ?_
  refine sq (r_assign (v := .bool (true)) rfl) ?_
  refine wend ?_
  refine condTrue rfl ?_
  refine seqRegion ?_
  refine sq (r_move (v := .pointer (some ⟨b, 0, none⟩)) rfl) ?_
  refine sq (r_fieldAddr (off' := 1) fld69_1 (by decide) (b := b5) (off := 0) rfl (by omega)) ?_
  refine sq (r_loadC (v := i64 ((0 : Int))) one3 (H11.get (k := 1) rfl) (off := 1) rfl (by rfl)) ?_
  refine sq (r_fieldAddr (off' := 2) fld69_2 (by decide) (b := b5) (off := 0) rfl (by omega)) ?_
  refine sq (r_loadC (v := i64 ((i : Nat))) one3 (H11.get (k := 1) rfl) (off := 2) rfl (by rfl)) ?_
  refine sq (r_fieldAddr (off' := 3) fld69_3 (by decide) (b := b5) (off := 0) rfl (by omega)) ?_
  refine sq (r_loadC (v := i64 ((bit : Nat))) one3 (H11.get (k := 1) rfl) (off := 3) rfl (by rfl)) ?_
  obtain ⟨f13, hf14, hfb15⟩ := bss_at (F := a.fs) (i := i) (b := la.getD i []) (by rw [hea]; simp [hi])
  have fok16 := ha.each _ (List.mem_of_getElem? hf14)
  have hif13 := (List.getElem?_eq_some_iff.1 hf14).1
  have H17 := Hp.toR [(some b9, .cells #[.slice none 0 0, .slice none 0 0] 42 (0, 0)), (some b5, .cells #[i64 ((5 : Int)), i64 ((0 : Int)), i64 ((i : Nat)), i64 ((bit : Nat)), .slice fa bs.length fc] 69 (0, 0)), (some b1, .cells #[.slice (ownA ka) la.length ca, .slice (ownA ko) lo.length co] 42 (0, 0)), (ka, sob ET 9 la spa), (ko, sob ET 9 lo spo)] (F := frs 5 a.fs) (G := frs 5 o.fs) (X := X) H11
  refine c_call (vs := [.pointer (some ⟨b, 0, none⟩), i64 ((0 : Int)), i64 ((i : Nat)), i64 ((bit : Nat))]) call21 rfl (flip_ok false b a o ha ([(some b9, .cells #[.slice none 0 0, .slice none 0 0] 42 (0, 0)), (some b5, .cells #[i64 ((5 : Int)), i64 ((0 : Int)), i64 ((i : Nat)), i64 ((bit : Nat)), .slice fa bs.length fc] 69 (0, 0)), (some b1, .cells #[.slice (ownA ka) la.length ca, .slice (ownA ko) lo.length co] 42 (0, 0)), (ka, sob ET 9 la spa), (ko, sob ET 9 lo spo)] ++ X) w₀ w10 i hif13 f13 hf14 (by rw [hfb15]; omega) bit (by rw [hfb15]; exact hbit) H17) ?_
  rintro _ w18 ⟨rfl, a20, hok21, hbs22, HN23⟩
  have H24 := (Hp.fromR [(some b9, .cells #[.slice none 0 0, .slice none 0 0] 42 (0, 0)), (some b5, .cells #[i64 ((5 : Int)), i64 ((0 : Int)), i64 ((i : Nat)), i64 ((bit : Nat)), .slice fa bs.length fc] 69 (0, 0)), (some b1, .cells #[.slice (ownA ka) la.length ca, .slice (ownA ko) lo.length co] 42 (0, 0)), (ka, sob ET 9 la spa), (ko, sob ET 9 lo spo)] (F := frs 5 a20.fs) (G := frs 5 o.fs) (X := X) HN23).as (L' := ((some b9, .cells #[.slice none 0 0, .slice none 0 0] 42 (0, 0)) :: (some b5, .cells #[i64 ((5 : Int)), i64 ((0 : Int)), i64 ((i : Nat)), i64 ((bit : Nat)), .slice fa bs.length fc] 69 (0, 0)) :: (some b1, .cells #[.slice (ownA ka) la.length ca, .slice (ownA ko) lo.length co] 42 (0, 0)) :: (ka, sob ET 9 la spa) :: (ko, sob ET 9 lo spo) :: (some b, .cells (nv false a20 o) 76 (0, 0)) :: (a20.key, sob ES 30 (svs a20.fs) a20.sp) :: (o.key, sob ES 30 (svs o.fs) o.sp) :: (frs 5 a20.fs ++ (frs 5 o.fs ++ X)))) rfl
  refine sq (r_assign (v := .nilIface) rfl) ?_
  refine wend ?_
  refine oneRegion ?_
  refine sq (r_loadA (cs' := #[.slice (ownA ka) la.length ca, .slice (ownA ko) lo.length co]) agg42 siz42 (H24.get (k := 2) rfl) (off := 0) rfl (by exact Nat.le_of_ble_eq_true rfl) (by rfl)) ?_
  refine sq (r_fieldAddr (off' := 1) fld69_1 (by decide) (b := b5) (off := 0) rfl (by omega)) ?_
  refine sq (r_loadC (v := i64 ((0 : Int))) one3 (H24.get (k := 1) rfl) (off := 1) rfl (by rfl)) ?_
  refine sq (r_fieldAddr (off' := 2) fld69_2 (by decide) (b := b5) (off := 0) rfl (by omega)) ?_
  refine sq (r_loadC (v := i64 ((i : Nat))) one3 (H24.get (k := 1) rfl) (off := 2) rfl (by rfl)) ?_
  refine sq (r_fieldAddr (off' := 3) fld69_3 (by decide) (b := b5) (off := 0) rfl (by omega)) ?_
  refine sq (r_loadC (v := i64 ((bit : Nat))) one3 (H24.get (k := 1) rfl) (off := 3) rfl (by rfl)) ?_
  refine c_call (vs := [.agg #[.slice (ownA ka) la.length ca, .slice (ownA ko) lo.length co], i64 ((0 : Int)), i64 ((i : Nat)), i64 ((bit : Nat))]) call22 rfl (rflip_ok_0 la (ownA ka) (ownA ko) ca lo.length co w18 i hi hla bit hbit (by omega) (H24.rd (k := 3) rfl hSa)) ?_
  rintro _ w25 ⟨⟨key27, c28, sp29, rfl, hS30, hk31⟩, hE32⟩
  have H33 := H24.add hE32 hk31
  refine sq (r_move (v := .tuple #[.agg #[.slice (ownA key27) ((la.set i (flipB (la.getD i []) bit)).length) c28, .slice (ownA ko) lo.length co], i64 ((0 : Int))]) rfl) ?_
  refine sq (r_extract (vs := #[.agg #[.slice (ownA key27) ((la.set i (flipB (la.getD i []) bit)).length) c28, .slice (ownA ko) lo.length co], i64 ((0 : Int))]) rfl rfl) ?_
  refine sq (r_extract (vs := #[.agg #[.slice (ownA key27) ((la.set i (flipB (la.getD i []) bit)).length) c28, .slice (ownA ko) lo.length co], i64 ((0 : Int))]) rfl rfl) ?_
  refine d_store (k := 3) (v := .agg #[.slice (ownA key27) ((la.set i (flipB (la.getD i []) bit)).length) c28, .slice (ownA ko) lo.length co]) (cs' := #[.slice (ownA key27) ((la.set i (flipB (la.getD i []) bit)).length) c28, .slice (ownA ko) lo.length co]) H33 rfl rfl rfl siz42 (by rfl) (by intro u hu; simp [Value.cells] at hu; first | (subst hu; rfl) | (rcases hu with rfl | rfl <;> rfl)) (by exact Nat.le_of_ble_eq_true rfl) (by rfl) ?_
  intro w34 H35 hC36
  have H35' := H35.as (L' := ((key27, sob ET 9 (la.set i (flipB (la.getD i []) bit)) sp29) :: (some b9, .cells #[.slice none 0 0, .slice none 0 0] 42 (0, 0)) :: (some b5, .cells #[i64 ((5 : Int)), i64 ((0 : Int)), i64 ((i : Nat)), i64 ((bit : Nat)), .slice fa bs.length fc] 69 (0, 0)) :: (some b1, .cells #[.slice (ownA key27) ((la.set i (flipB (la.getD i []) bit)).length) c28, .slice (ownA ko) lo.length co] 42 (0, 0)) :: (ka, sob ET 9 la spa) :: (ko, sob ET 9 lo spo) :: (some b, .cells (nv false a20 o) 76 (0, 0)) :: (a20.key, sob ES 30 (svs a20.fs) a20.sp) :: (o.key, sob ES 30 (svs o.fs) o.sp) :: (frs 5 a20.fs ++ (frs 5 o.fs ++ X)))) rfl
  clear H35
  refine sq (r_assign (v := i64 ((0 : Int))) rfl) ?_
  refine wnil ?_
  refine blockNormal ?_
  refine thenNormal ?_
  refine seqAny ?_
  have hlA : a20.fs.length = (la.set i (flipB (la.getD i []) bit)).length := by have h := congrArg List.length (show bss a20.fs = la.set i (flipB (la.getD i []) bit) from by rw [hbs22, hea, hfb15]); rwa [bss_len] at h
  have hlO : o.fs.length = lo.length := by have h := congrArg List.length heo; rwa [bss_len] at h
  refine drawC (m := 32) [0, 0, 2, 0, 14, 30, 62, 126, 62, 318, 1022, 2046, 4094, 8190, 16382, 8190, 40958, 106494, 237566, 524286, 1048574, 2097150, 4194302, 8388606, 4194302, 20971518, 54525950, 121634814, 268435454, 536870910, 16777215, 2147483647] [2, 14, 23, 30] (fun q vs w' => match q, vs with | 0, [] => Ext w34 w' ∧ Hp No w₀ w' ((key27, sob ET 9 (la.set i (flipB (la.getD i []) bit)) sp29) :: (some b9, .cells #[.slice none 0 0, .slice none 0 0] 42 (0, 0)) :: (some b5, .cells #[i64 ((5 : Int)), i64 ((0 : Int)), i64 ((i : Nat)), i64 ((bit : Nat)), .slice fa bs.length fc] 69 (0, 0)) :: (some b1, .cells #[.slice (ownA key27) ((la.set i (flipB (la.getD i []) bit)).length) c28, .slice (ownA ko) lo.length co] 42 (0, 0)) :: (ka, sob ET 9 la spa) :: (ko, sob ET 9 lo spo) :: (some b, .cells (nv false a20 o) 76 (0, 0)) :: (a20.key, sob ES 30 (svs a20.fs) a20.sp) :: (o.key, sob ES 30 (svs o.fs) o.sp) :: (frs 5 a20.fs ++ (frs 5 o.fs ++ X))) | 1, [v0] => v0 = i64 ((0 : Int)) ∧ Ext w34 w' ∧ Hp No w₀ w' ((key27, sob ET 9 (la.set i (flipB (la.getD i []) bit)) sp29) :: (some b9, .cells #[.slice none 0 0, .slice none 0 0] 42 (0, 0)) :: (some b5, .cells #[i64 ((5 : Int)), i64 ((0 : Int)), i64 ((i : Nat)), i64 ((bit : Nat)), .slice fa bs.length fc] 69 (0, 0)) :: (some b1, .cells #[.slice (ownA key27) ((la.set i (flipB (la.getD i []) bit)).length) c28, .slice (ownA ko) lo.length co] 42 (0, 0)) :: (ka, sob ET 9 la spa) :: (ko, sob ET 9 lo spo) :: (some b, .cells (nv false a20 o) 76 (0, 0)) :: (a20.key, sob ES 30 (svs a20.fs) a20.sp) :: (o.key, sob ES 30 (svs o.fs) o.sp) :: (frs 5 a20.fs ++ (frs 5 o.fs ++ X))) | 2, [v0, v1] => v0 = i64 ((0 : Int)) ∧ v1 = i64 ((a20.fs.length : Nat)) ∧ Ext w34 w' ∧ Hp No w₀ w' ((key27, sob ET 9 (la.set i (flipB (la.getD i []) bit)) sp29) :: (some b9, .cells #[.slice none 0 0, .slice none 0 0] 42 (0, 0)) :: (some b5, .cells #[i64 ((5 : Int)), i64 ((0 : Int)), i64 ((i : Nat)), i64 ((bit : Nat)), .slice fa bs.length fc] 69 (0, 0)) :: (some b1, .cells #[.slice (ownA key27) ((la.set i (flipB (la.getD i []) bit)).length) c28, .slice (ownA ko) lo.length co] 42 (0, 0)) :: (ka, sob ET 9 la spa) :: (ko, sob ET 9 lo spo) :: (some b, .cells (nv false a20 o) 76 (0, 0)) :: (a20.key, sob ES 30 (svs a20.fs) a20.sp) :: (o.key, sob ES 30 (svs o.fs) o.sp) :: (frs 5 a20.fs ++ (frs 5 o.fs ++ X))) | 3, [v0, v1, v2] => v0 = i64 ((0 : Int)) ∧ v1 = i64 ((a20.fs.length : Nat)) ∧ v2 = i64 ((o.fs.length : Nat)) ∧ Ext w34 w' ∧ Hp No w₀ w' ((key27, sob ET 9 (la.set i (flipB (la.getD i []) bit)) sp29) :: (some b9, .cells #[.slice none 0 0, .slice none 0 0] 42 (0, 0)) :: (some b5, .cells #[i64 ((5 : Int)), i64 ((0 : Int)), i64 ((i : Nat)), i64 ((bit : Nat)), .slice fa bs.length fc] 69 (0, 0)) :: (some b1, .cells #[.slice (ownA key27) ((la.set i (flipB (la.getD i []) bit)).length) c28, .slice (ownA ko) lo.length co] 42 (0, 0)) :: (ka, sob ET 9 la spa) :: (ko, sob ET 9 lo spo) :: (some b, .cells (nv false a20 o) 76 (0, 0)) :: (a20.key, sob ES 30 (svs a20.fs) a20.sp) :: (o.key, sob ES 30 (svs o.fs) o.sp) :: (frs 5 a20.fs ++ (frs 5 o.fs ++ X))) | 4, [v0, v1, v2, _] => v0 = i64 ((0 : Int)) ∧ v1 = i64 ((a20.fs.length : Nat)) ∧ v2 = i64 ((o.fs.length : Nat)) ∧ True ∧ Chg (· = b9) w34 w' ∧ Hp No w₀ w' ((key27, sob ET 9 (la.set i (flipB (la.getD i []) bit)) sp29) :: (some b9, .cells #[.slice (ownA key27) ((la.set i (flipB (la.getD i []) bit)).length) c28, .slice (ownA ko) lo.length co] 42 (0, 0)) :: (some b5, .cells #[i64 ((5 : Int)), i64 ((0 : Int)), i64 ((i : Nat)), i64 ((bit : Nat)), .slice fa bs.length fc] 69 (0, 0)) :: (some b1, .cells #[.slice (ownA key27) ((la.set i (flipB (la.getD i []) bit)).length) c28, .slice (ownA ko) lo.length co] 42 (0, 0)) :: (ka, sob ET 9 la spa) :: (ko, sob ET 9 lo spo) :: (some b, .cells (nv false a20 o) 76 (0, 0)) :: (a20.key, sob ES 30 (svs a20.fs) a20.sp) :: (o.key, sob ES 30 (svs o.fs) o.sp) :: (frs 5 a20.fs ++ (frs 5 o.fs ++ X))) | _, _ => False) mixed (by kernel_rfl) (by kernel_rfl) ⟨Ext.drew _, H35'.drew⟩ ?_
  refine WalkC.look rfl (fun _ => .agg #[.slice (ownA key27) ((la.set i (flipB (la.getD i []) bit)).length) c28, .slice (ownA ko) lo.length co]) (fun _ _ _ => rfl) (fun q r uw hlo hhi hle hF => ?_) ?_
  · skip
    have h1 : 0 ≤ q := Nat.zero_le _
    have h2 : q ≤ 3 := hhi 3 30 rfl rfl
    rcases (show q = 0 ∨ q = 1 ∨ q = 2 ∨ q = 3 by omega) with rfl | rfl | rfl | rfl
    · skip
      obtain ⟨hX, HH⟩ := hF
      exact Gives.run rfl (r_loadA (cs' := #[.slice (ownA key27) ((la.set i (flipB (la.getD i []) bit)).length) c28, .slice (ownA ko) lo.length co]) agg42 siz42 (HH.get (k := 3) rfl) (off := 0) rfl (by exact Nat.le_of_ble_eq_true rfl) (by rfl)) ⟨rfl, rfl⟩
    · skip
      obtain ⟨e2, hX, HH⟩ := hF
      exact Gives.run rfl (r_loadA (cs' := #[.slice (ownA key27) ((la.set i (flipB (la.getD i []) bit)).length) c28, .slice (ownA ko) lo.length co]) agg42 siz42 (HH.get (k := 3) rfl) (off := 0) rfl (by exact Nat.le_of_ble_eq_true rfl) (by rfl)) ⟨rfl, rfl⟩
    · skip
      obtain ⟨e2, e14, hX, HH⟩ := hF
      exact Gives.run rfl (r_loadA (cs' := #[.slice (ownA key27) ((la.set i (flipB (la.getD i []) bit)).length) c28, .slice (ownA ko) lo.length co]) agg42 siz42 (HH.get (k := 3) rfl) (off := 0) rfl (by exact Nat.le_of_ble_eq_true rfl) (by rfl)) ⟨rfl, rfl⟩
    · skip
      obtain ⟨e2, e14, e23, hX, HH⟩ := hF
      exact Gives.run rfl (r_loadA (cs' := #[.slice (ownA key27) ((la.set i (flipB (la.getD i []) bit)).length) c28, .slice (ownA ko) lo.length co]) agg42 siz42 (HH.get (k := 3) rfl) (off := 0) rfl (by exact Nat.le_of_ble_eq_true rfl) (by rfl)) ⟨rfl, rfl⟩
  refine WalkC.look rfl (fun _ => .nilIface) (fun _ _ _ => rfl) (fun q r uw _ _ _ _ => Gives.run rfl (r_move (v := .nilIface) rfl) ⟨rfl, rfl⟩) ?_
  refine WalkC.eff 0 rfl (fun r uw37 hF39 => ?_) ?_
  · skip
    obtain ⟨hX, H38⟩ := hF39
    dsimp only [List.take, List.map, List.cons_append, List.nil_append]
    refine Gives.ofW (d := 135) rfl rfl (fun Q' hK => ?_)
    refine c_call (vs := [.nilIface]) call49 rfl (codenil_ok uw37) ?_
    rintro _ w40 ⟨rfl, hE41⟩
    have H42 := H38.ext hE41
    exact hK _ _ ⟨rfl, (hX.trans hE41), H42⟩
  refine WalkC.look rfl (fun _ => i64 ((0 : Int))) (fun _ _ _ => rfl) (fun q r uw _ _ _ _ => Gives.run rfl (r_move (v := i64 ((0 : Int))) rfl) ⟨rfl, rfl⟩) ?_
  refine WalkC.look rfl (fun _ => .bool (true)) (fun _ _ _ => rfl) (fun q r uw hlo hhi hle hF => ?_) ?_
  · skip
    have h1 : 1 ≤ q := hlo 0 2 rfl rfl
    have h2 : q ≤ 1 := hhi 1 14 rfl rfl
    rcases (show q = 1 by omega) with rfl
    · skip
      obtain ⟨e2, hX, HH⟩ := hF
      dsimp only
      rw [e2]
      exact Gives.run rfl ((r_eqlI (a := (0 : Int)) (b := (0 : Int)) rfl rfl).as (v' := .bool (true)) (by rfl)) ⟨rfl, rfl⟩
  refine WalkC.look rfl (fun _ => .bool (true)) (fun _ _ _ => rfl) (fun q r uw _ _ _ _ => Gives.run rfl (r_move (v := .bool (true)) rfl) ⟨rfl, rfl⟩) ?_
  refine WalkC.look rfl (fun _ => .nilIface) (fun _ _ _ => rfl) (fun q r uw _ _ _ _ => Gives.runW (wantedSome (d' := 138) (b := true) rfl rfl rfl) (r_move (v := .nilIface) rfl) ⟨rfl, rfl⟩) ?_
  refine WalkC.look rfl (fun _ => .bool (true)) (fun _ _ _ => rfl) (fun q r uw _ _ _ _ => Gives.runW (wantedSome (d' := 138) (b := true) rfl rfl rfl) (r_eqlNN isI28 rfl rfl) ⟨rfl, rfl⟩) ?_
  refine WalkC.look rfl (fun _ => i64 ((0 : Int))) (fun _ _ _ => rfl) (fun q r uw _ _ _ _ => Gives.runW (wantedSome (d' := 138) (b := true) rfl rfl rfl) (r_move (v := i64 ((0 : Int))) rfl) ⟨rfl, rfl⟩) ?_
  refine WalkC.look rfl (fun _ => .bool (true)) (fun _ _ _ => rfl) (fun q r uw _ _ _ _ => Gives.runW (wantedSome (d' := 138) (b := true) rfl rfl rfl) ((r_eqlI (a := (0 : Int)) (b := (0 : Int)) rfl rfl).as (v' := .bool (true)) (by rfl)) ⟨rfl, rfl⟩) ?_
  refine WalkC.look rfl (fun _ => .bool (true)) (fun _ _ _ => rfl) (fun q r uw _ _ _ _ => Gives.runW (wantedSome (d' := 138) (b := true) rfl rfl rfl) ((r_eqlB und4 (a := true) (b := true) rfl rfl).as (v' := .bool (true)) (by rfl)) ⟨rfl, rfl⟩) ?_
  refine WalkC.look rfl (fun _ => .bool (true)) (fun _ _ _ => rfl) (fun q r uw _ _ _ _ => Gives.run rfl (r_pickT (u := .bool (true)) rfl rfl) ⟨rfl, rfl⟩) ?_
  refine WalkC.look rfl (fun _ => .bool (true)) (fun _ _ _ => rfl) (fun q r uw _ _ _ _ => Gives.run rfl (r_move (v := .bool (true)) rfl) ⟨rfl, rfl⟩) ?_
  refine WalkC.look rfl (fun _ => .pointer (some ⟨b, 0, none⟩)) (fun _ _ _ => rfl) (fun q r uw _ _ _ _ => Gives.runW (wantedSome (d' := 145) (b := true) rfl rfl rfl) (r_move (v := .pointer (some ⟨b, 0, none⟩)) rfl) ⟨rfl, rfl⟩) ?_
  refine WalkC.eff 1 rfl (fun r uw43 hF45 => ?_) ?_
  · skip
    obtain ⟨e2, hX, H44⟩ := hF45
    dsimp only [List.take, List.map, List.cons_append, List.nil_append]
    rw [e2]
    refine Gives.ofW (d := 147) rfl rfl (fun Q' hK => ?_)
    refine caAny (wantedSome (d' := 145) (b := true) rfl rfl rfl) (Enters.callL (vs := [.pointer (some ⟨b, 0, none⟩), i64 ((0 : Int))]) call15 rfl) (len_0 b a20 o uw43 (H44.get (k := 6) rfl)) ?_
    rintro _ w46 ⟨rfl, hE47⟩
    have H48 := H44.ext hE47
    exact hK _ _ ⟨rfl, rfl, (hX.trans hE47), H48⟩
  refine WalkC.look rfl (fun _ => .pointer (some ⟨b1, 0, none⟩)) (fun _ _ _ => rfl) (fun q r uw _ _ _ _ => Gives.runW (wantedSome (d' := 145) (b := true) rfl rfl rfl) (r_fieldAddr (off' := 0) fld42_0 (by decide) (b := b1) (off := 0) rfl (by omega)) ⟨rfl, rfl⟩) ?_
  refine WalkC.look rfl (fun _ => .pointer (some ⟨b1, 0, none⟩)) (fun _ _ _ => rfl) (fun q r uw _ _ _ _ => Gives.runW (wantedSome (d' := 145) (b := true) rfl rfl rfl) (r_indexA (off' := 0) (j := 0) arr40 (b := b1) (off := 0) rfl rfl (by first | rfl | omega | (simp; omega)) (by omega) (by omega)) ⟨rfl, rfl⟩) ?_
  refine WalkC.look rfl (fun _ => .slice (ownA key27) ((la.set i (flipB (la.getD i []) bit)).length) c28) (fun _ _ _ => rfl) (fun q r uw hlo hhi hle hF => ?_) ?_
  · skip
    have h1 : 1 ≤ q := hlo 0 2 rfl rfl
    have h2 : q ≤ 2 := hhi 2 23 rfl rfl
    rcases (show q = 1 ∨ q = 2 by omega) with rfl | rfl
    · skip
      obtain ⟨e2, hX, HH⟩ := hF
      exact Gives.runW (wantedSome (d' := 145) (b := true) rfl rfl rfl) (r_loadC (v := .slice (ownA key27) ((la.set i (flipB (la.getD i []) bit)).length) c28) one39 (HH.get (k := 3) rfl) (off := 0) rfl (by rfl)) ⟨rfl, rfl⟩
    · skip
      obtain ⟨e2, e14, hX, HH⟩ := hF
      exact Gives.runW (wantedSome (d' := 145) (b := true) rfl rfl rfl) (r_loadC (v := .slice (ownA key27) ((la.set i (flipB (la.getD i []) bit)).length) c28) one39 (HH.get (k := 3) rfl) (off := 0) rfl (by rfl)) ⟨rfl, rfl⟩
  refine WalkC.look rfl (fun _ => i64 (((la.set i (flipB (la.getD i []) bit)).length : Nat))) (fun _ _ _ => rfl) (fun q r uw _ _ _ _ => Gives.runW (wantedSome (d' := 145) (b := true) rfl rfl rfl) (r_lenS sli39 (a := ownA key27) (m := (la.set i (flipB (la.getD i []) bit)).length) (c := c28) rfl) ⟨rfl, rfl⟩) ?_
  refine WalkC.look rfl (fun _ => .bool (true)) (fun _ _ _ => rfl) (fun q r uw hlo hhi hle hF => ?_) ?_
  · skip
    have h1 : 2 ≤ q := hlo 1 14 rfl rfl
    have h2 : q ≤ 2 := hhi 2 23 rfl rfl
    rcases (show q = 2 by omega) with rfl
    · skip
      obtain ⟨e2, e14, hX, HH⟩ := hF
      dsimp only
      rw [e14]
      exact Gives.runW (wantedSome (d' := 145) (b := true) rfl rfl rfl) ((r_eqlI (a := (a20.fs.length : Nat)) (b := ((la.set i (flipB (la.getD i []) bit)).length : Nat)) rfl rfl).as (v' := .bool (true)) (by exact congrArg Value.bool (decide_eq_true (by first | exact congrArg (fun q : Nat => (q : Int)) hlA | exact congrArg (fun q : Nat => (q : Int)) hlO)))) ⟨rfl, rfl⟩
  refine WalkC.look rfl (fun _ => .bool (true)) (fun _ _ _ => rfl) (fun q r uw _ _ _ _ => Gives.run rfl (r_pickT (u := .bool (true)) rfl rfl) ⟨rfl, rfl⟩) ?_
  refine WalkC.look rfl (fun _ => .bool (true)) (fun _ _ _ => rfl) (fun q r uw _ _ _ _ => Gives.run rfl (r_move (v := .bool (true)) rfl) ⟨rfl, rfl⟩) ?_
  refine WalkC.look rfl (fun _ => .pointer (some ⟨b, 0, none⟩)) (fun _ _ _ => rfl) (fun q r uw _ _ _ _ => Gives.runW (wantedSome (d' := 154) (b := true) rfl rfl rfl) (r_move (v := .pointer (some ⟨b, 0, none⟩)) rfl) ⟨rfl, rfl⟩) ?_
  refine WalkC.eff 2 rfl (fun r uw49 hF51 => ?_) ?_
  · skip
    obtain ⟨e2, e14, hX, H50⟩ := hF51
    dsimp only [List.take, List.map, List.cons_append, List.nil_append]
    rw [e2, e14]
    refine Gives.ofW (d := 156) rfl rfl (fun Q' hK => ?_)
    refine caAny (wantedSome (d' := 154) (b := true) rfl rfl rfl) (Enters.callL (vs := [.pointer (some ⟨b, 0, none⟩), i64 ((1 : Int))]) call15 rfl) (len_1 b o a20 uw49 (H50.get (k := 6) rfl)) ?_
    rintro _ w52 ⟨rfl, hE53⟩
    have H54 := H50.ext hE53
    exact hK _ _ ⟨rfl, rfl, rfl, (hX.trans hE53), H54⟩
  refine WalkC.look rfl (fun _ => .pointer (some ⟨b1, 0, none⟩)) (fun _ _ _ => rfl) (fun q r uw _ _ _ _ => Gives.runW (wantedSome (d' := 154) (b := true) rfl rfl rfl) (r_fieldAddr (off' := 0) fld42_0 (by decide) (b := b1) (off := 0) rfl (by omega)) ⟨rfl, rfl⟩) ?_
  refine WalkC.look rfl (fun _ => .pointer (some ⟨b1, 1, none⟩)) (fun _ _ _ => rfl) (fun q r uw _ _ _ _ => Gives.runW (wantedSome (d' := 154) (b := true) rfl rfl rfl) (r_indexA (off' := 1) (j := 1) arr40 (b := b1) (off := 0) rfl rfl (by first | rfl | omega | (simp; omega)) (by omega) (by omega)) ⟨rfl, rfl⟩) ?_
  refine WalkC.look rfl (fun _ => .slice (ownA ko) lo.length co) (fun _ _ _ => rfl) (fun q r uw hlo hhi hle hF => ?_) ?_
  · skip
    have h1 : 2 ≤ q := hlo 1 14 rfl rfl
    have h2 : q ≤ 4 := hle
    rcases (show q = 2 ∨ q = 3 ∨ q = 4 by omega) with rfl | rfl | rfl
    · skip
      obtain ⟨e2, e14, hX, HH⟩ := hF
      exact Gives.runW (wantedSome (d' := 154) (b := true) rfl rfl rfl) (r_loadC (v := .slice (ownA ko) lo.length co) one39 (HH.get (k := 3) rfl) (off := 1) rfl (by rfl)) ⟨rfl, rfl⟩
    · skip
      obtain ⟨e2, e14, e23, hX, HH⟩ := hF
      exact Gives.runW (wantedSome (d' := 154) (b := true) rfl rfl rfl) (r_loadC (v := .slice (ownA ko) lo.length co) one39 (HH.get (k := 3) rfl) (off := 1) rfl (by rfl)) ⟨rfl, rfl⟩
    · skip
      obtain ⟨e2, e14, e23, e30, hX, HH⟩ := hF
      exact Gives.runW (wantedSome (d' := 154) (b := true) rfl rfl rfl) (r_loadC (v := .slice (ownA ko) lo.length co) one39 (HH.get (k := 3) rfl) (off := 1) rfl (by rfl)) ⟨rfl, rfl⟩
  refine WalkC.look rfl (fun _ => i64 ((lo.length : Nat))) (fun _ _ _ => rfl) (fun q r uw _ _ _ _ => Gives.runW (wantedSome (d' := 154) (b := true) rfl rfl rfl) (r_lenS sli39 (a := ownA ko) (m := lo.length) (c := co) rfl) ⟨rfl, rfl⟩) ?_
  refine WalkC.look rfl (fun _ => .bool (true)) (fun _ _ _ => rfl) (fun q r uw hlo hhi hle hF => ?_) ?_
  · skip
    have h1 : 3 ≤ q := hlo 2 23 rfl rfl
    have h2 : q ≤ 4 := hle
    rcases (show q = 3 ∨ q = 4 by omega) with rfl | rfl
    · skip
      obtain ⟨e2, e14, e23, hX, HH⟩ := hF
      dsimp only
      rw [e23]
      exact Gives.runW (wantedSome (d' := 154) (b := true) rfl rfl rfl) ((r_eqlI (a := (o.fs.length : Nat)) (b := (lo.length : Nat)) rfl rfl).as (v' := .bool (true)) (by exact congrArg Value.bool (decide_eq_true (by first | exact congrArg (fun q : Nat => (q : Int)) hlA | exact congrArg (fun q : Nat => (q : Int)) hlO)))) ⟨rfl, rfl⟩
    · skip
      obtain ⟨e2, e14, e23, e30, hX, HH⟩ := hF
      dsimp only
      rw [e23]
      exact Gives.runW (wantedSome (d' := 154) (b := true) rfl rfl rfl) ((r_eqlI (a := (o.fs.length : Nat)) (b := (lo.length : Nat)) rfl rfl).as (v' := .bool (true)) (by exact congrArg Value.bool (decide_eq_true (by first | exact congrArg (fun q : Nat => (q : Int)) hlA | exact congrArg (fun q : Nat => (q : Int)) hlO)))) ⟨rfl, rfl⟩
  refine WalkC.look rfl (fun _ => .bool (true)) (fun _ _ _ => rfl) (fun q r uw _ _ _ _ => Gives.run rfl (r_pickT (u := .bool (true)) rfl rfl) ⟨rfl, rfl⟩) ?_
  refine WalkC.eff 3 rfl (fun r uw55 hF57 => ?_) ?_
  · skip
    obtain ⟨e2, e14, e23, hX, H56⟩ := hF57
    dsimp only [List.take, List.map, List.cons_append, List.nil_append]
    rw [e2, e14, e23]
    refine Gives.ofW0 rfl (fun Q' hK => ?_)
    refine d_store (k := 1) (v := .agg #[.slice (ownA key27) ((la.set i (flipB (la.getD i []) bit)).length) c28, .slice (ownA ko) lo.length co]) (cs' := #[.slice (ownA key27) ((la.set i (flipB (la.getD i []) bit)).length) c28, .slice (ownA ko) lo.length co]) H56 rfl rfl rfl siz42 (by rfl) (by intro u hu; simp [Value.cells] at hu; first | (subst hu; rfl) | (rcases hu with rfl | rfl <;> rfl)) (by exact Nat.le_of_ble_eq_true rfl) (by rfl) ?_
    intro w58 H59 hC60
    have H59' := H59.as (L' := ((key27, sob ET 9 (la.set i (flipB (la.getD i []) bit)) sp29) :: (some b9, .cells #[.slice (ownA key27) ((la.set i (flipB (la.getD i []) bit)).length) c28, .slice (ownA ko) lo.length co] 42 (0, 0)) :: (some b5, .cells #[i64 ((5 : Int)), i64 ((0 : Int)), i64 ((i : Nat)), i64 ((bit : Nat)), .slice fa bs.length fc] 69 (0, 0)) :: (some b1, .cells #[.slice (ownA key27) ((la.set i (flipB (la.getD i []) bit)).length) c28, .slice (ownA ko) lo.length co] 42 (0, 0)) :: (ka, sob ET 9 la spa) :: (ko, sob ET 9 lo spo) :: (some b, .cells (nv false a20 o) 76 (0, 0)) :: (a20.key, sob ES 30 (svs a20.fs) a20.sp) :: (o.key, sob ES 30 (svs o.fs) o.sp) :: (frs 5 a20.fs ++ (frs 5 o.fs ++ X)))) rfl
    clear H59
    exact hK _ (fun _ => ⟨rfl, rfl, rfl, trivial, ((Ext.chg hX).trans hC60), H59'⟩)
  refine WalkC.look rfl (fun _ => .bool (true)) (fun _ _ _ => rfl) (fun q r uw _ _ _ _ => Gives.run rfl (r_assign (v := .bool (true)) rfl) ⟨rfl, rfl⟩) ?_
  refine WalkC.nil ?_
  intro r61 w62 hF64
  obtain ⟨e2, e14, e23, e30, hX, H63⟩ := hF64
  dsimp only
  rw [e2, e14, e23]
  refine wnil ?_
  refine thenNormal ?_
  refine retAny ?_
  refine retG (rs := [.cell 6 42, .tmp 7]) (vs := [.agg #[.slice (ownA key27) ((la.set i (flipB (la.getD i []) bit)).length) c28, .slice (ownA ko) lo.length co], .bool (true)]) rfl ⟨r_loadA (cs' := #[.slice (ownA key27) ((la.set i (flipB (la.getD i []) bit)).length) c28, .slice (ownA ko) lo.length co]) agg42 siz42 (H63.get (k := 1) rfl) (off := 0) rfl (by exact Nat.le_of_ble_eq_true rfl) (by rfl), ⟨rfl, rfl⟩, trivial⟩ ?_
  have H65 := ((((H63.dropk 4).dropk 3).dropk 2).dropk 1)
  have H66 := Hp.toR [(key27, sob ET 9 (la.set i (flipB (la.getD i []) bit)) sp29), (ko, sob ET 9 lo spo)] (F := frs 5 a20.fs) (G := frs 5 o.fs) (X := X) H65
  exact ⟨_, rfl, a20, key27, c28, sp29, (la.set i (flipB (la.getD i []) bit)), rfl, hok21, hS30, by rw [hbs22, hea, hfb15], (by rw [List.length_set]; exact hla), by intro q hq; rcases List.mem_or_eq_of_mem_set hq with h | rfl; exact hza q h; rw [flipB, List.length_set]; exact hzi, H66⟩

theorem play_flip_1 (b : Nat) (a o : Wy) (ha : a.ok) (ho : o.ok) (ka ko : Option Nat) (ca co : Nat) (spa spo : List Value) (la lo : List (List (BitVec 8))) (hSa : Sl ET ka la ca spa) (hSo : Sl ET ko lo co spo) (hea : bss a.fs = la) (heo : bss o.fs = lo) (hla : la.length ≤ 64) (hza : ∀ q ∈ la, q.length ≤ 140737488351232) (X : List (Option Nat × Obj)) (fa : Option Addr) (fc : Nat) (bs : List (BitVec 8)) (hbl : bs.length ≤ 140737488351232) (i : Nat) (hi : i < la.length) (bit : Nat) (hbit : bit / 8 < (la.getD i []).length) (w₀ w : World) (hG : Gl w₀) (hFr : Rd E8 w₀ fa bs) (H : Hp No w₀ w ((some b, .cells (nv true a o) 76 (0, 0)) :: (a.key, sob ES 30 (svs a.fs) a.sp) :: (o.key, sob ES 30 (svs o.fs) o.sp) :: (frs 5 a.fs ++ (frs 5 o.fs ++ ((ka, sob ET 9 la spa) :: (ko, sob ET 9 lo spo) :: X)))))  : Calls Tryd.prog 31 [.pointer (some ⟨b, 0, none⟩), .agg #[.slice (ownA ko) lo.length co, .slice (ownA ka) la.length ca], .agg #[i64 ((5 : Int)), i64 ((1 : Int)), i64 ((i : Nat)), i64 ((bit : Nat)), .slice fa bs.length fc]].toArray w (Ret fun v w' => ∃ (a' : Wy) (ka' : Option Nat) (ca' : Nat) (spa' : List Value) (la' : List (List (BitVec 8))), v = .tuple #[.agg #[.slice (ownA ko) lo.length co, .slice (ownA ka') la'.length ca'], .bool true] ∧ a'.ok ∧ Sl ET ka' la' ca' spa' ∧ bss a'.fs = la' ∧ la'.length ≤ 64 ∧ (∀ q ∈ la', q.length ≤ 140737488351232) ∧ Hp No w₀ w' ((some b, .cells (nv true a' o) 76 (0, 0)) :: (a'.key, sob ES 30 (svs a'.fs) a'.sp) :: (o.key, sob ES 30 (svs o.fs) o.sp) :: (frs 5 a'.fs ++ (frs 5 o.fs ++ ((ka', sob ET 9 la' spa') :: (ko, sob ET 9 lo spo) :: X))))) := by
  have hzi : (la.getD i []).length ≤ 140737488351232 := hza _ (getD_mem hi)
  have H := (Hp.fromR [(ka, sob ET 9 la spa), (ko, sob ET 9 lo spo)] (F := frs 5 a.fs) (G := frs 5 o.fs) (X := X) H)
  refine enter (n := 163) Tryd.func31 rfl rfl (Nat.le_of_ble_eq_true rfl) ?_
  refine seqRegion ?_
  refine q_box (v := .agg #[.slice (ownA ko) lo.length co, .slice (ownA ka) la.length ca]) (o := .cells #[.slice (ownA ko) lo.length co, .slice (ownA ka) la.length ca] 42 (0, 0)) H rfl (by rfl) ?_
  intro b1 w2 hb1 H3 hE4
  refine q_box (v := .agg #[i64 ((5 : Int)), i64 ((1 : Int)), i64 ((i : Nat)), i64 ((bit : Nat)), .slice fa bs.length fc]) (o := .cells #[i64 ((5 : Int)), i64 ((1 : Int)), i64 ((i : Nat)), i64 ((bit : Nat)), .slice fa bs.length fc] 69 (0, 0)) H3 rfl (by rfl) ?_
  intro b5 w6 hb5 H7 hE8
  refine q_alloc (o := .cells #[.slice none 0 0, .slice none 0 0] 42 (0, 0)) H7 zer42 (by kernel_rfl) ?_
  intro b9 w10 hb9 H11 hE12
  refine sq (r_assign (v := .bool (false)) rfl) ?_
  refine wend ?_
  refine seqRegion ?_
  refine sq (r_assign (v := .nilIface) rfl) ?_
  refine wend ?_
  refine seqRegion ?_
  refine sq (r_assign (v := i64 ((0 : Int))) rfl) ?_
  refine wend ?_
  refine seqAny ?_
  refine seqRegion ?_
  refine sq (r_fieldAddr (off' := 0) fld69_0 (by decide) (b := b5) (off := 0) rfl (by omega)) ?_
  refine sq (r_loadC (v := i64 ((5 : Int))) one3 (H11.get (k := 1) rfl) (off := 0) rfl (by rfl)) ?_
  refine wend ?_
  refine blockAny ?_
  refine seqRegion ?_
  refine sq ((r_eqlI (a := (5 : Int)) (b := (1 : Int)) rfl rfl).as (v' := .bool (false)) (by rfl)) ?_
  refine sq (r_assign (v := .bool (false)) rfl) ?_
  refine wend ?_
  refine condFalse rfl ?_
  refine seqAny ?_
  refine seqRegion ?_
  refine sq ((r_eqlI (a := (5 : Int)) (b := (2 : Int)) rfl rfl).as (v' := .bool (false)) (by rfl)) ?_
  refine sq (r_assign (v := .bool (false)) rfl) ?_
  refine wend ?_
  refine condFalse rfl ?_
  refine oneRegion ?_
  refine sq ((r_eqlI (a := (5 : Int)) (b := (3 : Int)) rfl rfl).as (v' := .bool (false)) (by rfl)) ?_
  refine sq (r_assign (v := .bool (false)) rfl) ?_
  refine wnil ?_
  refine thenNormal ?_
  refine condFalse rfl ?_
  refine seqRegion ?_
  refine sq ((r_eqlI (a := (5 : Int)) (b := (4 : Int)) rfl rfl).as (v' := .bool (false)) (by rfl)) ?_
  refine sq (r_assign (v := .bool (false)) rfl) ?_
  refine wend ?_
  refine condFalse rfl ?_
  refine seqRegion ?_
  refine sq ((r_eqlI (a := (5 : Int)) (b := (5 : Int)) rfl rfl).as (v' := .bool (true)) (by rfl)) ?_
  refine sq (r_assign (v := .bool (true)) rfl) ?_
  refine wend ?_
  refine condTrue rfl ?_
  refine seqRegion ?_
  refine sq (r_move (v := .pointer (some ⟨b, 0, none⟩)) rfl) ?_
  refine sq (r_fieldAddr (off' := 1) fld69_1 (by decide) (b := b5) (off := 0) rfl (by omega)) ?_
  refine sq (r_loadC (v := i64 ((1 : Int))) one3 (H11.get (k := 1) rfl) (off := 1) rfl (by rfl)) ?_
  refine sq (r_fieldAddr (off' := 2) fld69_2 (by decide) (b := b5) (off := 0) rfl (by omega)) ?_
  refine sq (r_loadC (v := i64 ((i : Nat))) one3 (H11.get (k := 1) rfl) (off := 2) rfl (by rfl)) ?_
  refine sq (r_fieldAddr (off' := 3) fld69_3 (by decide) (b := b5) (off := 0) rfl (by omega)) ?_
  refine sq (r_loadC (v := i64 ((bit : Nat))) one3 (H11.get (k := 1) rfl) (off := 3) rfl (by rfl)) ?_
  obtain ⟨f13, hf14, hfb15⟩ := bss_at (F := a.fs) (i := i) (b := la.getD i []) (by rw [hea]; simp [hi])
  have fok16 := ha.each _ (List.mem_of_getElem? hf14)
  have hif13 := (List.getElem?_eq_some_iff.1 hf14).1
  have H17 := Hp.toR [(some b9, .cells #[.slice none 0 0, .slice none 0 0] 42 (0, 0)), (some b5, .cells #[i64 ((5 : Int)), i64 ((1 : Int)), i64 ((i : Nat)), i64 ((bit : Nat)), .slice fa bs.length fc] 69 (0, 0)), (some b1, .cells #[.slice (ownA ko) lo.length co, .slice (ownA ka) la.length ca] 42 (0, 0)), (ka, sob ET 9 la spa), (ko, sob ET 9 lo spo)] (F := frs 5 a.fs) (G := frs 5 o.fs) (X := X) H11
  refine c_call (vs := [.pointer (some ⟨b, 0, none⟩), i64 ((1 : Int)), i64 ((i : Nat)), i64 ((bit : Nat))]) call21 rfl (flip_ok true b a o ha ([(some b9, .cells #[.slice none 0 0, .slice none 0 0] 42 (0, 0)), (some b5, .cells #[i64 ((5 : Int)), i64 ((1 : Int)), i64 ((i : Nat)), i64 ((bit : Nat)), .slice fa bs.length fc] 69 (0, 0)), (some b1, .cells #[.slice (ownA ko) lo.length co, .slice (ownA ka) la.length ca] 42 (0, 0)), (ka, sob ET 9 la spa), (ko, sob ET 9 lo spo)] ++ X) w₀ w10 i hif13 f13 hf14 (by rw [hfb15]; omega) bit (by rw [hfb15]; exact hbit) H17) ?_
  rintro _ w18 ⟨rfl, a20, hok21, hbs22, HN23⟩
  have H24 := (Hp.fromR [(some b9, .cells #[.slice none 0 0, .slice none 0 0] 42 (0, 0)), (some b5, .cells #[i64 ((5 : Int)), i64 ((1 : Int)), i64 ((i : Nat)), i64 ((bit : Nat)), .slice fa bs.length fc] 69 (0, 0)), (some b1, .cells #[.slice (ownA ko) lo.length co, .slice (ownA ka) la.length ca] 42 (0, 0)), (ka, sob ET 9 la spa), (ko, sob ET 9 lo spo)] (F := frs 5 a20.fs) (G := frs 5 o.fs) (X := X) HN23).as (L' := ((some b9, .cells #[.slice none 0 0, .slice none 0 0] 42 (0, 0)) :: (some b5, .cells #[i64 ((5 : Int)), i64 ((1 : Int)), i64 ((i : Nat)), i64 ((bit : Nat)), .slice fa bs.length fc] 69 (0, 0)) :: (some b1, .cells #[.slice (ownA ko) lo.length co, .slice (ownA ka) la.length ca] 42 (0, 0)) :: (ka, sob ET 9 la spa) :: (ko, sob ET 9 lo spo) :: (some b, .cells (nv true a20 o) 76 (0, 0)) :: (a20.key, sob ES 30 (svs a20.fs) a20.sp) :: (o.key, sob ES 30 (svs o.fs) o.sp) :: (frs 5 a20.fs ++ (frs 5 o.fs ++ X)))) rfl
  refine sq (r_assign (v := .nilIface) rfl) ?_
  refine wend ?_
  refine oneRegion ?_
  refine sq (r_loadA (cs' := #[.slice (ownA ko) lo.length co, .slice (ownA ka) la.length ca]) agg42 siz42 (H24.get (k := 2) rfl) (off := 0) rfl (by exact Nat.le_of_ble_eq_true rfl) (by rfl)) ?_
  refine sq (r_fieldAddr (off' := 1) fld69_1 (by decide) (b := b5) (off := 0) rfl (by omega)) ?_
  refine sq (r_loadC (v := i64 ((1 : Int))) one3 (H24.get (k := 1) rfl) (off := 1) rfl (by rfl)) ?_
  refine sq (r_fieldAddr (off' := 2) fld69_2 (by decide) (b := b5) (off := 0) rfl (by omega)) ?_
  refine sq (r_loadC (v := i64 ((i : Nat))) one3 (H24.get (k := 1) rfl) (off := 2) rfl (by rfl)) ?_
  refine sq (r_fieldAddr (off' := 3) fld69_3 (by decide) (b := b5) (off := 0) rfl (by omega)) ?_
  refine sq (r_loadC (v := i64 ((bit : Nat))) one3 (H24.get (k := 1) rfl) (off := 3) rfl (by rfl)) ?_
  refine c_call (vs := [.agg #[.slice (ownA ko) lo.length co, .slice (ownA ka) la.length ca], i64 ((1 : Int)), i64 ((i : Nat)), i64 ((bit : Nat))]) call22 rfl (rflip_ok_1 la (ownA ka) (ownA ko) ca lo.length co w18 i hi hla bit hbit (by omega) (H24.rd (k := 3) rfl hSa)) ?_
  rintro _ w25 ⟨⟨key27, c28, sp29, rfl, hS30, hk31⟩, hE32⟩
  have H33 := H24.add hE32 hk31
  refine sq (r_move (v := .tuple #[.agg #[.slice (ownA ko) lo.length co, .slice (ownA key27) ((la.set i (flipB (la.getD i []) bit)).length) c28], i64 ((0 : Int))]) rfl) ?_
  refine sq (r_extract (vs := #[.agg #[.slice (ownA ko) lo.length co, .slice (ownA key27) ((la.set i (flipB (la.getD i []) bit)).length) c28], i64 ((0 : Int))]) rfl rfl) ?_
  refine sq (r_extract (vs := #[.agg #[.slice (ownA ko) lo.length co, .slice (ownA key27) ((la.set i (flipB (la.getD i []) bit)).length) c28], i64 ((0 : Int))]) rfl rfl) ?_
  refine d_store (k := 3) (v := .agg #[.slice (ownA ko) lo.length co, .slice (ownA key27) ((la.set i (flipB (la.getD i []) bit)).length) c28]) (cs' := #[.slice (ownA ko) lo.length co, .slice (ownA key27) ((la.set i (flipB (la.getD i []) bit)).length) c28]) H33 rfl rfl rfl siz42 (by rfl) (by intro u hu; simp [Value.cells] at hu; first | (subst hu; rfl) | (rcases hu with rfl | rfl <;> rfl)) (by exact Nat.le_of_ble_eq_true rfl) (by rfl) ?_
  intro w34 H35 hC36
  have H35' := H35.as (L' := ((key27, sob ET 9 (la.set i (flipB (la.getD i []) bit)) sp29) :: (some b9, .cells #[.slice none 0 0, .slice none 0 0] 42 (0, 0)) :: (some b5, .cells #[i64 ((5 : Int)), i64 ((1 : Int)), i64 ((i : Nat)), i64 ((bit : Nat)), .slice fa bs.length fc] 69 (0, 0)) :: (some b1, .cells #[.slice (ownA ko) lo.length co, .slice (ownA key27) ((la.set i (flipB (la.getD i []) bit)).length) c28] 42 (0, 0)) :: (ka, sob ET 9 la spa) :: (ko, sob ET 9 lo spo) :: (some b, .cells (nv true a20 o) 76 (0, 0)) :: (a20.key, sob ES 30 (svs a20.fs) a20.sp) :: (o.key, sob ES 30 (svs o.fs) o.sp) :: (frs 5 a20.fs ++ (frs 5 o.fs ++ X)))) rfl
  clear H35
  refine sq (r_assign (v := i64 ((0 : Int))) rfl) ?_
  refine wnil ?_
  refine blockNormal ?_
  refine thenNormal ?_
  refine seqAny ?_
  have hlA : a20.fs.length = (la.set i (flipB (la.getD i []) bit)).length := by have h := congrArg List.length (show bss a20.fs = la.set i (flipB (la.getD i []) bit) from by rw [hbs22, hea, hfb15]); rwa [bss_len] at h
  have hlO : o.fs.length = lo.length := by have h := congrArg List.length heo; rwa [bss_len] at h
  refine drawC (m := 32) [0, 0, 2, 0, 14, 30, 62, 126, 62, 318, 1022, 2046, 4094, 8190, 16382, 8190, 40958, 106494, 237566, 524286, 1048574, 2097150, 4194302, 8388606, 4194302, 20971518, 54525950, 121634814, 268435454, 536870910, 16777215, 2147483647] [2, 14, 23, 30] (fun q vs w' => match q, vs with | 0, [] => Ext w34 w' ∧ Hp No w₀ w' ((key27, sob ET 9 (la.set i (flipB (la.getD i []) bit)) sp29) :: (some b9, .cells #[.slice none 0 0, .slice none 0 0] 42 (0, 0)) :: (some b5, .cells #[i64 ((5 : Int)), i64 ((1 : Int)), i64 ((i : Nat)), i64 ((bit : Nat)), .slice fa bs.length fc] 69 (0, 0)) :: (some b1, .cells #[.slice (ownA ko) lo.length co, .slice (ownA key27) ((la.set i (flipB (la.getD i []) bit)).length) c28] 42 (0, 0)) :: (ka, sob ET 9 la spa) :: (ko, sob ET 9 lo spo) :: (some b, .cells (nv true a20 o) 76 (0, 0)) :: (a20.key, sob ES 30 (svs a20.fs) a20.sp) :: (o.key, sob ES 30 (svs o.fs) o.sp) :: (frs 5 a20.fs ++ (frs 5 o.fs ++ X))) | 1, [v0] => v0 = i64 ((0 : Int)) ∧ Ext w34 w' ∧ Hp No w₀ w' ((key27, sob ET 9 (la.set i (flipB (la.getD i []) bit)) sp29) :: (some b9, .cells #[.slice none 0 0, .slice none 0 0] 42 (0, 0)) :: (some b5, .cells #[i64 ((5 : Int)), i64 ((1 : Int)), i64 ((i : Nat)), i64 ((bit : Nat)), .slice fa bs.length fc] 69 (0, 0)) :: (some b1, .cells #[.slice (ownA ko) lo.length co, .slice (ownA key27) ((la.set i (flipB (la.getD i []) bit)).length) c28] 42 (0, 0)) :: (ka, sob ET 9 la spa) :: (ko, sob ET 9 lo spo) :: (some b, .cells (nv true a20 o) 76 (0, 0)) :: (a20.key, sob ES 30 (svs a20.fs) a20.sp) :: (o.key, sob ES 30 (svs o.fs) o.sp) :: (frs 5 a20.fs ++ (frs 5 o.fs ++ X))) | 2, [v0, v1] => v0 = i64 ((0 : Int)) ∧ v1 = i64 ((o.fs.length : Nat)) ∧ Ext w34 w' ∧ Hp No w₀ w' ((key27, sob ET 9 (la.set i (flipB (la.getD i []) bit)) sp29) :: (some b9, .cells #[.slice none 0 0, .slice none 0 0] 42 (0, 0)) :: (some b5, .cells #[i64 ((5 : Int)), i64 ((1 : Int)), i64 ((i : Nat)), i64 ((bit : Nat)), .slice fa bs.length fc] 69 (0, 0)) :: (some b1, .cells #[.slice (ownA ko) lo.length co, .slice (ownA key27) ((la.set i (flipB (la.getD i []) bit)).length) c28] 42 (0, 0)) :: (ka, sob ET 9 la spa) :: (ko, sob ET 9 lo spo) :: (some b, .cells (nv true a20 o) 76 (0, 0)) :: (a20.key, sob ES 30 (svs a20.fs) a20.sp) :: (o.key, sob ES 30 (svs o.fs) o.sp) :: (frs 5 a20.fs ++ (frs 5 o.fs ++ X))) | 3, [v0, v1, v2] => v0 = i64 ((0 : Int)) ∧ v1 = i64 ((o.fs.length : Nat)) ∧ v2 = i64 ((a20.fs.length : Nat)) ∧ Ext w34 w' ∧ Hp No w₀ w' ((key27, sob ET 9 (la.set i (flipB (la.getD i []) bit)) sp29) :: (some b9, .cells #[.slice none 0 0, .slice none 0 0] 42 (0, 0)) :: (some b5, .cells #[i64 ((5 : Int)), i64 ((1 : Int)), i64 ((i : Nat)), i64 ((bit : Nat)), .slice fa bs.length fc] 69 (0, 0)) :: (some b1, .cells #[.slice (ownA ko) lo.length co, .slice (ownA key27) ((la.set i (flipB (la.getD i []) bit)).length) c28] 42 (0, 0)) :: (ka, sob ET 9 la spa) :: (ko, sob ET 9 lo spo) :: (some b, .cells (nv true a20 o) 76 (0, 0)) :: (a20.key, sob ES 30 (svs a20.fs) a20.sp) :: (o.key, sob ES 30 (svs o.fs) o.sp) :: (frs 5 a20.fs ++ (frs 5 o.fs ++ X))) | 4, [v0, v1, v2, _] => v0 = i64 ((0 : Int)) ∧ v1 = i64 ((o.fs.length : Nat)) ∧ v2 = i64 ((a20.fs.length : Nat)) ∧ True ∧ Chg (· = b9) w34 w' ∧ Hp No w₀ w' ((key27, sob ET 9 (la.set i (flipB (la.getD i []) bit)) sp29) :: (some b9, .cells #[.slice (ownA ko) lo.length co, .slice (ownA key27) ((la.set i (flipB (la.getD i []) bit)).length) c28] 42 (0, 0)) :: (some b5, .cells #[i64 ((5 : Int)), i64 ((1 : Int)), i64 ((i : Nat)), i64 ((bit : Nat)), .slice fa bs.length fc] 69 (0, 0)) :: (some b1, .cells #[.slice (ownA ko) lo.length co, .slice (ownA key27) ((la.set i (flipB (la.getD i []) bit)).length) c28] 42 (0, 0)) :: (ka, sob ET 9 la spa) :: (ko, sob ET 9 lo spo) :: (some b, .cells (nv true a20 o) 76 (0, 0)) :: (a20.key, sob ES 30 (svs a20.fs) a20.sp) :: (o.key, sob ES 30 (svs o.fs) o.sp) :: (frs 5 a20.fs ++ (frs 5 o.fs ++ X))) | _, _ => False) mixed (by kernel_rfl) (by kernel_rfl) ⟨Ext.drew _, H35'.drew⟩ ?_
  refine WalkC.look rfl (fun _ => .agg #[.slice (ownA ko) lo.length co, .slice (ownA key27) ((la.set i (flipB (la.getD i []) bit)).length) c28]) (fun _ _ _ => rfl) (fun q r uw hlo hhi hle hF => ?_) ?_
  · skip
    have h1 : 0 ≤ q := Nat.zero_le _
    have h2 : q ≤ 3 := hhi 3 30 rfl rfl
    rcases (show q = 0 ∨ q = 1 ∨ q = 2 ∨ q = 3 by omega) with rfl | rfl | rfl | rfl
    · skip
      obtain ⟨hX, HH⟩ := hF
      exact Gives.run rfl (r_loadA (cs' := #[.slice (ownA ko) lo.length co, .slice (ownA key27) ((la.set i (flipB (la.getD i []) bit)).length) c28]) agg42 siz42 (HH.get (k := 3) rfl) (off := 0) rfl (by exact Nat.le_of_ble_eq_true rfl) (by rfl)) ⟨rfl, rfl⟩
    · skip
      obtain ⟨e2, hX, HH⟩ := hF
      exact Gives.run rfl (r_loadA (cs' := #[.slice (ownA ko) lo.length co, .slice (ownA key27) ((la.set i (flipB (la.getD i []) bit)).length) c28]) agg42 siz42 (HH.get (k := 3) rfl) (off := 0) rfl (by exact Nat.le_of_ble_eq_true rfl) (by rfl)) ⟨rfl, rfl⟩
    · skip
      obtain ⟨e2, e14, hX, HH⟩ := hF
      exact Gives.run rfl (r_loadA (cs' := #[.slice (ownA ko) lo.length co, .slice (ownA key27) ((la.set i (flipB (la.getD i []) bit)).length) c28]) agg42 siz42 (HH.get (k := 3) rfl) (off := 0) rfl (by exact Nat.le_of_ble_eq_true rfl) (by rfl)) ⟨rfl, rfl⟩
    · skip
      obtain ⟨e2, e14, e23, hX, HH⟩ := hF
      exact Gives.run rfl (r_loadA (cs' := #[.slice (ownA ko) lo.length co, .slice (ownA key27) ((la.set i (flipB (la.getD i []) bit)).length) c28]) agg42 siz42 (HH.get (k := 3) rfl) (off := 0) rfl (by exact Nat.le_of_ble_eq_true rfl) (by rfl)) ⟨rfl, rfl⟩
  refine WalkC.look rfl (fun _ => .nilIface) (fun _ _ _ => rfl) (fun q r uw _ _ _ _ => Gives.run rfl (r_move (v := .nilIface) rfl) ⟨rfl, rfl⟩) ?_
  refine WalkC.eff 0 rfl (fun r uw37 hF39 => ?_) ?_
  · skip
    obtain ⟨hX, H38⟩ := hF39
    dsimp only [List.take, List.map, List.cons_append, List.nil_append]
    refine Gives.ofW (d := 135) rfl rfl (fun Q' hK => ?_)
    refine c_call (vs := [.nilIface]) call49 rfl (codenil_ok uw37) ?_
    rintro _ w40 ⟨rfl, hE41⟩
    have H42 := H38.ext hE41
    exact hK _ _ ⟨rfl, (hX.trans hE41), H42⟩
  refine WalkC.look rfl (fun _ => i64 ((0 : Int))) (fun _ _ _ => rfl) (fun q r uw _ _ _ _ => Gives.run rfl (r_move (v := i64 ((0 : Int))) rfl) ⟨rfl, rfl⟩) ?_
  refine WalkC.look rfl (fun _ => .bool (true)) (fun _ _ _ => rfl) (fun q r uw hlo hhi hle hF => ?_) ?_
  · skip
    have h1 : 1 ≤ q := hlo 0 2 rfl rfl
    have h2 : q ≤ 1 := hhi 1 14 rfl rfl
    rcases (show q = 1 by omega) with rfl
    · skip
      obtain ⟨e2, hX, HH⟩ := hF
      dsimp only
      rw [e2]
      exact Gives.run rfl ((r_eqlI (a := (0 : Int)) (b := (0 : Int)) rfl rfl).as (v' := .bool (true)) (by rfl)) ⟨rfl, rfl⟩
  refine WalkC.look rfl (fun _ => .bool (true)) (fun _ _ _ => rfl) (fun q r uw _ _ _ _ => Gives.run rfl (r_move (v := .bool (true)) rfl) ⟨rfl, rfl⟩) ?_
  refine WalkC.look rfl (fun _ => .nilIface) (fun _ _ _ => rfl) (fun q r uw _ _ _ _ => Gives.runW (wantedSome (d' := 138) (b := true) rfl rfl rfl) (r_move (v := .nilIface) rfl) ⟨rfl, rfl⟩) ?_
  refine WalkC.look rfl (fun _ => .bool (true)) (fun _ _ _ => rfl) (fun q r uw _ _ _ _ => Gives.runW (wantedSome (d' := 138) (b := true) rfl rfl rfl) (r_eqlNN isI28 rfl rfl) ⟨rfl, rfl⟩) ?_
  refine WalkC.look rfl (fun _ => i64 ((0 : Int))) (fun _ _ _ => rfl) (fun q r uw _ _ _ _ => Gives.runW (wantedSome (d' := 138) (b := true) rfl rfl rfl) (r_move (v := i64 ((0 : Int))) rfl) ⟨rfl, rfl⟩) ?_
  refine WalkC.look rfl (fun _ => .bool (true)) (fun _ _ _ => rfl) (fun q r uw _ _ _ _ => Gives.runW (wantedSome (d' := 138) (b := true) rfl rfl rfl) ((r_eqlI (a := (0 : Int)) (b := (0 : Int)) rfl rfl).as (v' := .bool (true)) (by rfl)) ⟨rfl, rfl⟩) ?_
  refine WalkC.look rfl (fun _ => .bool (true)) (fun _ _ _ => rfl) (fun q r uw _ _ _ _ => Gives.runW (wantedSome (d' := 138) (b := true) rfl rfl rfl) ((r_eqlB und4 (a := true) (b := true) rfl rfl).as (v' := .bool (true)) (by rfl)) ⟨rfl, rfl⟩) ?_
  refine WalkC.look rfl (fun _ => .bool (true)) (fun _ _ _ => rfl) (fun q r uw _ _ _ _ => Gives.run rfl (r_pickT (u := .bool (true)) rfl rfl) ⟨rfl, rfl⟩) ?_
  refine WalkC.look rfl (fun _ => .bool (true)) (fun _ _ _ => rfl) (fun q r uw _ _ _ _ => Gives.run rfl (r_move (v := .bool (true)) rfl) ⟨rfl, rfl⟩) ?_
  refine WalkC.look rfl (fun _ => .pointer (some ⟨b, 0, none⟩)) (fun _ _ _ => rfl) (fun q r uw _ _ _ _ => Gives.runW (wantedSome (d' := 145) (b := true) rfl rfl rfl) (r_move (v := .pointer (some ⟨b, 0, none⟩)) rfl) ⟨rfl, rfl⟩) ?_
  refine WalkC.eff 1 rfl (fun r uw43 hF45 => ?_) ?_
  · skip
    obtain ⟨e2, hX, H44⟩ := hF45
    dsimp only [List.take, List.map, List.cons_append, List.nil_append]
    rw [e2]
    refine Gives.ofW (d := 147) rfl rfl (fun Q' hK => ?_)
    refine caAny (wantedSome (d' := 145) (b := true) rfl rfl rfl) (Enters.callL (vs := [.pointer (some ⟨b, 0, none⟩), i64 ((0 : Int))]) call15 rfl) (len_0 b o a20 uw43 (H44.get (k := 6) rfl)) ?_
    rintro _ w46 ⟨rfl, hE47⟩
    have H48 := H44.ext hE47
    exact hK _ _ ⟨rfl, rfl, (hX.trans hE47), H48⟩
  refine WalkC.look rfl (fun _ => .pointer (some ⟨b1, 0, none⟩)) (fun _ _ _ => rfl) (fun q r uw _ _ _ _ => Gives.runW (wantedSome (d' := 145) (b := true) rfl rfl rfl) (r_fieldAddr (off' := 0) fld42_0 (by decide) (b := b1) (off := 0) rfl (by omega)) ⟨rfl, rfl⟩) ?_
  refine WalkC.look rfl (fun _ => .pointer (some ⟨b1, 0, none⟩)) (fun _ _ _ => rfl) (fun q r uw _ _ _ _ => Gives.runW (wantedSome (d' := 145) (b := true) rfl rfl rfl) (r_indexA (off' := 0) (j := 0) arr40 (b := b1) (off := 0) rfl rfl (by first | rfl | omega | (simp; omega)) (by omega) (by omega)) ⟨rfl, rfl⟩) ?_
  refine WalkC.look rfl (fun _ => .slice (ownA ko) lo.length co) (fun _ _ _ => rfl) (fun q r uw hlo hhi hle hF => ?_) ?_
  · skip
    have h1 : 1 ≤ q := hlo 0 2 rfl rfl
    have h2 : q ≤ 2 := hhi 2 23 rfl rfl
    rcases (show q = 1 ∨ q = 2 by omega) with rfl | rfl
    · skip
      obtain ⟨e2, hX, HH⟩ := hF
      exact Gives.runW (wantedSome (d' := 145) (b := true) rfl rfl rfl) (r_loadC (v := .slice (ownA ko) lo.length co) one39 (HH.get (k := 3) rfl) (off := 0) rfl (by rfl)) ⟨rfl, rfl⟩
    · skip
      obtain ⟨e2, e14, hX, HH⟩ := hF
      exact Gives.runW (wantedSome (d' := 145) (b := true) rfl rfl rfl) (r_loadC (v := .slice (ownA ko) lo.length co) one39 (HH.get (k := 3) rfl) (off := 0) rfl (by rfl)) ⟨rfl, rfl⟩
  refine WalkC.look rfl (fun _ => i64 ((lo.length : Nat))) (fun _ _ _ => rfl) (fun q r uw _ _ _ _ => Gives.runW (wantedSome (d' := 145) (b := true) rfl rfl rfl) (r_lenS sli39 (a := ownA ko) (m := lo.length) (c := co) rfl) ⟨rfl, rfl⟩) ?_
  refine WalkC.look rfl (fun _ => .bool (true)) (fun _ _ _ => rfl) (fun q r uw hlo hhi hle hF => ?_) ?_
  · skip
    have h1 : 2 ≤ q := hlo 1 14 rfl rfl
    have h2 : q ≤ 2 := hhi 2 23 rfl rfl
    rcases (show q = 2 by omega) with rfl
    · skip
      obtain ⟨e2, e14, hX, HH⟩ := hF
      dsimp only
      rw [e14]
      exact Gives.runW (wantedSome (d' := 145) (b := true) rfl rfl rfl) ((r_eqlI (a := (o.fs.length : Nat)) (b := (lo.length : Nat)) rfl rfl).as (v' := .bool (true)) (by exact congrArg Value.bool (decide_eq_true (by first | exact congrArg (fun q : Nat => (q : Int)) hlA | exact congrArg (fun q : Nat => (q : Int)) hlO)))) ⟨rfl, rfl⟩
  refine WalkC.look rfl (fun _ => .bool (true)) (fun _ _ _ => rfl) (fun q r uw _ _ _ _ => Gives.run rfl (r_pickT (u := .bool (true)) rfl rfl) ⟨rfl, rfl⟩) ?_
  refine WalkC.look rfl (fun _ => .bool (true)) (fun _ _ _ => rfl) (fun q r uw _ _ _ _ => Gives.run rfl (r_move (v := .bool (true)) rfl) ⟨rfl, rfl⟩) ?_
  refine WalkC.look rfl (fun _ => .pointer (some ⟨b, 0, none⟩)) (fun _ _ _ => rfl) (fun q r uw _ _ _ _ => Gives.runW (wantedSome (d' := 154) (b := true) rfl rfl rfl) (r_move (v := .pointer (some ⟨b, 0, none⟩)) rfl) ⟨rfl, rfl⟩) ?_
  refine WalkC.eff 2 rfl (fun r uw49 hF51 => ?_) ?_
  · skip
    obtain ⟨e2, e14, hX, H50⟩ := hF51
    dsimp only [List.take, List.map, List.cons_append, List.nil_append]
    rw [e2, e14]
    refine Gives.ofW (d := 156) rfl rfl (fun Q' hK => ?_)
    refine caAny (wantedSome (d' := 154) (b := true) rfl rfl rfl) (Enters.callL (vs := [.pointer (some ⟨b, 0, none⟩), i64 ((1 : Int))]) call15 rfl) (len_1 b a20 o uw49 (H50.get (k := 6) rfl)) ?_
    rintro _ w52 ⟨rfl, hE53⟩
    have H54 := H50.ext hE53
    exact hK _ _ ⟨rfl, rfl, rfl, (hX.trans hE53), H54⟩
  refine WalkC.look rfl (fun _ => .pointer (some ⟨b1, 0, none⟩)) (fun _ _ _ => rfl) (fun q r uw _ _ _ _ => Gives.runW (wantedSome (d' := 154) (b := true) rfl rfl rfl) (r_fieldAddr (off' := 0) fld42_0 (by decide) (b := b1) (off := 0) rfl (by omega)) ⟨rfl, rfl⟩) ?_
  refine WalkC.look rfl (fun _ => .pointer (some ⟨b1, 1, none⟩)) (fun _ _ _ => rfl) (fun q r uw _ _ _ _ => Gives.runW (wantedSome (d' := 154) (b := true) rfl rfl rfl) (r_indexA (off' := 1) (j := 1) arr40 (b := b1) (off := 0) rfl rfl (by first | rfl | omega | (simp; omega)) (by omega) (by omega)) ⟨rfl, rfl⟩) ?_
  refine WalkC.look rfl (fun _ => .slice (ownA key27) ((la.set i (flipB (la.getD i []) bit)).length) c28) (fun _ _ _ => rfl) (fun q r uw hlo hhi hle hF => ?_) ?_
  · skip
    have h1 : 2 ≤ q := hlo 1 14 rfl rfl
    have h2 : q ≤ 4 := hle
    rcases (show q = 2 ∨ q = 3 ∨ q = 4 by omega) with rfl | rfl | rfl
    · skip
      obtain ⟨e2, e14, hX, HH⟩ := hF
      exact Gives.runW (wantedSome (d' := 154) (b := true) rfl rfl rfl) (r_loadC (v := .slice (ownA key27) ((la.set i (flipB (la.getD i []) bit)).length) c28) one39 (HH.get (k := 3) rfl) (off := 1) rfl (by rfl)) ⟨rfl, rfl⟩
    · skip
      obtain ⟨e2, e14, e23, hX, HH⟩ := hF
      exact Gives.runW (wantedSome (d' := 154) (b := true) rfl rfl rfl) (r_loadC (v := .slice (ownA key27) ((la.set i (flipB (la.getD i []) bit)).length) c28) one39 (HH.get (k := 3) rfl) (off := 1) rfl (by rfl)) ⟨rfl, rfl⟩
    · skip
      obtain ⟨e2, e14, e23, e30, hX, HH⟩ := hF
      exact Gives.runW (wantedSome (d' := 154) (b := true) rfl rfl rfl) (r_loadC (v := .slice (ownA key27) ((la.set i (flipB (la.getD i []) bit)).length) c28) one39 (HH.get (k := 3) rfl) (off := 1) rfl (by rfl)) ⟨rfl, rfl⟩
  refine WalkC.look rfl (fun _ => i64 (((la.set i (flipB (la.getD i []) bit)).length : Nat))) (fun _ _ _ => rfl) (fun q r uw _ _ _ _ => Gives.runW (wantedSome (d' := 154) (b := true) rfl rfl rfl) (r_lenS sli39 (a := ownA key27) (m := (la.set i (flipB (la.getD i []) bit)).length) (c := c28) rfl) ⟨rfl, rfl⟩) ?_
  refine WalkC.look rfl (fun _ => .bool (true)) (fun _ _ _ => rfl) (fun q r uw hlo hhi hle hF => ?_) ?_
  · skip
    have h1 : 3 ≤ q := hlo 2 23 rfl rfl
    have h2 : q ≤ 4 := hle
    rcases (show q = 3 ∨ q = 4 by omega) with rfl | rfl
    · skip
      obtain ⟨e2, e14, e23, hX, HH⟩ := hF
      dsimp only
      rw [e23]
      exact Gives.runW (wantedSome (d' := 154) (b := true) rfl rfl rfl) ((r_eqlI (a := (a20.fs.length : Nat)) (b := ((la.set i (flipB (la.getD i []) bit)).length : Nat)) rfl rfl).as (v' := .bool (true)) (by exact congrArg Value.bool (decide_eq_true (by first | exact congrArg (fun q : Nat => (q : Int)) hlA | exact congrArg (fun q : Nat => (q : Int)) hlO)))) ⟨rfl, rfl⟩
    · skip
      obtain ⟨e2, e14, e23, e30, hX, HH⟩ := hF
      dsimp only
      rw [e23]
      exact Gives.runW (wantedSome (d' := 154) (b := true) rfl rfl rfl) ((r_eqlI (a := (a20.fs.length : Nat)) (b := ((la.set i (flipB (la.getD i []) bit)).length : Nat)) rfl rfl).as (v' := .bool (true)) (by exact congrArg Value.bool (decide_eq_true (by first | exact congrArg (fun q : Nat => (q : Int)) hlA | exact congrArg (fun q : Nat => (q : Int)) hlO)))) ⟨rfl, rfl⟩
  refine WalkC.look rfl (fun _ => .bool (true)) (fun _ _ _ => rfl) (fun q r uw _ _ _ _ => Gives.run rfl (r_pickT (u := .bool (true)) rfl rfl) ⟨rfl, rfl⟩) ?_
  refine WalkC.eff 3 rfl (fun r uw55 hF57 => ?_) ?_
  · skip
    obtain ⟨e2, e14, e23, hX, H56⟩ := hF57
    dsimp only [List.take, List.map, List.cons_append, List.nil_append]
    rw [e2, e14, e23]
    refine Gives.ofW0 rfl (fun Q' hK => ?_)
    refine d_store (k := 1) (v := .agg #[.slice (ownA ko) lo.length co, .slice (ownA key27) ((la.set i (flipB (la.getD i []) bit)).length) c28]) (cs' := #[.slice (ownA ko) lo.length co, .slice (ownA key27) ((la.set i (flipB (la.getD i []) bit)).length) c28]) H56 rfl rfl rfl siz42 (by rfl) (by intro u hu; simp [Value.cells] at hu; first | (subst hu; rfl) | (rcases hu with rfl | rfl <;> rfl)) (by exact Nat.le_of_ble_eq_true rfl) (by rfl) ?_
    intro w58 H59 hC60
    have H59' := H59.as (L' := ((key27, sob ET 9 (la.set i (flipB (la.getD i []) bit)) sp29) :: (some b9, .cells #[.slice (ownA ko) lo.length co, .slice (ownA key27) ((la.set i (flipB (la.getD i []) bit)).length) c28] 42 (0, 0)) :: (some b5, .cells #[i64 ((5 : Int)), i64 ((1 : Int)), i64 ((i : Nat)), i64 ((bit : Nat)), .slice fa bs.length fc] 69 (0, 0)) :: (some b1, .cells #[.slice (ownA ko) lo.length co, .slice (ownA key27) ((la.set i (flipB (la.getD i []) bit)).length) c28] 42 (0, 0)) :: (ka, sob ET 9 la spa) :: (ko, sob ET 9 lo spo) :: (some b, .cells (nv true a20 o) 76 (0, 0)) :: (a20.key, sob ES 30 (svs a20.fs) a20.sp) :: (o.key, sob ES 30 (svs o.fs) o.sp) :: (frs 5 a20.fs ++ (frs 5 o.fs ++ X)))) rfl
    clear H59
    exact hK _ (fun _ => ⟨rfl, rfl, rfl, trivial, ((Ext.chg hX).trans hC60), H59'⟩)
  refine WalkC.look rfl (fun _ => .bool (true)) (fun _ _ _ => rfl) (fun q r uw _ _ _ _ => Gives.run rfl (r_assign (v := .bool (true)) rfl) ⟨rfl, rfl⟩) ?_
  refine WalkC.nil ?_
  intro r61 w62 hF64
  obtain ⟨e2, e14, e23, e30, hX, H63⟩ := hF64
  dsimp only
  rw [e2, e14, e23]
  refine wnil ?_
  refine thenNormal ?_
  refine retAny ?_
  refine retG (rs := [.cell 6 42, .tmp 7]) (vs := [.agg #[.slice (ownA ko) lo.length co, .slice (ownA key27) ((la.set i (flipB (la.getD i []) bit)).length) c28], .bool (true)]) rfl ⟨r_loadA (cs' := #[.slice (ownA ko) lo.length co, .slice (ownA key27) ((la.set i (flipB (la.getD i []) bit)).length) c28]) agg42 siz42 (H63.get (k := 1) rfl) (off := 0) rfl (by exact Nat.le_of_ble_eq_true rfl) (by rfl), ⟨rfl, rfl⟩, trivial⟩ ?_
  have H65 := ((((H63.dropk 4).dropk 3).dropk 2).dropk 1)
  have H66 := Hp.toR [(key27, sob ET 9 (la.set i (flipB (la.getD i []) bit)) sp29), (ko, sob ET 9 lo spo)] (F := frs 5 a20.fs) (G := frs 5 o.fs) (X := X) H65
  exact ⟨_, rfl, a20, key27, c28, sp29, (la.set i (flipB (la.getD i []) bit)), rfl, hok21, hS30, by rw [hbs22, hea, hfb15], (by rw [List.length_set]; exact hla), by intro q hq; rcases List.mem_or_eq_of_mem_set hq with h | rfl; exact hza q h; rw [flipB, List.length_set]; exact hzi, H66⟩

theorem play_at_0 (b : Nat) (a o : Wy) (ha : a.ok) (ho : o.ok) (ka ko : Option Nat) (ca co : Nat) (spa spo : List Value) (la lo : List (List (BitVec 8))) (hSa : Sl ET ka la ca spa) (hSo : Sl ET ko lo co spo) (hea : bss a.fs = la) (heo : bss o.fs = lo) (hla : la.length ≤ 64) (hza : ∀ q ∈ la, q.length ≤ 140737488351232) (X : List (Option Nat × Obj)) (fa : Option Addr) (fc : Nat) (bs : List (BitVec 8)) (hbl : bs.length ≤ 140737488351232) (kd : Int) (hk1 : kd ≠ 1) (hk2 : kd ≠ 2) (hk3 : kd ≠ 3) (hk4 : kd ≠ 4) (hk5 : kd ≠ 5) (i : Nat) (hi : i < la.length) (bit : Int) (w₀ w : World) (hG : Gl w₀) (hFr : Rd E8 w₀ fa bs) (H : Hp No w₀ w ((some b, .cells (nv false a o) 76 (0, 0)) :: (a.key, sob ES 30 (svs a.fs) a.sp) :: (o.key, sob ES 30 (svs o.fs) o.sp) :: (frs 5 a.fs ++ (frs 5 o.fs ++ ((ka, sob ET 9 la spa) :: (ko, sob ET 9 lo spo) :: X)))))  : Calls Tryd.prog 31 [.pointer (some ⟨b, 0, none⟩), .agg #[.slice (ownA ka) la.length ca, .slice (ownA ko) lo.length co], .agg #[i64 (kd), i64 ((0 : Int)), i64 ((i : Nat)), i64 (bit), .slice fa bs.length fc]].toArray w (Ret fun v w' => ∃ (a' : Wy) (ka' : Option Nat) (ca' : Nat) (spa' : List Value) (la' : List (List (BitVec 8))), v = .tuple #[.agg #[.slice (ownA ka') la'.length ca', .slice (ownA ko) lo.length co], .bool true] ∧ a'.ok ∧ Sl ET ka' la' ca' spa' ∧ bss a'.fs = la' ∧ la'.length ≤ 64 ∧ (∀ q ∈ la', q.length ≤ 140737488351232) ∧ Hp No w₀ w' ((some b, .cells (nv false a' o) 76 (0, 0)) :: (a'.key, sob ES 30 (svs a'.fs) a'.sp) :: (o.key, sob ES 30 (svs o.fs) o.sp) :: (frs 5 a'.fs ++ (frs 5 o.fs ++ ((ka', sob ET 9 la' spa') :: (ko, sob ET 9 lo spo) :: X))))) := by
  have hzi : (la.getD i []).length ≤ 140737488351232 := hza _ (getD_mem hi)
  have H := (Hp.fromR [(ka, sob ET 9 la spa), (ko, sob ET 9 lo spo)] (F := frs 5 a.fs) (G := frs 5 o.fs) (X := X) H)
  refine enter (n := 163) Tryd.func31 rfl rfl (Nat.le_of_ble_eq_true rfl) ?_
  refine seqRegion ?_
  refine q_box (v := .agg #[.slice (ownA ka) la.length ca, .slice (ownA ko) lo.length co]) (o := .cells #[.slice (ownA ka) la.length ca, .slice (ownA ko) lo.length co] 42 (0, 0)) H rfl (by rfl) ?_
  intro b1 w2 hb1 H3 hE4
  refine q_box (v := .agg #[i64 (kd), i64 ((0 : Int)), i64 ((i : Nat)), i64 (bit), .slice fa bs.length fc]) (o := .cells #[i64 (kd), i64 ((0 : Int)), i64 ((i : Nat)), i64 (bit), .slice fa bs.length fc] 69 (0, 0)) H3 rfl (by rfl) ?_
  intro b5 w6 hb5 H7 hE8
  refine q_alloc (o := .cells #[.slice none 0 0, .slice none 0 0] 42 (0, 0)) H7 zer42 (by kernel_rfl) ?_
  intro b9 w10 hb9 H11 hE12
  refine sq (r_assign (v := .bool (false)) rfl) ?_
  refine wend ?_
  refine seqRegion ?_
  refine sq (r_assign (v := .nilIface) rfl) ?_
  refine wend ?_
  refine seqRegion ?_
  refine sq (r_assign (v := i64 ((0 : Int))) rfl) ?_
  refine wend ?_
  refine seqAny ?_
  refine seqRegion ?_
  refine sq (r_fieldAddr (off' := 0) fld69_0 (by decide) (b := b5) (off := 0) rfl (by omega)) ?_
  refine sq (r_loadC (v := i64 (kd)) one3 (H11.get (k := 1) rfl) (off := 0) rfl (by rfl)) ?_
  refine wend ?_
  refine blockAny ?_
  refine seqRegion ?_
  refine sq ((r_eqlI (a := kd) (b := (1 : Int)) rfl rfl).as (v' := .bool (false)) (by simp [hk1])) ?_
  refine sq (r_assign (v := .bool (false)) rfl) ?_
  refine wend ?_
  refine condFalse rfl ?_
  refine seqAny ?_
  refine seqRegion ?_
  refine sq ((r_eqlI (a := kd) (b := (2 : Int)) rfl rfl).as (v' := .bool (false)) (by simp [hk2])) ?_
  refine sq (r_assign (v := .bool (false)) rfl) ?_
  refine wend ?_
  refine condFalse rfl ?_
  refine oneRegion ?_
  refine sq ((r_eqlI (a := kd) (b := (3 : Int)) rfl rfl).as (v' := .bool (false)) (by simp [hk3])) ?_
  refine sq (r_assign (v := .bool (false)) rfl) ?_
  refine wnil ?_
  refine thenNormal ?_
  refine condFalse rfl ?_
  refine seqRegion ?_
  refine sq ((r_eqlI (a := kd) (b := (4 : Int)) rfl rfl).as (v' := .bool (false)) (by simp [hk4])) ?_
  refine sq (r_assign (v := .bool (false)) rfl) ?_
  refine wend ?_
  refine condFalse rfl ?_
  refine seqRegion ?_
  refine sq ((r_eqlI (a := kd) (b := (5 : Int)) rfl rfl).as (v' := .bool (false)) (by simp [hk5])) ?_
  refine sq (r_assign (v := .bool (false)) rfl) ?_
  refine wend ?_
  refine condFalse rfl ?_
  refine seqRegion ?_
  refine sq (r_assign (v := .slice none 0 0) rfl) ?_
  refine wend ?_
  refine seqRegion ?_
  refine sq (r_assign (v := .string ({data := #[]})) rfl) ?_
  refine wend ?_
  refine seqRegion ?_
  refine sq (r_move (v := .pointer (some ⟨b, 0, none⟩)) rfl) ?_
  refine sq (r_fieldAddr (off' := 1) fld69_1 (by decide) (b := b5) (off := 0) rfl (by omega)) ?_
  refine sq (r_loadC (v := i64 ((0 : Int))) one3 (H11.get (k := 1) rfl) (off := 1) rfl (by rfl)) ?_
  refine sq (r_fieldAddr (off' := 2) fld69_2 (by decide) (b := b5) (off := 0) rfl (by omega)) ?_
  refine sq (r_loadC (v := i64 ((i : Nat))) one3 (H11.get (k := 1) rfl) (off := 2) rfl (by rfl)) ?_
  obtain ⟨f13, hf14, hfb15⟩ := bss_at (F := a.fs) (i := i) (b := la.getD i []) (by rw [hea]; simp [hi])
  have fok16 := ha.each _ (List.mem_of_getElem? hf14)
  have hif13 := (List.getElem?_eq_some_iff.1 hf14).1
  refine c_call (vs := [.pointer (some ⟨b, 0, none⟩), i64 ((0 : Int)), i64 ((i : Nat))]) call20 rfl (at_hit false b a o w10 i hif13 f13 hf14 (by rw [hfb15]; omega) (H11.get (k := 5) rfl) (H11.rd (k := 6) rfl ha.sl) (H11.rdF (T := 5) fok16 (List.mem_cons_of_mem _ (List.mem_cons_of_mem _ (List.mem_cons_of_mem _ (List.mem_cons_of_mem _ (List.mem_cons_of_mem _ (List.mem_cons_of_mem _ (List.mem_cons_of_mem _ (List.mem_cons_of_mem _ (List.mem_append_left _ (frs_mem hf14)))))))))))) ?_
  rintro _ w17 ⟨⟨key19, c20, sp21, rfl, hS22, hk23⟩, hE24⟩
  have H25 := H11.add hE24 hk23
  refine sq (r_move (v := .tuple #[.slice (ownA key19) f13.bs.length c20, .nilIface]) rfl) ?_
  refine sq (r_extract (vs := #[.slice (ownA key19) f13.bs.length c20, .nilIface]) rfl rfl) ?_
  refine sq (r_extract (vs := #[.slice (ownA key19) f13.bs.length c20, .nilIface]) rfl rfl) ?_
  refine sq (r_assign (v := .slice (ownA key19) f13.bs.length c20) rfl) ?_
  refine sq (r_assign (v := .nilIface) rfl) ?_
  refine wend ?_
  refine seqRegion ?_
  refine sq (r_loadA (cs' := #[.slice (ownA ka) la.length ca, .slice (ownA ko) lo.length co]) agg42 siz42 (H25.get (k := 3) rfl) (off := 0) rfl (by exact Nat.le_of_ble_eq_true rfl) (by rfl)) ?_
  refine sq (r_fieldAddr (off' := 1) fld69_1 (by decide) (b := b5) (off := 0) rfl (by omega)) ?_
  refine sq (r_loadC (v := i64 ((0 : Int))) one3 (H25.get (k := 2) rfl) (off := 1) rfl (by rfl)) ?_
  refine sq (r_fieldAddr (off' := 2) fld69_2 (by decide) (b := b5) (off := 0) rfl (by omega)) ?_
  refine sq (r_loadC (v := i64 ((i : Nat))) one3 (H25.get (k := 2) rfl) (off := 2) rfl (by rfl)) ?_
  refine c_call (vs := [.agg #[.slice (ownA ka) la.length ca, .slice (ownA ko) lo.length co], i64 ((0 : Int)), i64 ((i : Nat))]) call39 rfl (rat_hit_0 la (ownA ka) (ownA ko) ca lo.length co w17 i hi (H25.rd (k := 4) rfl hSa)) ?_
  rintro _ w26 ⟨rfl, hE27⟩
  have H28 := H25.ext hE27
  refine sq (r_move (v := .tuple #[.string (strB (la.getD i [])), i64 ((0 : Int))]) rfl) ?_
  refine sq (r_extract (vs := #[.string (strB (la.getD i [])), i64 ((0 : Int))]) rfl rfl) ?_
  refine sq (r_extract (vs := #[.string (strB (la.getD i [])), i64 ((0 : Int))]) rfl rfl) ?_
  refine sq (r_assign (v := .string (strB (la.getD i []))) rfl) ?_
  refine sq (r_assign (v := i64 ((0 : Int))) rfl) ?_
  refine wend ?_
  refine seqRegion ?_
  refine sq (r_move (v := .slice (ownA key19) f13.bs.length c20) rfl) ?_
  refine sq (r_toStr (l := f13.bs) und30 und5 und9 (H28.rd (k := 0) rfl hS22) rfl (by rfl)) ?_
  refine sq (r_move (v := .string (strB (la.getD i []))) rfl) ?_
  refine sq ((r_neqStr (s := strB f13.bs) (s' := strB (la.getD i [])) rfl rfl).as (v' := .bool (false)) (by rw [hfb15]; simp)) ?_
  refine wend ?_
  refine condFalse rfl ?_
  refine skipAny ?_
  refine blockNormal ?_
  refine thenNormal ?_
  refine seqAny ?_
  have hlA : a.fs.length = (la).length := by have h := congrArg List.length (show bss a.fs = la from hea); rwa [bss_len] at h
  have hlO : o.fs.length = lo.length := by have h := congrArg List.length heo; rwa [bss_len] at h
  refine drawC (m := 32) [0, 0, 2, 0, 14, 30, 62, 126, 62, 318, 1022, 2046, 4094, 8190, 16382, 8190, 40958, 106494, 237566, 524286, 1048574, 2097150, 4194302, 8388606, 4194302, 20971518, 54525950, 121634814, 268435454, 536870910, 16777215, 2147483647] [2, 14, 23, 30] (fun q vs w' => match q, vs with | 0, [] => Ext w26 w' ∧ Hp No w₀ w' ((key19, sob E8 5 f13.bs sp21) :: (some b9, .cells #[.slice none 0 0, .slice none 0 0] 42 (0, 0)) :: (some b5, .cells #[i64 (kd), i64 ((0 : Int)), i64 ((i : Nat)), i64 (bit), .slice fa bs.length fc] 69 (0, 0)) :: (some b1, .cells #[.slice (ownA ka) la.length ca, .slice (ownA ko) lo.length co] 42 (0, 0)) :: (ka, sob ET 9 la spa) :: (ko, sob ET 9 lo spo) :: (some b, .cells (nv false a o) 76 (0, 0)) :: (a.key, sob ES 30 (svs a.fs) a.sp) :: (o.key, sob ES 30 (svs o.fs) o.sp) :: (frs 5 a.fs ++ (frs 5 o.fs ++ X))) | 1, [v0] => v0 = i64 ((0 : Int)) ∧ Ext w26 w' ∧ Hp No w₀ w' ((key19, sob E8 5 f13.bs sp21) :: (some b9, .cells #[.slice none 0 0, .slice none 0 0] 42 (0, 0)) :: (some b5, .cells #[i64 (kd), i64 ((0 : Int)), i64 ((i : Nat)), i64 (bit), .slice fa bs.length fc] 69 (0, 0)) :: (some b1, .cells #[.slice (ownA ka) la.length ca, .slice (ownA ko) lo.length co] 42 (0, 0)) :: (ka, sob ET 9 la spa) :: (ko, sob ET 9 lo spo) :: (some b, .cells (nv false a o) 76 (0, 0)) :: (a.key, sob ES 30 (svs a.fs) a.sp) :: (o.key, sob ES 30 (svs o.fs) o.sp) :: (frs 5 a.fs ++ (frs 5 o.fs ++ X))) | 2, [v0, v1] => v0 = i64 ((0 : Int)) ∧ v1 = i64 ((a.fs.length : Nat)) ∧ Ext w26 w' ∧ Hp No w₀ w' ((key19, sob E8 5 f13.bs sp21) :: (some b9, .cells #[.slice none 0 0, .slice none 0 0] 42 (0, 0)) :: (some b5, .cells #[i64 (kd), i64 ((0 : Int)), i64 ((i : Nat)), i64 (bit), .slice fa bs.length fc] 69 (0, 0)) :: (some b1, .cells #[.slice (ownA ka) la.length ca, .slice (ownA ko) lo.length co] 42 (0, 0)) :: (ka, sob ET 9 la spa) :: (ko, sob ET 9 lo spo) :: (some b, .cells (nv false a o) 76 (0, 0)) :: (a.key, sob ES 30 (svs a.fs) a.sp) :: (o.key, sob ES 30 (svs o.fs) o.sp) :: (frs 5 a.fs ++ (frs 5 o.fs ++ X))) | 3, [v0, v1, v2] => v0 = i64 ((0 : Int)) ∧ v1 = i64 ((a.fs.length : Nat)) ∧ v2 = i64 ((o.fs.length : Nat)) ∧ Ext w26 w' ∧ Hp No w₀ w' ((key19, sob E8 5 f13.bs sp21) :: (some b9, .cells #[.slice none 0 0, .slice none 0 0] 42 (0, 0)) :: (some b5, .cells #[i64 (kd), i64 ((0 : Int)), i64 ((i : Nat)), i64 (bit), .slice fa bs.length fc] 69 (0, 0)) :: (some b1, .cells #[.slice (ownA ka) la.length ca, .slice (ownA ko) lo.length co] 42 (0, 0)) :: (ka, sob ET 9 la spa) :: (ko, sob ET 9 lo spo) :: (some b, .cells (nv false a o) 76 (0, 0)) :: (a.key, sob ES 30 (svs a.fs) a.sp) :: (o.key, sob ES 30 (svs o.fs) o.sp) :: (frs 5 a.fs ++ (frs 5 o.fs ++ X))) | 4, [v0, v1, v2, _] => v0 = i64 ((0 : Int)) ∧ v1 = i64 ((a.fs.length : Nat)) ∧ v2 = i64 ((o.fs.length : Nat)) ∧ True ∧ Chg (· = b9) w26 w' ∧ Hp No w₀ w' ((key19, sob E8 5 f13.bs sp21) :: (some b9, .cells #[.slice (ownA ka) la.length ca, .slice (ownA ko) lo.length co] 42 (0, 0)) :: (some b5, .cells #[i64 (kd), i64 ((0 : Int)), i64 ((i : Nat)), i64 (bit), .slice fa bs.length fc] 69 (0, 0)) :: (some b1, .cells #[.slice (ownA ka) la.length ca, .slice (ownA ko) lo.length co] 42 (0, 0)) :: (ka, sob ET 9 la spa) :: (ko, sob ET 9 lo spo) :: (some b, .cells (nv false a o) 76 (0, 0)) :: (a.key, sob ES 30 (svs a.fs) a.sp) :: (o.key, sob ES 30 (svs o.fs) o.sp) :: (frs 5 a.fs ++ (frs 5 o.fs ++ X))) | _, _ => False) mixed (by kernel_rfl) (by kernel_rfl) ⟨Ext.drew _, H28.drew⟩ ?_
  refine WalkC.look rfl (fun _ => .agg #[.slice (ownA ka) la.length ca, .slice (ownA ko) lo.length co]) (fun _ _ _ => rfl) (fun q r uw hlo hhi hle hF => ?_) ?_
  · skip
    have h1 : 0 ≤ q := Nat.zero_le _
    have h2 : q ≤ 3 := hhi 3 30 rfl rfl
    rcases (show q = 0 ∨ q = 1 ∨ q = 2 ∨ q = 3 by omega) with rfl | rfl | rfl | rfl
    · skip
      obtain ⟨hX, HH⟩ := hF
      exact Gives.run rfl (r_loadA (cs' := #[.slice (ownA ka) la.length ca, .slice (ownA ko) lo.length co]) agg42 siz42 (HH.get (k := 3) rfl) (off := 0) rfl (by exact Nat.le_of_ble_eq_true rfl) (by rfl)) ⟨rfl, rfl⟩
    · skip
      obtain ⟨e2, hX, HH⟩ := hF
      exact Gives.run rfl (r_loadA (cs' := #[.slice (ownA ka) la.length ca, .slice (ownA ko) lo.length co]) agg42 siz42 (HH.get (k := 3) rfl) (off := 0) rfl (by exact Nat.le_of_ble_eq_true rfl) (by rfl)) ⟨rfl, rfl⟩
    · skip
      obtain ⟨e2, e14, hX, HH⟩ := hF
      exact Gives.run rfl (r_loadA (cs' := #[.slice (ownA ka) la.length ca, .slice (ownA ko) lo.length co]) agg42 siz42 (HH.get (k := 3) rfl) (off := 0) rfl (by exact Nat.le_of_ble_eq_true rfl) (by rfl)) ⟨rfl, rfl⟩
    · skip
      obtain ⟨e2, e14, e23, hX, HH⟩ := hF
      exact Gives.run rfl (r_loadA (cs' := #[.slice (ownA ka) la.length ca, .slice (ownA ko) lo.length co]) agg42 siz42 (HH.get (k := 3) rfl) (off := 0) rfl (by exact Nat.le_of_ble_eq_true rfl) (by rfl)) ⟨rfl, rfl⟩
  refine WalkC.look rfl (fun _ => .nilIface) (fun _ _ _ => rfl) (fun q r uw _ _ _ _ => Gives.run rfl (r_move (v := .nilIface) rfl) ⟨rfl, rfl⟩) ?_
  refine WalkC.eff 0 rfl (fun r uw29 hF31 => ?_) ?_
  · skip
    obtain ⟨hX, H30⟩ := hF31
    dsimp only [List.take, List.map, List.cons_append, List.nil_append]
    refine Gives.ofW (d := 135) rfl rfl (fun Q' hK => ?_)
    refine c_call (vs := [.nilIface]) call49 rfl (codenil_ok uw29) ?_
    rintro _ w32 ⟨rfl, hE33⟩
    have H34 := H30.ext hE33
    exact hK _ _ ⟨rfl, (hX.trans hE33), H34⟩
  refine WalkC.look rfl (fun _ => i64 ((0 : Int))) (fun _ _ _ => rfl) (fun q r uw _ _ _ _ => Gives.run rfl (r_move (v := i64 ((0 : Int))) rfl) ⟨rfl, rfl⟩) ?_
  refine WalkC.look rfl (fun _ => .bool (true)) (fun _ _ _ => rfl) (fun q r uw hlo hhi hle hF => ?_) ?_
  · skip
    have h1 : 1 ≤ q := hlo 0 2 rfl rfl
    have h2 : q ≤ 1 := hhi 1 14 rfl rfl
    rcases (show q = 1 by omega) with rfl
    · skip
      obtain ⟨e2, hX, HH⟩ := hF
      dsimp only
      rw [e2]
      exact Gives.run rfl ((r_eqlI (a := (0 : Int)) (b := (0 : Int)) rfl rfl).as (v' := .bool (true)) (by rfl)) ⟨rfl, rfl⟩
  refine WalkC.look rfl (fun _ => .bool (true)) (fun _ _ _ => rfl) (fun q r uw _ _ _ _ => Gives.run rfl (r_move (v := .bool (true)) rfl) ⟨rfl, rfl⟩) ?_
  refine WalkC.look rfl (fun _ => .nilIface) (fun _ _ _ => rfl) (fun q r uw _ _ _ _ => Gives.runW (wantedSome (d' := 138) (b := true) rfl rfl rfl) (r_move (v := .nilIface) rfl) ⟨rfl, rfl⟩) ?_
  refine WalkC.look rfl (fun _ => .bool (true)) (fun _ _ _ => rfl) (fun q r uw _ _ _ _ => Gives.runW (wantedSome (d' := 138) (b := true) rfl rfl rfl) (r_eqlNN isI28 rfl rfl) ⟨rfl, rfl⟩) ?_
  refine WalkC.look rfl (fun _ => i64 ((0 : Int))) (fun _ _ _ => rfl) (fun q r uw _ _ _ _ => Gives.runW (wantedSome (d' := 138) (b := true) rfl rfl rfl) (r_move (v := i64 ((0 : Int))) rfl) ⟨rfl, rfl⟩) ?_
  refine WalkC.look rfl (fun _ => .bool (true)) (fun _ _ _ => rfl) (fun q r uw _ _ _ _ => Gives.runW (wantedSome (d' := 138) (b := true) rfl rfl rfl) ((r_eqlI (a := (0 : Int)) (b := (0 : Int)) rfl rfl).as (v' := .bool (true)) (by rfl)) ⟨rfl, rfl⟩) ?_
  refine WalkC.look rfl (fun _ => .bool (true)) (fun _ _ _ => rfl) (fun q r uw _ _ _ _ => Gives.runW (wantedSome (d' := 138) (b := true) rfl rfl rfl) ((r_eqlB und4 (a := true) (b := true) rfl rfl).as (v' := .bool (true)) (by rfl)) ⟨rfl, rfl⟩) ?_
  refine WalkC.look rfl (fun _ => .bool (true)) (fun _ _ _ => rfl) (fun q r uw _ _ _ _ => Gives.run rfl (r_pickT (u := .bool (true)) rfl rfl) ⟨rfl, rfl⟩) ?_
  refine WalkC.look rfl (fun _ => .bool (true)) (fun _ _ _ => rfl) (fun q r uw _ _ _ _ => Gives.run rfl (r_move (v := .bool (true)) rfl) ⟨rfl, rfl⟩) ?_
  refine WalkC.look rfl (fun _ => .pointer (some ⟨b, 0, none⟩)) (fun _ _ _ => rfl) (fun q r uw _ _ _ _ => Gives.runW (wantedSome (d' := 145) (b := true) rfl rfl rfl) (r_move (v := .pointer (some ⟨b, 0, none⟩)) rfl) ⟨rfl, rfl⟩) ?_
  refine WalkC.eff 1 rfl (fun r uw35 hF37 => ?_) ?_
  · skip
    obtain ⟨e2, hX, H36⟩ := hF37
    dsimp only [List.take, List.map, List.cons_append, List.nil_append]
    rw [e2]
    refine Gives.ofW (d := 147) rfl rfl (fun Q' hK => ?_)
    refine caAny (wantedSome (d' := 145) (b := true) rfl rfl rfl) (Enters.callL (vs := [.pointer (some ⟨b, 0, none⟩), i64 ((0 : Int))]) call15 rfl) (len_0 b a o uw35 (H36.get (k := 6) rfl)) ?_
    rintro _ w38 ⟨rfl, hE39⟩
    have H40 := H36.ext hE39
    exact hK _ _ ⟨rfl, rfl, (hX.trans hE39), H40⟩
  refine WalkC.look rfl (fun _ => .pointer (some ⟨b1, 0, none⟩)) (fun _ _ _ => rfl) (fun q r uw _ _ _ _ => Gives.runW (wantedSome (d' := 145) (b := true) rfl rfl rfl) (r_fieldAddr (off' := 0) fld42_0 (by decide) (b := b1) (off := 0) rfl (by omega)) ⟨rfl, rfl⟩) ?_
  refine WalkC.look rfl (fun _ => .pointer (some ⟨b1, 0, none⟩)) (fun _ _ _ => rfl) (fun q r uw _ _ _ _ => Gives.runW (wantedSome (d' := 145) (b := true) rfl rfl rfl) (r_indexA (off' := 0) (j := 0) arr40 (b := b1) (off := 0) rfl rfl (by first | rfl | omega | (simp; omega)) (by omega) (by omega)) ⟨rfl, rfl⟩) ?_
  refine WalkC.look rfl (fun _ => .slice (ownA ka) la.length ca) (fun _ _ _ => rfl) (fun q r uw hlo hhi hle hF => ?_) ?_
  · skip
    have h1 : 1 ≤ q := hlo 0 2 rfl rfl
    have h2 : q ≤ 2 := hhi 2 23 rfl rfl
    rcases (show q = 1 ∨ q = 2 by omega) with rfl | rfl
    · skip
      obtain ⟨e2, hX, HH⟩ := hF
      exact Gives.runW (wantedSome (d' := 145) (b := true) rfl rfl rfl) (r_loadC (v := .slice (ownA ka) la.length ca) one39 (HH.get (k := 3) rfl) (off := 0) rfl (by rfl)) ⟨rfl, rfl⟩
    · skip
      obtain ⟨e2, e14, hX, HH⟩ := hF
      exact Gives.runW (wantedSome (d' := 145) (b := true) rfl rfl rfl) (r_loadC (v := .slice (ownA ka) la.length ca) one39 (HH.get (k := 3) rfl) (off := 0) rfl (by rfl)) ⟨rfl, rfl⟩
  refine WalkC.look rfl (fun _ => i64 ((la.length : Nat))) (fun _ _ _ => rfl) (fun q r uw _ _ _ _ => Gives.runW (wantedSome (d' := 145) (b := true) rfl rfl rfl) (r_lenS sli39 (a := ownA ka) (m := la.length) (c := ca) rfl) ⟨rfl, rfl⟩) ?_
  refine WalkC.look rfl (fun _ => .bool (true)) (fun _ _ _ => rfl) (fun q r uw hlo hhi hle hF => ?_) ?_
  · skip
    have h1 : 2 ≤ q := hlo 1 14 rfl rfl
    have h2 : q ≤ 2 := hhi 2 23 rfl rfl
    rcases (show q = 2 by omega) with rfl
    · skip
      obtain ⟨e2, e14, hX, HH⟩ := hF
      dsimp only
      rw [e14]
      exact Gives.runW (wantedSome (d' := 145) (b := true) rfl rfl rfl) ((r_eqlI (a := (a.fs.length : Nat)) (b := (la.length : Nat)) rfl rfl).as (v' := .bool (true)) (by exact congrArg Value.bool (decide_eq_true (by first | exact congrArg (fun q : Nat => (q : Int)) hlA | exact congrArg (fun q : Nat => (q : Int)) hlO)))) ⟨rfl, rfl⟩
  refine WalkC.look rfl (fun _ => .bool (true)) (fun _ _ _ => rfl) (fun q r uw _ _ _ _ => Gives.run rfl (r_pickT (u := .bool (true)) rfl rfl) ⟨rfl, rfl⟩) ?_
  refine WalkC.look rfl (fun _ => .bool (true)) (fun _ _ _ => rfl) (fun q r uw _ _ _ _ => Gives.run rfl (r_move (v := .bool (true)) rfl) ⟨rfl, rfl⟩) ?_
  refine WalkC.look rfl (fun _ => .pointer (some ⟨b, 0, none⟩)) (fun _ _ _ => rfl) (fun q r uw _ _ _ _ => Gives.runW (wantedSome (d' := 154) (b := true) rfl rfl rfl) (r_move (v := .pointer (some ⟨b, 0, none⟩)) rfl) ⟨rfl, rfl⟩) ?_
  refine WalkC.eff 2 rfl (fun r uw41 hF43 => ?_) ?_
  · skip
    obtain ⟨e2, e14, hX, H42⟩ := hF43
    dsimp only [List.take, List.map, List.cons_append, List.nil_append]
    rw [e2, e14]
    refine Gives.ofW (d := 156) rfl rfl (fun Q' hK => ?_)
    refine caAny (wantedSome (d' := 154) (b := true) rfl rfl rfl) (Enters.callL (vs := [.pointer (some ⟨b, 0, none⟩), i64 ((1 : Int))]) call15 rfl) (len_1 b o a uw41 (H42.get (k := 6) rfl)) ?_
    rintro _ w44 ⟨rfl, hE45⟩
    have H46 := H42.ext hE45
    exact hK _ _ ⟨rfl, rfl, rfl, (hX.trans hE45), H46⟩
  refine WalkC.look rfl (fun _ => .pointer (some ⟨b1, 0, none⟩)) (fun _ _ _ => rfl) (fun q r uw _ _ _ _ => Gives.runW (wantedSome (d' := 154) (b := true) rfl rfl rfl) (r_fieldAddr (off' := 0) fld42_0 (by decide) (b := b1) (off := 0) rfl (by omega)) ⟨rfl, rfl⟩) ?_
  refine WalkC.look rfl (fun _ => .pointer (some ⟨b1, 1, none⟩)) (fun _ _ _ => rfl) (fun q r uw _ _ _ _ => Gives.runW (wantedSome (d' := 154) (b := true) rfl rfl rfl) (r_indexA (off' := 1) (j := 1) arr40 (b := b1) (off := 0) rfl rfl (by first | rfl | omega | (simp; omega)) (by omega) (by omega)) ⟨rfl, rfl⟩) ?_
  refine WalkC.look rfl (fun _ => .slice (ownA ko) lo.length co) (fun _ _ _ => rfl) (fun q r uw hlo hhi hle hF => ?_) ?_
  · skip
    have h1 : 2 ≤ q := hlo 1 14 rfl rfl
    have h2 : q ≤ 4 := hle
    rcases (show q = 2 ∨ q = 3 ∨ q = 4 by omega) with rfl | rfl | rfl
    · skip
      obtain ⟨e2, e14, hX, HH⟩ := hF
      exact Gives.runW (wantedSome (d' := 154) (b := true) rfl rfl rfl) (r_loadC (v := .slice (ownA ko) lo.length co) one39 (HH.get (k := 3) rfl) (off := 1) rfl (by rfl)) ⟨rfl, rfl⟩
    · skip
      obtain ⟨e2, e14, e23, hX, HH⟩ := hF
      exact Gives.runW (wantedSome (d' := 154) (b := true) rfl rfl rfl) (r_loadC (v := .slice (ownA ko) lo.length co) one39 (HH.get (k := 3) rfl) (off := 1) rfl (by rfl)) ⟨rfl, rfl⟩
    · skip
      obtain ⟨e2, e14, e23, e30, hX, HH⟩ := hF
      exact Gives.runW (wantedSome (d' := 154) (b := true) rfl rfl rfl) (r_loadC (v := .slice (ownA ko) lo.length co) one39 (HH.get (k := 3) rfl) (off := 1) rfl (by rfl)) ⟨rfl, rfl⟩
  refine WalkC.look rfl (fun _ => i64 ((lo.length : Nat))) (fun _ _ _ => rfl) (fun q r uw _ _ _ _ => Gives.runW (wantedSome (d' := 154) (b := true) rfl rfl rfl) (r_lenS sli39 (a := ownA ko) (m := lo.length) (c := co) rfl) ⟨rfl, rfl⟩) ?_
  refine WalkC.look rfl (fun _ => .bool (true)) (fun _ _ _ => rfl) (fun q r uw hlo hhi hle hF => ?_) ?_
  · skip
    have h1 : 3 ≤ q := hlo 2 23 rfl rfl
    have h2 : q ≤ 4 := hle
    rcases (show q = 3 ∨ q = 4 by omega) with rfl | rfl
    · skip
      obtain ⟨e2, e14, e23, hX, HH⟩ := hF
      dsimp only
      rw [e23]
      exact Gives.runW (wantedSome (d' := 154) (b := true) rfl rfl rfl) ((r_eqlI (a := (o.fs.length : Nat)) (b := (lo.length : Nat)) rfl rfl).as (v' := .bool (true)) (by exact congrArg Value.bool (decide_eq_true (by first | exact congrArg (fun q : Nat => (q : Int)) hlA | exact congrArg (fun q : Nat => (q : Int)) hlO)))) ⟨rfl, rfl⟩
    · skip
      obtain ⟨e2, e14, e23, e30, hX, HH⟩ := hF
      dsimp only
      rw [e23]
      exact Gives.runW (wantedSome (d' := 154) (b := true) rfl rfl rfl) ((r_eqlI (a := (o.fs.length : Nat)) (b := (lo.length : Nat)) rfl rfl).as (v' := .bool (true)) (by exact congrArg Value.bool (decide_eq_true (by first | exact congrArg (fun q : Nat => (q : Int)) hlA | exact congrArg (fun q : Nat => (q : Int)) hlO)))) ⟨rfl, rfl⟩
  refine WalkC.look rfl (fun _ => .bool (true)) (fun _ _ _ => rfl) (fun q r uw _ _ _ _ => Gives.run rfl (r_pickT (u := .bool (true)) rfl rfl) ⟨rfl, rfl⟩) ?_
  refine WalkC.eff 3 rfl (fun r uw47 hF49 => ?_) ?_
  · skip
    obtain ⟨e2, e14, e23, hX, H48⟩ := hF49
    dsimp only [List.take, List.map, List.cons_append, List.nil_append]
    rw [e2, e14, e23]
    refine Gives.ofW0 rfl (fun Q' hK => ?_)
    refine d_store (k := 1) (v := .agg #[.slice (ownA ka) la.length ca, .slice (ownA ko) lo.length co]) (cs' := #[.slice (ownA ka) la.length ca, .slice (ownA ko) lo.length co]) H48 rfl rfl rfl siz42 (by rfl) (by intro u hu; simp [Value.cells] at hu; first | (subst hu; rfl) | (rcases hu with rfl | rfl <;> rfl)) (by exact Nat.le_of_ble_eq_true rfl) (by rfl) ?_
    intro w50 H51 hC52
    have H51' := H51.as (L' := ((key19, sob E8 5 f13.bs sp21) :: (some b9, .cells #[.slice (ownA ka) la.length ca, .slice (ownA ko) lo.length co] 42 (0, 0)) :: (some b5, .cells #[i64 (kd), i64 ((0 : Int)), i64 ((i : Nat)), i64 (bit), .slice fa bs.length fc] 69 (0, 0)) :: (some b1, .cells #[.slice (ownA ka) la.length ca, .slice (ownA ko) lo.length co] 42 (0, 0)) :: (ka, sob ET 9 la spa) :: (ko, sob ET 9 lo spo) :: (some b, .cells (nv false a o) 76 (0, 0)) :: (a.key, sob ES 30 (svs a.fs) a.sp) :: (o.key, sob ES 30 (svs o.fs) o.sp) :: (frs 5 a.fs ++ (frs 5 o.fs ++ X)))) rfl
    clear H51
    exact hK _ (fun _ => ⟨rfl, rfl, rfl, trivial, ((Ext.chg hX).trans hC52), H51'⟩)
  refine WalkC.look rfl (fun _ => .bool (true)) (fun _ _ _ => rfl) (fun q r uw _ _ _ _ => Gives.run rfl (r_assign (v := .bool (true)) rfl) ⟨rfl, rfl⟩) ?_
  refine WalkC.nil ?_
  intro r53 w54 hF56
  obtain ⟨e2, e14, e23, e30, hX, H55⟩ := hF56
  dsimp only
  rw [e2, e14, e23]
  refine wnil ?_
  refine thenNormal ?_
  refine retAny ?_
  refine retG (rs := [.cell 6 42, .tmp 7]) (vs := [.agg #[.slice (ownA ka) la.length ca, .slice (ownA ko) lo.length co], .bool (true)]) rfl ⟨r_loadA (cs' := #[.slice (ownA ka) la.length ca, .slice (ownA ko) lo.length co]) agg42 siz42 (H55.get (k := 1) rfl) (off := 0) rfl (by exact Nat.le_of_ble_eq_true rfl) (by rfl), ⟨rfl, rfl⟩, trivial⟩ ?_
  have H57 := ((((H55.dropk 3).dropk 2).dropk 1).dropk 0)
  have H58 := Hp.toR [(ka, sob ET 9 la spa), (ko, sob ET 9 lo spo)] (F := frs 5 a.fs) (G := frs 5 o.fs) (X := X) H57
  exact ⟨_, rfl, a, ka, ca, spa, la, rfl, ha, hSa, hea, hla, by intro q hq; exact hza q hq, H58⟩

theorem play_at_1 (b : Nat) (a o : Wy) (ha : a.ok) (ho : o.ok) (ka ko : Option Nat) (ca co : Nat) (spa spo : List Value) (la lo : List (List (BitVec 8))) (hSa : Sl ET ka la ca spa) (hSo : Sl ET ko lo co spo) (hea : bss a.fs = la) (heo : bss o.fs = lo) (hla : la.length ≤ 64) (hza : ∀ q ∈ la, q.length ≤ 140737488351232) (X : List (Option Nat × Obj)) (fa : Option Addr) (fc : Nat) (bs : List (BitVec 8)) (hbl : bs.length ≤ 140737488351232) (kd : Int) (hk1 : kd ≠ 1) (hk2 : kd ≠ 2) (hk3 : kd ≠ 3) (hk4 : kd ≠ 4) (hk5 : kd ≠ 5) (i : Nat) (hi : i < la.length) (bit : Int) (w₀ w : World) (hG : Gl w₀) (hFr : Rd E8 w₀ fa bs) (H : Hp No w₀ w ((some b, .cells (nv true a o) 76 (0, 0)) :: (a.key, sob ES 30 (svs a.fs) a.sp) :: (o.key, sob ES 30 (svs o.fs) o.sp) :: (frs 5 a.fs ++ (frs 5 o.fs ++ ((ka, sob ET 9 la spa) :: (ko, sob ET 9 lo spo) :: X)))))  : Calls Tryd.prog 31 [.pointer (some ⟨b, 0, none⟩), .agg #[.slice (ownA ko) lo.length co, .slice (ownA ka) la.length ca], .agg #[i64 (kd), i64 ((1 : Int)), i64 ((i : Nat)), i64 (bit), .slice fa bs.length fc]].toArray w (Ret fun v w' => ∃ (a' : Wy) (ka' : Option Nat) (ca' : Nat) (spa' : List Value) (la' : List (List (BitVec 8))), v = .tuple #[.agg #[.slice (ownA ko) lo.length co, .slice (ownA ka') la'.length ca'], .bool true] ∧ a'.ok ∧ Sl ET ka' la' ca' spa' ∧ bss a'.fs = la' ∧ la'.length ≤ 64 ∧ (∀ q ∈ la', q.length ≤ 140737488351232) ∧ Hp No w₀ w' ((some b, .cells (nv true a' o) 76 (0, 0)) :: (a'.key, sob ES 30 (svs a'.fs) a'.sp) :: (o.key, sob ES 30 (svs o.fs) o.sp) :: (frs 5 a'.fs ++ (frs 5 o.fs ++ ((ka', sob ET 9 la' spa') :: (ko, sob ET 9 lo spo) :: X))))) := by
  have hzi : (la.getD i []).length ≤ 140737488351232 := hza _ (getD_mem hi)
  have H := (Hp.fromR [(ka, sob ET 9 la spa), (ko, sob ET 9 lo spo)] (F := frs 5 a.fs) (G := frs 5 o.fs) (X := X) H)
  refine enter (n := 163) Tryd.func31 rfl rfl (Nat.le_of_ble_eq_true rfl) ?_
  refine seqRegion ?_
  refine q_box (v := .agg #[.slice (ownA ko) lo.length co, .slice (ownA ka) la.length ca]) (o := .cells #[.slice (ownA ko) lo.length co, .slice (ownA ka) la.length ca] 42 (0, 0)) H rfl (by rfl) ?_
  intro b1 w2 hb1 H3 hE4
  refine q_box (v := .agg #[i64 (kd), i64 ((1 : Int)), i64 ((i : Nat)), i64 (bit), .slice fa bs.length fc]) (o := .cells #[i64 (kd), i64 ((1 : Int)), i64 ((i : Nat)), i64 (bit), .slice fa bs.length fc] 69 (0, 0)) H3 rfl (by rfl) ?_
  intro b5 w6 hb5 H7 hE8
  refine q_alloc (o := .cells #[.slice none 0 0, .slice none 0 0] 42 (0, 0)) H7 zer42 (by kernel_rfl) ?_
  intro b9 w10 hb9 H11 hE12
  refine sq (r_assign (v := .bool (false)) rfl) ?_
  refine wend ?_
  refine seqRegion ?_
  refine sq (r_assign (v := .nilIface) rfl) ?_
  refine wend ?_
  refine seqRegion ?_
  refine sq (r_assign (v := i64 ((0 : Int))) rfl) ?_
  refine wend ?_
  refine seqAny ?_
  refine seqRegion ?_
  refine sq (r_fieldAddr (off' := 0) fld69_0 (by decide) (b := b5) (off := 0) rfl (by omega)) ?_
  refine sq (r_loadC (v := i64 (kd)) one3 (H11.get (k := 1) rfl) (off := 0) rfl (by rfl)) ?_
  refine wend ?_
  refine blockAny ?_
  refine seqRegion ?_
  refine sq ((r_eqlI (a := kd) (b := (1 : Int)) rfl rfl).as (v' := .bool (false)) (by simp [hk1])) ?_
  refine sq (r_assign (v := .bool (false)) rfl) ?_
  refine wend ?_
  refine condFalse rfl ?_
  refine seqAny ?_
  refine seqRegion ?_
  refine sq ((r_eqlI (a := kd) (b := (2 : Int)) rfl rfl).as (v' := .bool (false)) (by simp [hk2])) ?_
  refine sq (r_assign (v := .bool (false)) rfl) ?_
  refine wend ?_
  refine condFalse rfl ?_
  refine oneRegion ?_
  refine sq ((r_eqlI (a := kd) (b := (3 : Int)) rfl rfl).as (v' := .bool (false)) (by simp [hk3])) ?_
  refine sq (r_assign (v := .bool (false)) rfl) ?_
  refine wnil ?_
  refine thenNormal ?_
  refine condFalse rfl ?_
  refine seqRegion ?_
  refine sq ((r_eqlI (a := kd) (b := (4 : Int)) rfl rfl).as (v' := .bool (false)) (by simp [hk4])) ?_
  refine sq (r_assign (v := .bool (false)) rfl) ?_
  refine wend ?_
  refine condFalse rfl ?_
  refine seqRegion ?_
  refine sq ((r_eqlI (a := kd) (b := (5 : Int)) rfl rfl).as (v' := .bool (false)) (by simp [hk5])) ?_
  refine sq (r_assign (v := .bool (false)) rfl) ?_
  refine wend ?_
  refine condFalse rfl ?_
  refine seqRegion ?_
  refine sq (r_assign (v := .slice none 0 0) rfl) ?_
  refine wend ?_
  refine seqRegion ?_
  refine sq (r_assign (v := .string ({data := #[]})) rfl) ?_
  refine wend ?_
  refine seqRegion ?_
  refine sq (r_move (v := .pointer (some ⟨b, 0, none⟩)) rfl) ?_
  refine sq (r_fieldAddr (off' := 1) fld69_1 (by decide) (b := b5) (off := 0) rfl (by omega)) ?_
  refine sq (r_loadC (v := i64 ((1 : Int))) one3 (H11.get (k := 1) rfl) (off := 1) rfl (by rfl)) ?_
  refine sq (r_fieldAddr (off' := 2) fld69_2 (by decide) (b := b5) (off := 0) rfl (by omega)) ?_
  refine sq (r_loadC (v := i64 ((i : Nat))) one3 (H11.get (k := 1) rfl) (off := 2) rfl (by rfl)) ?_
  obtain ⟨f13, hf14, hfb15⟩ := bss_at (F := a.fs) (i := i) (b := la.getD i []) (by rw [hea]; simp [hi])
  have fok16 := ha.each _ (List.mem_of_getElem? hf14)
  have hif13 := (List.getElem?_eq_some_iff.1 hf14).1
  refine c_call (vs := [.pointer (some ⟨b, 0, none⟩), i64 ((1 : Int)), i64 ((i : Nat))]) call20 rfl (at_hit true b a o w10 i hif13 f13 hf14 (by rw [hfb15]; omega) (H11.get (k := 5) rfl) (H11.rd (k := 6) rfl ha.sl) (H11.rdF (T := 5) fok16 (List.mem_cons_of_mem _ (List.mem_cons_of_mem _ (List.mem_cons_of_mem _ (List.mem_cons_of_mem _ (List.mem_cons_of_mem _ (List.mem_cons_of_mem _ (List.mem_cons_of_mem _ (List.mem_cons_of_mem _ (List.mem_append_left _ (frs_mem hf14)))))))))))) ?_
  rintro _ w17 ⟨⟨key19, c20, sp21, rfl, hS22, hk23⟩, hE24⟩
  have H25 := H11.add hE24 hk23
  refine sq (r_move (v := .tuple #[.slice (ownA key19) f13.bs.length c20, .nilIface]) rfl) ?_
  refine sq (r_extract (vs := #[.slice (ownA key19) f13.bs.length c20, .nilIface]) rfl rfl) ?_
  refine sq (r_extract (vs := #[.slice (ownA key19) f13.bs.length c20, .nilIface]) rfl rfl) ?_
  refine sq (r_assign (v := .slice (ownA key19) f13.bs.length c20) rfl) ?_
  refine sq (r_assign (v := .nilIface) rfl) ?_
  refine wend ?_
  refine seqRegion ?_
  refine sq (r_loadA (cs' := #[.slice (ownA ko) lo.length co, .slice (ownA ka) la.length ca]) agg42 siz42 (H25.get (k := 3) rfl) (off := 0) rfl (by exact Nat.le_of_ble_eq_true rfl) (by rfl)) ?_
  refine sq (r_fieldAddr (off' := 1) fld69_1 (by decide) (b := b5) (off := 0) rfl (by omega)) ?_
  refine sq (r_loadC (v := i64 ((1 : Int))) one3 (H25.get (k := 2) rfl) (off := 1) rfl (by rfl)) ?_
  refine sq (r_fieldAddr (off' := 2) fld69_2 (by decide) (b := b5) (off := 0) rfl (by omega)) ?_
  refine sq (r_loadC (v := i64 ((i : Nat))) one3 (H25.get (k := 2) rfl) (off := 2) rfl (by rfl)) ?_
  refine c_call (vs := [.agg #[.slice (ownA ko) lo.length co, .slice (ownA ka) la.length ca], i64 ((1 : Int)), i64 ((i : Nat))]) call39 rfl (rat_hit_1 la (ownA ka) (ownA ko) ca lo.length co w17 i hi (H25.rd (k := 4) rfl hSa)) ?_
  rintro _ w26 ⟨rfl, hE27⟩
  have H28 := H25.ext hE27
  refine sq (r_move (v := .tuple #[.string (strB (la.getD i [])), i64 ((0 : Int))]) rfl) ?_
  refine sq (r_extract (vs := #[.string (strB (la.getD i [])), i64 ((0 : Int))]) rfl rfl) ?_
  refine sq (r_extract (vs := #[.string (strB (la.getD i [])), i64 ((0 : Int))]) rfl rfl) ?_
  refine sq (r_assign (v := .string (strB (la.getD i []))) rfl) ?_
  refine sq (r_assign (v := i64 ((0 : Int))) rfl) ?_
  refine wend ?_
  refine seqRegion ?_
  refine sq (r_move (v := .slice (ownA key19) f13.bs.length c20) rfl) ?_
  refine sq (r_toStr (l := f13.bs) und30 und5 und9 (H28.rd (k := 0) rfl hS22) rfl (by rfl)) ?_
  refine sq (r_move (v := .string (strB (la.getD i []))) rfl) ?_
  refine sq ((r_neqStr (s := strB f13.bs) (s' := strB (la.getD i [])) rfl rfl).as (v' := .bool (false)) (by rw [hfb15]; simp)) ?_
  refine wend ?_
  refine condFalse rfl ?_
  refine skipAny ?_
  refine blockNormal ?_
  refine thenNormal ?_
  refine seqAny ?_
  have hlA : a.fs.length = (la).length := by have h := congrArg List.length (show bss a.fs = la from hea); rwa [bss_len] at h
  have hlO : o.fs.length = lo.length := by have h := congrArg List.length heo; rwa [bss_len] at h
  refine drawC (m := 32) [0, 0, 2, 0, 14, 30, 62, 126, 62, 318, 1022, 2046, 4094, 8190, 16382, 8190, 40958, 106494, 237566, 524286, 1048574, 2097150, 4194302, 8388606, 4194302, 20971518, 54525950, 121634814, 268435454, 536870910, 16777215, 2147483647] [2, 14, 23, 30] (fun q vs w' => match q, vs with | 0, [] => Ext w26 w' ∧ Hp No w₀ w' ((key19, sob E8 5 f13.bs sp21) :: (some b9, .cells #[.slice none 0 0, .slice none 0 0] 42 (0, 0)) :: (some b5, .cells #[i64 (kd), i64 ((1 : Int)), i64 ((i : Nat)), i64 (bit), .slice fa bs.length fc] 69 (0, 0)) :: (some b1, .cells #[.slice (ownA ko) lo.length co, .slice (ownA ka) la.length ca] 42 (0, 0)) :: (ka, sob ET 9 la spa) :: (ko, sob ET 9 lo spo) :: (some b, .cells (nv true a o) 76 (0, 0)) :: (a.key, sob ES 30 (svs a.fs) a.sp) :: (o.key, sob ES 30 (svs o.fs) o.sp) :: (frs 5 a.fs ++ (frs 5 o.fs ++ X))) | 1, [v0] => v0 = i64 ((0 : Int)) ∧ Ext w26 w' ∧ Hp No w₀ w' ((key19, sob E8 5 f13.bs sp21) :: (some b9, .cells #[.slice none 0 0, .slice none 0 0] 42 (0, 0)) :: (some b5, .cells #[i64 (kd), i64 ((1 : Int)), i64 ((i : Nat)), i64 (bit), .slice fa bs.length fc] 69 (0, 0)) :: (some b1, .cells #[.slice (ownA ko) lo.length co, .slice (ownA ka) la.length ca] 42 (0, 0)) :: (ka, sob ET 9 la spa) :: (ko, sob ET 9 lo spo) :: (some b, .cells (nv true a o) 76 (0, 0)) :: (a.key, sob ES 30 (svs a.fs) a.sp) :: (o.key, sob ES 30 (svs o.fs) o.sp) :: (frs 5 a.fs ++ (frs 5 o.fs ++ X))) | 2, [v0, v1] => v0 = i64 ((0 : Int)) ∧ v1 = i64 ((o.fs.length : Nat)) ∧ Ext w26 w' ∧ Hp No w₀ w' ((key19, sob E8 5 f13.bs sp21) :: (some b9, .cells #[.slice none 0 0, .slice none 0 0] 42 (0, 0)) :: (some b5, .cells #[i64 (kd), i64 ((1 : Int)), i64 ((i : Nat)), i64 (bit), .slice fa bs.length fc] 69 (0, 0)) :: (some b1, .cells #[.slice (ownA ko) lo.length co, .slice (ownA ka) la.length ca] 42 (0, 0)) :: (ka, sob ET 9 la spa) :: (ko, sob ET 9 lo spo) :: (some b, .cells (nv true a o) 76 (0, 0)) :: (a.key, sob ES 30 (svs a.fs) a.sp) :: (o.key, sob ES 30 (svs o.fs) o.sp) :: (frs 5 a.fs ++ (frs 5 o.fs ++ X))) | 3, [v0, v1, v2] => v0 = i64 ((0 : Int)) ∧ v1 = i64 ((o.fs.length : Nat)) ∧ v2 = i64 ((a.fs.length : Nat)) ∧ Ext w26 w' ∧ Hp No w₀ w' ((key19, sob E8 5 f13.bs sp21) :: (some b9, .cells #[.slice none 0 0, .slice none 0 0] 42 (0, 0)) :: (some b5, .cells #[i64 (kd), i64 ((1 : Int)), i64 ((i : Nat)), i64 (bit), .slice fa bs.length fc] 69 (0, 0)) :: (some b1, .cells #[.slice (ownA ko) lo.length co, .slice (ownA ka) la.length ca] 42 (0, 0)) :: (ka, sob ET 9 la spa) :: (ko, sob ET 9 lo spo) :: (some b, .cells (nv true a o) 76 (0, 0)) :: (a.key, sob ES 30 (svs a.fs) a.sp) :: (o.key, sob ES 30 (svs o.fs) o.sp) :: (frs 5 a.fs ++ (frs 5 o.fs ++ X))) | 4, [v0, v1, v2, _] => v0 = i64 ((0 : Int)) ∧ v1 = i64 ((o.fs.length : Nat)) ∧ v2 = i64 ((a.fs.length : Nat)) ∧ True ∧ Chg (· = b9) w26 w' ∧ Hp No w₀ w' ((key19, sob E8 5 f13.bs sp21) :: (some b9, .cells #[.slice (ownA ko) lo.length co, .slice (ownA ka) la.length ca] 42 (0, 0)) :: (some b5, .cells #[i64 (kd), i64 ((1 : Int)), i64 ((i : Nat)), i64 (bit), .slice fa bs.length fc] 69 (0, 0)) :: (some b1, .cells #[.slice (ownA ko) lo.length co, .slice (ownA ka) la.length ca] 42 (0, 0)) :: (ka, sob ET 9 la spa) :: (ko, sob ET 9 lo spo) :: (some b, .cells (nv true a o) 76 (0, 0)) :: (a.key, sob ES 30 (svs a.fs) a.sp) :: (o.key, sob ES 30 (svs o.fs) o.sp) :: (frs 5 a.fs ++ (frs 5 o.fs ++ X))) | _, _ => False) mixed (by kernel_rfl) (by kernel_rfl) ⟨Ext.drew _, H28.drew⟩ ?_
  refine WalkC.look rfl (fun _ => .agg #[.slice (ownA ko) lo.length co, .slice (ownA ka) la.length ca]) (fun _ _ _ => rfl) (fun q r uw hlo hhi hle hF => ?_) ?_
  · skip
    have h1 : 0 ≤ q := Nat.zero_le _
    have h2 : q ≤ 3 := hhi 3 30 rfl rfl
    rcases (show q = 0 ∨ q = 1 ∨ q = 2 ∨ q = 3 by omega) with rfl | rfl | rfl | rfl
    · skip
      obtain ⟨hX, HH⟩ := hF
      exact Gives.run rfl (r_loadA (cs' := #[.slice (ownA ko) lo.length co, .slice (ownA ka) la.length ca]) agg42 siz42 (HH.get (k := 3) rfl) (off := 0) rfl (by exact Nat.le_of_ble_eq_true rfl) (by rfl)) ⟨rfl, rfl⟩
    · skip
      obtain ⟨e2, hX, HH⟩ := hF
      exact Gives.run rfl (r_loadA (cs' := #[.slice (ownA ko) lo.length co, .slice (ownA ka) la.length ca]) agg42 siz42 (HH.get (k := 3) rfl) (off := 0) rfl (by exact Nat.le_of_ble_eq_true rfl) (by rfl)) ⟨rfl, rfl⟩
    · skip
      obtain ⟨e2, e14, hX, HH⟩ := hF
      exact Gives.run rfl (r_loadA (cs' := #[.slice (ownA ko) lo.length co, .slice (ownA ka) la.length ca]) agg42 siz42 (HH.get (k := 3) rfl) (off := 0) rfl (by exact Nat.le_of_ble_eq_true rfl) (by rfl)) ⟨rfl, rfl⟩
    · skip
      obtain ⟨e2, e14, e23, hX, HH⟩ := hF
      exact Gives.run rfl (r_loadA (cs' := #[.slice (ownA ko) lo.length co, .slice (ownA ka) la.length ca]) agg42 siz42 (HH.get (k := 3) rfl) (off := 0) rfl (by exact Nat.le_of_ble_eq_true rfl) (by rfl)) ⟨rfl, rfl⟩
  refine WalkC.look rfl (fun _ => .nilIface) (fun _ _ _ => rfl) (fun q r uw _ _ _ _ => Gives.run rfl (r_move (v := .nilIface) rfl) ⟨rfl, rfl⟩) ?_
  refine WalkC.eff 0 rfl (fun r uw29 hF31 => ?_) ?_
  · skip
    obtain ⟨hX, H30⟩ := hF31
    dsimp only [List.take, List.map, List.cons_append, List.nil_append]
    refine Gives.ofW (d := 135) rfl rfl (fun Q' hK => ?_)
    refine c_call (vs := [.nilIface]) call49 rfl (codenil_ok uw29) ?_
    rintro _ w32 ⟨rfl, hE33⟩
    have H34 := H30.ext hE33
    exact hK _ _ ⟨rfl, (hX.trans hE33), H34⟩
  refine WalkC.look rfl (fun _ => i64 ((0 : Int))) (fun _ _ _ => rfl) (fun q r uw _ _ _ _ => Gives.run rfl (r_move (v := i64 ((0 : Int))) rfl) ⟨rfl, rfl⟩) ?_
  refine WalkC.look rfl (fun _ => .bool (true)) (fun _ _ _ => rfl) (fun q r uw hlo hhi hle hF => ?_) ?_
  · skip
    have h1 : 1 ≤ q := hlo 0 2 rfl rfl
    have h2 : q ≤ 1 := hhi 1 14 rfl rfl
    rcases (show q = 1 by omega) with rfl
    · skip
      obtain ⟨e2, hX, HH⟩ := hF
      dsimp only
      rw [e2]
      exact Gives.run rfl ((r_eqlI (a := (0 : Int)) (b := (0 : Int)) rfl rfl).as (v' := .bool (true)) (by rfl)) ⟨rfl, rfl⟩
  refine WalkC.look rfl (fun _ => .bool (true)) (fun _ _ _ => rfl) (fun q r uw _ _ _ _ => Gives.run rfl (r_move (v := .bool (true)) rfl) ⟨rfl, rfl⟩) ?_
  refine WalkC.look rfl (fun _ => .nilIface) (fun _ _ _ => rfl) (fun q r uw _ _ _ _ => Gives.runW (wantedSome (d' := 138) (b := true) rfl rfl rfl) (r_move (v := .nilIface) rfl) ⟨rfl, rfl⟩) ?_
  refine WalkC.look rfl (fun _ => .bool (true)) (fun _ _ _ => rfl) (fun q r uw _ _ _ _ => Gives.runW (wantedSome (d' := 138) (b := true) rfl rfl rfl) (r_eqlNN isI28 rfl rfl) ⟨rfl, rfl⟩) ?_
  refine WalkC.look rfl (fun _ => i64 ((0 : Int))) (fun _ _ _ => rfl) (fun q r uw _ _ _ _ => Gives.runW (wantedSome (d' := 138) (b := true) rfl rfl rfl) (r_move (v := i64 ((0 : Int))) rfl) ⟨rfl, rfl⟩) ?_
  refine WalkC.look rfl (fun _ => .bool (true)) (fun _ _ _ => rfl) (fun q r uw _ _ _ _ => Gives.runW (wantedSome (d' := 138) (b := true) rfl rfl rfl) ((r_eqlI (a := (0 : Int)) (b := (0 : Int)) rfl rfl).as (v' := .bool (true)) (by rfl)) ⟨rfl, rfl⟩) ?_
  refine WalkC.look rfl (fun _ => .bool (true)) (fun _ _ _ => rfl) (fun q r uw _ _ _ _ => Gives.runW (wantedSome (d' := 138) (b := true) rfl rfl rfl) ((r_eqlB und4 (a := true) (b := true) rfl rfl).as (v' := .bool (true)) (by rfl)) ⟨rfl, rfl⟩) ?_
  refine WalkC.look rfl (fun _ => .bool (true)) (fun _ _ _ => rfl) (fun q r uw _ _ _ _ => Gives.run rfl (r_pickT (u := .bool (true)) rfl rfl) ⟨rfl, rfl⟩) ?_
  refine WalkC.look rfl (fun _ => .bool (true)) (fun _ _ _ => rfl) (fun q r uw _ _ _ _ => Gives.run rfl (r_move (v := .bool (true)) rfl) ⟨rfl, rfl⟩) ?_
  refine WalkC.look rfl (fun _ => .pointer (some ⟨b, 0, none⟩)) (fun _ _ _ => rfl) (fun q r uw _ _ _ _ => Gives.runW (wantedSome (d' := 145) (b := true) rfl rfl rfl) (r_move (v := .pointer (some ⟨b, 0, none⟩)) rfl) ⟨rfl, rfl⟩) ?_
  refine WalkC.eff 1 rfl (fun r uw35 hF37 => ?_) ?_
  · skip
    obtain ⟨e2, hX, H36⟩ := hF37
    dsimp only [List.take, List.map, List.cons_append, List.nil_append]
    rw [e2]
    refine Gives.ofW (d := 147) rfl rfl (fun Q' hK => ?_)
    refine caAny (wantedSome (d' := 145) (b := true) rfl rfl rfl) (Enters.callL (vs := [.pointer (some ⟨b, 0, none⟩), i64 ((0 : Int))]) call15 rfl) (len_0 b o a uw35 (H36.get (k := 6) rfl)) ?_
    rintro _ w38 ⟨rfl, hE39⟩
    have H40 := H36.ext hE39
    exact hK _ _ ⟨rfl, rfl, (hX.trans hE39), H40⟩
  refine WalkC.look rfl (fun _ => .pointer (some ⟨b1, 0, none⟩)) (fun _ _ _ => rfl) (fun q r uw _ _ _ _ => Gives.runW (wantedSome (d' := 145) (b := true) rfl rfl rfl) (r_fieldAddr (off' := 0) fld42_0 (by decide) (b := b1) (off := 0) rfl (by omega)) ⟨rfl, rfl⟩) ?_
  refine WalkC.look rfl (fun _ => .pointer (some ⟨b1, 0, none⟩)) (fun _ _ _ => rfl) (fun q r uw _ _ _ _ => Gives.runW (wantedSome (d' := 145) (b := true) rfl rfl rfl) (r_indexA (off' := 0) (j := 0) arr40 (b := b1) (off := 0) rfl rfl (by first | rfl | omega | (simp; omega)) (by omega) (by omega)) ⟨rfl, rfl⟩) ?_
  refine WalkC.look rfl (fun _ => .slice (ownA ko) lo.length co) (fun _ _ _ => rfl) (fun q r uw hlo hhi hle hF => ?_) ?_
  · skip
    have h1 : 1 ≤ q := hlo 0 2 rfl rfl
    have h2 : q ≤ 2 := hhi 2 23 rfl rfl
    rcases (show q = 1 ∨ q = 2 by omega) with rfl | rfl
    · skip
      obtain ⟨e2, hX, HH⟩ := hF
      exact Gives.runW (wantedSome (d' := 145) (b := true) rfl rfl rfl) (r_loadC (v := .slice (ownA ko) lo.length co) one39 (HH.get (k := 3) rfl) (off := 0) rfl (by rfl)) ⟨rfl, rfl⟩
    · skip
      obtain ⟨e2, e14, hX, HH⟩ := hF
      exact Gives.runW (wantedSome (d' := 145) (b := true) rfl rfl rfl) (r_loadC (v := .slice (ownA ko) lo.length co) one39 (HH.get (k := 3) rfl) (off := 0) rfl (by rfl)) ⟨rfl, rfl⟩
  refine WalkC.look rfl (fun _ => i64 ((lo.length : Nat))) (fun _ _ _ => rfl) (fun q r uw _ _ _ _ => Gives.runW (wantedSome (d' := 145) (b := true) rfl rfl rfl) (r_lenS sli39 (a := ownA ko) (m := lo.length) (c := co) rfl) ⟨rfl, rfl⟩) ?_
  refine WalkC.look rfl (fun _ => .bool (true)) (fun _ _ _ => rfl) (fun q r uw hlo hhi hle hF => ?_) ?_
  · skip
    have h1 : 2 ≤ q := hlo 1 14 rfl rfl
    have h2 : q ≤ 2 := hhi 2 23 rfl rfl
    rcases (show q = 2 by omega) with rfl
    · skip
      obtain ⟨e2, e14, hX, HH⟩ := hF
      dsimp only
      rw [e14]
      exact Gives.runW (wantedSome (d' := 145) (b := true) rfl rfl rfl) ((r_eqlI (a := (o.fs.length : Nat)) (b := (lo.length : Nat)) rfl rfl).as (v' := .bool (true)) (by exact congrArg Value.bool (decide_eq_true (by first | exact congrArg (fun q : Nat => (q : Int)) hlA | exact congrArg (fun q : Nat => (q : Int)) hlO)))) ⟨rfl, rfl⟩
  refine WalkC.look rfl (fun _ => .bool (true)) (fun _ _ _ => rfl) (fun q r uw _ _ _ _ => Gives.run rfl (r_pickT (u := .bool (true)) rfl rfl) ⟨rfl, rfl⟩) ?_
  refine WalkC.look rfl (fun _ => .bool (true)) (fun _ _ _ => rfl) (fun q r uw _ _ _ _ => Gives.run rfl (r_move (v := .bool (true)) rfl) ⟨rfl, rfl⟩) ?_
  refine WalkC.look rfl (fun _ => .pointer (some ⟨b, 0, none⟩)) (fun _ _ _ => rfl) (fun q r uw _ _ _ _ => Gives.runW (wantedSome (d' := 154) (b := true) rfl rfl rfl) (r_move (v := .pointer (some ⟨b, 0, none⟩)) rfl) ⟨rfl, rfl⟩) ?_
  refine WalkC.eff 2 rfl (fun r uw41 hF43 => ?_) ?_
  · skip
    obtain ⟨e2, e14, hX, H42⟩ := hF43
    dsimp only [List.take, List.map, List.cons_append, List.nil_append]
    rw [e2, e14]
    refine Gives.ofW (d := 156) rfl rfl (fun Q' hK => ?_)
    refine caAny (wantedSome (d' := 154) (b := true) rfl rfl rfl) (Enters.callL (vs := [.pointer (some ⟨b, 0, none⟩), i64 ((1 : Int))]) call15 rfl) (len_1 b a o uw41 (H42.get (k := 6) rfl)) ?_
    rintro _ w44 ⟨rfl, hE45⟩
    have H46 := H42.ext hE45
    exact hK _ _ ⟨rfl, rfl, rfl, (hX.trans hE45), H46⟩
  refine WalkC.look rfl (fun _ => .pointer (some ⟨b1, 0, none⟩)) (fun _ _ _ => rfl) (fun q r uw _ _ _ _ => Gives.runW (wantedSome (d' := 154) (b := true) rfl rfl rfl) (r_fieldAddr (off' := 0) fld42_0 (by decide) (b := b1) (off := 0) rfl (by omega)) ⟨rfl, rfl⟩) ?_
  refine WalkC.look rfl (fun _ => .pointer (some ⟨b1, 1, none⟩)) (fun _ _ _ => rfl) (fun q r uw _ _ _ _ => Gives.runW (wantedSome (d' := 154) (b := true) rfl rfl rfl) (r_indexA (off' := 1) (j := 1) arr40 (b := b1) (off := 0) rfl rfl (by first | rfl | omega | (simp; omega)) (by omega) (by omega)) ⟨rfl, rfl⟩) ?_
  refine WalkC.look rfl (fun _ => .slice (ownA ka) la.length ca) (fun _ _ _ => rfl) (fun q r uw hlo hhi hle hF => ?_) ?_
  · skip
    have h1 : 2 ≤ q := hlo 1 14 rfl rfl
    have h2 : q ≤ 4 := hle
    rcases (show q = 2 ∨ q = 3 ∨ q = 4 by omega) with rfl | rfl | rfl
    · skip
      obtain ⟨e2, e14, hX, HH⟩ := hF
      exact Gives.runW (wantedSome (d' := 154) (b := true) rfl rfl rfl) (r_loadC (v := .slice (ownA ka) la.length ca) one39 (HH.get (k := 3) rfl) (off := 1) rfl (by rfl)) ⟨rfl, rfl⟩
    · skip
      obtain ⟨e2, e14, e23, hX, HH⟩ := hF
      exact Gives.runW (wantedSome (d' := 154) (b := true) rfl rfl rfl) (r_loadC (v := .slice (ownA ka) la.length ca) one39 (HH.get (k := 3) rfl) (off := 1) rfl (by rfl)) ⟨rfl, rfl⟩
    · skip
      obtain ⟨e2, e14, e23, e30, hX, HH⟩ := hF
      exact Gives.runW (wantedSome (d' := 154) (b := true) rfl rfl rfl) (r_loadC (v := .slice (ownA ka) la.length ca) one39 (HH.get (k := 3) rfl) (off := 1) rfl (by rfl)) ⟨rfl, rfl⟩
  refine WalkC.look rfl (fun _ => i64 ((la.length : Nat))) (fun _ _ _ => rfl) (fun q r uw _ _ _ _ => Gives.runW (wantedSome (d' := 154) (b := true) rfl rfl rfl) (r_lenS sli39 (a := ownA ka) (m := la.length) (c := ca) rfl) ⟨rfl, rfl⟩) ?_
  refine WalkC.look rfl (fun _ => .bool (true)) (fun _ _ _ => rfl) (fun q r uw hlo hhi hle hF => ?_) ?_
  · skip
    have h1 : 3 ≤ q := hlo 2 23 rfl rfl
    have h2 : q ≤ 4 := hle
    rcases (show q = 3 ∨ q = 4 by omega) with rfl | rfl
    · skip
      obtain ⟨e2, e14, e23, hX, HH⟩ := hF
      dsimp only
      rw [e23]
      exact Gives.runW (wantedSome (d' := 154) (b := true) rfl rfl rfl) ((r_eqlI (a := (a.fs.length : Nat)) (b := (la.length : Nat)) rfl rfl).as (v' := .bool (true)) (by exact congrArg Value.bool (decide_eq_true (by first | exact congrArg (fun q : Nat => (q : Int)) hlA | exact congrArg (fun q : Nat => (q : Int)) hlO)))) ⟨rfl, rfl⟩
    · skip
      obtain ⟨e2, e14, e23, e30, hX, HH⟩ := hF
      dsimp only
      rw [e23]
      exact Gives.runW (wantedSome (d' := 154) (b := true) rfl rfl rfl) ((r_eqlI (a := (a.fs.length : Nat)) (b := (la.length : Nat)) rfl rfl).as (v' := .bool (true)) (by exact congrArg Value.bool (decide_eq_true (by first | exact congrArg (fun q : Nat => (q : Int)) hlA | exact congrArg (fun q : Nat => (q : Int)) hlO)))) ⟨rfl, rfl⟩
  refine WalkC.look rfl (fun _ => .bool (true)) (fun _ _ _ => rfl) (fun q r uw _ _ _ _ => Gives.run rfl (r_pickT (u := .bool (true)) rfl rfl) ⟨rfl, rfl⟩) ?_
  refine WalkC.eff 3 rfl (fun r uw47 hF49 => ?_) ?_
  · skip
    obtain ⟨e2, e14, e23, hX, H48⟩ := hF49
    dsimp only [List.take, List.map, List.cons_append, List.nil_append]
    rw [e2, e14, e23]
    refine Gives.ofW0 rfl (fun Q' hK => ?_)
    refine d_store (k := 1) (v := .agg #[.slice (ownA ko) lo.length co, .slice (ownA ka) la.length ca]) (cs' := #[.slice (ownA ko) lo.length co, .slice (ownA ka) la.length ca]) H48 rfl rfl rfl siz42 (by rfl) (by intro u hu; simp [Value.cells] at hu; first | (subst hu; rfl) | (rcases hu with rfl | rfl <;> rfl)) (by exact Nat.le_of_ble_eq_true rfl) (by rfl) ?_
    intro w50 H51 hC52
    have H51' := H51.as (L' := ((key19, sob E8 5 f13.bs sp21) :: (some b9, .cells #[.slice (ownA ko) lo.length co, .slice (ownA ka) la.length ca] 42 (0, 0)) :: (some b5, .cells #[i64 (kd), i64 ((1 : Int)), i64 ((i : Nat)), i64 (bit), .slice fa bs.length fc] 69 (0, 0)) :: (some b1, .cells #[.slice (ownA ko) lo.length co, .slice (ownA ka) la.length ca] 42 (0, 0)) :: (ka, sob ET 9 la spa) :: (ko, sob ET 9 lo spo) :: (some b, .cells (nv true a o) 76 (0, 0)) :: (a.key, sob ES 30 (svs a.fs) a.sp) :: (o.key, sob ES 30 (svs o.fs) o.sp) :: (frs 5 a.fs ++ (frs 5 o.fs ++ X)))) rfl
    clear H51
    exact hK _ (fun _ => ⟨rfl, rfl, rfl, trivial, ((Ext.chg hX).trans hC52), H51'⟩)
  refine WalkC.look rfl (fun _ => .bool (true)) (fun _ _ _ => rfl) (fun q r uw _ _ _ _ => Gives.run rfl (r_assign (v := .bool (true)) rfl) ⟨rfl, rfl⟩) ?_
  refine WalkC.nil ?_
  intro r53 w54 hF56
  obtain ⟨e2, e14, e23, e30, hX, H55⟩ := hF56
  dsimp only
  rw [e2, e14, e23]
  refine wnil ?_
  refine thenNormal ?_
  refine retAny ?_
  refine retG (rs := [.cell 6 42, .tmp 7]) (vs := [.agg #[.slice (ownA ko) lo.length co, .slice (ownA ka) la.length ca], .bool (true)]) rfl ⟨r_loadA (cs' := #[.slice (ownA ko) lo.length co, .slice (ownA ka) la.length ca]) agg42 siz42 (H55.get (k := 1) rfl) (off := 0) rfl (by exact Nat.le_of_ble_eq_true rfl) (by rfl), ⟨rfl, rfl⟩, trivial⟩ ?_
  have H57 := ((((H55.dropk 3).dropk 2).dropk 1).dropk 0)
  have H58 := Hp.toR [(ka, sob ET 9 la spa), (ko, sob ET 9 lo spo)] (F := frs 5 a.fs) (G := frs 5 o.fs) (X := X) H57
  exact ⟨_, rfl, a, ka, ca, spa, la, rfl, ha, hSa, hea, hla, by intro q hq; exact hza q hq, H58⟩
end Go.Proofs.YtpmmhpgfbfehmaaDoor.Nt
