/- The walks of the links. -/
import Derived.Test.YtpmmhpgfbfehmaaDoorLink6
namespace Go.Proofs.YtpmmhpgfbfehmaaDoor.Lk
open Go Go.Proofs.YtpmmhpgfbfehmaaDoor.Vc Go.Proofs.YtpmmhpgfbfehmaaDoor.Er
set_option linter.unusedVariables false
theorem call18 : callable Tryd.prog 18 = true := by kernel_rfl
theorem call24 : callable Tryd.prog 24 = true := by kernel_rfl
theorem siz5 : siz Tryd.prog 5 = some 1 := by kernel_rfl
theorem linkown_ok (bs : List (BitVec 8)) (fa : Option Addr) (fc : Nat) (hcap : bs.length ≤ fc) (w₀ : World) (hG : Gl w₀) (hFa : Rd E8 w₀ fa bs) (hbl : bs.length ≤ 140737488355328) : Calls Tryd.prog 6 [.slice fa bs.length fc].toArray w₀ (Ret fun v w' => v = .bool true ∧ Ext w₀ w') := by
  have H := Hp.start No w₀
  refine enter (n := 130) Tryd.func6 rfl rfl (Nat.le_of_ble_eq_true rfl) ?_
  refine seqRegion ?_
  refine sq (r_assign (v := .bool (false)) rfl) ?_
  refine wend ?_
  refine seqRegion ?_
  refine c_call (vs := []) call23 rfl (lnew_ok w₀) ?_
  rintro _ w1 ⟨⟨b3, rfl, HN4⟩, hE5⟩
  have okE := en0_ok 5
  have H6 := (H.join HN4).as (L' := ((endR 30 53 89 b3 en0 ++ (([] : List (Option Nat × Obj)) ++ ([] : List (Option Nat × Obj)))))) rfl
  refine c_call (vs := []) call23 rfl (lnew_ok w1) ?_
  rintro _ w7 ⟨⟨b9, rfl, HN10⟩, hE11⟩
  have H13 := (H6.join HN10).as (L' := endR 30 53 89 b9 en0 ++ (endR 30 53 89 b3 en0 ++ ([] : List (Option Nat × Obj)))) rfl
  have H12 := (Hp.mid (X := endR 30 53 89 b9 en0) (A := endR 30 53 89 b3 en0) (Y := ([] : List (Option Nat × Obj))) H13).as (L' := ((endR 30 53 89 b3 en0 ++ (endR 30 53 89 b9 en0 ++ ([] : List (Option Nat × Obj)))))) rfl
  refine sq (r_assign (v := .pointer (some ⟨b3, 0, none⟩)) rfl) ?_
  refine sq (r_assign (v := .pointer (some ⟨b9, 0, none⟩)) rfl) ?_
  refine wend ?_
  refine seqAny ?_
  refine seqRegion ?_
  refine c_call (vs := []) call24 rfl (lawake_ok w7 (Chg.gl H12.chg (fun x => x) hG)) ?_
  rintro _ w14 ⟨rfl, hE15⟩
  have H16 := H12.ext hE15
  refine sq (r_notT rfl) ?_
  refine sq (r_move (v := .bool (false)) rfl) ?_
  refine sqAny (v := .pointer (some ⟨b3, 0, none⟩)) (w' := w14) (wantedSome (d' := 18) (b := false) rfl rfl rfl) (r_move (v := .pointer (some ⟨b3, 0, none⟩)) rfl) ?_
  refine sqAny (v := .bool (false)) (w' := w14) (wantedSome (d' := 18) (b := false) rfl rfl rfl) (r_eqlPN und47 rfl rfl) ?_
  refine sq (r_pickF (v := .bool (false)) rfl rfl) ?_
  refine sq (r_move (v := .bool (false)) rfl) ?_
  refine sqAny (v := .pointer (some ⟨b9, 0, none⟩)) (w' := w14) (wantedSome (d' := 22) (b := false) rfl rfl rfl) (r_move (v := .pointer (some ⟨b9, 0, none⟩)) rfl) ?_
  refine sqAny (v := .bool (false)) (w' := w14) (wantedSome (d' := 22) (b := false) rfl rfl rfl) (r_eqlPN und47 rfl rfl) ?_
  refine sq (r_pickF (v := .bool (false)) rfl rfl) ?_
  refine wend ?_
  refine condFalse rfl ?_
  refine skipAny ?_
  refine thenNormal ?_
  refine seqRegion ?_
  obtain ⟨p, hp⟩ : ∃ p, p = bs.take (min bs.length 1000) := ⟨_, rfl⟩
  have hpl : p.length = min bs.length 1000 := by rw [hp, List.length_take]; omega
  have hp1 : p.length ≤ 1000 := by omega
  have hpR : Rd E8 w₀ fa p := by rw [hp]; exact hFa.take _
  refine sq (r_move (v := .slice fa bs.length fc) rfl) ?_
  refine sq (r_move (v := .slice fa bs.length fc) rfl) ?_
  refine sq (r_lenS sli30 (a := fa) (m := bs.length) (c := fc) rfl) ?_
  refine sq (r_minI (a := (bs.length : Nat)) (b := (1000 : Int)) rfl rfl) ?_
  refine sq (((r_sliceS (l := 0) (h := (min bs.length 1000)) sli30 rfl (.inr ⟨rfl, rfl⟩) (.inl ⟨_, _, _, rfl, rfl, by first | rfl | omega | (simp; omega)⟩) (by omega) (by omega)).as (v' := .slice (if fc = 0 then fa else adr fa (0 * 1)) (min bs.length 1000) (fc - 0)) (by first | rfl | (congr 1; omega) | (simp; omega) | simp)).as (v' := .slice fa p.length fc) (by rw [ite_adr0, hpl]; rfl)) ?_
  refine sq (r_assign (v := .slice fa p.length fc) rfl) ?_
  refine wend ?_
  refine seqRegion ?_
  refine q_buildSlice (E := E8) (l := []) H16 sli30 zer5 (Nat.le_of_ble_eq_true rfl) (ps := []) rfl (by exact fillAll rfl rfl) rfl ?_
  intro b17 w19 hS18 H20 hE21
  refine sq (r_move (v := .slice fa p.length fc) rfl) ?_
  refine q_append (E := E8) (k := 0) (l := []) (l2 := p) H20 rfl hS18 sli30 zer5 rfl byt5 (hpR.ext H20.chg) rfl (by rfl) rfl (by rfl) (by omega) ?_
  intro key22 c23 sp24 w26 hS25 hne28 H27
  have H27' := H27.as (L' := ((key22, sob E8 5 (([]) ++ p) sp24) :: (endR 30 53 89 b3 en0 ++ (endR 30 53 89 b9 en0 ++ ([] : List (Option Nat × Obj)))))) rfl
  clear H27
  have e29 : ([]) ++ p = p := by rw [List.nil_append]
  have hS30 := hS25
  rw [e29] at hS30
  have H31 := H27'.as (L' := ((key22, sob E8 5 p sp24) :: (endR 30 53 89 b3 en0 ++ (endR 30 53 89 b9 en0 ++ ([] : List (Option Nat × Obj)))))) (by rw [e29])
  refine q_buildSlice (E := E8) (l := [7#8]) H31 sli30 zer5 (Nat.le_of_ble_eq_true rfl) (ps := [(0, u8 (7#8))]) rfl (by exact fillAll rfl rfl) rfl ?_
  intro b32 w34 hS33 H35 hE36
  refine q_append (E := E8) (k := 1) (l := p) (l2 := [7#8]) H35 rfl hS30 sli30 zer5 rfl byt5 (H35.rd (k := 0) rfl hS33) rfl (by rw [Nat.zero_add]) rfl (by rfl) (by omega) ?_
  intro key37 c38 sp39 w41 hS40 hne43 H42
  have H42' := H42.as (L' := (((some b32), sob E8 5 ([7#8]) ([])) :: (key37, sob E8 5 (p ++ ([7#8])) sp39) :: (endR 30 53 89 b3 en0 ++ (endR 30 53 89 b9 en0 ++ ([] : List (Option Nat × Obj)))))) rfl
  clear H42
  refine sq (r_assign (v := .slice (ownA key37) ((0 + p.length) + 1) c38) rfl) ?_
  refine wend ?_
  refine seqRegion ?_
  refine sq (r_move (v := .pointer (some ⟨b3, 0, none⟩)) rfl) ?_
  refine sq (r_move (v := .slice (ownA key37) ((0 + p.length) + 1) c38) rfl) ?_
  refine sq (r_move (v := .slice fa p.length fc) rfl) ?_
  refine sq (r_lenS sli30 (a := fa) (m := p.length) (c := fc) rfl) ?_
  refine sq (((r_sliceS (l := 0) (h := p.length) sli30 rfl (.inr ⟨rfl, rfl⟩) (.inl ⟨_, _, _, rfl, rfl, by first | rfl | omega | (simp; omega)⟩) (by have h := hS40.cap; rw [List.length_append] at h; omega) (by have h := hS40.cap; rw [List.length_append, List.length_singleton] at h; omega)).as (v' := .slice (if c38 = 0 then ownA key37 else adr (ownA key37) (0 * 1)) p.length (c38 - 0)) (by first | rfl | (congr 1; omega) | (simp; omega) | simp)).as (v' := .slice (ownA key37) p.length c38) (by rw [ite_adr0]; rfl)) ?_
  have H44 := Hp.mid (X := [((some b32), sob E8 5 ([7#8]) ([])), (key37, sob E8 5 (p ++ ([7#8])) sp39)]) (A := endR 30 53 89 b3 en0) (Y := endR 30 53 89 b9 en0 ++ ([] : List (Option Nat × Obj))) H42'
  refine c_call (vs := [.pointer (some ⟨b3, 0, none⟩), .slice (ownA key37) p.length c38]) call25 rfl (send_ok b3 en0 ([] : List (Option Nat × Obj)) ([((some b32), sob E8 5 ([7#8]) ([])), (key37, sob E8 5 (p ++ ([7#8])) sp39)] ++ (endR 30 53 89 b9 en0 ++ ([] : List (Option Nat × Obj)))) okE (fun x h => List.mem_append_right _ (List.mem_append_right _ h)) w₀ w41 H44 (show (abs en0).dead = false from (congrArg St.dead (rfl : abs en0 = st0)).trans rfl) p (ownA key37) p.length c38 (by rfl) (by have h := Rd.take ((H42'.rd (k := 1) rfl hS40)) p.length; rwa [List.take_left] at h) (by omega) (by rw [← bss_len]; show (abs en0).queue.length < 64; rw [(rfl : abs en0 = st0)]; decide)) ?_
  rintro _ w45 ⟨rfl, e47, X48, HN49, hok50, hab51⟩
  have H52 := Hp.backA (R := [((some b32), sob E8 5 ([7#8]) ([])), (key37, sob E8 5 (p ++ ([7#8])) sp39)]) (A := endR 30 53 89 b3 e47) (B := endR 30 53 89 b9 en0) (X := X48) (F := ([] : List (Option Nat × Obj))) HN49
  obtain ⟨F53, hF54⟩ : ∃ F2, F2 = X48 ++ ([] : List (Option Nat × Obj)) := ⟨_, rfl⟩
  rw [← hF54] at H52 hok50
  have hsub55 : ∀ x ∈ ([] : List (Option Nat × Obj)), x ∈ F53 := fun x h => by rw [hF54]; exact List.mem_append_right _ h
  have ok57 := okE.mono hsub55
  have H56 := H52.as (L' := (((some b32), sob E8 5 ([7#8]) ([])) :: (key37, sob E8 5 (p ++ ([7#8])) sp39) :: (endR 30 53 89 b3 e47 ++ (endR 30 53 89 b9 en0 ++ F53)))) rfl
  have hab58 : abs e47 = (⟨[p], 0#32, 0, 0, 0#32, [], [], false⟩ : St) := by rw [hab51]; rw [(rfl : abs en0 = st0)]; rfl
  refine wend ?_
  refine seqAny ?_
  refine seqAny ?_
  refine drawAny (K := [none, none, none, none, none, none, none, none, none, none, none, none, none, none, none, none]) [0, 0, 2, 7, 15, 31, 63, 127, 127, 383, 1023, 2047, 127, 4223, 16383, 32767] (fun w' => Ext w45 w') (fun w' w'' => Ext w' w'') mixed (by kernel_rfl) (Ext.drew _) (fun _ _ h h' => h.trans h') ?_ ?_
  · exact relNone (by decide)
  refine ⟨.slice (ownA key37) ((0 + p.length) + 1) c38, fun _ uw59 hC60 _ => Gives.run rfl (r_move (v := .slice (ownA key37) ((0 + p.length) + 1) c38) rfl) ⟨rfl, Chg.refl _ _⟩, ?_⟩
  refine ⟨.slice fa p.length fc, fun _ uw61 hC62 _ => Gives.run rfl (r_move (v := .slice fa p.length fc) rfl) ⟨rfl, Chg.refl _ _⟩, ?_⟩
  refine ⟨i64 ((p.length : Nat)), fun _ uw63 hC64 _ => Gives.run rfl (r_lenS sli30 (a := fa) (m := p.length) (c := fc) rfl) ⟨rfl, Chg.refl _ _⟩, ?_⟩
  refine ⟨.pointer (adr (ownA key37) (p.length * 1)), fun _ uw65 hC66 _ => Gives.run rfl (r_idxS (E := E8) (l := p ++ ([7#8])) (j := p.length) sli30 ((H56.ext hC66).rd (k := 1) rfl hS40) rfl rfl (by first | rfl | omega | (simp; omega)) (by rw [List.length_append, Nat.zero_add]; rfl) (by rw [List.length_append]; simp)) ⟨rfl, Chg.refl _ _⟩, ?_⟩
  refine ⟨u8 (7#8), fun _ uw67 hC68 _ => Gives.run rfl ((r_ldS (E := E8) (l := p ++ ([7#8])) (j := p.length) (v := (p ++ ([7#8])).getD p.length 0#8) fits5 ((H56.ext hC68).rd (k := 1) rfl hS40) rfl rfl (at_getD (by rw [List.length_append]; simp))).as (v' := u8 (7#8)) (by simp; rfl)) ⟨rfl, Chg.refl _ _⟩, ?_⟩
  refine ⟨.bool (false), fun _ uw69 hC70 _ => Gives.run rfl ((r_neq8 (a := 7#8) (b := 7#8) rfl rfl).as (v' := .bool (false)) (by rfl)) ⟨rfl, Chg.refl _ _⟩, ?_⟩
  refine ⟨.bool (false), fun _ uw71 hC72 _ => Gives.run rfl (r_move (v := .bool (false)) rfl) ⟨rfl, Chg.refl _ _⟩, ?_⟩
  refine ⟨.slice (ownA key37) ((0 + p.length) + 1) c38, fun _ uw73 hC74 _ => Gives.runW (wantedSome (d' := 48) (b := false) rfl rfl rfl) (r_move (v := .slice (ownA key37) ((0 + p.length) + 1) c38) rfl) ⟨rfl, Chg.refl _ _⟩, ?_⟩
  refine ⟨.slice fa p.length fc, fun _ uw75 hC76 _ => Gives.runW (wantedSome (d' := 48) (b := false) rfl rfl rfl) (r_move (v := .slice fa p.length fc) rfl) ⟨rfl, Chg.refl _ _⟩, ?_⟩
  refine ⟨i64 ((p.length : Nat)), fun _ uw77 hC78 _ => Gives.runW (wantedSome (d' := 48) (b := false) rfl rfl rfl) (r_lenS sli30 (a := fa) (m := p.length) (c := fc) rfl) ⟨rfl, Chg.refl _ _⟩, ?_⟩
  refine ⟨.slice (ownA key37) p.length c38, fun _ uw79 hC80 _ => Gives.runW (wantedSome (d' := 48) (b := false) rfl rfl rfl) (((r_sliceS (l := 0) (h := p.length) sli30 rfl (.inr ⟨rfl, rfl⟩) (.inl ⟨_, _, _, rfl, rfl, by first | rfl | omega | (simp; omega)⟩) (by have h := hS40.cap; rw [List.length_append] at h; omega) (by have h := hS40.cap; rw [List.length_append, List.length_singleton] at h; omega)).as (v' := .slice (if c38 = 0 then ownA key37 else adr (ownA key37) (0 * 1)) p.length (c38 - 0)) (by first | rfl | (congr 1; omega) | (simp; omega) | simp)).as (v' := .slice (ownA key37) p.length c38) (by rw [ite_adr0]; rfl)) ⟨rfl, Chg.refl _ _⟩, ?_⟩
  refine ⟨.string (strB p), fun _ uw81 hC82 _ => Gives.runW (wantedSome (d' := 48) (b := false) rfl rfl rfl) (r_toStr (l := p) und30 und5 und9 (by have h := Rd.take (((H56.ext hC82).rd (k := 1) rfl hS40)) p.length; rwa [List.take_left] at h) rfl (by rfl)) ⟨rfl, Chg.refl _ _⟩, ?_⟩
  refine ⟨.slice fa p.length fc, fun _ uw83 hC84 _ => Gives.runW (wantedSome (d' := 48) (b := false) rfl rfl rfl) (r_move (v := .slice fa p.length fc) rfl) ⟨rfl, Chg.refl _ _⟩, ?_⟩
  refine ⟨.string (strB p), fun _ uw85 hC86 _ => Gives.runW (wantedSome (d' := 48) (b := false) rfl rfl rfl) (r_toStr (l := p) und30 und5 und9 (hpR.ext (H56.ext hC86).chg) rfl (by rfl)) ⟨rfl, Chg.refl _ _⟩, ?_⟩
  refine ⟨.bool (false), fun _ uw87 hC88 _ => Gives.runW (wantedSome (d' := 48) (b := false) rfl rfl rfl) ((r_neqStr (s := strB p) (s' := strB p) rfl rfl).as (v' := .bool (false)) (by simp)) ⟨rfl, Chg.refl _ _⟩, ?_⟩
  refine ⟨.bool (false), fun _ uw89 hC90 _ => Gives.run rfl (r_pickF (v := .bool (false)) rfl rfl) ⟨rfl, Chg.refl _ _⟩, ?_⟩
  intro r94 w91 hE93 hF
  have H92 := H56.ext hE93
  refine wnil ?_
  refine thenNormal ?_
  refine condFalse rfl ?_
  refine skipAny ?_
  refine thenNormal ?_
  refine seqAny ?_
  refine seqRegion ?_
  refine sq (r_move (v := .slice (ownA key37) ((0 + p.length) + 1) c38) rfl) ?_
  refine sq (r_lenS sli30 (a := ownA key37) (m := (0 + p.length) + 1) (c := c38) rfl) ?_
  refine sq (r_move (v := i64 ((0 : Int))) rfl) ?_
  refine wend ?_
  refine blockAny ?_
  refine loopAny (σ := Nat × List (BitVec 8)) (fun (q, l) => [(0, .slice fa p.length fc), (3, .pointer (some ⟨b3, 0, none⟩)), (4, .pointer (some ⟨b9, 0, none⟩)), (5, .slice (ownA key37) (p.length + 1) c38), (59, i64 ((p.length + 1 : Nat))), (60, i64 ((q : Nat)))]) (fun (q, l) w' => (q ≤ p.length + 1 ∧ l.length = p.length + 1 ∧ Sl E8 key37 l c38 sp39) ∧ Hp No w₀ w' (((some b32), sob E8 5 ([7#8]) ([])) :: (key37, sob E8 5 l sp39) :: (endR 30 53 89 b3 e47 ++ (endR 30 53 89 b9 en0 ++ F53)))) (fun (q, l) => p.length + 1 - q) ((0, p ++ [7#8])) ?_ ?_ ?_
  · exact ⟨rfl, rfl, rfl, by rw [Nat.zero_add]; rfl, by rw [Nat.zero_add]; rfl, rfl, trivial⟩
  · exact ⟨⟨Nat.zero_le _, by rw [List.length_append]; rfl, hS40⟩, H92⟩
  rintro ⟨q, l⟩ ρ w95 ⟨⟨hq, hll, hSl⟩, HL⟩
  refine seqRegion ?_
  refine sq (r_lssI (a := (q : Nat)) (b := (p.length + 1 : Nat)) rfl rfl) ?_
  refine wend ?_
  refine seqAny ?_
  refine condProp (((q : Nat) : Int) < (p.length + 1 : Nat)) rfl (fun c61 => ?_) (fun c61 => ?_)
  · skip
    refine skipAny ?_
    refine thenNormal ?_
    refine seqAny ?_
    refine blockAny ?_
    refine seqRegion ?_
    refine sq (r_move (v := i64 ((q : Nat))) rfl) ?_
    refine sq (r_assign (v := i64 ((q : Nat))) rfl) ?_
    refine wend ?_
    refine oneRegion ?_
    refine sq (r_move (v := .slice (ownA key37) (p.length + 1) c38) rfl) ?_
    refine sq (r_move (v := i64 ((q : Nat))) rfl) ?_
    refine sq (r_idxS (E := E8) (l := l) (j := q) sli30 (HL.rd (k := 1) rfl hSl) rfl rfl (by first | rfl | omega | (simp; omega)) (by exact hll.symm) (by omega)) ?_
    refine d_storeS (E := E8) (k := 1) (l := l) (j := q) (b := 1#8) (a := (l).getD q 0#8) HL rfl hSl rfl rfl rfl rfl siz5 (at_getD (by omega)) ?_
    intro w98 hS97 H99
    have H99' := H99.as (L' := (((some b32), sob E8 5 ([7#8]) ([])) :: (key37, sob E8 5 (l.set q (1#8)) sp39) :: (endR 30 53 89 b3 e47 ++ (endR 30 53 89 b9 en0 ++ F53)))) rfl
    clear H99
    refine wnil ?_
    refine blockNormal ?_
    refine thenNormal ?_
    refine oneRegion ?_
    refine sq (r_addI (a := (q : Nat)) (b := (1 : Int)) rfl rfl (by omega)) ?_
    refine sq (r_move (v := i64 ((q : Nat) + (1 : Int))) rfl) ?_
    refine wnil ?_
    refine thenNormal ?_
    exact ⟨(q + 1, l.set q 1#8), _, rfl, ⟨rfl, rfl, rfl, rfl, rfl, rfl, trivial⟩, ⟨⟨by omega, by rw [List.length_set]; exact hll, hS97⟩, H99'⟩, by show p.length + 1 - (q + 1) < p.length + 1 - q; omega⟩
  · skip
    refine exitAny ?_
    refine thenExit ?_
    refine thenExit ?_
    refine blockHere ?_
    refine thenNormal ?_
    refine seqRegion ?_
    refine sq (r_move (v := .pointer (some ⟨b3, 0, none⟩)) rfl) ?_
    have H100 := Hp.mid (X := [((some b32), sob E8 5 ([7#8]) ([])), (key37, sob E8 5 l sp39)]) (A := endR 30 53 89 b3 e47) (Y := endR 30 53 89 b9 en0 ++ F53) HL
    refine c_call (vs := [.pointer (some ⟨b3, 0, none⟩)]) call28 rfl (step_any b3 e47 F53 ([((some b32), sob E8 5 ([7#8]) ([])), (key37, sob E8 5 l sp39)] ++ (endR 30 53 89 b9 en0 ++ F53)) hok50 (fun x h => List.mem_append_right _ (List.mem_append_right _ h)) w₀ w95 H100 hG (by show (abs e47).since < 1000000000; rw [hab58]; first | decide | (dsimp only; decide) | (dsimp only; omega) | (simp; omega) | simp) (by show (abs e47).owed.length ≤ 1000000; rw [hab58]; first | decide | (dsimp only; decide) | (dsimp only; omega) | (simp; omega) | simp) (by show (abs e47).sends ≤ 8; rw [hab58]; first | decide | (dsimp only; decide) | (dsimp only; omega) | (simp; omega) | simp)) ?_
    rintro _ w101 ⟨⟨kyx103, cyx103, spyx103, fyx103⟩, e104, rfl, hx105, hxb106, hok107, hab108, HN109⟩
    dsimp only at hxb106 HN109
    rw [hab58] at hxb106 hab108
    obtain ⟨f110, hf111, hfb112⟩ := bss_one (F := fyx103) (p := sealF 0#8 0#32 p) (by rw [hxb106]; rfl)
    subst hf111
    have hfok113 : f110.ok := hx105.each _ (List.mem_singleton.2 rfl)
    have hx105s := hx105.sl
    have H114 := Hp.mid (X := endR 30 53 89 b3 e104) (A := [(kyx103, sob ES 30 ([f110.sv]) spyx103), (f110.key, sob E8 5 f110.bs f110.sp), ((some b32), sob E8 5 ([7#8]) ([])), (key37, sob E8 5 l sp39)]) (Y := endR 30 53 89 b9 en0 ++ F53) (HN109.as (L' := endR 30 53 89 b3 e104 ++ ([(kyx103, sob ES 30 ([f110.sv]) spyx103), (f110.key, sob E8 5 f110.bs f110.sp), ((some b32), sob E8 5 ([7#8]) ([])), (key37, sob E8 5 l sp39)] ++ (endR 30 53 89 b9 en0 ++ F53))) rfl)
    have H115 := H114.as (L' := ((kyx103, sob ES 30 ([f110.sv]) spyx103) :: (f110.key, sob E8 5 f110.bs f110.sp) :: ((some b32), sob E8 5 ([7#8]) ([])) :: (key37, sob E8 5 l sp39) :: (endR 30 53 89 b3 e104 ++ (endR 30 53 89 b9 en0 ++ F53)))) rfl
    have hab116 : abs e104 = (⟨[p], 0#32, 1, 0, 0#32, [], [], false⟩ : St) := by rw [hab108]; rfl
    dsimp only [List.length_singleton]
    refine sq (r_assign (v := .slice (ownA kyx103) 1 cyx103) rfl) ?_
    refine wend ?_
    refine seqAny ?_
    refine seqRegion ?_
    refine sq (r_move (v := .slice (ownA kyx103) 1 cyx103) rfl) ?_
    refine sq (r_lenS sli22 (a := ownA kyx103) (m := 1) (c := cyx103) rfl) ?_
    refine sq ((r_neqI (a := (1 : Nat)) (b := (1 : Int)) rfl rfl).as (v' := .bool (false)) (by rfl)) ?_
    refine wend ?_
    refine condFalse rfl ?_
    refine skipAny ?_
    refine thenNormal ?_
    refine seqRegion ?_
    have hopn : opn f110.bs = some (0#8, 0#32, p) := by rw [hfb112]; exact opn_seal _ _ _ (by decide) (fun h => absurd h (by decide))
    have hfl : f110.bs.length ≤ 2000 := by rw [hfb112, seal_len]; omega
    refine q_buildSlice (E := E8) (l := []) H115 sli30 zer5 (Nat.le_of_ble_eq_true rfl) (ps := []) rfl (by exact fillAll rfl rfl) rfl ?_
    intro b117 w119 hS118 H120 hE121
    refine sq (r_move (v := .slice (ownA kyx103) 1 cyx103) rfl) ?_
    refine sq (r_idxS (E := ES) (l := [f110.sv]) (j := 0) sli22 (H120.rd (k := 1) rfl hx105s) rfl rfl (by first | rfl | omega | (simp; omega)) (by rfl) (by exact Nat.zero_lt_one)) ?_
    refine sq ((r_ldS (E := ES) (l := [f110.sv]) (j := 0) (v := ([f110.sv]).getD 0 sv0) fits30 (H120.rd (k := 1) rfl hx105s) rfl rfl (at_getD (by exact Nat.zero_lt_one))).as (v' := .slice (ownA f110.key) f110.bs.length f110.c) (by rfl)) ?_
    refine q_append (E := E8) (k := 0) (l := []) (l2 := f110.bs) H120 rfl hS118 sli30 zer5 rfl byt5 (H120.rd (k := 2) rfl hfok113) rfl (by rfl) rfl (by rfl) (by omega) ?_
    intro key122 c123 sp124 w126 hS125 hne128 H127
    have H127' := H127.as (L' := ((key122, sob E8 5 (([]) ++ f110.bs) sp124) :: (kyx103, sob ES 30 ([f110.sv]) spyx103) :: (f110.key, sob E8 5 f110.bs f110.sp) :: ((some b32), sob E8 5 ([7#8]) ([])) :: (key37, sob E8 5 l sp39) :: (endR 30 53 89 b3 e104 ++ (endR 30 53 89 b9 en0 ++ F53)))) rfl
    clear H127
    have e129 : ([]) ++ f110.bs = f110.bs := by rw [List.nil_append]
    have hS130 := hS125
    rw [e129] at hS130
    have H131 := H127'.as (L' := ((key122, sob E8 5 f110.bs sp124) :: (kyx103, sob ES 30 ([f110.sv]) spyx103) :: (f110.key, sob E8 5 f110.bs f110.sp) :: ((some b32), sob E8 5 ([7#8]) ([])) :: (key37, sob E8 5 l sp39) :: (endR 30 53 89 b3 e104 ++ (endR 30 53 89 b9 en0 ++ F53)))) (by rw [e129])
    refine sq (r_assign (v := .slice (ownA key122) (0 + f110.bs.length) c123) rfl) ?_
    refine wend ?_
    refine seqRegion ?_
    refine sq (r_move (v := .pointer (some ⟨b9, 0, none⟩)) rfl) ?_
    refine sq (r_move (v := .slice (ownA kyx103) 1 cyx103) rfl) ?_
    refine sq (r_idxS (E := ES) (l := [f110.sv]) (j := 0) sli22 (H131.rd (k := 1) rfl hx105s) rfl rfl (by first | rfl | omega | (simp; omega)) (by rfl) (by exact Nat.zero_lt_one)) ?_
    refine sq ((r_ldS (E := ES) (l := [f110.sv]) (j := 0) (v := ([f110.sv]).getD 0 sv0) fits30 (H131.rd (k := 1) rfl hx105s) rfl rfl (at_getD (by exact Nat.zero_lt_one))).as (v' := .slice (ownA f110.key) f110.bs.length f110.c) (by rfl)) ?_
    have H132 := Hp.midB (R := [(key122, sob E8 5 f110.bs sp124), (kyx103, sob ES 30 ([f110.sv]) spyx103), (f110.key, sob E8 5 f110.bs f110.sp), ((some b32), sob E8 5 ([7#8]) ([])), (key37, sob E8 5 l sp39)]) (A := endR 30 53 89 b3 e104) (B := endR 30 53 89 b9 en0) (F := F53) H131
    refine c_call (vs := [.pointer (some ⟨b9, 0, none⟩), .slice (ownA f110.key) f110.bs.length f110.c]) call27 rfl (hear_any b9 en0 F53 ([(key122, sob E8 5 f110.bs sp124), (kyx103, sob ES 30 ([f110.sv]) spyx103), (f110.key, sob E8 5 f110.bs f110.sp), ((some b32), sob E8 5 ([7#8]) ([])), (key37, sob E8 5 l sp39)] ++ (endR 30 53 89 b3 e104 ++ F53)) ok57 (fun x h => List.mem_append_right _ (List.mem_append_right _ h)) w₀ w126 H132 f110.bs (ownA f110.key) f110.bs.length f110.c (by rfl) (by exact hfok113.cap) (by omega) (H131.rd (k := 2) rfl hfok113) (by show (abs en0).owed.length ≤ 1000000; rw [(rfl : abs en0 = st0)]; first | decide | (dsimp only; decide) | (dsimp only; omega) | (simp; omega) | simp) (by rw [← bss_len]; show (abs en0).came.length ≤ 1000000; rw [(rfl : abs en0 = st0)]; first | decide | (dsimp only; decide) | (dsimp only; omega) | (simp; omega) | simp)) ?_
    rintro _ w133 ⟨rfl, e135, X136, HN137, hok138, hab139⟩
    rw [show (hearS (abs en0) f110.bs).2 = true from by rw [(rfl : abs en0 = st0)]; simp only [hearS, hopn]; rfl]
    have H140 := Hp.backB (R := [(key122, sob E8 5 f110.bs sp124), (kyx103, sob ES 30 ([f110.sv]) spyx103), (f110.key, sob E8 5 f110.bs f110.sp), ((some b32), sob E8 5 ([7#8]) ([])), (key37, sob E8 5 l sp39)]) (A := endR 30 53 89 b3 e104) (B := endR 30 53 89 b9 e135) (X := X136) (F := F53) HN137
    obtain ⟨F141, hF142⟩ : ∃ F2, F2 = X136 ++ F53 := ⟨_, rfl⟩
    rw [← hF142] at H140 hok138
    have hsub143 : ∀ x ∈ F53, x ∈ F141 := fun x h => by rw [hF142]; exact List.mem_append_right _ h
    have ok145 := hok107.mono hsub143
    have H144 := H140.as (L' := ((key122, sob E8 5 f110.bs sp124) :: (kyx103, sob ES 30 ([f110.sv]) spyx103) :: (f110.key, sob E8 5 f110.bs f110.sp) :: ((some b32), sob E8 5 ([7#8]) ([])) :: (key37, sob E8 5 l sp39) :: (endR 30 53 89 b3 e104 ++ (endR 30 53 89 b9 e135 ++ F141)))) rfl
    have hab146 : abs e135 = (⟨[], 0#32, 0, 0, 1#32, [p], [0#32], false⟩ : St) := by rw [hab139]; rw [(rfl : abs en0 = st0)]; simp only [hearS, hopn]; rfl
    refine wend ?_
    refine seqAny ?_
    refine seqRegion ?_
    refine sq (r_move (v := .slice (ownA kyx103) 1 cyx103) rfl) ?_
    refine sq (r_idxS (E := ES) (l := [f110.sv]) (j := 0) sli22 (H144.rd (k := 1) rfl hx105s) rfl rfl (by first | rfl | omega | (simp; omega)) (by rfl) (by exact Nat.zero_lt_one)) ?_
    refine sq ((r_ldS (E := ES) (l := [f110.sv]) (j := 0) (v := ([f110.sv]).getD 0 sv0) fits30 (H144.rd (k := 1) rfl hx105s) rfl rfl (at_getD (by exact Nat.zero_lt_one))).as (v' := .slice (ownA f110.key) f110.bs.length f110.c) (by rfl)) ?_
    refine sq (r_lenS sli30 (a := ownA f110.key) (m := f110.bs.length) (c := f110.c) rfl) ?_
    refine sq (r_move (v := i64 ((0 : Int))) rfl) ?_
    refine wend ?_
    refine blockAny ?_
    refine loopAny (σ := Nat × List (BitVec 8)) (fun (q, m) => [(0, .slice fa p.length fc), (3, .pointer (some ⟨b3, 0, none⟩)), (4, .pointer (some ⟨b9, 0, none⟩)), (7, .slice (ownA kyx103) 1 cyx103), (8, .slice (ownA key122) (0 + f110.bs.length) c123), (85, i64 ((f110.bs.length : Nat))), (86, i64 ((q : Nat)))]) (fun (q, m) w' => (q ≤ f110.bs.length ∧ m.length = f110.bs.length ∧ Sl E8 f110.key m f110.c f110.sp) ∧ Hp No w₀ w' ((key122, sob E8 5 f110.bs sp124) :: (kyx103, sob ES 30 ([f110.sv]) spyx103) :: (f110.key, sob E8 5 m f110.sp) :: ((some b32), sob E8 5 ([7#8]) ([])) :: (key37, sob E8 5 l sp39) :: (endR 30 53 89 b3 e104 ++ (endR 30 53 89 b9 e135 ++ F141)))) (fun (q, m) => f110.bs.length - q) ((0, f110.bs)) ?_ ?_ ?_
    · exact ⟨rfl, rfl, rfl, rfl, rfl, rfl, rfl, trivial⟩
    · exact ⟨⟨Nat.zero_le _, rfl, hfok113⟩, H144⟩
    rintro ⟨q, m⟩ ρ w147 ⟨⟨hq, hml, hSm⟩, HL⟩
    refine seqRegion ?_
    refine sq (r_lssI (a := (q : Nat)) (b := (f110.bs.length : Nat)) rfl rfl) ?_
    refine wend ?_
    refine seqAny ?_
    refine condProp (((q : Nat) : Int) < (f110.bs.length : Nat)) rfl (fun c87 => ?_) (fun c87 => ?_)
    · skip
      refine skipAny ?_
      refine thenNormal ?_
      refine seqAny ?_
      refine blockAny ?_
      refine seqRegion ?_
      refine sq (r_move (v := i64 ((q : Nat))) rfl) ?_
      refine sq (r_assign (v := i64 ((q : Nat))) rfl) ?_
      refine wend ?_
      refine oneRegion ?_
      refine sq (r_move (v := .slice (ownA kyx103) 1 cyx103) rfl) ?_
      refine sq (r_idxS (E := ES) (l := [f110.sv]) (j := 0) sli22 (HL.rd (k := 1) rfl hx105s) rfl rfl (by first | rfl | omega | (simp; omega)) (by rfl) (by exact Nat.zero_lt_one)) ?_
      refine sq ((r_ldS (E := ES) (l := [f110.sv]) (j := 0) (v := ([f110.sv]).getD 0 sv0) fits30 (HL.rd (k := 1) rfl hx105s) rfl rfl (at_getD (by exact Nat.zero_lt_one))).as (v' := .slice (ownA f110.key) f110.bs.length f110.c) (by rfl)) ?_
      refine sq (r_move (v := i64 ((q : Nat))) rfl) ?_
      refine sq (r_idxS (E := E8) (l := m) (j := q) sli30 (HL.rd (k := 2) rfl hSm) rfl rfl (by first | rfl | omega | (simp; omega)) (by exact hml.symm) (by omega)) ?_
      refine d_storeS (E := E8) (k := 2) (l := m) (j := q) (b := 2#8) (a := (m).getD q 0#8) HL rfl hSm rfl rfl rfl rfl siz5 (at_getD (by omega)) ?_
      intro w150 hS149 H151
      have H151' := H151.as (L' := ((key122, sob E8 5 f110.bs sp124) :: (kyx103, sob ES 30 ([f110.sv]) spyx103) :: (f110.key, sob E8 5 (m.set q (2#8)) f110.sp) :: ((some b32), sob E8 5 ([7#8]) ([])) :: (key37, sob E8 5 l sp39) :: (endR 30 53 89 b3 e104 ++ (endR 30 53 89 b9 e135 ++ F141)))) rfl
      clear H151
      refine wnil ?_
      refine blockNormal ?_
      refine thenNormal ?_
      refine oneRegion ?_
      refine sq (r_addI (a := (q : Nat)) (b := (1 : Int)) rfl rfl (by omega)) ?_
      refine sq (r_move (v := i64 ((q : Nat) + (1 : Int))) rfl) ?_
      refine wnil ?_
      refine thenNormal ?_
      exact ⟨(q + 1, m.set q 2#8), _, rfl, ⟨rfl, rfl, rfl, rfl, rfl, rfl, rfl, trivial⟩, ⟨⟨by omega, by rw [List.length_set]; exact hml, hS149⟩, H151'⟩, by show f110.bs.length - (q + 1) < f110.bs.length - q; omega⟩
    · skip
      refine exitAny ?_
      refine thenExit ?_
      refine thenExit ?_
      refine blockHere ?_
      refine thenNormal ?_
      refine seqAny ?_
      refine seqRegion ?_
      refine sq (r_assign (v := i64 ((0 : Int))) rfl) ?_
      refine wend ?_
      refine blockAny ?_
      refine loopAny (σ := Nat × En × List (Option Nat × Obj)) (fun (q, y, G) => [(0, .slice fa p.length fc), (3, .pointer (some ⟨b3, 0, none⟩)), (4, .pointer (some ⟨b9, 0, none⟩)), (8, .slice (ownA key122) (0 + f110.bs.length) c123), (10, i64 ((q : Nat)))]) (fun (q, y, G) w' => (q ≤ 3 ∧ y.ok 5 G ∧ e135.ok 5 G ∧ abs y = (⟨[p], 0#32, 1, q, 0#32, [], [], false⟩ : St)) ∧ Hp No w₀ w' ((key122, sob E8 5 f110.bs sp124) :: (kyx103, sob ES 30 ([f110.sv]) spyx103) :: (f110.key, sob E8 5 m f110.sp) :: ((some b32), sob E8 5 ([7#8]) ([])) :: (key37, sob E8 5 l sp39) :: (endR 30 53 89 b3 y ++ (endR 30 53 89 b9 e135 ++ G)))) (fun (q, y, G) => 3 - q) ((0, e104, F141)) ?_ ?_ ?_
      · exact ⟨rfl, rfl, rfl, rfl, rfl, trivial⟩
      · exact ⟨⟨by omega, ok145, hok138, hab116⟩, HL⟩
      rintro ⟨q, y, G⟩ ρ w152 ⟨⟨hq, hyok, hbok, hya⟩, HL⟩
      refine seqAny ?_
      refine seqRegion ?_
      refine sq (r_move (v := i64 ((q : Nat))) rfl) ?_
      refine sq (r_lssI (a := (q : Nat)) (b := (3 : Int)) rfl rfl) ?_
      refine wend ?_
      refine condProp (((q : Nat) : Int) < (3 : Int)) rfl (fun c96 => ?_) (fun c96 => ?_)
      · skip
        refine skipAny ?_
        refine thenNormal ?_
        refine seqAny ?_
        refine blockAny ?_
        refine oneRegion ?_
        refine sq (r_move (v := .pointer (some ⟨b3, 0, none⟩)) rfl) ?_
        have H154 := Hp.mid (X := [(key122, sob E8 5 f110.bs sp124), (kyx103, sob ES 30 ([f110.sv]) spyx103), (f110.key, sob E8 5 m f110.sp), ((some b32), sob E8 5 ([7#8]) ([])), (key37, sob E8 5 l sp39)]) (A := endR 30 53 89 b3 y) (Y := endR 30 53 89 b9 e135 ++ G) HL
        refine c_call (vs := [.pointer (some ⟨b3, 0, none⟩)]) call28 rfl (step_any b3 y G ([(key122, sob E8 5 f110.bs sp124), (kyx103, sob ES 30 ([f110.sv]) spyx103), (f110.key, sob E8 5 m f110.sp), ((some b32), sob E8 5 ([7#8]) ([])), (key37, sob E8 5 l sp39)] ++ (endR 30 53 89 b9 e135 ++ G)) hyok (fun x h => List.mem_append_right _ (List.mem_append_right _ h)) w₀ w152 H154 hG (by show (abs y).since < 1000000000; rw [hya]; show q < 1000000000; omega) (by show (abs y).owed.length ≤ 1000000; rw [hya]; first | decide | (dsimp only; decide) | (dsimp only; omega) | (simp; omega) | simp) (by show (abs y).sends ≤ 8; rw [hya]; first | decide | (dsimp only; decide) | (dsimp only; omega) | (simp; omega) | simp)) ?_
        rintro _ w155 ⟨x157, e158, rfl, hx159, hxb160, hok161, hab162, HN163⟩
        rw [hya] at hxb160 hab162
        obtain ⟨X164, hX165⟩ : ∃ X, X = (x157.key, sob ES 30 (svs x157.fs) x157.sp) :: frs 5 x157.fs := ⟨_, rfl⟩
        have hok161' := hok161.mono (F' := X164 ++ G) (fun x h => List.mem_append_right _ h)
        have HN163' := HN163.as (L' := endR 30 53 89 b3 e158 ++ (X164 ++ ([(key122, sob E8 5 f110.bs sp124), (kyx103, sob ES 30 ([f110.sv]) spyx103), (f110.key, sob E8 5 m f110.sp), ((some b32), sob E8 5 ([7#8]) ([])), (key37, sob E8 5 l sp39)] ++ (endR 30 53 89 b9 e135 ++ G)))) (by rw [hX165]; rfl)
        have hxb160' : bss x157.fs = [] := by rw [hxb160]; exact congrArg Prod.snd (if_pos (.inr (.inr ⟨Nat.zero_lt_one, by show q + 1 < 4; omega⟩)))
        have H167 := Hp.backA (R := [(key122, sob E8 5 f110.bs sp124), (kyx103, sob ES 30 ([f110.sv]) spyx103), (f110.key, sob E8 5 m f110.sp), ((some b32), sob E8 5 ([7#8]) ([])), (key37, sob E8 5 l sp39)]) (A := endR 30 53 89 b3 e158) (B := endR 30 53 89 b9 e135) (X := X164) (F := G) HN163'
        obtain ⟨F168, hF169⟩ : ∃ F2, F2 = X164 ++ G := ⟨_, rfl⟩
        rw [← hF169] at H167 hok161'
        have hsub170 : ∀ x ∈ G, x ∈ F168 := fun x h => by rw [hF169]; exact List.mem_append_right _ h
        have ok172 := hbok.mono hsub170
        have H171 := H167.as (L' := ((key122, sob E8 5 f110.bs sp124) :: (kyx103, sob ES 30 ([f110.sv]) spyx103) :: (f110.key, sob E8 5 m f110.sp) :: ((some b32), sob E8 5 ([7#8]) ([])) :: (key37, sob E8 5 l sp39) :: (endR 30 53 89 b3 e158 ++ (endR 30 53 89 b9 e135 ++ F168)))) rfl
        have hm173 : (x157.key, sob ES 30 (svs x157.fs) x157.sp) ∈ F168 := by rw [hF169, hX165]; exact List.mem_append_left _ (List.mem_cons_self ..)
        have hmf174 : ∀ f ∈ x157.fs, f.row 5 ∈ F168 := fun f h => by rw [hF169, hX165]; exact List.mem_append_left _ (List.mem_cons_of_mem _ (List.mem_map_of_mem h))
        have hxn166 : x157.fs.length = 0 := by have := bss_len2 hxb160'; simpa using this
        rw [hxn166]
        have hab175 : abs e158 = (⟨[p], 0#32, 1, (q + 1), 0#32, [], [], false⟩ : St) := by rw [hab162]; exact congrArg Prod.fst (if_pos (.inr (.inr ⟨Nat.zero_lt_one, by show q + 1 < 4; omega⟩)))
        refine wnil ?_
        refine blockNormal ?_
        refine thenNormal ?_
        refine oneRegion ?_
        refine sq (r_move (v := i64 ((q : Nat))) rfl) ?_
        refine sq (r_addI (a := (q : Nat)) (b := (1 : Int)) rfl rfl (by omega)) ?_
        refine sq (r_assign (v := i64 ((q : Nat) + (1 : Int))) rfl) ?_
        refine wnil ?_
        refine thenNormal ?_
        exact ⟨(q + 1, e158, F168), _, rfl, ⟨rfl, rfl, rfl, rfl, rfl, trivial⟩, ⟨⟨by omega, hok161', ok172, hab175⟩, H171⟩, by show 3 - (q + 1) < 3 - q; omega⟩
      · skip
        obtain rfl : q = 3 := by omega
        refine exitAny ?_
        refine thenExit ?_
        refine thenExit ?_
        refine blockHere ?_
        refine thenNormal ?_
        refine seqRegion ?_
        refine sq (r_move (v := .pointer (some ⟨b3, 0, none⟩)) rfl) ?_
        have H176 := Hp.mid (X := [(key122, sob E8 5 f110.bs sp124), (kyx103, sob ES 30 ([f110.sv]) spyx103), (f110.key, sob E8 5 m f110.sp), ((some b32), sob E8 5 ([7#8]) ([])), (key37, sob E8 5 l sp39)]) (A := endR 30 53 89 b3 y) (Y := endR 30 53 89 b9 e135 ++ G) HL
        refine c_call (vs := [.pointer (some ⟨b3, 0, none⟩)]) call28 rfl (step_any b3 y G ([(key122, sob E8 5 f110.bs sp124), (kyx103, sob ES 30 ([f110.sv]) spyx103), (f110.key, sob E8 5 m f110.sp), ((some b32), sob E8 5 ([7#8]) ([])), (key37, sob E8 5 l sp39)] ++ (endR 30 53 89 b9 e135 ++ G)) hyok (fun x h => List.mem_append_right _ (List.mem_append_right _ h)) w₀ w152 H176 hG (by show (abs y).since < 1000000000; rw [hya]; first | decide | (dsimp only; decide) | (dsimp only; omega) | (simp; omega) | simp) (by show (abs y).owed.length ≤ 1000000; rw [hya]; first | decide | (dsimp only; decide) | (dsimp only; omega) | (simp; omega) | simp) (by show (abs y).sends ≤ 8; rw [hya]; first | decide | (dsimp only; decide) | (dsimp only; omega) | (simp; omega) | simp)) ?_
        rintro _ w177 ⟨⟨kyx179, cyx179, spyx179, fyx179⟩, e180, rfl, hx181, hxb182, hok183, hab184, HN185⟩
        dsimp only at hxb182 HN185
        rw [hya] at hxb182 hab184
        obtain ⟨f186, hf187, hfb188⟩ := bss_one (F := fyx179) (p := sealF 0#8 0#32 p) (by rw [hxb182]; rfl)
        subst hf187
        have hfok189 : f186.ok := hx181.each _ (List.mem_singleton.2 rfl)
        have hx181s := hx181.sl
        have H190 := Hp.mid (X := endR 30 53 89 b3 e180) (A := [(kyx179, sob ES 30 ([f186.sv]) spyx179), (f186.key, sob E8 5 f186.bs f186.sp), (key122, sob E8 5 f110.bs sp124), (kyx103, sob ES 30 ([f110.sv]) spyx103), (f110.key, sob E8 5 m f110.sp), ((some b32), sob E8 5 ([7#8]) ([])), (key37, sob E8 5 l sp39)]) (Y := endR 30 53 89 b9 e135 ++ G) (HN185.as (L' := endR 30 53 89 b3 e180 ++ ([(kyx179, sob ES 30 ([f186.sv]) spyx179), (f186.key, sob E8 5 f186.bs f186.sp), (key122, sob E8 5 f110.bs sp124), (kyx103, sob ES 30 ([f110.sv]) spyx103), (f110.key, sob E8 5 m f110.sp), ((some b32), sob E8 5 ([7#8]) ([])), (key37, sob E8 5 l sp39)] ++ (endR 30 53 89 b9 e135 ++ G))) rfl)
        have H191 := H190.as (L' := ((kyx179, sob ES 30 ([f186.sv]) spyx179) :: (f186.key, sob E8 5 f186.bs f186.sp) :: (key122, sob E8 5 f110.bs sp124) :: (kyx103, sob ES 30 ([f110.sv]) spyx103) :: (f110.key, sob E8 5 m f110.sp) :: ((some b32), sob E8 5 ([7#8]) ([])) :: (key37, sob E8 5 l sp39) :: (endR 30 53 89 b3 e180 ++ (endR 30 53 89 b9 e135 ++ G)))) rfl
        dsimp only [List.length_singleton]
        refine sq (r_assign (v := .slice (ownA kyx179) 1 cyx179) rfl) ?_
        refine wend ?_
        refine seqRegion ?_
        refine sq (r_move (v := .pointer (some ⟨b9, 0, none⟩)) rfl) ?_
        obtain ⟨f192, hf193, hfb194⟩ := bss_at (F := e135.cm.fs) (i := 0) (b := p) (by show (abs e135).came[0]? = _; rw [hab146]; rfl)
        have H195 := Hp.midB (R := [(kyx179, sob ES 30 ([f186.sv]) spyx179), (f186.key, sob E8 5 f186.bs f186.sp), (key122, sob E8 5 f110.bs sp124), (kyx103, sob ES 30 ([f110.sv]) spyx103), (f110.key, sob E8 5 m f110.sp), ((some b32), sob E8 5 ([7#8]) ([])), (key37, sob E8 5 l sp39)]) (A := endR 30 53 89 b3 e180) (B := endR 30 53 89 b9 e135) (F := G) H191
        have hfok196 := hbok.cm.each _ (List.mem_of_getElem? hf193)
        have hm197 := hbok.cmm _ (List.mem_of_getElem? hf193)
        refine c_call (vs := [.pointer (some ⟨b9, 0, none⟩)]) call29 rfl (take_some b9 e135 G ([(kyx179, sob ES 30 ([f186.sv]) spyx179), (f186.key, sob E8 5 f186.bs f186.sp), (key122, sob E8 5 f110.bs sp124), (kyx103, sob ES 30 ([f110.sv]) spyx103), (f110.key, sob E8 5 m f110.sp), ((some b32), sob E8 5 ([7#8]) ([])), (key37, sob E8 5 l sp39)] ++ (endR 30 53 89 b3 e180 ++ G)) hbok (fun x h => List.mem_append_right _ (List.mem_append_right _ h)) w₀ w177 H195 f192 hf193) ?_
        rintro _ w198 ⟨rfl, e200, HN201, hok202, hab203⟩
        have HN201' := HN201.as (L' := endR 30 53 89 b9 e200 ++ (([] : List (Option Nat × Obj)) ++ ([(kyx179, sob ES 30 ([f186.sv]) spyx179), (f186.key, sob E8 5 f186.bs f186.sp), (key122, sob E8 5 f110.bs sp124), (kyx103, sob ES 30 ([f110.sv]) spyx103), (f110.key, sob E8 5 m f110.sp), ((some b32), sob E8 5 ([7#8]) ([])), (key37, sob E8 5 l sp39)] ++ (endR 30 53 89 b3 e180 ++ G)))) rfl
        have hok202' := hok202.mono (F' := ([] : List (Option Nat × Obj)) ++ G) (fun x h => h)
        have H205 := Hp.backB (R := [(kyx179, sob ES 30 ([f186.sv]) spyx179), (f186.key, sob E8 5 f186.bs f186.sp), (key122, sob E8 5 f110.bs sp124), (kyx103, sob ES 30 ([f110.sv]) spyx103), (f110.key, sob E8 5 m f110.sp), ((some b32), sob E8 5 ([7#8]) ([])), (key37, sob E8 5 l sp39)]) (A := endR 30 53 89 b3 e180) (B := endR 30 53 89 b9 e200) (X := ([] : List (Option Nat × Obj))) (F := G) HN201'
        obtain ⟨F206, hF207⟩ : ∃ F2, F2 = ([] : List (Option Nat × Obj)) ++ G := ⟨_, rfl⟩
        rw [← hF207] at H205 hok202'
        have hsub208 : ∀ x ∈ G, x ∈ F206 := fun x h => by rw [hF207]; exact List.mem_append_right _ h
        have ok210 := hok183.mono hsub208
        have H209 := H205.as (L' := ((kyx179, sob ES 30 ([f186.sv]) spyx179) :: (f186.key, sob E8 5 f186.bs f186.sp) :: (key122, sob E8 5 f110.bs sp124) :: (kyx103, sob ES 30 ([f110.sv]) spyx103) :: (f110.key, sob E8 5 m f110.sp) :: ((some b32), sob E8 5 ([7#8]) ([])) :: (key37, sob E8 5 l sp39) :: (endR 30 53 89 b3 e180 ++ (endR 30 53 89 b9 e200 ++ F206)))) rfl
        refine sq (r_move (v := .tuple #[.slice (ownA f192.key) f192.bs.length f192.c, .bool (true)]) rfl) ?_
        refine sq (r_extract (vs := #[.slice (ownA f192.key) f192.bs.length f192.c, .bool (true)]) rfl rfl) ?_
        refine sq (r_extract (vs := #[.slice (ownA f192.key) f192.bs.length f192.c, .bool (true)]) rfl rfl) ?_
        refine sq (r_assign (v := .slice (ownA f192.key) f192.bs.length f192.c) rfl) ?_
        refine sq (r_assign (v := .bool (true)) rfl) ?_
        refine wend ?_
        refine seqAny ?_
        refine drawAny (K := [none, none, none, none, none, none, none, none, none, none, none, none, none, none, none, none, none, none, none, none, none, none, none]) [0, 1, 3, 7, 3, 19, 63, 127, 255, 511, 1023, 2047, 4095, 8191, 16383, 32767, 65535, 131071, 16383, 278527, 1048575, 2097151, 4194303] (fun w' => Ext w198 w') (fun w' w'' => Ext w' w'') mixed (by kernel_rfl) (Ext.drew _) (fun _ _ h h' => h.trans h') ?_ ?_
        · exact relNone (by decide)
        refine ⟨.bool (true), fun _ uw211 hC212 _ => Gives.run rfl (r_move (v := .bool (true)) rfl) ⟨rfl, Chg.refl _ _⟩, ?_⟩
        refine ⟨.bool (true), fun _ uw213 hC214 _ => Gives.run rfl (r_move (v := .bool (true)) rfl) ⟨rfl, Chg.refl _ _⟩, ?_⟩
        refine ⟨.slice (ownA f192.key) f192.bs.length f192.c, fun _ uw215 hC216 _ => Gives.runW (wantedSome (d' := 109) (b := true) rfl rfl rfl) (r_move (v := .slice (ownA f192.key) f192.bs.length f192.c) rfl) ⟨rfl, Chg.refl _ _⟩, ?_⟩
        refine ⟨.string (strB f192.bs), fun _ uw217 hC218 _ => Gives.runW (wantedSome (d' := 109) (b := true) rfl rfl rfl) (r_toStr (l := f192.bs) und30 und5 und9 ((H209.ext hC218).rdm (T := 5) hfok196 (List.mem_cons_of_mem _ (List.mem_cons_of_mem _ (List.mem_cons_of_mem _ (List.mem_cons_of_mem _ (List.mem_cons_of_mem _ (List.mem_cons_of_mem _ (List.mem_cons_of_mem _ (List.mem_append_right _ (List.mem_append_right _ (hsub208 _ hm197))))))))))) rfl (by rfl)) ⟨rfl, Chg.refl _ _⟩, ?_⟩
        refine ⟨.slice fa p.length fc, fun _ uw219 hC220 _ => Gives.runW (wantedSome (d' := 109) (b := true) rfl rfl rfl) (r_move (v := .slice fa p.length fc) rfl) ⟨rfl, Chg.refl _ _⟩, ?_⟩
        refine ⟨.string (strB p), fun _ uw221 hC222 _ => Gives.runW (wantedSome (d' := 109) (b := true) rfl rfl rfl) (r_toStr (l := p) und30 und5 und9 (hpR.ext (H209.ext hC222).chg) rfl (by rfl)) ⟨rfl, Chg.refl _ _⟩, ?_⟩
        refine ⟨.bool (true), fun _ uw223 hC224 _ => Gives.runW (wantedSome (d' := 109) (b := true) rfl rfl rfl) ((r_eqlStr (s := strB f192.bs) (s' := strB p) rfl rfl).as (v' := .bool (true)) (by rw [hfb194]; simp)) ⟨rfl, Chg.refl _ _⟩, ?_⟩
        refine ⟨.bool (true), fun _ uw225 hC226 _ => Gives.run rfl (r_pickT (u := .bool (true)) rfl rfl) ⟨rfl, Chg.refl _ _⟩, ?_⟩
        refine ⟨.bool (true), fun _ uw227 hC228 _ => Gives.run rfl (r_move (v := .bool (true)) rfl) ⟨rfl, Chg.refl _ _⟩, ?_⟩
        refine ⟨.slice (ownA kyx179) 1 cyx179, fun _ uw229 hC230 _ => Gives.runW (wantedSome (d' := 116) (b := true) rfl rfl rfl) (r_move (v := .slice (ownA kyx179) 1 cyx179) rfl) ⟨rfl, Chg.refl _ _⟩, ?_⟩
        refine ⟨i64 ((1 : Nat)), fun _ uw231 hC232 _ => Gives.runW (wantedSome (d' := 116) (b := true) rfl rfl rfl) (r_lenS sli22 (a := ownA kyx179) (m := 1) (c := cyx179) rfl) ⟨rfl, Chg.refl _ _⟩, ?_⟩
        refine ⟨.bool (true), fun _ uw233 hC234 _ => Gives.runW (wantedSome (d' := 116) (b := true) rfl rfl rfl) ((r_eqlI (a := (1 : Nat)) (b := (1 : Int)) rfl rfl).as (v' := .bool (true)) (by rfl)) ⟨rfl, Chg.refl _ _⟩, ?_⟩
        refine ⟨.bool (true), fun _ uw235 hC236 _ => Gives.run rfl (r_pickT (u := .bool (true)) rfl rfl) ⟨rfl, Chg.refl _ _⟩, ?_⟩
        refine ⟨.bool (true), fun _ uw237 hC238 _ => Gives.run rfl (r_move (v := .bool (true)) rfl) ⟨rfl, Chg.refl _ _⟩, ?_⟩
        refine ⟨.slice (ownA kyx179) 1 cyx179, fun _ uw239 hC240 _ => Gives.runW (wantedSome (d' := 121) (b := true) rfl rfl rfl) (r_move (v := .slice (ownA kyx179) 1 cyx179) rfl) ⟨rfl, Chg.refl _ _⟩, ?_⟩
        refine ⟨.pointer (adr (ownA kyx179) (0 * 1)), fun _ uw241 hC242 _ => Gives.runW (wantedSome (d' := 121) (b := true) rfl rfl rfl) (r_idxS (E := ES) (l := [f186.sv]) (j := 0) sli22 ((H209.ext hC242).rd (k := 0) rfl hx181s) rfl rfl (by first | rfl | omega | (simp; omega)) (by rfl) (by exact Nat.zero_lt_one)) ⟨rfl, Chg.refl _ _⟩, ?_⟩
        refine ⟨.slice (ownA f186.key) f186.bs.length f186.c, fun _ uw243 hC244 _ => Gives.runW (wantedSome (d' := 121) (b := true) rfl rfl rfl) ((r_ldS (E := ES) (l := [f186.sv]) (j := 0) (v := ([f186.sv]).getD 0 sv0) fits30 ((H209.ext hC244).rd (k := 0) rfl hx181s) rfl rfl (at_getD (by exact Nat.zero_lt_one))).as (v' := .slice (ownA f186.key) f186.bs.length f186.c) (by rfl)) ⟨rfl, Chg.refl _ _⟩, ?_⟩
        refine ⟨.string (strB f186.bs), fun _ uw245 hC246 _ => Gives.runW (wantedSome (d' := 121) (b := true) rfl rfl rfl) (r_toStr (l := f186.bs) und30 und5 und9 ((H209.ext hC246).rd (k := 1) rfl hfok189) rfl (by rfl)) ⟨rfl, Chg.refl _ _⟩, ?_⟩
        refine ⟨.slice (ownA key122) (0 + f110.bs.length) c123, fun _ uw247 hC248 _ => Gives.runW (wantedSome (d' := 121) (b := true) rfl rfl rfl) (r_move (v := .slice (ownA key122) (0 + f110.bs.length) c123) rfl) ⟨rfl, Chg.refl _ _⟩, ?_⟩
        refine ⟨.string (strB f110.bs), fun _ uw249 hC250 _ => Gives.runW (wantedSome (d' := 121) (b := true) rfl rfl rfl) (r_toStr (l := f110.bs) und30 und5 und9 ((H209.ext hC250).rd (k := 2) rfl hS130) rfl (by rw [Nat.zero_add])) ⟨rfl, Chg.refl _ _⟩, ?_⟩
        refine ⟨.bool (true), fun _ uw251 hC252 _ => Gives.runW (wantedSome (d' := 121) (b := true) rfl rfl rfl) ((r_eqlStr (s := strB f186.bs) (s' := strB f110.bs) rfl rfl).as (v' := .bool (true)) (by rw [hfb188, hfb112]; simp)) ⟨rfl, Chg.refl _ _⟩, ?_⟩
        refine ⟨.bool (true), fun _ uw253 hC254 _ => Gives.run rfl (r_pickT (u := .bool (true)) rfl rfl) ⟨rfl, Chg.refl _ _⟩, ?_⟩
        refine ⟨.bool (true), fun _ uw255 hC256 _ => Gives.run rfl (r_assign (v := .bool (true)) rfl) ⟨rfl, Chg.refl _ _⟩, ?_⟩
        intro r260 w257 hE259 hF
        have H258 := H209.ext hE259
        refine wnil ?_
        refine thenNormal ?_
        refine retAny ?_
        refine retG (rs := [.tmp 2]) (vs := [.bool (true)]) rfl ⟨⟨rfl, rfl⟩, trivial⟩ ?_
        exact ⟨_, rfl, rfl, H258.chg⟩
end Go.Proofs.YtpmmhpgfbfehmaaDoor.Lk
