/- The walks of the links. -/
import Derived.Test.YtpmmhpgfbfehmaaDoorLink5
namespace Go.Proofs.YtpmmhpgfbfehmaaDoor.Lk
open Go Go.Proofs.YtpmmhpgfbfehmaaDoor.Vc Go.Proofs.YtpmmhpgfbfehmaaDoor.Er
set_option linter.unusedVariables false
theorem call23 : callable Tryd.prog 23 = true := by kernel_rfl
theorem call25 : callable Tryd.prog 25 = true := by kernel_rfl
theorem call27 : callable Tryd.prog 27 = true := by kernel_rfl
theorem call28 : callable Tryd.prog 28 = true := by kernel_rfl
theorem call29 : callable Tryd.prog 29 = true := by kernel_rfl
theorem call32 : callable Tryd.prog 32 = true := by kernel_rfl
theorem und47 : Tryd.prog.underlying 47 = some (.pointer 89) := by kernel_rfl
theorem und9 : Tryd.prog.underlying 9 = some .string := by kernel_rfl
theorem lawake_ok (w₀ : World) (hG : Gl w₀) : Calls Tryd.prog 24 [].toArray w₀ (Ret fun v w' => v = .bool true ∧ Ext w₀ w') := by
  have H := Hp.start No w₀
  refine enter (n := 80) Tryd.func24 rfl rfl (Nat.le_of_ble_eq_true rfl) ?_
  refine seqRegion ?_
  refine sq (r_assign (v := .bool (false)) rfl) ?_
  refine wend ?_
  refine seqRegion ?_
  refine c_call (vs := []) call23 rfl (lnew_ok w₀) ?_
  rintro _ w1 ⟨⟨b3, rfl, HN4⟩, hE5⟩
  have okE := en0_ok 5
  have H6 := (H.join HN4).as (L' := ((endR 30 53 89 b3 en0 ++ (([] : List (Option Nat × Obj)) ++ ([] : List (Option Nat × Obj)))))) rfl
  refine c_call (vs := []) call23 rfl (lnew_ok w1) ?_
  rintro _ w7 ⟨⟨b9, rfl, HN10⟩, hE11⟩
  have H13 := (H6.join HN10).as (L' := endR 30 53 89 b9 en0 ++ (endR 30 53 89 b3 en0 ++ ([] : List (Option Nat × Obj)))) rfl
  have H12 := (Hp.mid (X := endR 30 53 89 b9 en0) (A := endR 30 53 89 b3 en0) (Y := ([] : List (Option Nat × Obj))) H13).as (L' := ((endR 30 53 89 b3 en0 ++ (endR 30 53 89 b9 en0 ++ ([] : List (Option Nat × Obj)))))) rfl
  refine sq (r_assign (v := .pointer (some ⟨b3, 0, none⟩)) rfl) ?_
  refine sq (r_assign (v := .pointer (some ⟨b9, 0, none⟩)) rfl) ?_
  refine wend ?_
  refine seqAny ?_
  refine seqRegion ?_
  refine sq (r_move (v := .pointer (some ⟨b3, 0, none⟩)) rfl) ?_
  refine sq (r_eqlPN und47 rfl rfl) ?_
  refine sq (r_move (v := .bool (false)) rfl) ?_
  refine sqAny (v := .pointer (some ⟨b9, 0, none⟩)) (w' := w7) (wantedSome (d' := 12) (b := false) rfl rfl rfl) (r_move (v := .pointer (some ⟨b9, 0, none⟩)) rfl) ?_
  refine sqAny (v := .bool (false)) (w' := w7) (wantedSome (d' := 12) (b := false) rfl rfl rfl) (r_eqlPN und47 rfl rfl) ?_
  refine sq (r_pickF (v := .bool (false)) rfl rfl) ?_
  refine sq (r_move (v := .bool (false)) rfl) ?_
  refine sqAny (v := .pointer (some ⟨b3, 0, none⟩)) (w' := w7) (wantedSome (d' := 16) (b := false) rfl rfl rfl) (r_move (v := .pointer (some ⟨b3, 0, none⟩)) rfl) ?_
  refine q_buildSliceG (E := E8) (l := [5#8]) (wantedSome (d' := 16) (b := false) rfl rfl rfl) H12 sli30 zer5 (Nat.le_of_ble_eq_true rfl) (ps := [(0, u8 (5#8))]) rfl (by exact fillAll rfl rfl) rfl ?_
  intro b14 w16 hS15 H17 hE18
  have H19 := Hp.mid (X := [((some b14), sob E8 5 ([5#8]) ([]))]) (A := endR 30 53 89 b3 en0) (Y := endR 30 53 89 b9 en0 ++ ([] : List (Option Nat × Obj))) H17
  refine caAny (wantedSome (d' := 16) (b := false) rfl rfl rfl) (Enters.callL (vs := [.pointer (some ⟨b3, 0, none⟩), .slice (ownA (some b14)) 1 1]) call25 rfl) (send_ok b3 en0 ([] : List (Option Nat × Obj)) ([((some b14), sob E8 5 ([5#8]) ([]))] ++ (endR 30 53 89 b9 en0 ++ ([] : List (Option Nat × Obj)))) okE (fun x h => List.mem_append_right _ (List.mem_append_right _ h)) w₀ w16 H19 (show (abs en0).dead = false from (congrArg St.dead (rfl : abs en0 = st0)).trans rfl) ([5#8]) (ownA (some b14)) 1 1 (by rfl) (H17.rd (k := 0) rfl hS15) (by first | omega | exact Nat.le_of_ble_eq_true rfl | (simp; omega)) (by rw [← bss_len]; show (abs en0).queue.length < 64; rw [(rfl : abs en0 = st0)]; decide)) ?_
  rintro _ w20 ⟨rfl, e22, X23, HN24, hok25, hab26⟩
  have H27 := Hp.backA (R := [((some b14), sob E8 5 ([5#8]) ([]))]) (A := endR 30 53 89 b3 e22) (B := endR 30 53 89 b9 en0) (X := X23) (F := ([] : List (Option Nat × Obj))) HN24
  obtain ⟨F28, hF29⟩ : ∃ F2, F2 = X23 ++ ([] : List (Option Nat × Obj)) := ⟨_, rfl⟩
  rw [← hF29] at H27 hok25
  have hsub30 : ∀ x ∈ ([] : List (Option Nat × Obj)), x ∈ F28 := fun x h => by rw [hF29]; exact List.mem_append_right _ h
  have ok32 := okE.mono hsub30
  have H31 := H27.as (L' := (((some b14), sob E8 5 ([5#8]) ([])) :: (endR 30 53 89 b3 e22 ++ (endR 30 53 89 b9 en0 ++ F28)))) rfl
  have hab33 : abs e22 = (⟨[[5#8]], 0#32, 0, 0, 0#32, [], [], false⟩ : St) := by rw [hab26]; rw [(rfl : abs en0 = st0)]; rfl
  refine sqAny (v := .bool (false)) (w' := w20) (wantedSome (d' := 16) (b := false) rfl rfl rfl) (r_neqNN isI28 rfl rfl) ?_
  refine sq (r_pickF (v := .bool (false)) rfl rfl) ?_
  refine wend ?_
  refine condFalse rfl ?_
  refine skipAny ?_
  refine thenNormal ?_
  refine seqRegion ?_
  refine sq (r_move (v := .pointer (some ⟨b3, 0, none⟩)) rfl) ?_
  have H34 := Hp.mid (X := [((some b14), sob E8 5 ([5#8]) ([]))]) (A := endR 30 53 89 b3 e22) (Y := endR 30 53 89 b9 en0 ++ F28) H31
  refine c_call (vs := [.pointer (some ⟨b3, 0, none⟩)]) call28 rfl (step_any b3 e22 F28 ([((some b14), sob E8 5 ([5#8]) ([]))] ++ (endR 30 53 89 b9 en0 ++ F28)) hok25 (fun x h => List.mem_append_right _ (List.mem_append_right _ h)) w₀ w20 H34 hG (by show (abs e22).since < 1000000000; rw [hab33]; first | decide | (dsimp only; decide) | (dsimp only; omega) | (simp; omega) | simp) (by show (abs e22).owed.length ≤ 1000000; rw [hab33]; first | decide | (dsimp only; decide) | (dsimp only; omega) | (simp; omega) | simp) (by show (abs e22).sends ≤ 8; rw [hab33]; first | decide | (dsimp only; decide) | (dsimp only; omega) | (simp; omega) | simp)) ?_
  rintro _ w35 ⟨x37, e38, rfl, hx39, hxb40, hok41, hab42, HN43⟩
  rw [hab33] at hxb40 hab42
  obtain ⟨X44, hX45⟩ : ∃ X, X = (x37.key, sob ES 30 (svs x37.fs) x37.sp) :: frs 5 x37.fs := ⟨_, rfl⟩
  have hok41' := hok41.mono (F' := X44 ++ F28) (fun x h => List.mem_append_right _ h)
  have HN43' := HN43.as (L' := endR 30 53 89 b3 e38 ++ (X44 ++ ([((some b14), sob E8 5 ([5#8]) ([]))] ++ (endR 30 53 89 b9 en0 ++ F28)))) (by rw [hX45]; rfl)
  have hxb40' : bss x37.fs = [sealF 0#8 0#32 [5#8]] := by rw [hxb40]; rfl
  have H47 := Hp.backA (R := [((some b14), sob E8 5 ([5#8]) ([]))]) (A := endR 30 53 89 b3 e38) (B := endR 30 53 89 b9 en0) (X := X44) (F := F28) HN43'
  obtain ⟨F48, hF49⟩ : ∃ F2, F2 = X44 ++ F28 := ⟨_, rfl⟩
  rw [← hF49] at H47 hok41'
  have hsub50 : ∀ x ∈ F28, x ∈ F48 := fun x h => by rw [hF49]; exact List.mem_append_right _ h
  have ok52 := ok32.mono hsub50
  have H51 := H47.as (L' := (((some b14), sob E8 5 ([5#8]) ([])) :: (endR 30 53 89 b3 e38 ++ (endR 30 53 89 b9 en0 ++ F48)))) rfl
  have hm53 : (x37.key, sob ES 30 (svs x37.fs) x37.sp) ∈ F48 := by rw [hF49, hX45]; exact List.mem_append_left _ (List.mem_cons_self ..)
  have hmf54 : ∀ f ∈ x37.fs, f.row 5 ∈ F48 := fun f h => by rw [hF49, hX45]; exact List.mem_append_left _ (List.mem_cons_of_mem _ (List.mem_map_of_mem h))
  have hxn46 : x37.fs.length = 1 := by have := bss_len2 hxb40'; simpa using this
  rw [hxn46]
  have hab55 : abs e38 = (⟨[[5#8]], 0#32, 1, 0, 0#32, [], [], false⟩ : St) := by rw [hab42]; rfl
  refine sq (r_assign (v := .slice (ownA x37.key) 1 x37.c) rfl) ?_
  refine wend ?_
  refine seqAny ?_
  refine seqRegion ?_
  obtain ⟨f56, hf57, hfb58⟩ := bss_one hxb40'
  have hfok59 : f56.ok := hx39.each _ (by rw [hf57]; exact List.mem_singleton.2 rfl)
  have hm60 : f56.row 5 ∈ F48 := hmf54 _ (by rw [hf57]; exact List.mem_singleton.2 rfl)
  have hopn : opn f56.bs = some (0#8, 0#32, [5#8]) := by rw [hfb58]; exact opn_seal _ _ _ (by decide) (by decide)
  have hf5l : f56.bs.length ≤ 1099511627776 := by rw [hfb58]; exact Nat.le_of_ble_eq_true rfl
  refine sq (r_move (v := .slice (ownA x37.key) 1 x37.c) rfl) ?_
  refine sq (r_lenS sli22 (a := ownA x37.key) (m := 1) (c := x37.c) rfl) ?_
  refine sq ((r_neqI (a := (1 : Nat)) (b := (1 : Int)) rfl rfl).as (v' := .bool (false)) (by rfl)) ?_
  refine sq (r_move (v := .bool (false)) rfl) ?_
  refine sqAny (v := .pointer (some ⟨b3, 0, none⟩)) (w' := w35) (wantedSome (d' := 27) (b := false) rfl rfl rfl) (r_move (v := .pointer (some ⟨b3, 0, none⟩)) rfl) ?_
  have H61 := Hp.mid (X := [((some b14), sob E8 5 ([5#8]) ([]))]) (A := endR 30 53 89 b3 e38) (Y := endR 30 53 89 b9 en0 ++ F48) H51
  refine caAny (wantedSome (d' := 27) (b := false) rfl rfl rfl) (Enters.callL (vs := [.pointer (some ⟨b3, 0, none⟩)]) call28 rfl) (step_any b3 e38 F48 ([((some b14), sob E8 5 ([5#8]) ([]))] ++ (endR 30 53 89 b9 en0 ++ F48)) hok41' (fun x h => List.mem_append_right _ (List.mem_append_right _ h)) w₀ w35 H61 hG (by show (abs e38).since < 1000000000; rw [hab55]; first | decide | (dsimp only; decide) | (dsimp only; omega) | (simp; omega) | simp) (by show (abs e38).owed.length ≤ 1000000; rw [hab55]; first | decide | (dsimp only; decide) | (dsimp only; omega) | (simp; omega) | simp) (by show (abs e38).sends ≤ 8; rw [hab55]; first | decide | (dsimp only; decide) | (dsimp only; omega) | (simp; omega) | simp)) ?_
  rintro _ w62 ⟨x64, e65, rfl, hx66, hxb67, hok68, hab69, HN70⟩
  rw [hab55] at hxb67 hab69
  obtain ⟨X71, hX72⟩ : ∃ X, X = (x64.key, sob ES 30 (svs x64.fs) x64.sp) :: frs 5 x64.fs := ⟨_, rfl⟩
  have hok68' := hok68.mono (F' := X71 ++ F48) (fun x h => List.mem_append_right _ h)
  have HN70' := HN70.as (L' := endR 30 53 89 b3 e65 ++ (X71 ++ ([((some b14), sob E8 5 ([5#8]) ([]))] ++ (endR 30 53 89 b9 en0 ++ F48)))) (by rw [hX72]; rfl)
  have hxb67' : bss x64.fs = [] := by rw [hxb67]; rfl
  have H74 := Hp.backA (R := [((some b14), sob E8 5 ([5#8]) ([]))]) (A := endR 30 53 89 b3 e65) (B := endR 30 53 89 b9 en0) (X := X71) (F := F48) HN70'
  obtain ⟨F75, hF76⟩ : ∃ F2, F2 = X71 ++ F48 := ⟨_, rfl⟩
  rw [← hF76] at H74 hok68'
  have hsub77 : ∀ x ∈ F48, x ∈ F75 := fun x h => by rw [hF76]; exact List.mem_append_right _ h
  have ok79 := ok52.mono hsub77
  have H78 := H74.as (L' := (((some b14), sob E8 5 ([5#8]) ([])) :: (endR 30 53 89 b3 e65 ++ (endR 30 53 89 b9 en0 ++ F75)))) rfl
  have hm80 : (x64.key, sob ES 30 (svs x64.fs) x64.sp) ∈ F75 := by rw [hF76, hX72]; exact List.mem_append_left _ (List.mem_cons_self ..)
  have hmf81 : ∀ f ∈ x64.fs, f.row 5 ∈ F75 := fun f h => by rw [hF76, hX72]; exact List.mem_append_left _ (List.mem_cons_of_mem _ (List.mem_map_of_mem h))
  have hxn73 : x64.fs.length = 0 := by have := bss_len2 hxb67'; simpa using this
  rw [hxn73]
  have hab82 : abs e65 = (⟨[[5#8]], 0#32, 1, 1, 0#32, [], [], false⟩ : St) := by rw [hab69]; rfl
  refine sqAny (v := i64 ((0 : Nat))) (w' := w62) (wantedSome (d' := 27) (b := false) rfl rfl rfl) (r_lenS sli22 (a := ownA x64.key) (m := 0) (c := x64.c) rfl) ?_
  refine sqAny (v := .bool (false)) (w' := w62) (wantedSome (d' := 27) (b := false) rfl rfl rfl) ((r_neqI (a := (0 : Nat)) (b := (0 : Int)) rfl rfl).as (v' := .bool (false)) (by rfl)) ?_
  refine sq (r_pickF (v := .bool (false)) rfl rfl) ?_
  refine sq (r_move (v := .bool (false)) rfl) ?_
  refine sqAny (v := .pointer (some ⟨b9, 0, none⟩)) (w' := w62) (wantedSome (d' := 33) (b := false) rfl rfl rfl) (r_move (v := .pointer (some ⟨b9, 0, none⟩)) rfl) ?_
  refine sqAny (v := .slice (ownA x37.key) 1 x37.c) (w' := w62) (wantedSome (d' := 33) (b := false) rfl rfl rfl) (r_move (v := .slice (ownA x37.key) 1 x37.c) rfl) ?_
  refine sqAny (v := .pointer (adr (ownA x37.key) (0 * 1))) (w' := w62) (wantedSome (d' := 33) (b := false) rfl rfl rfl) (r_idxS (E := ES) (l := svs x37.fs) (j := 0) sli22 (H78.rdm (T := 30) hx39.sl (List.mem_cons_of_mem _ (List.mem_append_right _ (List.mem_append_right _ (hsub77 _ hm53))))) rfl rfl (by first | rfl | omega | (simp; omega)) (by rw [svs_len, hxn46]) (by rw [svs_len, hxn46]; decide)) ?_
  refine sqAny (v := .slice (ownA f56.key) f56.bs.length f56.c) (w' := w62) (wantedSome (d' := 33) (b := false) rfl rfl rfl) ((r_ldS (E := ES) (l := svs x37.fs) (j := 0) (v := (svs x37.fs).getD 0 sv0) fits30 (H78.rdm (T := 30) hx39.sl (List.mem_cons_of_mem _ (List.mem_append_right _ (List.mem_append_right _ (hsub77 _ hm53))))) rfl rfl (at_getD (by rw [svs_len, hxn46]; decide))).as (v' := .slice (ownA f56.key) f56.bs.length f56.c) (by rw [hf57]; rfl)) ?_
  have H83 := Hp.midB (R := [((some b14), sob E8 5 ([5#8]) ([]))]) (A := endR 30 53 89 b3 e65) (B := endR 30 53 89 b9 en0) (F := F75) H78
  refine caAny (wantedSome (d' := 33) (b := false) rfl rfl rfl) (Enters.callL (vs := [.pointer (some ⟨b9, 0, none⟩), .slice (ownA f56.key) f56.bs.length f56.c]) call27 rfl) (hear_any b9 en0 F75 ([((some b14), sob E8 5 ([5#8]) ([]))] ++ (endR 30 53 89 b3 e65 ++ F75)) ok79 (fun x h => List.mem_append_right _ (List.mem_append_right _ h)) w₀ w62 H83 f56.bs (ownA f56.key) f56.bs.length f56.c (by rfl) (by exact hfok59.cap) (by exact hf5l) (H78.rdm (T := 5) hfok59 (List.mem_cons_of_mem _ (List.mem_append_right _ (List.mem_append_right _ (hsub77 _ hm60))))) (by show (abs en0).owed.length ≤ 1000000; rw [(rfl : abs en0 = st0)]; first | decide | (dsimp only; decide) | (dsimp only; omega) | (simp; omega) | simp) (by rw [← bss_len]; show (abs en0).came.length ≤ 1000000; rw [(rfl : abs en0 = st0)]; first | decide | (dsimp only; decide) | (dsimp only; omega) | (simp; omega) | simp)) ?_
  rintro _ w84 ⟨rfl, e86, X87, HN88, hok89, hab90⟩
  rw [show (hearS (abs en0) f56.bs).2 = true from by rw [(rfl : abs en0 = st0)]; simp only [hearS, hopn]; rfl]
  have H91 := Hp.backB (R := [((some b14), sob E8 5 ([5#8]) ([]))]) (A := endR 30 53 89 b3 e65) (B := endR 30 53 89 b9 e86) (X := X87) (F := F75) HN88
  obtain ⟨F92, hF93⟩ : ∃ F2, F2 = X87 ++ F75 := ⟨_, rfl⟩
  rw [← hF93] at H91 hok89
  have hsub94 : ∀ x ∈ F75, x ∈ F92 := fun x h => by rw [hF93]; exact List.mem_append_right _ h
  have ok96 := hok68'.mono hsub94
  have H95 := H91.as (L' := (((some b14), sob E8 5 ([5#8]) ([])) :: (endR 30 53 89 b3 e65 ++ (endR 30 53 89 b9 e86 ++ F92)))) rfl
  have hab97 : abs e86 = (⟨[], 0#32, 0, 0, 1#32, [[5#8]], [0#32], false⟩ : St) := by rw [hab90]; rw [(rfl : abs en0 = st0)]; simp only [hearS, hopn]; rfl
  refine sqAny (v := .bool (false)) (w' := w84) (wantedSome (d' := 33) (b := false) rfl rfl rfl) (r_notT rfl) ?_
  refine sq (r_pickF (v := .bool (false)) rfl rfl) ?_
  refine sq (r_move (v := .bool (false)) rfl) ?_
  refine sqAny (v := .pointer (some ⟨b9, 0, none⟩)) (w' := w84) (wantedSome (d' := 41) (b := false) rfl rfl rfl) (r_move (v := .pointer (some ⟨b9, 0, none⟩)) rfl) ?_
  refine sqAny (v := .slice (ownA x37.key) 1 x37.c) (w' := w84) (wantedSome (d' := 41) (b := false) rfl rfl rfl) (r_move (v := .slice (ownA x37.key) 1 x37.c) rfl) ?_
  refine sqAny (v := .pointer (adr (ownA x37.key) (0 * 1))) (w' := w84) (wantedSome (d' := 41) (b := false) rfl rfl rfl) (r_idxS (E := ES) (l := svs x37.fs) (j := 0) sli22 (H95.rdm (T := 30) hx39.sl (List.mem_cons_of_mem _ (List.mem_append_right _ (List.mem_append_right _ (hsub94 _ (hsub77 _ hm53)))))) rfl rfl (by first | rfl | omega | (simp; omega)) (by rw [svs_len, hxn46]) (by rw [svs_len, hxn46]; decide)) ?_
  refine sqAny (v := .slice (ownA f56.key) f56.bs.length f56.c) (w' := w84) (wantedSome (d' := 41) (b := false) rfl rfl rfl) ((r_ldS (E := ES) (l := svs x37.fs) (j := 0) (v := (svs x37.fs).getD 0 sv0) fits30 (H95.rdm (T := 30) hx39.sl (List.mem_cons_of_mem _ (List.mem_append_right _ (List.mem_append_right _ (hsub94 _ (hsub77 _ hm53)))))) rfl rfl (at_getD (by rw [svs_len, hxn46]; decide))).as (v' := .slice (ownA f56.key) f56.bs.length f56.c) (by rw [hf57]; rfl)) ?_
  have H98 := Hp.midB (R := [((some b14), sob E8 5 ([5#8]) ([]))]) (A := endR 30 53 89 b3 e65) (B := endR 30 53 89 b9 e86) (F := F92) H95
  refine caAny (wantedSome (d' := 41) (b := false) rfl rfl rfl) (Enters.callL (vs := [.pointer (some ⟨b9, 0, none⟩), .slice (ownA f56.key) f56.bs.length f56.c]) call27 rfl) (hear_any b9 e86 F92 ([((some b14), sob E8 5 ([5#8]) ([]))] ++ (endR 30 53 89 b3 e65 ++ F92)) hok89 (fun x h => List.mem_append_right _ (List.mem_append_right _ h)) w₀ w84 H98 f56.bs (ownA f56.key) f56.bs.length f56.c (by rfl) (by exact hfok59.cap) (by exact hf5l) (H95.rdm (T := 5) hfok59 (List.mem_cons_of_mem _ (List.mem_append_right _ (List.mem_append_right _ (hsub94 _ (hsub77 _ hm60)))))) (by show (abs e86).owed.length ≤ 1000000; rw [hab97]; first | decide | (dsimp only; decide) | (dsimp only; omega) | (simp; omega) | simp) (by rw [← bss_len]; show (abs e86).came.length ≤ 1000000; rw [hab97]; first | decide | (dsimp only; decide) | (dsimp only; omega) | (simp; omega) | simp)) ?_
  rintro _ w99 ⟨rfl, e101, X102, HN103, hok104, hab105⟩
  rw [show (hearS (abs e86) f56.bs).2 = true from by rw [hab97]; simp only [hearS, hopn]; rfl]
  have H106 := Hp.backB (R := [((some b14), sob E8 5 ([5#8]) ([]))]) (A := endR 30 53 89 b3 e65) (B := endR 30 53 89 b9 e101) (X := X102) (F := F92) HN103
  obtain ⟨F107, hF108⟩ : ∃ F2, F2 = X102 ++ F92 := ⟨_, rfl⟩
  rw [← hF108] at H106 hok104
  have hsub109 : ∀ x ∈ F92, x ∈ F107 := fun x h => by rw [hF108]; exact List.mem_append_right _ h
  have ok111 := ok96.mono hsub109
  have H110 := H106.as (L' := (((some b14), sob E8 5 ([5#8]) ([])) :: (endR 30 53 89 b3 e65 ++ (endR 30 53 89 b9 e101 ++ F107)))) rfl
  have hab112 : abs e101 = (⟨[], 0#32, 0, 0, 1#32, [[5#8]], [0#32, 0#32], false⟩ : St) := by rw [hab105]; rw [hab97]; simp only [hearS, hopn]; rfl
  refine sqAny (v := .bool (false)) (w' := w99) (wantedSome (d' := 41) (b := false) rfl rfl rfl) (r_notT rfl) ?_
  refine sq (r_pickF (v := .bool (false)) rfl rfl) ?_
  refine wend ?_
  refine condFalse rfl ?_
  refine skipAny ?_
  refine thenNormal ?_
  refine seqRegion ?_
  refine sq (r_move (v := .pointer (some ⟨b9, 0, none⟩)) rfl) ?_
  obtain ⟨f113, hf114, hfb115⟩ := bss_at (F := e101.cm.fs) (i := 0) (b := [5#8]) (by show (abs e101).came[0]? = _; rw [hab112]; rfl)
  have H116 := Hp.midB (R := [((some b14), sob E8 5 ([5#8]) ([]))]) (A := endR 30 53 89 b3 e65) (B := endR 30 53 89 b9 e101) (F := F107) H110
  have hfok117 := hok104.cm.each _ (List.mem_of_getElem? hf114)
  have hm118 := hok104.cmm _ (List.mem_of_getElem? hf114)
  refine c_call (vs := [.pointer (some ⟨b9, 0, none⟩)]) call29 rfl (take_some b9 e101 F107 ([((some b14), sob E8 5 ([5#8]) ([]))] ++ (endR 30 53 89 b3 e65 ++ F107)) hok104 (fun x h => List.mem_append_right _ (List.mem_append_right _ h)) w₀ w99 H116 f113 hf114) ?_
  rintro _ w119 ⟨rfl, e121, HN122, hok123, hab124⟩
  have HN122' := HN122.as (L' := endR 30 53 89 b9 e121 ++ (([] : List (Option Nat × Obj)) ++ ([((some b14), sob E8 5 ([5#8]) ([]))] ++ (endR 30 53 89 b3 e65 ++ F107)))) rfl
  have hok123' := hok123.mono (F' := ([] : List (Option Nat × Obj)) ++ F107) (fun x h => h)
  have H126 := Hp.backB (R := [((some b14), sob E8 5 ([5#8]) ([]))]) (A := endR 30 53 89 b3 e65) (B := endR 30 53 89 b9 e121) (X := ([] : List (Option Nat × Obj))) (F := F107) HN122'
  obtain ⟨F127, hF128⟩ : ∃ F2, F2 = ([] : List (Option Nat × Obj)) ++ F107 := ⟨_, rfl⟩
  rw [← hF128] at H126 hok123'
  have hsub129 : ∀ x ∈ F107, x ∈ F127 := fun x h => by rw [hF128]; exact List.mem_append_right _ h
  have ok131 := ok111.mono hsub129
  have H130 := H126.as (L' := (((some b14), sob E8 5 ([5#8]) ([])) :: (endR 30 53 89 b3 e65 ++ (endR 30 53 89 b9 e121 ++ F127)))) rfl
  have hab132 : abs e121 = (⟨[], 0#32, 0, 0, 1#32, [], [0#32, 0#32], false⟩ : St) := by rw [hab124]; rw [hab112]; rfl
  refine sq (r_move (v := .tuple #[.slice (ownA f113.key) f113.bs.length f113.c, .bool (true)]) rfl) ?_
  refine sq (r_extract (vs := #[.slice (ownA f113.key) f113.bs.length f113.c, .bool (true)]) rfl rfl) ?_
  refine sq (r_extract (vs := #[.slice (ownA f113.key) f113.bs.length f113.c, .bool (true)]) rfl rfl) ?_
  refine sq (r_assign (v := .slice (ownA f113.key) f113.bs.length f113.c) rfl) ?_
  refine sq (r_assign (v := .bool (true)) rfl) ?_
  refine wend ?_
  refine seqRegion ?_
  refine sq (r_move (v := .pointer (some ⟨b9, 0, none⟩)) rfl) ?_
  have H136 := Hp.midB (R := [((some b14), sob E8 5 ([5#8]) ([]))]) (A := endR 30 53 89 b3 e65) (B := endR 30 53 89 b9 e121) (F := F127) H130
  refine c_call (vs := [.pointer (some ⟨b9, 0, none⟩)]) call29 rfl (take_none b9 e121 w119 (H136.get (k := 0) rfl) (by rw [← bss_len]; show (abs e121).came.length = 0; rw [hab132]; rfl)) ?_
  rintro _ w137 ⟨rfl, hE138⟩
  have H139 := H130.ext hE138
  refine sq (r_move (v := .tuple #[.slice none 0 0, .bool (false)]) rfl) ?_
  refine sq (r_extract (vs := #[.slice none 0 0, .bool (false)]) rfl rfl) ?_
  refine sq (r_extract (vs := #[.slice none 0 0, .bool (false)]) rfl rfl) ?_
  refine sq (r_assign (v := .slice none 0 0) rfl) ?_
  refine sq (r_assign (v := .bool (false)) rfl) ?_
  refine wend ?_
  refine seqRegion ?_
  refine sq (r_move (v := .bool (true)) rfl) ?_
  refine sq (r_move (v := .bool (true)) rfl) ?_
  refine sqAny (v := .bool (false)) (w' := w137) (wantedSome (d' := 60) (b := true) rfl rfl rfl) (r_move (v := .bool (false)) rfl) ?_
  refine sqAny (v := .bool (true)) (w' := w137) (wantedSome (d' := 60) (b := true) rfl rfl rfl) (r_notF rfl) ?_
  refine sq (r_pickT (u := .bool (true)) rfl rfl) ?_
  refine sq (r_move (v := .bool (true)) rfl) ?_
  refine sqAny (v := .slice (ownA f113.key) f113.bs.length f113.c) (w' := w137) (wantedSome (d' := 64) (b := true) rfl rfl rfl) (r_move (v := .slice (ownA f113.key) f113.bs.length f113.c) rfl) ?_
  refine sqAny (v := .string (strB f113.bs)) (w' := w137) (wantedSome (d' := 64) (b := true) rfl rfl rfl) (r_toStr (l := f113.bs) und30 und5 und9 (H139.rdm (T := 5) hfok117 (List.mem_cons_of_mem _ (List.mem_append_right _ (List.mem_append_right _ (hsub129 _ hm118))))) rfl (by rfl)) ?_
  refine sqAny (v := .bool (true)) (w' := w137) (wantedSome (d' := 64) (b := true) rfl rfl rfl) ((r_eqlStr (s := strB f113.bs) (s' := {data := #[5]}) rfl rfl).as (v' := .bool (true)) (by rw [hfb115, show strB [5#8] = { data := #[5] } from rfl]; simp)) ?_
  refine sq (r_pickT (u := .bool (true)) rfl rfl) ?_
  refine sq (r_move (v := .bool (true)) rfl) ?_
  refine sqAny (v := .pointer (some ⟨b9, 0, none⟩)) (w' := w137) (wantedSome (d' := 69) (b := true) rfl rfl rfl) (r_move (v := .pointer (some ⟨b9, 0, none⟩)) rfl) ?_
  have H140 := Hp.midB (R := [((some b14), sob E8 5 ([5#8]) ([]))]) (A := endR 30 53 89 b3 e65) (B := endR 30 53 89 b9 e121) (F := F127) H139
  refine caAny (wantedSome (d' := 69) (b := true) rfl rfl rfl) (Enters.callL (vs := [.pointer (some ⟨b9, 0, none⟩)]) call28 rfl) (step_any b9 e121 F127 ([((some b14), sob E8 5 ([5#8]) ([]))] ++ (endR 30 53 89 b3 e65 ++ F127)) hok123' (fun x h => List.mem_append_right _ (List.mem_append_right _ h)) w₀ w137 H140 hG (by show (abs e121).since < 1000000000; rw [hab132]; first | decide | (dsimp only; decide) | (dsimp only; omega) | (simp; omega) | simp) (by show (abs e121).owed.length ≤ 1000000; rw [hab132]; first | decide | (dsimp only; decide) | (dsimp only; omega) | (simp; omega) | simp) (by show (abs e121).sends ≤ 8; rw [hab132]; first | decide | (dsimp only; decide) | (dsimp only; omega) | (simp; omega) | simp)) ?_
  rintro _ w141 ⟨x143, e144, rfl, hx145, hxb146, hok147, hab148, HN149⟩
  rw [hab132] at hxb146 hab148
  obtain ⟨X150, hX151⟩ : ∃ X, X = (x143.key, sob ES 30 (svs x143.fs) x143.sp) :: frs 5 x143.fs := ⟨_, rfl⟩
  have hok147' := hok147.mono (F' := X150 ++ F127) (fun x h => List.mem_append_right _ h)
  have HN149' := HN149.as (L' := endR 30 53 89 b9 e144 ++ (X150 ++ ([((some b14), sob E8 5 ([5#8]) ([]))] ++ (endR 30 53 89 b3 e65 ++ F127)))) (by rw [hX151]; rfl)
  have hxb146' : bss x143.fs = [sealF 1#8 0#32 [], sealF 1#8 0#32 []] := by rw [hxb146]; rfl
  have H153 := Hp.backB (R := [((some b14), sob E8 5 ([5#8]) ([]))]) (A := endR 30 53 89 b3 e65) (B := endR 30 53 89 b9 e144) (X := X150) (F := F127) HN149'
  obtain ⟨F154, hF155⟩ : ∃ F2, F2 = X150 ++ F127 := ⟨_, rfl⟩
  rw [← hF155] at H153 hok147'
  have hsub156 : ∀ x ∈ F127, x ∈ F154 := fun x h => by rw [hF155]; exact List.mem_append_right _ h
  have ok158 := ok131.mono hsub156
  have H157 := H153.as (L' := (((some b14), sob E8 5 ([5#8]) ([])) :: (endR 30 53 89 b3 e65 ++ (endR 30 53 89 b9 e144 ++ F154)))) rfl
  have hm159 : (x143.key, sob ES 30 (svs x143.fs) x143.sp) ∈ F154 := by rw [hF155, hX151]; exact List.mem_append_left _ (List.mem_cons_self ..)
  have hmf160 : ∀ f ∈ x143.fs, f.row 5 ∈ F154 := fun f h => by rw [hF155, hX151]; exact List.mem_append_left _ (List.mem_cons_of_mem _ (List.mem_map_of_mem h))
  have hxn152 : x143.fs.length = 2 := by have := bss_len2 hxb146'; simpa using this
  rw [hxn152]
  have hab161 : abs e144 = (⟨[], 0#32, 0, 1, 1#32, [], [], false⟩ : St) := by rw [hab148]; rfl
  refine sqAny (v := i64 ((2 : Nat))) (w' := w141) (wantedSome (d' := 69) (b := true) rfl rfl rfl) (r_lenS sli22 (a := ownA x143.key) (m := 2) (c := x143.c) rfl) ?_
  refine sqAny (v := .bool (true)) (w' := w141) (wantedSome (d' := 69) (b := true) rfl rfl rfl) ((r_eqlI (a := (2 : Nat)) (b := (2 : Int)) rfl rfl).as (v' := .bool (true)) (by rfl)) ?_
  refine sq (r_pickT (u := .bool (true)) rfl rfl) ?_
  refine sq (r_move (v := .bool (true)) rfl) ?_
  refine sqAny (v := .pointer (some ⟨b3, 0, none⟩)) (w' := w141) (wantedSome (d' := 75) (b := true) rfl rfl rfl) (r_move (v := .pointer (some ⟨b3, 0, none⟩)) rfl) ?_
  have H162 := Hp.mid (X := [((some b14), sob E8 5 ([5#8]) ([]))]) (A := endR 30 53 89 b3 e65) (Y := endR 30 53 89 b9 e144 ++ F154) H157
  refine caAny (wantedSome (d' := 75) (b := true) rfl rfl rfl) (Enters.callL (vs := [.pointer (some ⟨b3, 0, none⟩)]) call32 rfl) (waiting_ok b3 e65 w141 (H162.get (k := 0) rfl)) ?_
  rintro _ w163 ⟨rfl, hE164⟩
  have H165 := H157.ext hE164
  refine sqAny (v := .bool (true)) (w' := w163) (wantedSome (d' := 75) (b := true) rfl rfl rfl) ((r_eqlI (a := (e65.q.fs.length : Nat)) (b := (1 : Int)) rfl rfl).as (v' := .bool (true)) (by rw [show e65.q.fs.length = 1 by rw [← bss_len]; show (abs e65).queue.length = 1; rw [hab82]; rfl]; rfl)) ?_
  refine sq (r_pickT (u := .bool (true)) rfl rfl) ?_
  refine sq (r_assign (v := .bool (true)) rfl) ?_
  refine wend ?_
  refine retAny ?_
  refine retG (rs := [.tmp 0]) (vs := [.bool (true)]) rfl ⟨⟨rfl, rfl⟩, trivial⟩ ?_
  exact ⟨_, rfl, rfl, H165.chg⟩
end Go.Proofs.YtpmmhpgfbfehmaaDoor.Lk
