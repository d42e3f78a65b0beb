/- The walks of the links. -/
import Derived.Test.YtpmmhpgfbfehmaaDoorLink6
namespace Go.Proofs.YtpmmhpgfbfehmaaDoor.Lk
open Go Go.Proofs.YtpmmhpgfbfehmaaDoor.Vc Go.Proofs.YtpmmhpgfbfehmaaDoor.Er
set_option linter.unusedVariables false
theorem call18 : callable Tryd.prog 18 = true := by kernel_rfl
theorem call24 : callable Tryd.prog 24 = true := by kernel_rfl
theorem linkfull_ok (bs : List (BitVec 8)) (fa : Option Addr) (fc : Nat) (hcap : bs.length ≤ fc) (w₀ : World) (hG : Gl w₀) (hFa : Rd E8 w₀ fa bs) (hbl : bs.length ≤ 140737488355328) : Calls Tryd.prog 10 [.slice fa bs.length fc].toArray w₀ (Ret fun v w' => v = .bool true ∧ Ext w₀ w') := by
  have H := Hp.start No w₀
  refine enter (n := 38) Tryd.func10 rfl rfl (Nat.le_of_ble_eq_true rfl) ?_
  refine seqRegion ?_
  refine sq (r_assign (v := .bool (false)) rfl) ?_
  refine wend ?_
  refine seqRegion ?_
  refine c_call (vs := []) call23 rfl (lnew_ok w₀) ?_
  rintro _ w1 ⟨⟨b3, rfl, HN4⟩, hE5⟩
  have okE := en0_ok 5
  have H6 := (H.join HN4).as (L' := ((endR 30 53 89 b3 en0 ++ (([] : List (Option Nat × Obj)) ++ ([] : List (Option Nat × Obj)))))) rfl
  refine sq (r_assign (v := .pointer (some ⟨b3, 0, none⟩)) rfl) ?_
  refine wend ?_
  refine seqAny ?_
  refine seqRegion ?_
  refine c_call (vs := []) call24 rfl (lawake_ok w1 (Chg.gl H6.chg (fun x => x) hG)) ?_
  rintro _ w7 ⟨rfl, hE8⟩
  have H9 := H6.ext hE8
  refine sq (r_notT rfl) ?_
  refine sq (r_move (v := .bool (false)) rfl) ?_
  refine sqAny (v := .pointer (some ⟨b3, 0, none⟩)) (w' := w7) (wantedSome (d' := 8) (b := false) rfl rfl rfl) (r_move (v := .pointer (some ⟨b3, 0, none⟩)) rfl) ?_
  refine sqAny (v := .bool (false)) (w' := w7) (wantedSome (d' := 8) (b := false) rfl rfl rfl) (r_eqlPN und47 rfl rfl) ?_
  refine sq (r_pickF (v := .bool (false)) rfl rfl) ?_
  refine wend ?_
  refine condFalse rfl ?_
  refine skipAny ?_
  refine thenNormal ?_
  refine seqAny ?_
  refine seqRegion ?_
  refine sq (r_assign (v := i64 ((0 : Int))) rfl) ?_
  refine wend ?_
  refine blockAny ?_
  refine loopAny (σ := Nat × En × List (Option Nat × Obj)) (fun (q, y, G) => [(0, .slice fa bs.length fc), (3, .pointer (some ⟨b3, 0, none⟩)), (4, i64 ((q : Nat)))]) (fun (q, y, G) w' => (q ≤ 64 ∧ y.ok 5 G ∧ abs y = { st0 with queue := List.replicate q ((bs.drop 0).take (min bs.length 100)) }) ∧ Hp No w₀ w' ((endR 30 53 89 b3 y ++ (([] : List (Option Nat × Obj)) ++ G)))) (fun (q, y, G) => 64 - q) ((0, en0, ([] : List (Option Nat × Obj)))) ?_ ?_ ?_
  · exact ⟨rfl, rfl, rfl, trivial⟩
  · exact ⟨⟨by omega, okE, rfl⟩, H9⟩
  rintro ⟨q, y, G⟩ ρ w10 ⟨⟨hq, hyok, hya⟩, HL⟩
  refine seqAny ?_
  refine seqRegion ?_
  refine sq (r_move (v := i64 ((q : Nat))) rfl) ?_
  refine sq (r_lssI (a := (q : Nat)) (b := (64 : Int)) rfl rfl) ?_
  refine wend ?_
  refine condProp (((q : Nat) : Int) < (64 : Int)) rfl (fun hk13 => ?_) (fun hk13 => ?_)
  · skip
    refine skipAny ?_
    refine thenNormal ?_
    refine seqAny ?_
    refine blockAny ?_
    refine seqRegion ?_
    refine sq (r_move (v := .pointer (some ⟨b3, 0, none⟩)) rfl) ?_
    refine sq (r_move (v := .slice fa bs.length fc) rfl) ?_
    refine sq (r_move (v := .slice fa bs.length fc) rfl) ?_
    refine sq (r_lenS sli30 (a := fa) (m := bs.length) (c := fc) rfl) ?_
    refine sq (r_minI (a := (bs.length : Nat)) (b := (100 : Int)) rfl rfl) ?_
    refine sq ((r_sliceS (l := 0) (h := (min bs.length 100)) sli30 rfl (.inr ⟨rfl, rfl⟩) (.inl ⟨_, _, _, rfl, rfl, by first | rfl | omega | (simp; omega)⟩) (by omega) (by omega)).as (v' := .slice (if fc = 0 then fa else adr fa (0 * 1)) (min bs.length 100) (fc - 0)) (by first | rfl | (congr 1; omega) | (simp; omega) | simp)) ?_
    have H12 := Hp.mid (X := []) (A := endR 30 53 89 b3 y) (Y := ([] : List (Option Nat × Obj)) ++ G) HL
    refine c_call (vs := [.pointer (some ⟨b3, 0, none⟩), .slice (if fc = 0 then fa else adr fa (0 * 1)) (min bs.length 100) (fc - 0)]) call25 rfl (send_ok b3 y G ([] ++ (([] : List (Option Nat × Obj)) ++ G)) hyok (fun x h => List.mem_append_right _ (List.mem_append_right _ h)) w₀ w10 H12 (show (abs y).dead = false from (congrArg St.dead hya).trans rfl) ((bs.drop 0).take ((min bs.length 100))) (if fc = 0 then fa else adr fa (0 * 1)) (min bs.length 100) (fc - 0) (by rw [List.length_take]; simp) (Rd.sub (hFa.ext HL.chg) 0 ((min bs.length 100)) (m := fc) (fun e => by first | exact absurd e (by omega) | (rw [show (min bs.length 100) = 0 by omega]; rfl))) (by rw [List.length_take]; omega) (by rw [← bss_len]; show (abs y).queue.length < 64; rw [hya]; simp; omega)) ?_
    rintro _ w13 ⟨rfl, e15, X16, HN17, hok18, hab19⟩
    have H20 := Hp.backA (R := []) (A := endR 30 53 89 b3 e15) (B := ([] : List (Option Nat × Obj))) (X := X16) (F := G) HN17
    obtain ⟨F21, hF22⟩ : ∃ F2, F2 = X16 ++ G := ⟨_, rfl⟩
    rw [← hF22] at H20 hok18
    have hsub23 : ∀ x ∈ G, x ∈ F21 := fun x h => by rw [hF22]; exact List.mem_append_right _ h
    have H24 := H20.as (L' := ((endR 30 53 89 b3 e15 ++ (([] : List (Option Nat × Obj)) ++ F21)))) rfl
    have hab25 : abs e15 = { st0 with queue := List.replicate (q + 1) ((bs.drop 0).take (min bs.length 100)) } := by rw [hab19]; rw [hya]; show ({ st0 with queue := List.replicate q _ ++ [_] } : St) = _; rw [List.replicate_succ']
    refine sq ((r_neqNN isI28 rfl rfl).as (v' := .bool (false)) (by rfl)) ?_
    refine wend ?_
    refine condFalse rfl ?_
    refine skipAny ?_
    refine blockNormal ?_
    refine thenNormal ?_
    refine oneRegion ?_
    refine sq (r_move (v := i64 ((q : Nat))) rfl) ?_
    refine sq (r_addI (a := (q : Nat)) (b := (1 : Int)) rfl rfl (by omega)) ?_
    refine sq (r_assign (v := i64 ((q : Nat) + (1 : Int))) rfl) ?_
    refine wnil ?_
    refine thenNormal ?_
    exact ⟨(q + 1, e15, F21), _, rfl, ⟨rfl, rfl, rfl, trivial⟩, ⟨⟨by omega, hok18, hab25⟩, H24⟩, by show 64 - (q + 1) < 64 - q; omega⟩
  · skip
    obtain rfl : q = 64 := by omega
    refine exitAny ?_
    refine thenExit ?_
    refine thenExit ?_
    refine blockHere ?_
    refine thenNormal ?_
    refine seqRegion ?_
    refine sq (r_move (v := .pointer (some ⟨b3, 0, none⟩)) rfl) ?_
    have H26 := Hp.mid (X := []) (A := endR 30 53 89 b3 y) (Y := ([] : List (Option Nat × Obj)) ++ G) HL
    refine c_call (vs := [.pointer (some ⟨b3, 0, none⟩), .slice none 0 0]) call25 rfl (send_full b3 y G hyok w10 (H26.get (k := 0) rfl) (Chg.gl HL.chg (fun x => x) hG) (show (abs y).dead = false from (congrArg St.dead hya).trans rfl) none 0 0 (by omega) (by rw [← bss_len]; show 64 ≤ (abs y).queue.length; rw [hya]; simp)) ?_
    rintro _ w27 ⟨⟨v29, rfl, hEr30⟩, hE31⟩
    have H32 := HL.ext hE31
    obtain ⟨T33, x34, rfl⟩ := hEr30.iface
    refine c_call (vs := [.iface T33 (x34), i64 ((5 : Int))]) call18 rfl (is_ok 5 (5 : Int) 1 (.iface T33 (x34)) w10.heap.size w27 (hEr30)) ?_
    rintro _ w35 ⟨rfl, hE36⟩
    have H37 := H32.ext hE36
    refine sq (r_move (v := .bool (true)) rfl) ?_
    refine sqAny (v := .pointer (some ⟨b3, 0, none⟩)) (w' := w35) (wantedSome (d' := 27) (b := true) rfl rfl rfl) (r_move (v := .pointer (some ⟨b3, 0, none⟩)) rfl) ?_
    refine q_makeSliceG (E := E8) (m := 1048577) (c := 1048577) (z0 := 0#8) (wantedSome (d' := 27) (b := true) rfl rfl rfl) H37 sli30 zer5 rfl byt5 rfl rfl (by first | rfl | omega | (simp; omega)) (by first | rfl | omega | (simp; omega)) (by omega) (by decide) ?_
    intro b38 w40 hS39 H41 hE42
    have H43 := Hp.mid (X := [((some b38), sob E8 5 (List.replicate 1048577 0#8) (cel E8 (List.replicate (1048577 - 1048577) 0#8)))]) (A := endR 30 53 89 b3 y) (Y := ([] : List (Option Nat × Obj)) ++ G) H41
    refine caAny (wantedSome (d' := 27) (b := true) rfl rfl rfl) (Enters.callL (vs := [.pointer (some ⟨b3, 0, none⟩), .slice (ownA (some b38)) 1048577 1048577]) call25 rfl) (send_long b3 y G hyok w40 (H43.get (k := 0) rfl) (Chg.gl H41.chg (fun x => x) hG) (show (abs y).dead = false from (congrArg St.dead hya).trans rfl) (ownA (some b38)) 1048577 1048577 (by omega)) ?_
    rintro _ w44 ⟨⟨v46, rfl, hEr47⟩, hE48⟩
    have H49 := H41.ext hE48
    obtain ⟨T50, x51, rfl⟩ := hEr47.iface
    refine caAny (wantedSome (d' := 27) (b := true) rfl rfl rfl) (Enters.callL (vs := [.iface T50 (x51), i64 ((3 : Int))]) call18 rfl) (is_ok 3 (3 : Int) 1 (.iface T50 (x51)) w40.heap.size w44 (hEr47)) ?_
    rintro _ w52 ⟨rfl, hE53⟩
    have H54 := H49.ext hE53
    refine sq (r_pickT (u := .bool (true)) rfl rfl) ?_
    refine sq (r_move (v := .bool (true)) rfl) ?_
    refine sqAny (v := .pointer (some ⟨b3, 0, none⟩)) (w' := w52) (wantedSome (d' := 33) (b := true) rfl rfl rfl) (r_move (v := .pointer (some ⟨b3, 0, none⟩)) rfl) ?_
    have H55 := Hp.mid (X := [((some b38), sob E8 5 (List.replicate 1048577 0#8) (cel E8 (List.replicate (1048577 - 1048577) 0#8)))]) (A := endR 30 53 89 b3 y) (Y := ([] : List (Option Nat × Obj)) ++ G) H54
    refine caAny (wantedSome (d' := 33) (b := true) rfl rfl rfl) (Enters.callL (vs := [.pointer (some ⟨b3, 0, none⟩)]) call32 rfl) (waiting_ok b3 y w52 (H55.get (k := 0) rfl)) ?_
    rintro _ w56 ⟨rfl, hE57⟩
    have H58 := H54.ext hE57
    refine sqAny (v := .bool (true)) (w' := w56) (wantedSome (d' := 33) (b := true) rfl rfl rfl) ((r_eqlI (a := (y.q.fs.length : Nat)) (b := (64 : Int)) rfl rfl).as (v' := .bool (true)) (by rw [show y.q.fs.length = 64 by rw [← bss_len]; show (abs y).queue.length = 64; rw [hya]; simp]; rfl)) ?_
    refine sq (r_pickT (u := .bool (true)) rfl rfl) ?_
    refine sq (r_assign (v := .bool (true)) rfl) ?_
    refine wend ?_
    refine retAny ?_
    refine retG (rs := [.tmp 2]) (vs := [.bool (true)]) rfl ⟨⟨rfl, rfl⟩, trivial⟩ ?_
    exact ⟨_, rfl, rfl, H58.chg⟩
end Go.Proofs.YtpmmhpgfbfehmaaDoor.Lk
