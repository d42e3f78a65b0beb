/- The walks of the circuits. -/
import Derived.Test.YtkclklnfohaheaaDoorCirc2
import Derived.Test.YtkclklnfohaheaaDoorVcTwo
import Derived.Test.YtkclklnfohaheaaDoorVcCopy
namespace Go.Proofs.YtkclklnfohaheaaDoor.Er
open Go Go.Proofs.YtkclklnfohaheaaDoor.Vc Go.Proofs.YtkclklnfohaheaaDoor.Circ
theorem siz3 : siz Tryd.prog 3 = some 1 := by kernel_rfl
def OwnR2 (n : Int) (gs : List Gt) (ol : List Int) (w : World) (v1 v2 : Value) (w' : World) : Prop := ∃ kg1 cg1 spg1 ko1 co1 spo1 kg2 cg2 spg2 ko2 co2 spo2, v1 = .agg #[i64 n, .slice (ownA kg1) gs.length cg1, .slice (ownA ko1) ol.length co1] ∧ v2 = .agg #[i64 n, .slice (ownA kg2) gs.length cg2, .slice (ownA ko2) ol.length co2] ∧ Sl EG kg1 gs cg1 spg1 ∧ Sl EI ko1 ol co1 spo1 ∧ Sl EG kg2 gs cg2 spg2 ∧ Sl EI ko2 ol co2 spo2 ∧
  Hp No w w' [(ko2, sob EI 3 ol spo2), (kg2, sob EG 56 gs spg2), (ko1, sob EI 3 ol spo1), (kg1, sob EG 56 gs spg1)]
theorem OwnR.ext {n : Int} {gs : List Gt} {ol : List Int} {w w1 w2 : World} {v : Value} (h : OwnR n gs ol w v w1) (hE : Ext w1 w2) : OwnR n gs ol w v w2 := by
  obtain ⟨a, b, kg, cg, spg, ko, co, spo, h1, h2, h3, h4, h5, h6⟩ := h
  exact ⟨a, b, kg, cg, spg, ko, co, spo, h1, h2, h3, h4, h5, h6.ext hE⟩
theorem OwnR.old {n : Int} {gs : List Gt} {ol : List Int} {w0 w w1 : World} {v : Value} (h : OwnR n gs ol w v w1) (hE : Ext w0 w) : OwnR n gs ol w0 v w1 := by
  obtain ⟨a, b, kg, cg, spg, ko, co, spo, h1, h2, h3, h4, h5, h6⟩ := h
  exact ⟨a, b, kg, cg, spg, ko, co, spo, h1, h2, h3, h4, h5, ((Hp.start No w0).ext hE).join h6⟩
theorem OwnR2.ext {n : Int} {gs : List Gt} {ol : List Int} {w w1 w2 : World} {v u : Value} (h : OwnR2 n gs ol w v u w1) (hE : Ext w1 w2) : OwnR2 n gs ol w v u w2 := by
  obtain ⟨kg1, cg1, spg1, ko1, co1, spo1, kg2, cg2, spg2, ko2, co2, spo2, h1, h2, h3, h4, h5, h6, h7⟩ := h
  exact ⟨kg1, cg1, spg1, ko1, co1, spo1, kg2, cg2, spg2, ko2, co2, spo2, h1, h2, h3, h4, h5, h6, h7.ext hE⟩
theorem OwnR2.of {n : Int} {gs : List Gt} {ol : List Int} {w u w' : World} {v1 v2 : Value} (h : OwnR n gs ol w v1 u) (g : OwnR n gs ol u v2 w') : OwnR2 n gs ol w v1 v2 w' := by
  obtain ⟨a1, b1, kg1, cg1, spg1, ko1, co1, spo1, h1, rfl, rfl, h4, h5, h6⟩ := h
  obtain ⟨a2, b2, kg2, cg2, spg2, ko2, co2, spo2, g1, rfl, rfl, g4, g5, g6⟩ := g
  exact ⟨kg1, cg1, spg1, ko1, co1, spo1, kg2, cg2, spg2, ko2, co2, spo2, h1, g1, h4, h5, g4, g5, h6.join g6⟩
theorem OwnR.aside {n : Int} {gs : List Gt} {ol : List Int} {w w1 w2 : World} {v : Value} {b : Nat} {cs : Array Value} (h : OwnR n gs ol w v w1) (hb : w1.heap[b]? = some (.cells cs 48 (0, 0))) (hs : w.heap.size ≤ b) (hC : Chg (· = b) w1 w2) : OwnR n gs ol w v w2 := by
  obtain ⟨a, c, kg, cg, spg, ko, co, spo, h1, h2, h3, h4, h5, h6⟩ := h
  refine ⟨a, c, kg, cg, spg, ko, co, spo, h1, h2, h3, h4, h5, h6.aside hC hs (h6.notRow hb fun p hp cs' fr' h => ?_)⟩
  simp only [List.mem_cons, List.not_mem_nil, or_false] at hp
  rcases hp with rfl | rfl <;> (simp only [sob, Obj.cells.injEq] at h; exact absurd h.2.1 (by decide))
theorem OwnR2.not {gs : List Gt} {ol : List Int} {w w1 : World} {b : Nat} {cs : Array Value} {kg1 ko1 kg2 ko2 : Option Nat} {spg1 spo1 spg2 spo2 : List Value}
    (h : Hp No w w1 [(ko2, sob EI 3 ol spo2), (kg2, sob EG 56 gs spg2), (ko1, sob EI 3 ol spo1), (kg1, sob EG 56 gs spg1)]) (hb : w1.heap[b]? = some (.cells cs 48 (0, 0))) :
    ∀ p ∈ [(ko2, sob EI 3 ol spo2), (kg2, sob EG 56 gs spg2), (ko1, sob EI 3 ol spo1), (kg1, sob EG 56 gs spg1)], p.1 ≠ some b := by
  refine h.notRow hb fun p hp cs' fr' h => ?_
  simp only [List.mem_cons, List.not_mem_nil, or_false] at hp
  rcases hp with rfl | rfl | rfl | rfl <;> (simp only [sob, Obj.cells.injEq] at h; exact absurd h.2.1 (by decide))
theorem OwnR2.aside {n : Int} {gs : List Gt} {ol : List Int} {w w1 w2 : World} {v u : Value} {b : Nat} {cs : Array Value} (h : OwnR2 n gs ol w v u w1) (hb : w1.heap[b]? = some (.cells cs 48 (0, 0))) (hs : w.heap.size ≤ b) (hC : Chg (· = b) w1 w2) : OwnR2 n gs ol w v u w2 := by
  obtain ⟨kg1, cg1, spg1, ko1, co1, spo1, kg2, cg2, spg2, ko2, co2, spo2, h1, h2, h3, h4, h5, h6, h7⟩ := h
  exact ⟨kg1, cg1, spg1, ko1, co1, spo1, kg2, cg2, spg2, ko2, co2, spo2, h1, h2, h3, h4, h5, h6, h7.aside hC hs (OwnR2.not h7 hb)⟩
def Z3 : Array Value := #[i64 ((0 : Int)), .slice none 0 0, .slice none 0 0]
/-- what holds while two circuits of one's own are made, in whatever order -/
structure TwoI (n : Int) (gs : List Gt) (ol : List Int) (ws : World) (C1 : Value) (L : Nat → Bool) (r : Env) (w : World) : Prop where
  ext : Ext ws w
  c31 : L 3 = true → L 1 = true
  c61 : L 6 = true → L 1 = true
  c64 : L 6 = true → L 4 = true
  h0 : L 0 = true → r 0 = C1
  h2 : L 2 = true → r 2 = C1
  h1 : L 1 = true → OwnR n gs ol ws (r 1) w
  h3 : L 3 = true → OwnR2 n gs ol ws (r 1) (r 3) w
  h4 : L 4 = true → ∃ b, r 4 = .pointer (some ⟨b, 0, none⟩) ∧ ws.heap.size ≤ b ∧ w.heap[b]? = some (.cells (if L 6 = true then (r 1).cells else Z3) 48 (0, 0))
  h5 : L 5 = true → ∃ b, r 5 = .pointer (some ⟨b, 0, none⟩) ∧ ws.heap.size ≤ b ∧ w.heap[b]? = some (.cells Z3 48 (0, 0))
  h45 : L 4 = true → L 5 = true → r 4 ≠ r 5
section
variable {n : Int} {gs : List Gt} {ol : List Int} {ws w w' : World} {C1 u : Value} {L : Nat → Bool} {r : Env} {b : Nat}
theorem TwoI.go (h : TwoI n gs ol ws C1 L r w) (hE : Ext w w') : TwoI n gs ol ws C1 L r w' :=
  ⟨h.ext.trans hE, h.c31, h.c61, h.c64, h.h0, h.h2, fun x => (h.h1 x).ext hE, fun x => (h.h3 x).ext hE, fun x => (h.h4 x).imp fun _ ⟨a, b, c⟩ => ⟨a, b, hE.get c⟩, fun x => (h.h5 x).imp fun _ ⟨a, b, c⟩ => ⟨a, b, hE.get c⟩, h.h45⟩
theorem TwoI.p0 (h : TwoI n gs ol ws C1 L r w) : TwoI n gs ol ws C1 (fun k => k == 0 || L k) (fun k => if k = 0 then C1 else r k) w :=
  ⟨h.ext, by simpa using h.c31, by simpa using h.c61, by simpa using h.c64, fun _ => rfl, by simpa using h.h2, by simpa using h.h1, by simpa using h.h3, by simpa using h.h4, by simpa using h.h5, by simpa using h.h45⟩
theorem TwoI.p2 (h : TwoI n gs ol ws C1 L r w) : TwoI n gs ol ws C1 (fun k => k == 2 || L k) (fun k => if k = 2 then C1 else r k) w :=
  ⟨h.ext, by simpa using h.c31, by simpa using h.c61, by simpa using h.c64, by simpa using h.h0, fun _ => rfl, by simpa using h.h1, by simpa using h.h3, by simpa using h.h4, by simpa using h.h5, by simpa using h.h45⟩
theorem TwoI.p1 (h : TwoI n gs ol ws C1 L r w) (hL : L 1 = false) (hu : OwnR n gs ol w u w') (hE : Ext w w') : TwoI n gs ol ws C1 (fun k => k == 1 || L k) (fun k => if k = 1 then u else r k) w' := by
  have hu := hu.old h.ext
  have h := h.go hE
  have e3 : L 3 = false := Bool.eq_false_iff.2 fun x => by rw [h.c31 x] at hL; cases hL
  have e6 : L 6 = false := Bool.eq_false_iff.2 fun x => by rw [h.c61 x] at hL; cases hL
  refine ⟨h.ext, fun _ => rfl, fun _ => rfl, by simpa using h.c64, by simpa using h.h0, by simpa using h.h2, fun _ => hu, fun x => ?_, ?_, by simpa using h.h5, by simpa using h.h45⟩
  · simp [e3] at x
  · have := h.h4; simpa [e6] using this
theorem TwoI.p3 (h : TwoI n gs ol ws C1 L r w) (hL : L 1 = true) (hu : OwnR n gs ol w u w') (hE : Ext w w') : TwoI n gs ol ws C1 (fun k => k == 3 || L k) (fun k => if k = 3 then u else r k) w' := by
  have h3 := OwnR2.of (h.h1 hL) hu
  have h := h.go hE
  exact ⟨h.ext, fun _ => by simpa using hL, by simpa using h.c61, by simpa using h.c64, by simpa using h.h0, by simpa using h.h2, by simpa using h.h1, fun _ => h3, by simpa using h.h4, by simpa using h.h5, by simpa using h.h45⟩
theorem TwoI.p4 (h : TwoI n gs ol ws C1 L r w) (hL : L 4 = false) : TwoI n gs ol ws C1 (fun k => k == 4 || L k) (fun k => if k = 4 then .pointer (some ⟨w.heap.size, 0, none⟩) else r k) (w.alloc (.cells Z3 48 (0, 0))) := by
  have hs := h.ext.size
  have hlt : ∀ b, r 5 = .pointer (some ⟨b, 0, none⟩) → L 5 = true → b < w.heap.size := fun b hb h5 => by
    obtain ⟨b', e, _, hg⟩ := h.h5 h5
    rw [hb] at e; cases e; exact lt_of_some hg
  have h := h.go (Ext.alloc w (.cells Z3 48 (0, 0)))
  have e6 : L 6 = false := Bool.eq_false_iff.2 fun x => by rw [h.c64 x] at hL; cases hL
  refine ⟨h.ext, by simpa using h.c31, by simpa using h.c61, fun _ => rfl, by simpa using h.h0, by simpa using h.h2, by simpa using h.h1, by simpa using h.h3, fun _ => ⟨_, rfl, hs, ?_⟩, by simpa using h.h5, fun _ h5 => ?_⟩
  · simp only [e6]; exact alloc_new w _
  · show Value.pointer (some ⟨w.heap.size, 0, none⟩) ≠ r 5
    intro e
    have := hlt _ e.symm (by simpa using h5)
    omega
theorem TwoI.p5 (h : TwoI n gs ol ws C1 L r w) : TwoI n gs ol ws C1 (fun k => k == 5 || L k) (fun k => if k = 5 then .pointer (some ⟨w.heap.size, 0, none⟩) else r k) (w.alloc (.cells Z3 48 (0, 0))) := by
  have hs := h.ext.size
  have hlt : ∀ b, r 4 = .pointer (some ⟨b, 0, none⟩) → L 4 = true → b < w.heap.size := fun b hb h4 => by
    obtain ⟨b', e, _, hg⟩ := h.h4 h4
    rw [hb] at e; cases e; exact lt_of_some hg
  have h := h.go (Ext.alloc w (.cells Z3 48 (0, 0)))
  refine ⟨h.ext, by simpa using h.c31, by simpa using h.c61, by simpa using h.c64, by simpa using h.h0, by simpa using h.h2, by simpa using h.h1, by simpa using h.h3, by simpa using h.h4, fun _ => ⟨_, rfl, hs, alloc_new w _⟩, fun h4 _ => ?_⟩
  show r 4 ≠ Value.pointer (some ⟨w.heap.size, 0, none⟩)
  intro e
  have := hlt _ e (by simpa using h4)
  omega
theorem TwoI.p6 (h : TwoI n gs ol ws C1 L r w) (h1 : L 1 = true) (hL : L 4 = true) (hb : r 4 = .pointer (some ⟨b, 0, none⟩)) :
    TwoI n gs ol ws C1 (fun k => k == 6 || L k) (fun k => if k = 6 then undef else r k) (setBlk w b (.cells (r 1).cells 48 (0, 0))) := by
  obtain ⟨b', e, hs, hg⟩ := h.h4 hL
  rw [hb] at e; cases e
  have hC := Chg.setBlk w b (.cells (r 1).cells 48 (0, 0))
  refine ⟨h.ext.own (.inr hs) hC, by simpa using h.c31, fun _ => by simpa using h1, fun _ => by simpa using hL, by simpa using h.h0, by simpa using h.h2, fun x => ?_, fun x => ?_, fun _ => ⟨b, hb, hs, ?_⟩, fun x => ?_, by simpa using h.h45⟩
  · exact (h.h1 h1).aside hg hs hC
  · exact (h.h3 (by simpa using x)).aside hg hs hC
  · exact setBlk_new hg
  · obtain ⟨b5, e5, hs5, hg5⟩ := h.h5 (by simpa using x)
    refine ⟨b5, e5, hs5, hC.blk _ _ (fun e => h.h45 hL (by simpa using x) (by rw [hb, e5, e])) hg5⟩
theorem TwoI.done (h : TwoI n gs ol ws C1 L r w) (hL : ∀ j, j < 7 → L j = true) : ∃ b8 b9 kg1 cg1 spg1 ko1 co1 spo1 kg2 cg2 spg2 ko2 co2 spo2, r 4 = .pointer (some ⟨b8, 0, none⟩) ∧ r 5 = .pointer (some ⟨b9, 0, none⟩) ∧
    r 3 = .agg #[i64 n, .slice (ownA kg2) gs.length cg2, .slice (ownA ko2) ol.length co2] ∧ Sl EG kg1 gs cg1 spg1 ∧ Sl EI ko1 ol co1 spo1 ∧ Sl EG kg2 gs cg2 spg2 ∧ Sl EI ko2 ol co2 spo2 ∧
    Hp No ws w [(some b9, .cells Z3 48 (0, 0)), (some b8, .cells #[i64 n, .slice (ownA kg1) gs.length cg1, .slice (ownA ko1) ol.length co1] 48 (0, 0)), (ko2, sob EI 3 ol spo2), (kg2, sob EG 56 gs spg2), (ko1, sob EI 3 ol spo1), (kg1, sob EG 56 gs spg1)] := by
  obtain ⟨kg1, cg1, spg1, ko1, co1, spo1, kg2, cg2, spg2, ko2, co2, spo2, a1, a2, a3, a4, a5, a6, H⟩ := h.h3 (hL 3 (by decide))
  obtain ⟨b8, e8, hs8, hg8⟩ := h.h4 (hL 4 (by decide))
  obtain ⟨b9, e9, hs9, hg9⟩ := h.h5 (hL 5 (by decide))
  rw [if_pos (hL 6 (by decide)), a1] at hg8
  have H8 := H.also hs8 hg8 (OwnR2.not H hg8)
  have H9 := H8.also hs9 hg9 (fun p hp => by
    rcases List.mem_cons.1 hp with rfl | hp
    · intro e; cases e; exact h.h45 (hL 4 (by decide)) (hL 5 (by decide)) (by rw [e8, e9])
    · exact OwnR2.not H hg9 p hp)
  exact ⟨b8, b9, kg1, cg1, spg1, ko1, co1, spo1, kg2, cg2, spg2, ko2, co2, spo2, e8, e9, a2, a3, a4, a5, a6, H9⟩
theorem TwoI.start : TwoI n gs ol w C1 (fun _ => false) r { w with drawn := w.drawn + 1 } :=
  ⟨Ext.drew _, by simp, by simp, by simp, by simp, by simp, by simp, by simp, by simp, by simp, by simp⟩
theorem TwoI.s6 {m : Nat} {ops : Array Oper} {ρ : Env} {x y : Operand} {t : TypeId} {pos : String} {after : Array Edge} (h : TwoI n gs ol ws C1 L r w) (h1 : L 1 = true) (h4 : L 4 = true) (h6 : L 6 = false) (hx : ev m ρ x = r 4) (hy : ev m ρ y = r 1) :
    Gives Tryd.prog m ops ρ ⟨none, .store 48 x y, t, pos, after, none⟩ w fun u w' => TwoI n gs ol ws C1 (fun k => k == 6 || L k) (fun k => if k = 6 then u else r k) w' := by
  obtain ⟨b, e4, hs, hg⟩ := h.h4 h4
  obtain ⟨ng, no, kg, cg, spg, ko, co, spo, e1, _⟩ := h.h1 h1
  rw [if_neg (by rw [h6]; decide)] at hg
  have hp := h.p6 h1 h4 e4
  refine .inl ⟨wantedNone rfl _ _, .inr (.inl ⟨_, Does.store (hx.trans e4) hy siz48 ?_ ?_ hg (Nat.le_of_ble_eq_true rfl), ?_⟩)⟩
  · rw [e1]; rfl
  · rw [e1]; intro u hu; simp [Value.cells] at hu; rcases hu with rfl | rfl | rfl <;> rfl
  · have e : putR Z3 0 (r 1).cells.toList = (r 1).cells := by rw [e1]; rfl
    rw [e]; exact hp
end

theorem eval_goodL (n : Int) (gs : List Gt) (ol : List Int) (ga oa : Option Addr) (gc oc : Nat) (mg mo : Nat) (hmg : mg = gs.length) (hmo : mo = ol.length) (inp : List Bool) (ia : Option Addr) (ic mi : Nat) (hmi : mi = inp.length) (w : World) (hG : Gl w) (hGs : Rd EG w ga gs) (hOl : Rd EI w oa ol) (hgl : gs.length ≤ 140737488355328) (hol : ol.length ≤ 140737488355328) (hIn : Rd EB w ia inp) (hg : IsC n gs ol) (hl : (inp.length : Int) = n) : Calls Tryd.prog 26 [.agg #[i64 n, .slice ga mg gc, .slice oa mo oc], .slice ia mi ic].toArray w (Ret fun v w' => (∃ r, v = .tuple #[r, .nilIface] ∧ SlRes EB 4 (evalS gs ol inp) w r w') ∧ Ext w w') := by
  subst hmg hmo hmi; exact eval_good n gs ol ga oa gc oc inp ia ic w hG hGs hOl hgl hol hIn hg hl

theorem ands_okL (n : Int) (gs : List Gt) (ol : List Int) (ga oa : Option Addr) (gc oc : Nat) (mg mo : Nat) (hmg : mg = gs.length) (hmo : mo = ol.length) (w : World) (hGs : Rd EG w ga gs) (hgl : gs.length ≤ 140737488355328) : Calls Tryd.prog 27 [.agg #[i64 n, .slice ga mg gc, .slice oa mo oc]].toArray w (Ret fun v w' => v = i64 ((andsS gs gs.length : Nat)) ∧ Ext w w') := by
  subst hmg hmo; exact ands_ok n gs ol ga oa gc oc w hGs hgl

set_option maxHeartbeats 4000000 in
theorem circturned_ok (n : Int) (gs : List Gt) (ol : List Int) (ga oa : Option Addr) (gc oc : Nat) (inp : List Bool) (ia : Option Addr) (ic : Nat) (hgc : gs.length ≤ gc) (hoc : ol.length ≤ oc) (w : World) (hG : Gl w) (hGs : Rd EG w ga gs) (hOl : Rd EI w oa ol) (hIn : Rd EB w ia inp) : Calls Tryd.prog 6 [.agg #[i64 (n), .slice ga gs.length gc, .slice oa ol.length oc], .slice ia inp.length ic].toArray w (Ret fun v w' => v = .bool true ∧ Ext w w') := by
  obtain ⟨g1, hg1⟩ : ∃ g1, g1 = gs.take 4200 := ⟨_, rfl⟩
  obtain ⟨l1, hl1⟩ : ∃ l1, l1 = ol.take 80 := ⟨_, rfl⟩
  have hgl1 : g1.length ≤ 4200 := by rw [hg1, List.length_take]; omega
  have hll1 : l1.length ≤ 80 := by rw [hl1, List.length_take]; omega
  have H := Hp.start No w
  refine enter (n := 159) Tryd.func6 rfl rfl (Nat.le_of_ble_eq_true rfl) ?_
  refine seqRegion ?_
  refine q_box (v := .agg #[i64 (n), .slice ga gs.length gc, .slice oa ol.length oc]) (o := .cells #[i64 (n), .slice ga gs.length gc, .slice oa ol.length oc] 48 (0, 0)) H rfl (by rfl) ?_
  intro b1 w2 hb1 H3 hE4
  refine sq (r_assign (v := .bool (false)) rfl) ?_
  refine wend ?_
  refine seqAny ?_
  refine seqRegion ?_
  refine c_call (vs := []) call23 rfl (cawake_ok w2 (Chg.gl H3.chg (fun x => x) hG)) ?_
  rintro _ w5 ⟨rfl, hE6⟩
  have H7 := H3.ext hE6
  refine sq (r_notT rfl) ?_
  refine wend ?_
  refine condFalse rfl ?_
  refine skipAny ?_
  refine thenNormal ?_
  refine seqRegion ?_
  refine sq (r_loadA (cs' := #[i64 (n), .slice ga gs.length gc, .slice oa ol.length oc]) agg48 siz48 (H7.get (k := 0) rfl) (off := 0) rfl (by exact Nat.le_of_ble_eq_true rfl) (by rfl)) ?_
  refine c_call (vs := [.agg #[i64 (n), .slice ga gs.length gc, .slice oa ol.length oc]]) call24 rfl (own_ok n gs ol ga oa gc oc hgc hoc w5 (hGs.ext H7.chg) (hOl.ext H7.chg)) ?_
  rintro _ w8 ⟨⟨ng10, no11, kg12, cg13, spg14, ko15, co16, spo17, rfl, rfl, rfl, hSg18, hSo19, HN20⟩, hE21⟩
  rw [← hg1] at hSg18 HN20
  rw [← hl1] at hSo19 HN20
  rw [← hg1, ← hl1]
  have H22 := (H7.join HN20).as (L' := [(ko15, sob EI 3 l1 spo17), (kg12, sob EG 56 g1 spg14), (some b1, .cells #[i64 (n), .slice ga gs.length gc, .slice oa ol.length oc] 48 (0, 0))]) rfl
  refine d_store (k := 2) (v := .agg #[i64 (n), .slice (ownA kg12) g1.length cg13, .slice (ownA ko15) l1.length co16]) (cs' := #[i64 (n), .slice (ownA kg12) g1.length cg13, .slice (ownA ko15) l1.length co16]) H22 rfl rfl rfl siz48 (by rfl) (by intro u hu; simp [Value.cells] at hu; first | (subst hu; rfl) | (rcases hu with rfl | rfl | rfl <;> rfl)) (by exact Nat.le_of_ble_eq_true rfl) (by rfl) ?_
  intro w23 H24 hC25
  have H24' := H24.as (L' := [(ko15, sob EI 3 l1 spo17), (kg12, sob EG 56 g1 spg14), (some b1, .cells #[i64 (n), .slice (ownA kg12) g1.length cg13, .slice (ownA ko15) l1.length co16] 48 (0, 0))]) rfl
  clear H24
  refine wend ?_
  refine seqAny ?_
  refine seqRegion ?_
  refine sq (r_loadA (cs' := #[i64 (n), .slice (ownA kg12) g1.length cg13, .slice (ownA ko15) l1.length co16]) agg48 siz48 (H24'.get (k := 2) rfl) (off := 0) rfl (by exact Nat.le_of_ble_eq_true rfl) (by rfl)) ?_
  have := H24'.lt (List.mem_of_getElem? (i := 2) rfl) rfl
  refine c_call (vs := [.agg #[i64 (n), .slice (ownA kg12) g1.length cg13, .slice (ownA ko15) l1.length co16]]) call25 rfl (check_ok n g1 l1 (ownA kg12) (ownA ko15) cg13 co16 w23 (Chg.gl H24'.chg (fun x => x) hG) (H24'.rd (k := 1) rfl hSg18) (H24'.rd (k := 0) rfl hSo19) (by omega) (by omega)) ?_
  rintro v28 w26 ⟨⟨rfl, hg31⟩ | ⟨hEr32, hg31⟩, hE29⟩
  · skip
    have H30 := H24'.ext hE29
    have hlo := hg31.lo
    have hhi := hg31.hi
    have hgt := hg31.gates
    have hou := hg31.outs
    refine sq (r_neqNN isI40 rfl rfl) ?_
    refine sq (r_move (v := .bool (false)) rfl) ?_
    refine sqAny (v := .pointer (some ⟨b1, 1, none⟩)) (w' := w26) (wantedSome (d' := 24) (b := false) rfl rfl rfl) (r_fieldAddr (off' := 1) fld48_1 (by decide) (b := b1) (off := 0) rfl (by omega)) ?_
    refine sqAny (v := .slice (ownA kg12) g1.length cg13) (w' := w26) (wantedSome (d' := 24) (b := false) rfl rfl rfl) (r_loadC (v := .slice (ownA kg12) g1.length cg13) one46 (H30.get (k := 2) rfl) (off := 1) rfl (by rfl)) ?_
    refine sqAny (v := i64 ((g1.length : Nat))) (w' := w26) (wantedSome (d' := 24) (b := false) rfl rfl rfl) (r_lenS sli46 (a := ownA kg12) (m := g1.length) (c := cg13) rfl) ?_
    refine sqAny (v := .bool (decide (((3000 : Int) : Int) < (g1.length : Nat)))) (w' := w26) (wantedSome (d' := 24) (b := false) rfl rfl rfl) (r_gtrI (a := (g1.length : Nat)) (b := (3000 : Int)) rfl rfl) ?_
    refine sq (r_pickF (v := .bool (decide (((3000 : Int) : Int) < (g1.length : Nat)))) rfl rfl) ?_
    refine sq (r_move (v := .bool (decide (((3000 : Int) : Int) < (g1.length : Nat)))) rfl) ?_
    by_cases g35 : ((3000 : Int) : Int) < (g1.length : Nat)
    · skip
      refine skAny (wantedSome (d' := 30) (b := true) rfl rfl (congrArg Value.bool (decide_eq_true g35))) ?_
      refine skAny (wantedSome (d' := 30) (b := true) rfl rfl (congrArg Value.bool (decide_eq_true g35))) ?_
      refine skAny (wantedSome (d' := 30) (b := true) rfl rfl (congrArg Value.bool (decide_eq_true g35))) ?_
      refine sq (r_pickT (u := .bool (true)) (congrArg Value.bool (decide_eq_true g35)) rfl) ?_
      refine wend ?_
      refine condTrue rfl ?_
      refine seqRegion ?_
      refine sq (r_assign (v := .bool (true)) rfl) ?_
      refine wend ?_
      refine retAny ?_
      refine thenRet ?_
      refine retG (rs := [.tmp 4]) (vs := [.bool (true)]) rfl ⟨⟨rfl, rfl⟩, trivial⟩ ?_
      exact ⟨_, rfl, rfl, H30.chg⟩
    · skip
      refine sqAny (v := .pointer (some ⟨b1, 0, none⟩)) (w' := w26) (wantedSome (d' := 30) (b := false) rfl rfl (congrArg Value.bool (decide_eq_false g35))) (r_fieldAddr (off' := 0) fld48_0 (by decide) (b := b1) (off := 0) rfl (by omega)) ?_
      refine sqAny (v := i64 (n)) (w' := w26) (wantedSome (d' := 30) (b := false) rfl rfl (congrArg Value.bool (decide_eq_false g35))) (r_loadC (v := i64 (n)) one3 (H30.get (k := 2) rfl) (off := 0) rfl (by rfl)) ?_
      refine sqAny (v := .bool (decide (((3000 : Int) : Int) < n))) (w' := w26) (wantedSome (d' := 30) (b := false) rfl rfl (congrArg Value.bool (decide_eq_false g35))) (r_gtrI (a := n) (b := (3000 : Int)) rfl rfl) ?_
      refine sq (r_pickF (v := .bool (decide (((3000 : Int) : Int) < n))) (congrArg Value.bool (decide_eq_false g35)) rfl) ?_
      refine wend ?_
      refine condProp (((3000 : Int) : Int) < n) rfl (fun c34 => ?_) (fun c34 => ?_)
      · skip
        refine seqRegion ?_
        refine sq (r_assign (v := .bool (true)) rfl) ?_
        refine wend ?_
        refine retAny ?_
        refine thenRet ?_
        refine retG (rs := [.tmp 4]) (vs := [.bool (true)]) rfl ⟨⟨rfl, rfl⟩, trivial⟩ ?_
        exact ⟨_, rfl, rfl, H30.chg⟩
      · skip
        refine skipAny ?_
        refine thenNormal ?_
        refine seqRegion ?_
        refine sq (r_fieldAddr (off' := 0) fld48_0 (by decide) (b := b1) (off := 0) rfl (by omega)) ?_
        refine sq (r_loadC (v := i64 (n)) one3 (H30.get (k := 2) rfl) (off := 0) rfl (by rfl)) ?_
        refine q_makeSlice (E := EB) (m := n.toNat) (c := n.toNat) (z0 := false) H30 sli49 zer4 rfl byt4 rfl rfl (by first | rfl | omega | (simp; omega)) (by first | rfl | omega | (simp; omega)) (by omega) (by omega) ?_
        intro b36 w38 hS37 H39 _
        refine sq (r_assign (v := .slice (ownA (some b36)) n.toNat n.toNat) rfl) ?_
        refine wend ?_
        refine seqRegion ?_
        refine sq (r_move (v := .slice (ownA (some b36)) n.toNat n.toNat) rfl) ?_
        refine sq (r_move (v := .slice ia inp.length ic) rfl) ?_
        refine q_copy (E := EB) (k := 0) (l := List.replicate n.toNat false) (l2 := inp) H39 rfl hS37 rfl sli49 (hIn.ext H39.chg) rfl (by simp) rfl (by rfl) ?_
        intro w41 hS40 H42
        have H42' := H42.as (L' := [((some b36), sob EB 4 (cpl (List.replicate n.toNat false) inp) (cel EB (List.replicate (n.toNat - n.toNat) false))), (ko15, sob EI 3 l1 spo17), (kg12, sob EG 56 g1 spg14), (some b1, .cells #[i64 (n), .slice (ownA kg12) g1.length cg13, .slice (ownA ko15) l1.length co16] 48 (0, 0))]) rfl
        clear H42
        obtain ⟨bl, hbl⟩ : ∃ bl, bl = cpl (List.replicate n.toNat false) inp := ⟨_, rfl⟩
        have hbl2 : bl.length = n.toNat := by rw [hbl, cpl_len, List.length_replicate]
        have hbn : (bl.length : Int) = n := by omega
        have e43 : cpl (List.replicate n.toNat false) inp = bl := by exact hbl.symm
        have hS44 := hS40
        rw [e43] at hS44
        have H45 := H42'.as (L' := [((some b36), sob EB 4 bl (cel EB (List.replicate (n.toNat - n.toNat) false))), (ko15, sob EI 3 l1 spo17), (kg12, sob EG 56 g1 spg14), (some b1, .cells #[i64 (n), .slice (ownA kg12) g1.length cg13, .slice (ownA ko15) l1.length co16] 48 (0, 0))]) (by rw [e43])
        refine wend ?_
        refine seqRegion ?_
        refine sq (r_loadA (cs' := #[i64 (n), .slice (ownA kg12) g1.length cg13, .slice (ownA ko15) l1.length co16]) agg48 siz48 (H45.get (k := 3) rfl) (off := 0) rfl (by exact Nat.le_of_ble_eq_true rfl) (by rfl)) ?_
        refine sq (r_move (v := .slice (ownA (some b36)) n.toNat n.toNat) rfl) ?_
        refine c_call (vs := [.agg #[i64 (n), .slice (ownA kg12) g1.length cg13, .slice (ownA ko15) l1.length co16], .slice (ownA (some b36)) n.toNat n.toNat]) call26 rfl (eval_goodL n g1 l1 (ownA kg12) (ownA ko15) cg13 co16 g1.length l1.length (by rfl) (by rfl) bl (ownA (some b36)) n.toNat n.toNat (by exact hbl2.symm) w41 (Chg.gl H45.chg (fun x => x) hG) (H45.rd (k := 2) rfl hSg18) (H45.rd (k := 1) rfl hSo19) (by have h := turnS_len notG g1 l1 l1.length; have h2 := turnS_len xorG g1 l1 l1.length; have h3 := setO_len n g1.length l1 l1.length; omega) (by have h := turnS_len notG g1 l1 l1.length; have h2 := turnS_len xorG g1 l1 l1.length; have h3 := setO_len n g1.length l1 l1.length; omega) (H45.rd (k := 0) rfl hS44) (hg31) hbn) ?_
        rintro _ w46 ⟨⟨_, rfl, key48, c49, sp50, rfl, hS51, hk52⟩, hE53⟩
        rw [show (evalS g1 l1 bl).length = l1.length from evalS_len _ _ _]
        have H54 := H45.add hE53 hk52
        refine sq (r_move (v := .tuple #[.slice (ownA key48) l1.length c49, .nilIface]) rfl) ?_
        refine sq (r_extract (vs := #[.slice (ownA key48) l1.length c49, .nilIface]) rfl rfl) ?_
        refine sq (r_extract (vs := #[.slice (ownA key48) l1.length c49, .nilIface]) rfl rfl) ?_
        refine sq (r_assign (v := .slice (ownA key48) l1.length c49) rfl) ?_
        refine sq (r_assign (v := .nilIface) rfl) ?_
        refine wend ?_
        refine seqAny ?_
        refine seqRegion ?_
        refine sq (r_move (v := .nilIface) rfl) ?_
        refine sq (r_neqNN isI40 rfl rfl) ?_
        refine wend ?_
        refine condFalse rfl ?_
        refine skipAny ?_
        refine thenNormal ?_
        refine seqAny ?_
        refine drawI (m := 7) [0, 1, 0, 7, 0, 0, 63, 127] (TwoI n g1 l1 w46 (.agg #[i64 (n), .slice (ownA kg12) g1.length cg13, .slice (ownA ko15) l1.length co16])) mixed (by kernel_rfl) TwoI.start ?_
        refine ⟨fun L r uw hL hA hI => Gives.run rfl (r_loadA (cs' := #[i64 (n), .slice (ownA kg12) g1.length cg13, .slice (ownA ko15) l1.length co16]) agg48 siz48 ((H54.ext hI.ext).get (k := 4) rfl) (off := 0) rfl (by exact Nat.le_of_ble_eq_true rfl) (by rfl)) hI.p0, ?_⟩
        refine ⟨fun L r uw hL hA hI => Gives.call rfl (Enters.callL (vs := [.agg #[i64 (n), .slice (ownA kg12) g1.length cg13, .slice (ownA ko15) l1.length co16]]) call24 (by simp only [List.map]; exact (congr (congrArg List.cons (hI.h0 (hA 0 (by decide) rfl))) rfl))) ((own2_ok n g1 l1 (ownA kg12) (ownA ko15) cg13 co16 hSg18.cap hSo19.cap uw ((H54.ext hI.ext).rd (k := 3) rfl hSg18) ((H54.ext hI.ext).rd (k := 2) rfl hSo19) (by omega) (by omega)).mono fun _ _ ⟨v, h1, h2, h3⟩ => ⟨v, h1, hI.p1 hL h2 h3⟩), ?_⟩
        refine ⟨fun L r uw hL hA hI => Gives.run rfl (r_loadA (cs' := #[i64 (n), .slice (ownA kg12) g1.length cg13, .slice (ownA ko15) l1.length co16]) agg48 siz48 ((H54.ext hI.ext).get (k := 4) rfl) (off := 0) rfl (by exact Nat.le_of_ble_eq_true rfl) (by rfl)) hI.p2, ?_⟩
        refine ⟨fun L r uw hL hA hI => Gives.call rfl (Enters.callL (vs := [.agg #[i64 (n), .slice (ownA kg12) g1.length cg13, .slice (ownA ko15) l1.length co16]]) call24 (by simp only [List.map]; exact (congr (congrArg List.cons (hI.h2 (hA 2 (by decide) rfl))) rfl))) ((own2_ok n g1 l1 (ownA kg12) (ownA ko15) cg13 co16 hSg18.cap hSo19.cap uw ((H54.ext hI.ext).rd (k := 3) rfl hSg18) ((H54.ext hI.ext).rd (k := 2) rfl hSo19) (by omega) (by omega)).mono fun _ _ ⟨v, h1, h2, h3⟩ => ⟨v, h1, hI.p3 (hA 1 (by decide) rfl) h2 h3⟩), ?_⟩
        refine ⟨fun L r uw hL hA hI => Gives.run rfl (Runs.alloc zer48) (hI.p4 hL), ?_⟩
        refine ⟨fun L r uw hL hA hI => Gives.run rfl (Runs.alloc zer48) (hI.p5), ?_⟩
        refine ⟨fun L r uw hL hA hI => hI.s6 (hA 1 (by decide) rfl) (hA 4 (by decide) rfl) hL rfl rfl, ?_⟩
        intro _ r78 w77 hL hI
        obtain ⟨b855, b956, kg157, cg158, spg159, ko160, co161, spo162, kg263, cg264, spg265, ko266, co267, spo268, e69, f70, g71, hSg172, hSo173, hSg274, hSo275, HN76⟩ := hI.done hL
        dsimp only
        rw [e69, f70, g71]
        have hEw77 := hI.ext
        have H79 := (H54.join HN76).as (L' := [(some b956, .cells #[i64 ((0 : Int)), .slice none 0 0, .slice none 0 0] 48 (0, 0)), (some b855, .cells #[i64 (n), .slice (ownA kg157) g1.length cg158, .slice (ownA ko160) l1.length co161] 48 (0, 0)), (ko266, sob EI 3 l1 spo268), (kg263, sob EG 56 g1 spg265), (ko160, sob EI 3 l1 spo162), (kg157, sob EG 56 g1 spg159), (key48, sob EB 4 (evalS g1 l1 bl) sp50), ((some b36), sob EB 4 bl (cel EB (List.replicate (n.toNat - n.toNat) false))), (ko15, sob EI 3 l1 spo17), (kg12, sob EG 56 g1 spg14), (some b1, .cells #[i64 (n), .slice (ownA kg12) g1.length cg13, .slice (ownA ko15) l1.length co16] 48 (0, 0))]) rfl
        refine d_store (k := 0) (v := .agg #[i64 (n), .slice (ownA kg263) g1.length cg264, .slice (ownA ko266) l1.length co267]) (cs' := #[i64 (n), .slice (ownA kg263) g1.length cg264, .slice (ownA ko266) l1.length co267]) H79 rfl rfl rfl siz48 (by rfl) (by intro u hu; simp [Value.cells] at hu; first | (subst hu; rfl) | (rcases hu with rfl | rfl | rfl <;> rfl)) (by exact Nat.le_of_ble_eq_true rfl) (by rfl) ?_
        intro w80 H81 hC82
        have H81' := H81.as (L' := [(some b956, .cells #[i64 (n), .slice (ownA kg263) g1.length cg264, .slice (ownA ko266) l1.length co267] 48 (0, 0)), (some b855, .cells #[i64 (n), .slice (ownA kg157) g1.length cg158, .slice (ownA ko160) l1.length co161] 48 (0, 0)), (ko266, sob EI 3 l1 spo268), (kg263, sob EG 56 g1 spg265), (ko160, sob EI 3 l1 spo162), (kg157, sob EG 56 g1 spg159), (key48, sob EB 4 (evalS g1 l1 bl) sp50), ((some b36), sob EB 4 bl (cel EB (List.replicate (n.toNat - n.toNat) false))), (ko15, sob EI 3 l1 spo17), (kg12, sob EG 56 g1 spg14), (some b1, .cells #[i64 (n), .slice (ownA kg12) g1.length cg13, .slice (ownA ko15) l1.length co16] 48 (0, 0))]) rfl
        clear H81
        refine wnil ?_
        refine thenNormal ?_
        refine seqAny ?_
        refine seqRegion ?_
        refine sq (r_fieldAddr (off' := 2) fld48_2 (by decide) (b := b1) (off := 0) rfl (by omega)) ?_
        refine sq (r_loadC (v := .slice (ownA ko15) l1.length co16) one23 (H81'.get (k := 10) rfl) (off := 2) rfl (by rfl)) ?_
        refine sq (r_lenS sli23 (a := ownA ko15) (m := l1.length) (c := co16) rfl) ?_
        refine sq (r_move (v := i64 ((0 : Int))) rfl) ?_
        refine wend ?_
        refine blockAny ?_
        refine loopAny (σ := Nat × Option Nat × Nat × List Value × Option Nat × Nat × List Value) (fun (i, kd, cd, spd, kz, cz, spz) => [(2, .pointer (some ⟨b1, 0, none⟩)), (5, .slice (ownA (some b36)) n.toNat n.toNat), (6, .slice (ownA key48) l1.length c49), (8, .pointer (some ⟨b855, 0, none⟩)), (9, .pointer (some ⟨b956, 0, none⟩)), (54, .slice (ownA ko15) l1.length co16), (55, i64 ((l1.length : Nat))), (56, i64 ((i : Nat)))]) (fun (i, kd, cd, spd, kz, cz, spz) w' => i ≤ l1.length ∧ Sl EG kd (turnS notG g1 l1 i) cd spd ∧ Sl EI ko160 (setO n g1.length l1 i) co161 spo162 ∧ Sl EG kz (turnS xorG g1 l1 i) cz spz ∧ Sl EI ko266 (setO n g1.length l1 i) co267 spo268 ∧ Hp No w w' [(some b956, .cells #[i64 (n), .slice (ownA kz) (g1.length + i) cz, .slice (ownA ko266) l1.length co267] 48 (0, 0)), (some b855, .cells #[i64 (n), .slice (ownA kd) (g1.length + i) cd, .slice (ownA ko160) l1.length co161] 48 (0, 0)), (ko266, sob EI 3 (setO n g1.length l1 i) spo268), (kz, sob EG 56 (turnS xorG g1 l1 i) spz), (ko160, sob EI 3 (setO n g1.length l1 i) spo162), (kd, sob EG 56 (turnS notG g1 l1 i) spd), (key48, sob EB 4 (evalS g1 l1 bl) sp50), ((some b36), sob EB 4 bl (cel EB (List.replicate (n.toNat - n.toNat) false))), (ko15, sob EI 3 l1 spo17), (kg12, sob EG 56 g1 spg14), (some b1, .cells #[i64 (n), .slice (ownA kg12) g1.length cg13, .slice (ownA ko15) l1.length co16] 48 (0, 0))]) (fun (i, kd, cd, spd, kz, cz, spz) => l1.length - i) ((0, kg157, cg158, spg159, kg263, cg264, spg265)) ?_ ?_ ?_
        · exact ⟨rfl, rfl, rfl, rfl, rfl, rfl, rfl, rfl, trivial⟩
        · exact ⟨by omega, hSg172, hSo173, hSg274, hSo275, H81'⟩
        rintro ⟨i, kd, cd, spd, kz, cz, spz⟩ ρ w83 ⟨hi, hSd, hSo1, hSz, hSo2, HL⟩
        have hld := turnS_len notG g1 l1 i
        have hlz := turnS_len xorG g1 l1 i
        have hlo1 := setO_len n g1.length l1 i
        refine seqRegion ?_
        refine sq (r_lssI (a := (i : Nat)) (b := (l1.length : Nat)) rfl rfl) ?_
        refine wend ?_
        refine seqAny ?_
        refine condProp (((i : Nat) : Int) < (l1.length : Nat)) rfl (fun c57 => ?_) (fun c57 => ?_)
        · skip
          refine skipAny ?_
          refine thenNormal ?_
          refine seqAny ?_
          refine blockAny ?_
          refine seqRegion ?_
          refine sq (r_move (v := i64 ((i : Nat))) rfl) ?_
          refine sq (r_idxS (E := EI) (l := l1) (j := i) sli23 (HL.rd (k := 8) rfl hSo19) rfl rfl (by first | rfl | omega | (simp; omega)) (by rfl) (by omega)) ?_
          refine sq (r_ldS (E := EI) (l := l1) (j := i) (v := (l1).getD i 0) fits3 (HL.rd (k := 8) rfl hSo19) rfl rfl (at_getD (by omega))) ?_
          refine sq (r_assign (v := i64 ((i : Nat))) rfl) ?_
          refine sq (r_assign (v := i64 ((l1).getD i 0)) rfl) ?_
          refine wend ?_
          refine seqRegion ?_
          refine sq (r_fieldAddr (off' := 1) fld48_1 (by decide) (b := b855) (off := 0) rfl (by omega)) ?_
          refine sq (r_loadC (v := .slice (ownA kd) (g1.length + i) cd) one46 (HL.get (k := 1) rfl) (off := 1) rfl (by rfl)) ?_
          refine sq (r_move (v := i64 ((l1).getD i 0)) rfl) ?_
          refine sq (r_build (cs' := #[i64 ((3 : Int)), i64 ((l1).getD i 0), i64 ((0 : Int))]) (ps := [(0, i64 ((3 : Int))), (1, i64 ((l1).getD i 0))]) zer56 pls56 rfl (by rfl)) ?_
          refine q_buildSlice (E := EG) (l := ([⟨(3 : Int), (l1).getD i 0, (0 : Int)⟩] : List Gt)) HL sli46 zer56 (Nat.le_of_ble_eq_true rfl) (ps := [(0, .agg #[i64 ((3 : Int)), i64 ((l1).getD i 0), i64 ((0 : Int))])]) rfl (by exact fillAll rfl rfl) rfl ?_
          intro b85 w87 hS86 H88 hE89
          refine q_append (E := EG) (k := 6) (l := turnS notG g1 l1 i) (l2 := ([⟨(3 : Int), (l1).getD i 0, (0 : Int)⟩] : List Gt)) H88 rfl hSd sli46 zer56 rfl byt56 (H88.rd (k := 0) rfl hS86) rfl (by exact (turnS_len _ _ _ _).symm) rfl (by rfl) (by omega) ?_
          intro key90 c91 sp92 w94 hS93 hne96 H95
          have H95' := H95.as (L' := [((some b85), sob EG 56 ([⟨(3 : Int), (l1).getD i 0, (0 : Int)⟩] : List Gt) ([])), (some b956, .cells #[i64 (n), .slice (ownA kz) (g1.length + i) cz, .slice (ownA ko266) l1.length co267] 48 (0, 0)), (some b855, .cells #[i64 (n), .slice (ownA kd) (g1.length + i) cd, .slice (ownA ko160) l1.length co161] 48 (0, 0)), (ko266, sob EI 3 (setO n g1.length l1 i) spo268), (kz, sob EG 56 (turnS xorG g1 l1 i) spz), (ko160, sob EI 3 (setO n g1.length l1 i) spo162), (key90, sob EG 56 ((turnS notG g1 l1 i) ++ ([⟨(3 : Int), (l1).getD i 0, (0 : Int)⟩] : List Gt)) sp92), (key48, sob EB 4 (evalS g1 l1 bl) sp50), ((some b36), sob EB 4 bl (cel EB (List.replicate (n.toNat - n.toNat) false))), (ko15, sob EI 3 l1 spo17), (kg12, sob EG 56 g1 spg14), (some b1, .cells #[i64 (n), .slice (ownA kg12) g1.length cg13, .slice (ownA ko15) l1.length co16] 48 (0, 0))]) rfl
          clear H95
          have e97 : (turnS notG g1 l1 i) ++ ([⟨(3 : Int), (l1).getD i 0, (0 : Int)⟩] : List Gt) = turnS notG g1 l1 (i + 1) := by rfl
          have hS98 := hS93
          rw [e97] at hS98
          have H99 := H95'.as (L' := [((some b85), sob EG 56 ([⟨(3 : Int), (l1).getD i 0, (0 : Int)⟩] : List Gt) ([])), (some b956, .cells #[i64 (n), .slice (ownA kz) (g1.length + i) cz, .slice (ownA ko266) l1.length co267] 48 (0, 0)), (some b855, .cells #[i64 (n), .slice (ownA kd) (g1.length + i) cd, .slice (ownA ko160) l1.length co161] 48 (0, 0)), (ko266, sob EI 3 (setO n g1.length l1 i) spo268), (kz, sob EG 56 (turnS xorG g1 l1 i) spz), (ko160, sob EI 3 (setO n g1.length l1 i) spo162), (key90, sob EG 56 (turnS notG g1 l1 (i + 1)) sp92), (key48, sob EB 4 (evalS g1 l1 bl) sp50), ((some b36), sob EB 4 bl (cel EB (List.replicate (n.toNat - n.toNat) false))), (ko15, sob EI 3 l1 spo17), (kg12, sob EG 56 g1 spg14), (some b1, .cells #[i64 (n), .slice (ownA kg12) g1.length cg13, .slice (ownA ko15) l1.length co16] 48 (0, 0))]) (by rw [e97])
          refine sq (r_fieldAddr (off' := 1) fld48_1 (by decide) (b := b855) (off := 0) rfl (by omega)) ?_
          refine d_store (k := 2) (v := .slice (ownA key90) ((g1.length + i) + 1) c91) (cs' := #[i64 (n), .slice (ownA key90) ((g1.length + i) + 1) c91, .slice (ownA ko160) l1.length co161]) H99 rfl rfl rfl siz46 (by rfl) (by intro u hu; simp [Value.cells] at hu; first | (subst hu; rfl) | (rcases hu with rfl <;> rfl)) (by exact Nat.le_of_ble_eq_true rfl) (by rfl) ?_
          intro w100 H101 hC102
          have H101' := H101.as (L' := [((some b85), sob EG 56 ([⟨(3 : Int), (l1).getD i 0, (0 : Int)⟩] : List Gt) ([])), (some b956, .cells #[i64 (n), .slice (ownA kz) (g1.length + i) cz, .slice (ownA ko266) l1.length co267] 48 (0, 0)), (some b855, .cells #[i64 (n), .slice (ownA key90) ((g1.length + i) + 1) c91, .slice (ownA ko160) l1.length co161] 48 (0, 0)), (ko266, sob EI 3 (setO n g1.length l1 i) spo268), (kz, sob EG 56 (turnS xorG g1 l1 i) spz), (ko160, sob EI 3 (setO n g1.length l1 i) spo162), (key90, sob EG 56 (turnS notG g1 l1 (i + 1)) sp92), (key48, sob EB 4 (evalS g1 l1 bl) sp50), ((some b36), sob EB 4 bl (cel EB (List.replicate (n.toNat - n.toNat) false))), (ko15, sob EI 3 l1 spo17), (kg12, sob EG 56 g1 spg14), (some b1, .cells #[i64 (n), .slice (ownA kg12) g1.length cg13, .slice (ownA ko15) l1.length co16] 48 (0, 0))]) rfl
          clear H101
          refine wend ?_
          refine seqRegion ?_
          refine sq (r_fieldAddr (off' := 2) fld48_2 (by decide) (b := b855) (off := 0) rfl (by omega)) ?_
          refine sq (r_loadC (v := .slice (ownA ko160) l1.length co161) one23 (H101'.get (k := 2) rfl) (off := 2) rfl (by rfl)) ?_
          refine sq (r_move (v := i64 ((i : Nat))) rfl) ?_
          refine sq (r_fieldAddr (off' := 0) fld48_0 (by decide) (b := b855) (off := 0) rfl (by omega)) ?_
          refine sq (r_loadC (v := i64 (n)) one3 (H101'.get (k := 2) rfl) (off := 0) rfl (by rfl)) ?_
          refine sq (r_fieldAddr (off' := 1) fld48_1 (by decide) (b := b855) (off := 0) rfl (by omega)) ?_
          refine sq (r_loadC (v := .slice (ownA key90) ((g1.length + i) + 1) c91) one46 (H101'.get (k := 2) rfl) (off := 1) rfl (by rfl)) ?_
          refine sq (r_lenS sli46 (a := ownA key90) (m := (g1.length + i) + 1) (c := c91) rfl) ?_
          refine sq (r_addI (a := n) (b := ((g1.length + i) + 1 : Nat)) rfl rfl (by omega)) ?_
          refine sq (r_subI (a := n + ((g1.length + i) + 1 : Nat)) (b := (1 : Int)) rfl rfl (by omega)) ?_
          refine sq (r_idxS (E := EI) (l := setO n g1.length l1 i) (j := i) sli23 (H101'.rd (k := 5) rfl hSo1) rfl rfl (by first | rfl | omega | (simp; omega)) (by exact (setO_len _ _ _ _).symm) (by omega)) ?_
          refine d_storeS (E := EI) (k := 5) (l := setO n g1.length l1 i) (j := i) (b := (n + ((g1.length + i) + 1 : Nat)) - (1 : Int)) (a := (setO n g1.length l1 i).getD i 0) H101' rfl hSo1 rfl rfl rfl rfl siz3 (at_getD (by omega)) ?_
          intro w104 hS103 H105
          have H105' := H105.as (L' := [((some b85), sob EG 56 ([⟨(3 : Int), (l1).getD i 0, (0 : Int)⟩] : List Gt) ([])), (some b956, .cells #[i64 (n), .slice (ownA kz) (g1.length + i) cz, .slice (ownA ko266) l1.length co267] 48 (0, 0)), (some b855, .cells #[i64 (n), .slice (ownA key90) ((g1.length + i) + 1) c91, .slice (ownA ko160) l1.length co161] 48 (0, 0)), (ko266, sob EI 3 (setO n g1.length l1 i) spo268), (kz, sob EG 56 (turnS xorG g1 l1 i) spz), (ko160, sob EI 3 ((setO n g1.length l1 i).set i ((n + ((g1.length + i) + 1 : Nat)) - (1 : Int))) spo162), (key90, sob EG 56 (turnS notG g1 l1 (i + 1)) sp92), (key48, sob EB 4 (evalS g1 l1 bl) sp50), ((some b36), sob EB 4 bl (cel EB (List.replicate (n.toNat - n.toNat) false))), (ko15, sob EI 3 l1 spo17), (kg12, sob EG 56 g1 spg14), (some b1, .cells #[i64 (n), .slice (ownA kg12) g1.length cg13, .slice (ownA ko15) l1.length co16] 48 (0, 0))]) rfl
          clear H105
          have e106 : (setO n g1.length l1 i).set i ((n + ((g1.length + i) + 1 : Nat)) - (1 : Int)) = setO n g1.length l1 (i + 1) := by rw [setO]; congr 1; omega
          have hS107 := hS103
          rw [e106] at hS107
          have H108 := H105'.as (L' := [((some b85), sob EG 56 ([⟨(3 : Int), (l1).getD i 0, (0 : Int)⟩] : List Gt) ([])), (some b956, .cells #[i64 (n), .slice (ownA kz) (g1.length + i) cz, .slice (ownA ko266) l1.length co267] 48 (0, 0)), (some b855, .cells #[i64 (n), .slice (ownA key90) ((g1.length + i) + 1) c91, .slice (ownA ko160) l1.length co161] 48 (0, 0)), (ko266, sob EI 3 (setO n g1.length l1 i) spo268), (kz, sob EG 56 (turnS xorG g1 l1 i) spz), (ko160, sob EI 3 (setO n g1.length l1 (i + 1)) spo162), (key90, sob EG 56 (turnS notG g1 l1 (i + 1)) sp92), (key48, sob EB 4 (evalS g1 l1 bl) sp50), ((some b36), sob EB 4 bl (cel EB (List.replicate (n.toNat - n.toNat) false))), (ko15, sob EI 3 l1 spo17), (kg12, sob EG 56 g1 spg14), (some b1, .cells #[i64 (n), .slice (ownA kg12) g1.length cg13, .slice (ownA ko15) l1.length co16] 48 (0, 0))]) (by rw [e106])
          refine wend ?_
          refine seqRegion ?_
          refine sq (r_fieldAddr (off' := 1) fld48_1 (by decide) (b := b956) (off := 0) rfl (by omega)) ?_
          refine sq (r_loadC (v := .slice (ownA kz) (g1.length + i) cz) one46 (H108.get (k := 1) rfl) (off := 1) rfl (by rfl)) ?_
          refine sq (r_move (v := i64 ((l1).getD i 0)) rfl) ?_
          refine sq (r_move (v := i64 ((l1).getD i 0)) rfl) ?_
          refine sq (r_build (cs' := #[i64 ((1 : Int)), i64 ((l1).getD i 0), i64 ((l1).getD i 0)]) (ps := [(0, i64 ((1 : Int))), (1, i64 ((l1).getD i 0)), (2, i64 ((l1).getD i 0))]) zer56 pls56 rfl (by rfl)) ?_
          refine q_buildSlice (E := EG) (l := ([⟨(1 : Int), (l1).getD i 0, (l1).getD i 0⟩] : List Gt)) H108 sli46 zer56 (Nat.le_of_ble_eq_true rfl) (ps := [(0, .agg #[i64 ((1 : Int)), i64 ((l1).getD i 0), i64 ((l1).getD i 0)])]) rfl (by exact fillAll rfl rfl) rfl ?_
          intro b109 w111 hS110 H112 hE113
          refine q_append (E := EG) (k := 5) (l := turnS xorG g1 l1 i) (l2 := ([⟨(1 : Int), (l1).getD i 0, (l1).getD i 0⟩] : List Gt)) H112 rfl hSz sli46 zer56 rfl byt56 (H112.rd (k := 0) rfl hS110) rfl (by exact (turnS_len _ _ _ _).symm) rfl (by rfl) (by omega) ?_
          intro key114 c115 sp116 w118 hS117 hne120 H119
          have H119' := H119.as (L' := [((some b109), sob EG 56 ([⟨(1 : Int), (l1).getD i 0, (l1).getD i 0⟩] : List Gt) ([])), ((some b85), sob EG 56 ([⟨(3 : Int), (l1).getD i 0, (0 : Int)⟩] : List Gt) ([])), (some b956, .cells #[i64 (n), .slice (ownA kz) (g1.length + i) cz, .slice (ownA ko266) l1.length co267] 48 (0, 0)), (some b855, .cells #[i64 (n), .slice (ownA key90) ((g1.length + i) + 1) c91, .slice (ownA ko160) l1.length co161] 48 (0, 0)), (ko266, sob EI 3 (setO n g1.length l1 i) spo268), (key114, sob EG 56 ((turnS xorG g1 l1 i) ++ ([⟨(1 : Int), (l1).getD i 0, (l1).getD i 0⟩] : List Gt)) sp116), (ko160, sob EI 3 (setO n g1.length l1 (i + 1)) spo162), (key90, sob EG 56 (turnS notG g1 l1 (i + 1)) sp92), (key48, sob EB 4 (evalS g1 l1 bl) sp50), ((some b36), sob EB 4 bl (cel EB (List.replicate (n.toNat - n.toNat) false))), (ko15, sob EI 3 l1 spo17), (kg12, sob EG 56 g1 spg14), (some b1, .cells #[i64 (n), .slice (ownA kg12) g1.length cg13, .slice (ownA ko15) l1.length co16] 48 (0, 0))]) rfl
          clear H119
          have e121 : (turnS xorG g1 l1 i) ++ ([⟨(1 : Int), (l1).getD i 0, (l1).getD i 0⟩] : List Gt) = turnS xorG g1 l1 (i + 1) := by rfl
          have hS122 := hS117
          rw [e121] at hS122
          have H123 := H119'.as (L' := [((some b109), sob EG 56 ([⟨(1 : Int), (l1).getD i 0, (l1).getD i 0⟩] : List Gt) ([])), ((some b85), sob EG 56 ([⟨(3 : Int), (l1).getD i 0, (0 : Int)⟩] : List Gt) ([])), (some b956, .cells #[i64 (n), .slice (ownA kz) (g1.length + i) cz, .slice (ownA ko266) l1.length co267] 48 (0, 0)), (some b855, .cells #[i64 (n), .slice (ownA key90) ((g1.length + i) + 1) c91, .slice (ownA ko160) l1.length co161] 48 (0, 0)), (ko266, sob EI 3 (setO n g1.length l1 i) spo268), (key114, sob EG 56 (turnS xorG g1 l1 (i + 1)) sp116), (ko160, sob EI 3 (setO n g1.length l1 (i + 1)) spo162), (key90, sob EG 56 (turnS notG g1 l1 (i + 1)) sp92), (key48, sob EB 4 (evalS g1 l1 bl) sp50), ((some b36), sob EB 4 bl (cel EB (List.replicate (n.toNat - n.toNat) false))), (ko15, sob EI 3 l1 spo17), (kg12, sob EG 56 g1 spg14), (some b1, .cells #[i64 (n), .slice (ownA kg12) g1.length cg13, .slice (ownA ko15) l1.length co16] 48 (0, 0))]) (by rw [e121])
          refine sq (r_fieldAddr (off' := 1) fld48_1 (by decide) (b := b956) (off := 0) rfl (by omega)) ?_
          refine d_store (k := 2) (v := .slice (ownA key114) ((g1.length + i) + 1) c115) (cs' := #[i64 (n), .slice (ownA key114) ((g1.length + i) + 1) c115, .slice (ownA ko266) l1.length co267]) H123 rfl rfl rfl siz46 (by rfl) (by intro u hu; simp [Value.cells] at hu; first | (subst hu; rfl) | (rcases hu with rfl <;> rfl)) (by exact Nat.le_of_ble_eq_true rfl) (by rfl) ?_
          intro w124 H125 hC126
          have H125' := H125.as (L' := [((some b109), sob EG 56 ([⟨(1 : Int), (l1).getD i 0, (l1).getD i 0⟩] : List Gt) ([])), ((some b85), sob EG 56 ([⟨(3 : Int), (l1).getD i 0, (0 : Int)⟩] : List Gt) ([])), (some b956, .cells #[i64 (n), .slice (ownA key114) ((g1.length + i) + 1) c115, .slice (ownA ko266) l1.length co267] 48 (0, 0)), (some b855, .cells #[i64 (n), .slice (ownA key90) ((g1.length + i) + 1) c91, .slice (ownA ko160) l1.length co161] 48 (0, 0)), (ko266, sob EI 3 (setO n g1.length l1 i) spo268), (key114, sob EG 56 (turnS xorG g1 l1 (i + 1)) sp116), (ko160, sob EI 3 (setO n g1.length l1 (i + 1)) spo162), (key90, sob EG 56 (turnS notG g1 l1 (i + 1)) sp92), (key48, sob EB 4 (evalS g1 l1 bl) sp50), ((some b36), sob EB 4 bl (cel EB (List.replicate (n.toNat - n.toNat) false))), (ko15, sob EI 3 l1 spo17), (kg12, sob EG 56 g1 spg14), (some b1, .cells #[i64 (n), .slice (ownA kg12) g1.length cg13, .slice (ownA ko15) l1.length co16] 48 (0, 0))]) rfl
          clear H125
          refine wend ?_
          refine oneRegion ?_
          refine sq (r_fieldAddr (off' := 2) fld48_2 (by decide) (b := b956) (off := 0) rfl (by omega)) ?_
          refine sq (r_loadC (v := .slice (ownA ko266) l1.length co267) one23 (H125'.get (k := 2) rfl) (off := 2) rfl (by rfl)) ?_
          refine sq (r_move (v := i64 ((i : Nat))) rfl) ?_
          refine sq (r_fieldAddr (off' := 0) fld48_0 (by decide) (b := b956) (off := 0) rfl (by omega)) ?_
          refine sq (r_loadC (v := i64 (n)) one3 (H125'.get (k := 2) rfl) (off := 0) rfl (by rfl)) ?_
          refine sq (r_fieldAddr (off' := 1) fld48_1 (by decide) (b := b956) (off := 0) rfl (by omega)) ?_
          refine sq (r_loadC (v := .slice (ownA key114) ((g1.length + i) + 1) c115) one46 (H125'.get (k := 2) rfl) (off := 1) rfl (by rfl)) ?_
          refine sq (r_lenS sli46 (a := ownA key114) (m := (g1.length + i) + 1) (c := c115) rfl) ?_
          refine sq (r_addI (a := n) (b := ((g1.length + i) + 1 : Nat)) rfl rfl (by omega)) ?_
          refine sq (r_subI (a := n + ((g1.length + i) + 1 : Nat)) (b := (1 : Int)) rfl rfl (by omega)) ?_
          refine sq (r_idxS (E := EI) (l := setO n g1.length l1 i) (j := i) sli23 (H125'.rd (k := 4) rfl hSo2) rfl rfl (by first | rfl | omega | (simp; omega)) (by exact (setO_len _ _ _ _).symm) (by omega)) ?_
          refine d_storeS (E := EI) (k := 4) (l := setO n g1.length l1 i) (j := i) (b := (n + ((g1.length + i) + 1 : Nat)) - (1 : Int)) (a := (setO n g1.length l1 i).getD i 0) H125' rfl hSo2 rfl rfl rfl rfl siz3 (at_getD (by omega)) ?_
          intro w128 hS127 H129
          have H129' := H129.as (L' := [((some b109), sob EG 56 ([⟨(1 : Int), (l1).getD i 0, (l1).getD i 0⟩] : List Gt) ([])), ((some b85), sob EG 56 ([⟨(3 : Int), (l1).getD i 0, (0 : Int)⟩] : List Gt) ([])), (some b956, .cells #[i64 (n), .slice (ownA key114) ((g1.length + i) + 1) c115, .slice (ownA ko266) l1.length co267] 48 (0, 0)), (some b855, .cells #[i64 (n), .slice (ownA key90) ((g1.length + i) + 1) c91, .slice (ownA ko160) l1.length co161] 48 (0, 0)), (ko266, sob EI 3 ((setO n g1.length l1 i).set i ((n + ((g1.length + i) + 1 : Nat)) - (1 : Int))) spo268), (key114, sob EG 56 (turnS xorG g1 l1 (i + 1)) sp116), (ko160, sob EI 3 (setO n g1.length l1 (i + 1)) spo162), (key90, sob EG 56 (turnS notG g1 l1 (i + 1)) sp92), (key48, sob EB 4 (evalS g1 l1 bl) sp50), ((some b36), sob EB 4 bl (cel EB (List.replicate (n.toNat - n.toNat) false))), (ko15, sob EI 3 l1 spo17), (kg12, sob EG 56 g1 spg14), (some b1, .cells #[i64 (n), .slice (ownA kg12) g1.length cg13, .slice (ownA ko15) l1.length co16] 48 (0, 0))]) rfl
          clear H129
          have e130 : (setO n g1.length l1 i).set i ((n + ((g1.length + i) + 1 : Nat)) - (1 : Int)) = setO n g1.length l1 (i + 1) := by rw [setO]; congr 1; omega
          have hS131 := hS127
          rw [e130] at hS131
          have H132 := H129'.as (L' := [((some b109), sob EG 56 ([⟨(1 : Int), (l1).getD i 0, (l1).getD i 0⟩] : List Gt) ([])), ((some b85), sob EG 56 ([⟨(3 : Int), (l1).getD i 0, (0 : Int)⟩] : List Gt) ([])), (some b956, .cells #[i64 (n), .slice (ownA key114) ((g1.length + i) + 1) c115, .slice (ownA ko266) l1.length co267] 48 (0, 0)), (some b855, .cells #[i64 (n), .slice (ownA key90) ((g1.length + i) + 1) c91, .slice (ownA ko160) l1.length co161] 48 (0, 0)), (ko266, sob EI 3 (setO n g1.length l1 (i + 1)) spo268), (key114, sob EG 56 (turnS xorG g1 l1 (i + 1)) sp116), (ko160, sob EI 3 (setO n g1.length l1 (i + 1)) spo162), (key90, sob EG 56 (turnS notG g1 l1 (i + 1)) sp92), (key48, sob EB 4 (evalS g1 l1 bl) sp50), ((some b36), sob EB 4 bl (cel EB (List.replicate (n.toNat - n.toNat) false))), (ko15, sob EI 3 l1 spo17), (kg12, sob EG 56 g1 spg14), (some b1, .cells #[i64 (n), .slice (ownA kg12) g1.length cg13, .slice (ownA ko15) l1.length co16] 48 (0, 0))]) (by rw [e130])
          refine wnil ?_
          refine blockNormal ?_
          refine thenNormal ?_
          refine oneRegion ?_
          refine sq (r_addI (a := (i : Nat)) (b := (1 : Int)) rfl rfl (by omega)) ?_
          refine sq (r_move (v := i64 ((i : Nat) + (1 : Int))) rfl) ?_
          refine wnil ?_
          refine thenNormal ?_
          exact ⟨(i + 1, key90, c91, sp92, key114, c115, sp116), _, rfl, ⟨rfl, rfl, rfl, rfl, rfl, rfl, rfl, rfl, trivial⟩, ⟨by omega, hS98, hS107, hS122, hS131, ((H132.dropk 1).dropk 0)⟩, by show l1.length - (i + 1) < l1.length - i; omega⟩
        · skip
          obtain rfl : i = l1.length := by omega
          refine exitAny ?_
          refine thenExit ?_
          refine thenExit ?_
          refine blockHere ?_
          refine thenNormal ?_
          refine seqRegion ?_
          refine sq (r_loadA (cs' := #[i64 (n), .slice (ownA kd) (g1.length + l1.length) cd, .slice (ownA ko160) l1.length co161]) agg48 siz48 (HL.get (k := 1) rfl) (off := 0) rfl (by exact Nat.le_of_ble_eq_true rfl) (by rfl)) ?_
          refine sq (r_move (v := .slice (ownA (some b36)) n.toNat n.toNat) rfl) ?_
          refine c_call (vs := [.agg #[i64 (n), .slice (ownA kd) (g1.length + l1.length) cd, .slice (ownA ko160) l1.length co161], .slice (ownA (some b36)) n.toNat n.toNat]) call26 rfl (eval_goodL n (turnS notG g1 l1 l1.length) (setO n g1.length l1 l1.length) (ownA kd) (ownA ko160) cd co161 (g1.length + l1.length) l1.length (by exact (turnS_len _ _ _ _).symm) (by exact (setO_len _ _ _ _).symm) bl (ownA (some b36)) n.toNat n.toNat (by exact hbl2.symm) w83 (Chg.gl HL.chg (fun x => x) hG) (HL.rd (k := 5) rfl hSd) (HL.rd (k := 4) rfl hSo1) (by have h := turnS_len notG g1 l1 l1.length; have h2 := turnS_len xorG g1 l1 l1.length; have h3 := setO_len n g1.length l1 l1.length; omega) (by have h := turnS_len notG g1 l1 l1.length; have h2 := turnS_len xorG g1 l1 l1.length; have h3 := setO_len n g1.length l1 l1.length; omega) (HL.rd (k := 7) rfl hS44) (turn_isC notG hg31 (by omega) notG_ok) hbn) ?_
          rintro _ w133 ⟨⟨_, rfl, key135, c136, sp137, rfl, hS138, hk139⟩, hE140⟩
          rw [show (evalS (turnS notG g1 l1 l1.length) (setO n g1.length l1 l1.length) bl).length = (setO n g1.length l1 l1.length).length from evalS_len _ _ _]
          have H141 := HL.add hE140 hk139
          refine sq (r_move (v := .tuple #[.slice (ownA key135) ((setO n g1.length l1 l1.length).length) c136, .nilIface]) rfl) ?_
          refine sq (r_extract (vs := #[.slice (ownA key135) ((setO n g1.length l1 l1.length).length) c136, .nilIface]) rfl rfl) ?_
          refine sq (r_extract (vs := #[.slice (ownA key135) ((setO n g1.length l1 l1.length).length) c136, .nilIface]) rfl rfl) ?_
          refine sq (r_assign (v := .slice (ownA key135) ((setO n g1.length l1 l1.length).length) c136) rfl) ?_
          refine sq (r_assign (v := .nilIface) rfl) ?_
          refine wend ?_
          refine seqRegion ?_
          refine sq (r_loadA (cs' := #[i64 (n), .slice (ownA kz) (g1.length + l1.length) cz, .slice (ownA ko266) l1.length co267]) agg48 siz48 (H141.get (k := 1) rfl) (off := 0) rfl (by exact Nat.le_of_ble_eq_true rfl) (by rfl)) ?_
          refine sq (r_move (v := .slice (ownA (some b36)) n.toNat n.toNat) rfl) ?_
          refine c_call (vs := [.agg #[i64 (n), .slice (ownA kz) (g1.length + l1.length) cz, .slice (ownA ko266) l1.length co267], .slice (ownA (some b36)) n.toNat n.toNat]) call26 rfl (eval_goodL n (turnS xorG g1 l1 l1.length) (setO n g1.length l1 l1.length) (ownA kz) (ownA ko266) cz co267 (g1.length + l1.length) l1.length (by exact (turnS_len _ _ _ _).symm) (by exact (setO_len _ _ _ _).symm) bl (ownA (some b36)) n.toNat n.toNat (by exact hbl2.symm) w133 (Chg.gl H141.chg (fun x => x) hG) (H141.rd (k := 4) rfl hSz) (H141.rd (k := 3) rfl hSo2) (by have h := turnS_len notG g1 l1 l1.length; have h2 := turnS_len xorG g1 l1 l1.length; have h3 := setO_len n g1.length l1 l1.length; omega) (by have h := turnS_len notG g1 l1 l1.length; have h2 := turnS_len xorG g1 l1 l1.length; have h3 := setO_len n g1.length l1 l1.length; omega) (H141.rd (k := 8) rfl hS44) (turn_isC xorG hg31 (by omega) xorG_ok) hbn) ?_
          rintro _ w142 ⟨⟨_, rfl, key144, c145, sp146, rfl, hS147, hk148⟩, hE149⟩
          rw [show (evalS (turnS xorG g1 l1 l1.length) (setO n g1.length l1 l1.length) bl).length = (setO n g1.length l1 l1.length).length from evalS_len _ _ _]
          have H150 := H141.add hE149 hk148
          refine sq (r_move (v := .tuple #[.slice (ownA key144) ((setO n g1.length l1 l1.length).length) c145, .nilIface]) rfl) ?_
          refine sq (r_extract (vs := #[.slice (ownA key144) ((setO n g1.length l1 l1.length).length) c145, .nilIface]) rfl rfl) ?_
          refine sq (r_extract (vs := #[.slice (ownA key144) ((setO n g1.length l1 l1.length).length) c145, .nilIface]) rfl rfl) ?_
          refine sq (r_assign (v := .slice (ownA key144) ((setO n g1.length l1 l1.length).length) c145) rfl) ?_
          refine sq (r_assign (v := .nilIface) rfl) ?_
          refine wend ?_
          refine seqAny ?_
          refine seqAny ?_
          refine drawAny (K := [none, none, none, none, none, none, none, none, none, none, none, none, none, none, none, none, none, none, none, none, none, none, none, none, none, none, none]) [0, 1, 3, 7, 15, 31, 63, 127, 255, 127, 639, 2047, 4095, 8191, 16383, 32767, 16383, 81919, 262143, 524287, 1048575, 2097151, 4194303, 2097151, 16777215, 33554431, 67108863] (fun w' => Ext w142 w') (fun w' w'' => Ext w' w'') mixed (by kernel_rfl) (Ext.drew _) (fun _ _ h h' => h.trans h') ?_ ?_
          · exact relNone (by decide)
          refine ⟨.nilIface, fun _ uw151 hC152 _ => Gives.run rfl (r_move (v := .nilIface) rfl) ⟨rfl, Chg.refl _ _⟩, ?_⟩
          refine ⟨.bool (false), fun _ uw153 hC154 _ => Gives.run rfl (r_neqNN isI40 rfl rfl) ⟨rfl, Chg.refl _ _⟩, ?_⟩
          refine ⟨.bool (false), fun _ uw155 hC156 _ => Gives.run rfl (r_move (v := .bool (false)) rfl) ⟨rfl, Chg.refl _ _⟩, ?_⟩
          refine ⟨.nilIface, fun _ uw157 hC158 _ => Gives.runW (wantedSome (d' := 113) (b := false) rfl rfl rfl) (r_move (v := .nilIface) rfl) ⟨rfl, Chg.refl _ _⟩, ?_⟩
          refine ⟨.bool (false), fun _ uw159 hC160 _ => Gives.runW (wantedSome (d' := 113) (b := false) rfl rfl rfl) (r_neqNN isI40 rfl rfl) ⟨rfl, Chg.refl _ _⟩, ?_⟩
          refine ⟨.bool (false), fun _ uw161 hC162 _ => Gives.run rfl (r_pickF (v := .bool (false)) rfl rfl) ⟨rfl, Chg.refl _ _⟩, ?_⟩
          refine ⟨.bool (false), fun _ uw163 hC164 _ => Gives.run rfl (r_move (v := .bool (false)) rfl) ⟨rfl, Chg.refl _ _⟩, ?_⟩
          refine ⟨.slice (ownA key135) ((setO n g1.length l1 l1.length).length) c136, fun _ uw165 hC166 _ => Gives.runW (wantedSome (d' := 117) (b := false) rfl rfl rfl) (r_move (v := .slice (ownA key135) ((setO n g1.length l1 l1.length).length) c136) rfl) ⟨rfl, Chg.refl _ _⟩, ?_⟩
          refine ⟨i64 (((setO n g1.length l1 l1.length).length : Nat)), fun _ uw167 hC168 _ => Gives.runW (wantedSome (d' := 117) (b := false) rfl rfl rfl) (r_lenS sli49 (a := ownA key135) (m := (setO n g1.length l1 l1.length).length) (c := c136) rfl) ⟨rfl, Chg.refl _ _⟩, ?_⟩
          refine ⟨.slice (ownA key48) l1.length c49, fun _ uw169 hC170 _ => Gives.runW (wantedSome (d' := 117) (b := false) rfl rfl rfl) (r_move (v := .slice (ownA key48) l1.length c49) rfl) ⟨rfl, Chg.refl _ _⟩, ?_⟩
          refine ⟨i64 ((l1.length : Nat)), fun _ uw171 hC172 _ => Gives.runW (wantedSome (d' := 117) (b := false) rfl rfl rfl) (r_lenS sli49 (a := ownA key48) (m := l1.length) (c := c49) rfl) ⟨rfl, Chg.refl _ _⟩, ?_⟩
          refine ⟨.bool (false), fun _ uw173 hC174 _ => Gives.runW (wantedSome (d' := 117) (b := false) rfl rfl rfl) ((r_neqI (a := ((setO n g1.length l1 l1.length).length : Nat)) (b := (l1.length : Nat)) rfl rfl).as (v' := .bool (false)) (by rw [setO_len]; simp)) ⟨rfl, Chg.refl _ _⟩, ?_⟩
          refine ⟨.bool (false), fun _ uw175 hC176 _ => Gives.run rfl (r_pickF (v := .bool (false)) rfl rfl) ⟨rfl, Chg.refl _ _⟩, ?_⟩
          refine ⟨.bool (false), fun _ uw177 hC178 _ => Gives.run rfl (r_move (v := .bool (false)) rfl) ⟨rfl, Chg.refl _ _⟩, ?_⟩
          refine ⟨.slice (ownA key144) ((setO n g1.length l1 l1.length).length) c145, fun _ uw179 hC180 _ => Gives.runW (wantedSome (d' := 124) (b := false) rfl rfl rfl) (r_move (v := .slice (ownA key144) ((setO n g1.length l1 l1.length).length) c145) rfl) ⟨rfl, Chg.refl _ _⟩, ?_⟩
          refine ⟨i64 (((setO n g1.length l1 l1.length).length : Nat)), fun _ uw181 hC182 _ => Gives.runW (wantedSome (d' := 124) (b := false) rfl rfl rfl) (r_lenS sli49 (a := ownA key144) (m := (setO n g1.length l1 l1.length).length) (c := c145) rfl) ⟨rfl, Chg.refl _ _⟩, ?_⟩
          refine ⟨.slice (ownA key48) l1.length c49, fun _ uw183 hC184 _ => Gives.runW (wantedSome (d' := 124) (b := false) rfl rfl rfl) (r_move (v := .slice (ownA key48) l1.length c49) rfl) ⟨rfl, Chg.refl _ _⟩, ?_⟩
          refine ⟨i64 ((l1.length : Nat)), fun _ uw185 hC186 _ => Gives.runW (wantedSome (d' := 124) (b := false) rfl rfl rfl) (r_lenS sli49 (a := ownA key48) (m := l1.length) (c := c49) rfl) ⟨rfl, Chg.refl _ _⟩, ?_⟩
          refine ⟨.bool (false), fun _ uw187 hC188 _ => Gives.runW (wantedSome (d' := 124) (b := false) rfl rfl rfl) ((r_neqI (a := ((setO n g1.length l1 l1.length).length : Nat)) (b := (l1.length : Nat)) rfl rfl).as (v' := .bool (false)) (by rw [setO_len]; simp)) ⟨rfl, Chg.refl _ _⟩, ?_⟩
          refine ⟨.bool (false), fun _ uw189 hC190 _ => Gives.run rfl (r_pickF (v := .bool (false)) rfl rfl) ⟨rfl, Chg.refl _ _⟩, ?_⟩
          refine ⟨.bool (false), fun _ uw191 hC192 _ => Gives.run rfl (r_move (v := .bool (false)) rfl) ⟨rfl, Chg.refl _ _⟩, ?_⟩
          refine ⟨.agg #[i64 (n), .slice (ownA kd) (g1.length + l1.length) cd, .slice (ownA ko160) l1.length co161], fun _ uw193 hC194 _ => Gives.runW (wantedSome (d' := 131) (b := false) rfl rfl rfl) (r_loadA (cs' := #[i64 (n), .slice (ownA kd) (g1.length + l1.length) cd, .slice (ownA ko160) l1.length co161]) agg48 siz48 ((H150.ext hC194).get (k := 3) rfl) (off := 0) rfl (by exact Nat.le_of_ble_eq_true rfl) (by rfl)) ⟨rfl, Chg.refl _ _⟩, ?_⟩
          refine ⟨i64 ((andsS (turnS notG g1 l1 l1.length) (turnS notG g1 l1 l1.length).length : Nat)), fun _ uw195 hC196 _ => Gives.callW (wantedSome (d' := 131) (b := false) rfl rfl rfl) (Enters.callL (vs := [.agg #[i64 (n), .slice (ownA kd) (g1.length + l1.length) cd, .slice (ownA ko160) l1.length co161]]) call27 rfl) (ands_okL n (turnS notG g1 l1 l1.length) (setO n g1.length l1 l1.length) (ownA kd) (ownA ko160) cd co161 (g1.length + l1.length) l1.length (by exact (turnS_len _ _ _ _).symm) (by exact (setO_len _ _ _ _).symm) uw195 ((H150.ext hC196).rd (k := 7) rfl hSd) (by have h := turnS_len notG g1 l1 l1.length; have h2 := turnS_len xorG g1 l1 l1.length; have h3 := setO_len n g1.length l1 l1.length; omega)), ?_⟩
          refine ⟨.agg #[i64 (n), .slice (ownA kg12) g1.length cg13, .slice (ownA ko15) l1.length co16], fun _ uw197 hC198 _ => Gives.runW (wantedSome (d' := 131) (b := false) rfl rfl rfl) (r_loadA (cs' := #[i64 (n), .slice (ownA kg12) g1.length cg13, .slice (ownA ko15) l1.length co16]) agg48 siz48 ((H150.ext hC198).get (k := 12) rfl) (off := 0) rfl (by exact Nat.le_of_ble_eq_true rfl) (by rfl)) ⟨rfl, Chg.refl _ _⟩, ?_⟩
          refine ⟨i64 ((andsS g1 g1.length : Nat)), fun _ uw199 hC200 _ => Gives.callW (wantedSome (d' := 131) (b := false) rfl rfl rfl) (Enters.callL (vs := [.agg #[i64 (n), .slice (ownA kg12) g1.length cg13, .slice (ownA ko15) l1.length co16]]) call27 rfl) (ands_okL n g1 l1 (ownA kg12) (ownA ko15) cg13 co16 g1.length l1.length (by rfl) (by rfl) uw199 ((H150.ext hC200).rd (k := 11) rfl hSg18) (by have h := turnS_len notG g1 l1 l1.length; have h2 := turnS_len xorG g1 l1 l1.length; have h3 := setO_len n g1.length l1 l1.length; omega)), ?_⟩
          refine ⟨.bool (false), fun _ uw201 hC202 _ => Gives.runW (wantedSome (d' := 131) (b := false) rfl rfl rfl) ((r_neqI (a := (andsS (turnS notG g1 l1 l1.length) (turnS notG g1 l1 l1.length).length : Nat)) (b := (andsS g1 g1.length : Nat)) rfl rfl).as (v' := .bool (false)) (by rw [turn_ands notG g1 l1 (fun _ => by show (3 : Int) ≠ 2; decide) l1.length]; simp)) ⟨rfl, Chg.refl _ _⟩, ?_⟩
          refine ⟨.bool (false), fun _ uw203 hC204 _ => Gives.run rfl (r_pickF (v := .bool (false)) rfl rfl) ⟨rfl, Chg.refl _ _⟩, ?_⟩
          intro r208 w205 hE207 hF
          have H206 := H150.ext hE207
          refine wnil ?_
          refine thenNormal ?_
          refine condFalse rfl ?_
          refine skipAny ?_
          refine thenNormal ?_
          refine seqAny ?_
          refine seqRegion ?_
          refine sq (r_move (v := .slice (ownA key48) l1.length c49) rfl) ?_
          refine sq (r_lenS sli49 (a := ownA key48) (m := l1.length) (c := c49) rfl) ?_
          refine sq (r_move (v := i64 ((0 : Int))) rfl) ?_
          refine wend ?_
          refine blockAny ?_
          refine loopAny (σ := Nat) (fun q => [(6, .slice (ownA key48) l1.length c49), (12, .slice (ownA key135) ((setO n g1.length l1 l1.length).length) c136), (14, .slice (ownA key144) ((setO n g1.length l1 l1.length).length) c145), (139, i64 ((l1.length : Nat))), (140, i64 ((q : Nat)))]) (fun q w' => q ≤ l1.length ∧ Hp No w w' [(key144, sob EB 4 (evalS (turnS xorG g1 l1 l1.length) (setO n g1.length l1 l1.length) bl) sp146), (key135, sob EB 4 (evalS (turnS notG g1 l1 l1.length) (setO n g1.length l1 l1.length) bl) sp137), (some b956, .cells #[i64 (n), .slice (ownA kz) (g1.length + l1.length) cz, .slice (ownA ko266) l1.length co267] 48 (0, 0)), (some b855, .cells #[i64 (n), .slice (ownA kd) (g1.length + l1.length) cd, .slice (ownA ko160) l1.length co161] 48 (0, 0)), (ko266, sob EI 3 (setO n g1.length l1 l1.length) spo268), (kz, sob EG 56 (turnS xorG g1 l1 l1.length) spz), (ko160, sob EI 3 (setO n g1.length l1 l1.length) spo162), (kd, sob EG 56 (turnS notG g1 l1 l1.length) spd), (key48, sob EB 4 (evalS g1 l1 bl) sp50), ((some b36), sob EB 4 bl (cel EB (List.replicate (n.toNat - n.toNat) false))), (ko15, sob EI 3 l1 spo17), (kg12, sob EG 56 g1 spg14), (some b1, .cells #[i64 (n), .slice (ownA kg12) g1.length cg13, .slice (ownA ko15) l1.length co16] 48 (0, 0))]) (fun q => l1.length - q) (0) ?_ ?_ ?_
          · exact ⟨rfl, rfl, rfl, rfl, rfl, trivial⟩
          · exact ⟨by omega, H206⟩
          rintro q ρ w209 ⟨hq, HL3⟩
          have hv1 := evalS_len g1 l1 bl
          have hv2 := evalS_len (turnS notG g1 l1 l1.length) (setO n g1.length l1 l1.length) bl
          have hv3 := evalS_len (turnS xorG g1 l1 l1.length) (setO n g1.length l1 l1.length) bl
          have hv4 := setO_len n g1.length l1 l1.length
          refine seqRegion ?_
          refine sq (r_lssI (a := (q : Nat)) (b := (l1.length : Nat)) rfl rfl) ?_
          refine wend ?_
          refine seqAny ?_
          refine condProp (((q : Nat) : Int) < (l1.length : Nat)) rfl (fun c141 => ?_) (fun c141 => ?_)
          · skip
            refine skipAny ?_
            refine thenNormal ?_
            refine seqAny ?_
            refine blockAny ?_
            refine seqRegion ?_
            refine sq (r_move (v := i64 ((q : Nat))) rfl) ?_
            refine sq (r_assign (v := i64 ((q : Nat))) rfl) ?_
            refine wend ?_
            refine seqAny ?_
            refine drawAny (K := [none, none, none, none, none, none, none, none, none, none, none, none, none, none, none]) [0, 0, 3, 7, 0, 0, 48, 112, 255, 511, 1023, 1023, 4095, 8191, 16383] (fun w' => Ext w209 w') (fun w' w'' => Ext w' w'') mixed (by kernel_rfl) (Ext.drew _) (fun _ _ h h' => h.trans h') ?_ ?_
            · exact relNone (by decide)
            refine ⟨.slice (ownA key135) ((setO n g1.length l1 l1.length).length) c136, fun _ uw211 hC212 _ => Gives.run rfl (r_move (v := .slice (ownA key135) ((setO n g1.length l1 l1.length).length) c136) rfl) ⟨rfl, Chg.refl _ _⟩, ?_⟩
            refine ⟨i64 ((q : Nat)), fun _ uw213 hC214 _ => Gives.run rfl (r_move (v := i64 ((q : Nat))) rfl) ⟨rfl, Chg.refl _ _⟩, ?_⟩
            refine ⟨.pointer (adr (ownA key135) (q * 1)), fun _ uw215 hC216 _ => Gives.run rfl (r_idxS (E := EB) (l := evalS (turnS notG g1 l1 l1.length) (setO n g1.length l1 l1.length) bl) (j := q) sli49 ((HL3.ext hC216).rd (k := 1) rfl hS138) rfl rfl (by first | rfl | omega | (simp; omega)) (by exact (evalS_len _ _ _).symm) (by omega)) ⟨rfl, Chg.refl _ _⟩, ?_⟩
            refine ⟨.bool ((evalS (turnS notG g1 l1 l1.length) (setO n g1.length l1 l1.length) bl).getD q false), fun _ uw217 hC218 _ => Gives.run rfl (r_ldS (E := EB) (l := evalS (turnS notG g1 l1 l1.length) (setO n g1.length l1 l1.length) bl) (j := q) (v := (evalS (turnS notG g1 l1 l1.length) (setO n g1.length l1 l1.length) bl).getD q false) fits4 ((HL3.ext hC218).rd (k := 1) rfl hS138) rfl rfl (at_getD (by omega))) ⟨rfl, Chg.refl _ _⟩, ?_⟩
            refine ⟨.slice (ownA key48) l1.length c49, fun _ uw219 hC220 _ => Gives.run rfl (r_move (v := .slice (ownA key48) l1.length c49) rfl) ⟨rfl, Chg.refl _ _⟩, ?_⟩
            refine ⟨i64 ((q : Nat)), fun _ uw221 hC222 _ => Gives.run rfl (r_move (v := i64 ((q : Nat))) rfl) ⟨rfl, Chg.refl _ _⟩, ?_⟩
            refine ⟨.pointer (adr (ownA key48) (q * 1)), fun _ uw223 hC224 _ => Gives.run rfl (r_idxS (E := EB) (l := evalS g1 l1 bl) (j := q) sli49 ((HL3.ext hC224).rd (k := 8) rfl hS51) rfl rfl (by first | rfl | omega | (simp; omega)) (by exact (evalS_len _ _ _).symm) (by omega)) ⟨rfl, Chg.refl _ _⟩, ?_⟩
            refine ⟨.bool ((evalS g1 l1 bl).getD q false), fun _ uw225 hC226 _ => Gives.run rfl (r_ldS (E := EB) (l := evalS g1 l1 bl) (j := q) (v := (evalS g1 l1 bl).getD q false) fits4 ((HL3.ext hC226).rd (k := 8) rfl hS51) rfl rfl (at_getD (by omega))) ⟨rfl, Chg.refl _ _⟩, ?_⟩
            refine ⟨.bool (false), fun _ uw227 hC228 _ => Gives.run rfl ((r_eqlB und4 (a := (evalS (turnS notG g1 l1 l1.length) (setO n g1.length l1 l1.length) bl).getD q false) (b := (evalS g1 l1 bl).getD q false) rfl rfl).as (v' := .bool (false)) (by exact congrArg Value.bool (turn_not hg31 bl hbn q (by omega)))) ⟨rfl, Chg.refl _ _⟩, ?_⟩
            refine ⟨.bool (false), fun _ uw229 hC230 _ => Gives.run rfl (r_move (v := .bool (false)) rfl) ⟨rfl, Chg.refl _ _⟩, ?_⟩
            refine ⟨.slice (ownA key144) ((setO n g1.length l1 l1.length).length) c145, fun _ uw231 hC232 _ => Gives.runW (wantedSome (d' := 152) (b := false) rfl rfl rfl) (r_move (v := .slice (ownA key144) ((setO n g1.length l1 l1.length).length) c145) rfl) ⟨rfl, Chg.refl _ _⟩, ?_⟩
            refine ⟨i64 ((q : Nat)), fun _ uw233 hC234 _ => Gives.runW (wantedSome (d' := 152) (b := false) rfl rfl rfl) (r_move (v := i64 ((q : Nat))) rfl) ⟨rfl, Chg.refl _ _⟩, ?_⟩
            refine ⟨.pointer (adr (ownA key144) (q * 1)), fun _ uw235 hC236 _ => Gives.runW (wantedSome (d' := 152) (b := false) rfl rfl rfl) (r_idxS (E := EB) (l := evalS (turnS xorG g1 l1 l1.length) (setO n g1.length l1 l1.length) bl) (j := q) sli49 ((HL3.ext hC236).rd (k := 0) rfl hS147) rfl rfl (by first | rfl | omega | (simp; omega)) (by exact (evalS_len _ _ _).symm) (by omega)) ⟨rfl, Chg.refl _ _⟩, ?_⟩
            refine ⟨.bool (false), fun _ uw237 hC238 _ => Gives.runW (wantedSome (d' := 152) (b := false) rfl rfl rfl) ((r_ldS (E := EB) (l := evalS (turnS xorG g1 l1 l1.length) (setO n g1.length l1 l1.length) bl) (j := q) (v := (evalS (turnS xorG g1 l1 l1.length) (setO n g1.length l1 l1.length) bl).getD q false) fits4 ((HL3.ext hC238).rd (k := 0) rfl hS147) rfl rfl (at_getD (by omega))).as (v' := .bool (false)) (by exact congrArg Value.bool (turn_xor hg31 bl hbn q (by omega)))) ⟨rfl, Chg.refl _ _⟩, ?_⟩
            refine ⟨.bool (false), fun _ uw239 hC240 _ => Gives.run rfl (r_pickF (v := .bool (false)) rfl rfl) ⟨rfl, Chg.refl _ _⟩, ?_⟩
            intro r244 w241 hE243 hF
            have H242 := HL3.ext hE243
            refine wnil ?_
            refine thenNormal ?_
            refine condFalse rfl ?_
            refine skipAny ?_
            refine blockNormal ?_
            refine thenNormal ?_
            refine oneRegion ?_
            refine sq (r_addI (a := (q : Nat)) (b := (1 : Int)) rfl rfl (by omega)) ?_
            refine sq (r_move (v := i64 ((q : Nat) + (1 : Int))) rfl) ?_
            refine wnil ?_
            refine thenNormal ?_
            exact ⟨q + 1, _, rfl, ⟨rfl, rfl, rfl, rfl, rfl, trivial⟩, ⟨by omega, H242⟩, by show l1.length - (q + 1) < l1.length - q; omega⟩
          · skip
            refine exitAny ?_
            refine thenExit ?_
            refine thenExit ?_
            refine blockHere ?_
            refine thenNormal ?_
            refine seqRegion ?_
            refine sq (r_assign (v := .bool (true)) rfl) ?_
            refine wend ?_
            refine retAny ?_
            refine retG (rs := [.tmp 4]) (vs := [.bool (true)]) rfl ⟨⟨rfl, rfl⟩, trivial⟩ ?_
            exact ⟨_, rfl, rfl, HL3.chg⟩
  · skip
    have H30 := H24'.ext hE29
    obtain ⟨T33, x34, rfl⟩ := hEr32.iface
    refine sq (r_neqIN isI40 rfl rfl) ?_
    refine sq (r_move (v := .bool (true)) rfl) ?_
    refine skAny (wantedSome (d' := 24) (b := true) rfl rfl rfl) ?_
    refine skAny (wantedSome (d' := 24) (b := true) rfl rfl rfl) ?_
    refine skAny (wantedSome (d' := 24) (b := true) rfl rfl rfl) ?_
    refine skAny (wantedSome (d' := 24) (b := true) rfl rfl rfl) ?_
    refine sq (r_pickT (u := .bool (true)) rfl rfl) ?_
    refine sq (r_move (v := .bool (true)) rfl) ?_
    refine skAny (wantedSome (d' := 30) (b := true) rfl rfl rfl) ?_
    refine skAny (wantedSome (d' := 30) (b := true) rfl rfl rfl) ?_
    refine skAny (wantedSome (d' := 30) (b := true) rfl rfl rfl) ?_
    refine sq (r_pickT (u := .bool (true)) rfl rfl) ?_
    refine wend ?_
    refine condTrue rfl ?_
    refine seqRegion ?_
    refine sq (r_assign (v := .bool (true)) rfl) ?_
    refine wend ?_
    refine retAny ?_
    refine thenRet ?_
    refine retG (rs := [.tmp 4]) (vs := [.bool (true)]) rfl ⟨⟨rfl, rfl⟩, trivial⟩ ?_
    exact ⟨_, rfl, rfl, H30.chg⟩
end Go.Proofs.YtkclklnfohaheaaDoor.Er
