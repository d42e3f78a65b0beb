/- The calculus: a row of one's own that begins inside its block: it is cut at the front, and appended to. -/
import Derived.Test.YteofdmdpaejgaaaDoorVcGrow
import Derived.ArgAppend
namespace Go.Proofs.YteofdmdpaejgaaaDoor.Vc
open Go

/-- its block -/
def sobP {α : Type} (E : Enc α) (T : TypeId) (pre : List Value) (l : List α) (sp : List Value) : Obj := .cells (pre ++ (cel E l ++ sp)).toArray T (0, 0)
/-- what is told of it -/
structure SlP {α : Type} (E : Enc α) (key : Option Nat) (a : Option Addr) (pre : List Value) (l : List α) (c : Nat) (sp : List Value) : Prop where
  len : l.length * E.s + sp.length = c * E.s
  max : c ≤ maxLen
  at_ : (c = 0 ∧ l = []) ∨ ∃ g, key = some g ∧ a = some ⟨g, pre.length, none⟩

section
variable {α : Type} {E : Enc α} {w w' w₀ : World} {a : Option Addr} {l : List α} {key : Option Nat} {pre sp : List Value} {c : Nat} {T : TypeId} {M : Nat → Prop} {L : List (Option Nat × Obj)}
theorem SlP.nil : SlP E none none [] ([] : List α) 0 [] := ⟨by simp, Nat.zero_le _, .inl ⟨rfl, rfl⟩⟩
theorem SlP.of (h : Sl E key l c sp) : SlP E key (ownA key) [] l c sp := ⟨h.len, h.max, by
  cases key with
  | none => exact .inl ⟨(h.nil rfl).2, (h.nil rfl).1⟩
  | some g => exact .inr ⟨g, rfl, rfl⟩⟩
theorem sobP_of (l : List α) (sp : List Value) : sobP E T [] l sp = sob E T l sp := rfl
theorem SlP.cap (h : SlP E key a pre l c sp) : l.length ≤ c :=
  Nat.le_of_mul_le_mul_right (Nat.le_trans (Nat.le_add_right _ sp.length) (Nat.le_of_eq h.len)) E.pos
theorem rdMineP {X : TypeId} (hS : SlP E key a pre l c sp) (h : ∀ g, key = some g → w.heap[g]? = some (sobP E X pre l sp)) : Rd E w a l := by
  rcases hS.at_ with ⟨_, h0⟩ | ⟨g, rfl, rfl⟩
  · exact .inl h0
  · refine Rd.of (h g rfl) fun i u hu => ?_
    rw [List.getElem?_toArray, List.getElem?_append_right (by omega), Nat.add_sub_cancel_left, List.getElem?_append_left (List.getElem?_eq_some_iff.1 hu).1]; exact hu
theorem Hp.rdP {k : Nat} {X : TypeId} (H : Hp M w₀ w L) (hk : L[k]? = some (key, sobP E X pre l sp)) (hS : SlP E key a pre l c sp) : Rd E w a l :=
  rdMineP hS fun g hg => H.has _ (List.mem_of_getElem? hk) g hg
/-- the first element is cut off -/
theorem SlP.cut1 {x : α} (h : SlP E key a pre (x :: l) c sp) : SlP E key (if c = 1 then a else adr a (1 * E.s)) (pre ++ E.f x) l (c - 1) sp := by
  have hl := h.len; have hc := h.cap
  simp only [List.length_cons] at hl hc
  have e : c * E.s = (c - 1) * E.s + E.s := by
    conv => lhs; rw [show c = c - 1 + 1 by omega, Nat.add_mul, Nat.one_mul]
  refine ⟨?_, Nat.le_trans (Nat.sub_le _ _) h.max, ?_⟩
  · rw [Nat.add_mul, Nat.one_mul] at hl; omega
  · rcases h.at_ with ⟨_, h0⟩ | ⟨g, rfl, rfl⟩
    · cases h0
    · by_cases hc1 : c = 1
      · exact .inl ⟨by omega, List.length_eq_zero_iff.1 (by omega)⟩
      · refine .inr ⟨g, rfl, ?_⟩
        rw [if_neg hc1]
        simp [adr, Addr.add_lit, E.len]
theorem sobP_cut (x : α) : sobP E T (pre ++ E.f x) l sp = sobP E T pre (x :: l) sp := by
  simp [sobP, cel, List.append_assoc]
end

section
variable {α : Type} {E : Enc α} {P : Program} {n : Nat} {ops : Array Oper} {Q : Exit → Act → World → Prop} {rest : List Oper} {ρ : Env} {w w₀ : World} {d : Option Nat} {t S T : TypeId} {pos : String} {after : Array Edge} {x y : Operand}
  {l l2 : List α} {m c c2 m2 by' k : Nat} {key : Option Nat} {pre sp : List Value} {a a2 : Option Addr} {z : Value} {M : Nat → Prop} {L : List (Option Nat × Obj)}
/-- an append onto such a row: in its room, or into a new block -/
theorem q_appP (H : Hp M w₀ w L) (hL : L[k]? = some (key, sobP E T pre l sp)) (hS : SlP E key a pre l c sp) (hT : sli P S = some (T, E.s)) (hz : zer P T = some z) (hzs : z.cells.size = E.s) (hby : byt P T = some by')
    (hR : Rd E w a2 l2) (hl2 : 0 < l2.length) (hx : ev n ρ x = .slice a m c) (hm : m = l.length) (hy : ev n ρ y = .slice a2 m2 c2) (hm2 : m2 = l2.length) (hb : (m + m2) * by' ≤ 140737488355328 ∧ m + m2 ≤ 140737488355328)
    (h : ∀ key' a' pre' c' sp' w', SlP E key' a' pre' (l ++ l2) c' sp' → Hp M w₀ w' (L.set k (key', sobP E T pre' (l ++ l2) sp')) → W P n ops Q rest (updo ρ d (.slice a' (m + m2) c')) w') :
    W P n ops Q (⟨d, .call ⟨.builtin .append, #[x, y], #[S, S]⟩, t, pos, after, none⟩ :: rest) ρ w := by
  subst hm hm2
  obtain ⟨hu, i, hi, hz', hs, rfl⟩ := info_of hT hz hby
  have hpos := E.pos
  have hlc := hS.cap
  have hln := hS.len
  obtain ⟨x2, rfl⟩ := hR.some hl2
  have hnews := hR.cells rfl
  have hl2n : (cel E l2).length = l2.length * i.size := by rw [cel_length, hs]
  have hlo : (cel E l).length = l.length * i.size := by rw [cel_length, hs]
  have hone : ∀ u ∈ cel E l2, u.oneCell' = true := fun u hu => by
    simp only [cel, List.mem_flatMap] at hu; obtain ⟨b, _, hb⟩ := hu; exact E.one b u hb
  have hge := grownCap_ge w (l.length + l2.length) c T
  have hcm := grownCap_le_maxLen w (l.length + l2.length) c T (by simp only [maxLen]; omega)
  have hzl : ∀ k, (Builtin.zeroCells z.cells k).toList.length = k * E.s := fun k => by rw [Array.length_toList, size_zeroCells, hzs]
  -- a new block
  have grow : ∀ (ad : Addr), a = some ad → Rd E w (some ad) l → c < l.length + l2.length → W P n ops Q (⟨d, .call ⟨.builtin .append, #[x, y], #[S, S]⟩, t, pos, after, none⟩ :: rest) ρ w := by
    intro ad ha hRl hlt
    have hrun := run_append_grow (P := P) w S t T i z hu hi hz' ad l.length c (cel E l) hlo (hRl.cells rfl) x2 l2.length c2 (cel E l2) hl2n hnews hlt (by omega) (growslice_fits hlt hb.1)
    have hob : Obj.cells ((cel E l).toArray ++ (cel E l2).toArray ++ Builtin.zeroCells z.cells (grownCap w (l.length + l2.length) c T - (l.length + l2.length))) T (0, 0) = sobP E T [] (l ++ l2) (Builtin.zeroCells z.cells (grownCap w (l.length + l2.length) c T - (l.length + l2.length))).toList := by
      simp [sobP, cel_append]
    have hrun' : (Builtin.append_ #[S, S] t #[.slice (some ad) l.length c, .slice (some x2) l2.length c2]).run P w = .ok (.slice (some ⟨w.heap.size, 0, none⟩) (l.length + l2.length) (grownCap w (l.length + l2.length) c T)) (w.drew.alloc (sobP E T [] (l ++ l2) (Builtin.zeroCells z.cells (grownCap w (l.length + l2.length) c T - (l.length + l2.length))).toList)) := by rw [← hob]; exact hrun
    refine sq (v := .slice (some ⟨w.heap.size, 0, none⟩) (l.length + l2.length) (grownCap w (l.length + l2.length) c T)) ?_ (h (some w.heap.size) (some ⟨w.heap.size, 0, none⟩) [] (grownCap w (l.length + l2.length) c T) (Builtin.zeroCells z.cells (grownCap w (l.length + l2.length) c T - (l.length + l2.length))).toList (w.drew.alloc (sobP E T [] (l ++ l2) (Builtin.zeroCells z.cells (grownCap w (l.length + l2.length) c T - (l.length + l2.length))).toList)) ⟨?_, hcm, .inr ⟨_, rfl, rfl⟩⟩ ?_)
    · rw [ha] at hx
      simp only [Runs, execOp, resolve, hx, hy, invoke, builtin, Sem.run_bind, Sem.run_pure, Result.andThen_ok, List.map_toArray, List.map_cons, List.map_nil, hrun']
    · rw [List.length_append, hzl, ← Nat.add_mul]; congr 1; omega
    · exact H.turn hL (Ext.chg ((Ext.drew w).trans (Ext.alloc _ _))) fun b hb => by cases hb; exact ⟨.inr (Nat.le_refl _), alloc_new _ _⟩
  rcases hS.at_ with ⟨rfl, rfl⟩ | ⟨g, rfl, rfl⟩
  · cases a with
    | some ad => exact grow ad rfl Rd.nil (by simp; omega)
    | none =>
      simp only [List.length_nil, Nat.zero_add] at *
      have hrun := run_append_nil (P := P) w S t T i z hu hi hz' x2 l2.length c2 (cel E l2) hl2n hnews hl2 (by omega) (by omega)
      have hob : Obj.cells ((cel E l2).toArray ++ Builtin.zeroCells z.cells (grownCap w l2.length 0 T - l2.length)) T (0, 0) = sobP E T [] ([] ++ l2) (Builtin.zeroCells z.cells (grownCap w l2.length 0 T - l2.length)).toList := by
        simp [sobP]
      have hrun' : (Builtin.append_ #[S, S] t #[.slice none 0 0, .slice (some x2) l2.length c2]).run P w = .ok (.slice (some ⟨w.heap.size, 0, none⟩) l2.length (grownCap w l2.length 0 T)) (w.drew.alloc (sobP E T [] ([] ++ l2) (Builtin.zeroCells z.cells (grownCap w l2.length 0 T - l2.length)).toList)) := by rw [← hob]; exact hrun
      refine sq (v := .slice (some ⟨w.heap.size, 0, none⟩) l2.length (grownCap w l2.length 0 T)) ?_ (h (some w.heap.size) (some ⟨w.heap.size, 0, none⟩) [] (grownCap w l2.length 0 T) (Builtin.zeroCells z.cells (grownCap w l2.length 0 T - l2.length)).toList (w.drew.alloc (sobP E T [] ([] ++ l2) (Builtin.zeroCells z.cells (grownCap w l2.length 0 T - l2.length)).toList)) ⟨?_, hcm, .inr ⟨_, rfl, rfl⟩⟩ ?_)
      · simp only [Runs, execOp, resolve, hx, hy, invoke, builtin, Sem.run_bind, Sem.run_pure, Result.andThen_ok, List.map_toArray, List.map_cons, List.map_nil, hrun']
      · rw [List.nil_append, hzl, ← Nat.add_mul]; congr 1; omega
      · exact H.turn hL (Ext.chg ((Ext.drew w).trans (Ext.alloc _ _))) fun b hb => by cases hb; exact ⟨.inr (Nat.le_refl _), alloc_new _ _⟩
  · by_cases hr : l.length + l2.length ≤ c
    · have hg := H.has _ (List.mem_of_getElem? hL) g rfl
      have hr2 := Nat.mul_le_mul_right E.s hr
      rw [Nat.add_mul] at hr2
      have hsz : (pre ++ (cel E l ++ sp)).toArray.size = pre.length + c * E.s := by
        rw [List.size_toArray, List.length_append, List.length_append, cel_length, hln]
      have hcell : ∀ j, j < (cel E l2).length → (w.cell? ⟨g, pre.length + l.length * i.size + j, none⟩).isSome = true := fun j hj => by
        rw [hl2n, hs] at hj
        rw [cell_eq hg, Array.getElem?_eq_getElem (by rw [hsz, hs]; omega)]; rfl
      have hrun := run_append_room_cells (P := P) w S t T i hu hi g pre.length l.length c x2 l2.length c2 (cel E l2) hl2n hnews hone hr hcell (fun j hj => frozen_eq hg)
      have hW : w.setCells g (pre.length + l.length * i.size) (cel E l2) = setBlk w g (sobP E T pre (l ++ l2) (sp.drop (l2.length * E.s))) := by
        have key : ∀ (vs : List Value) (w : World) (cs : Array Value) (off : Nat), w.heap[g]? = some (.cells cs T (0, 0)) → w.setCells g off vs = setBlk w g (.cells (putR cs off vs) T (0, 0)) := by
          intro vs
          induction vs with
          | nil => intro w cs off h; simp only [putR, setBlk_self h]; rfl
          | cons v vs ih =>
            intro w cs off h
            have h1 : w.setCells g off (v :: vs) = (w.setCell ⟨g, off, none⟩ v).setCells g (off + 1) vs := rfl
            rw [h1, setCell_eq h, ih _ _ _ (setBlk_new h), setBlk_two]; rfl
        rw [key _ _ _ _ hg]
        simp only [sobP]
        congr 2
        have hlen : pre.length + l.length * i.size = (pre ++ cel E l).length := by rw [List.length_append, cel_length, hs]
        have := putR_append (pre ++ cel E l) (sp.take (l2.length * E.s)) (cel E l2) (sp.drop (l2.length * E.s)) (by rw [List.length_take, cel_length]; omega)
        rw [hlen]
        simp only [List.append_assoc] at this ⊢
        rw [List.take_append_drop] at this
        rw [this, cel_append, List.append_assoc]
      rw [hW] at hrun
      refine sq (v := .slice (some ⟨g, pre.length, none⟩) (l.length + l2.length) c) ?_ (h (some g) (some ⟨g, pre.length, none⟩) pre c (sp.drop (l2.length * E.s)) _ ⟨?_, hS.max, .inr ⟨g, rfl, rfl⟩⟩ (H.set hL (Chg.setBlk w g _) (setBlk_new hg)))
      · simp only [Runs, execOp, resolve, hx, hy, invoke, builtin, Sem.run_bind, Sem.run_pure, Result.andThen_ok, List.map_toArray, List.map_cons, List.map_nil, hrun]
      · rw [List.length_append, List.length_drop, Nat.add_mul]; omega
    · exact grow _ rfl (H.rdP hL hS) (by omega)
end
end Go.Proofs.YteofdmdpaejgaaaDoor.Vc
