/- The calculus' operations on memory: variables, arrays, slices that are read. -/
import Derived.Test.YteofdmdpaejgaaaDoorVcMem
namespace Go.Proofs.YteofdmdpaejgaaaDoor.Vc
open Go

/-- How values of a kind lie in cells. -/
structure Enc (α : Type) where
  val : α → Value
  s : Nat
  pos : 0 < s
  hs : ∀ a, (val a).cells.size = s
  one : ∀ a, ∀ u ∈ (val a).cells.toList, u.oneCell' = true
def Enc.f {α : Type} (E : Enc α) (a : α) : List Value := (E.val a).cells.toList
theorem Enc.len {α : Type} (E : Enc α) (a : α) : (E.f a).length = E.s := by simp [Enc.f, E.hs]

def E8 : Enc (BitVec 8) := ⟨u8, 1, by decide, fun _ => rfl, fun a u h => by simp [u8, Value.cells] at h; subst h; rfl⟩
def E32 : Enc (BitVec 32) := ⟨u32, 1, by decide, fun _ => rfl, fun a u h => by simp [u32, Value.cells] at h; subst h; rfl⟩
def E64 : Enc (BitVec 64) := ⟨u64, 1, by decide, fun _ => rfl, fun a u h => by simp [u64, Value.cells] at h; subst h; rfl⟩
def EI : Enc Int := ⟨i64, 1, by decide, fun _ => rfl, fun a u h => by simp [i64, Value.cells] at h; subst h; rfl⟩
def EB : Enc Bool := ⟨.bool, 1, by decide, fun _ => rfl, fun a u h => by simp [Value.cells] at h; subst h; rfl⟩

/-- a row of values, cell by cell -/
def cel {α : Type} (E : Enc α) (l : List α) : List Value := l.flatMap E.f
section
variable {α : Type} {E : Enc α}
@[simp] theorem cel_nil : cel E [] = [] := rfl
@[simp] theorem cel_cons (a : α) (l : List α) : cel E (a :: l) = E.f a ++ cel E l := rfl
theorem cel_append (l m : List α) : cel E (l ++ m) = cel E l ++ cel E m := by simp [cel]
theorem cel_length : ∀ l : List α, (cel E l).length = l.length * E.s
  | [] => by simp
  | a :: l => by rw [cel_cons, List.length_append, E.len, cel_length l, List.length_cons, Nat.add_mul]; omega
theorem cel_get : ∀ (l : List α) (j i : Nat) (a : α), l[j]? = some a → i < E.s → (cel E l)[j * E.s + i]? = (E.f a)[i]?
  | [], j, i, a, h, _ => by simp at h
  | x :: l, 0, i, a, h, hi => by
    simp only [List.getElem?_cons_zero, Option.some.injEq] at h
    subst h
    rw [cel_cons, List.getElem?_append_left (by rw [E.len]; omega)]
    simp
  | x :: l, j + 1, i, a, h, hi => by
    rw [cel_cons, List.getElem?_append_right (by rw [E.len, Nat.add_mul]; omega), E.len]
    rw [show (j + 1) * E.s + i - E.s = j * E.s + i by rw [Nat.add_mul]; omega]
    exact cel_get l j i a (by simpa using h) hi
theorem putR_append : ∀ (x y r z : List Value), y.length = r.length → putR (x ++ y ++ z).toArray x.length r = (x ++ r ++ z).toArray
  | x, [], [], z, _ => by simp [putR]
  | x, a :: y, b :: r, z, h => by
    rw [putR]
    have e : (x ++ a :: y ++ z).toArray.setIfInBounds x.length b = ((x ++ [b]) ++ y ++ z).toArray := by
      simp
    rw [e, show x.length + 1 = (x ++ [b]).length by simp, putR_append (x ++ [b]) y r z (by simpa using h)]
    simp
  | _, [], _ :: _, _, h => by simp at h
  | _, _ :: _, [], _, h => by simp at h
theorem cel_set (l : List α) (j : Nat) (a b : α) (h : l[j]? = some a) (pre post : List Value) :
    putR (pre ++ cel E l ++ post).toArray (pre.length + j * E.s) (E.f b) = (pre ++ cel E (l.set j b) ++ post).toArray := by
  have hj : j < l.length := (List.getElem?_eq_some_iff.1 h).1
  have e1 : l = l.take j ++ a :: l.drop (j + 1) := by
    have := (List.getElem?_eq_some_iff.1 h).2
    rw [← this, List.getElem_cons_drop, List.take_append_drop]
  have e2 : l.set j b = l.take j ++ b :: l.drop (j + 1) := by
    rw [List.set_eq_take_append_cons_drop, if_pos hj]
  rw [e2]
  conv => lhs; rw [e1]
  have hl : pre.length + j * E.s = (pre ++ cel E (l.take j)).length := by
    rw [List.length_append, cel_length, List.length_take, Nat.min_eq_left (by omega)]
  rw [hl]
  have e3 : pre ++ cel E (l.take j ++ a :: l.drop (j + 1)) ++ post = (pre ++ cel E (l.take j)) ++ E.f a ++ (cel E (l.drop (j + 1)) ++ post) := by
    simp [cel_append, List.append_assoc]
  rw [e3, putR_append _ _ _ _ (by rw [E.len, E.len])]
  simp [cel_append, List.append_assoc]
end

/-- a type whose values lie so -/
def Fits {α : Type} (P : Program) (T : TypeId) (E : Enc α) : Prop :=
  siz P T = some E.s ∧ ((isOne P T = true ∧ ∀ a, (E.val a).cells = #[E.val a]) ∨ (isAgg' P T = true ∧ ∀ a, E.val a = .agg (E.val a).cells))
theorem fits8 {P : Program} {T : TypeId} (h1 : siz P T = some 1) (h2 : isOne P T = true) : Fits P T E8 := ⟨h1, .inl ⟨h2, fun _ => rfl⟩⟩
theorem fits32 {P : Program} {T : TypeId} (h1 : siz P T = some 1) (h2 : isOne P T = true) : Fits P T E32 := ⟨h1, .inl ⟨h2, fun _ => rfl⟩⟩
theorem fits64 {P : Program} {T : TypeId} (h1 : siz P T = some 1) (h2 : isOne P T = true) : Fits P T E64 := ⟨h1, .inl ⟨h2, fun _ => rfl⟩⟩
theorem fitsI {P : Program} {T : TypeId} (h1 : siz P T = some 1) (h2 : isOne P T = true) : Fits P T EI := ⟨h1, .inl ⟨h2, fun _ => rfl⟩⟩
theorem fitsB {P : Program} {T : TypeId} (h1 : siz P T = some 1) (h2 : isOne P T = true) : Fits P T EB := ⟨h1, .inl ⟨h2, fun _ => rfl⟩⟩

section
variable {α : Type} {E : Enc α} {P : Program} {w : World} {T : TypeId}
theorem run_loadEl {b off : Nat} {cs : Array Value} {X : TypeId} {fr : Nat × Nat} {a : α} (hF : Fits P T E) (h : w.heap[b]? = some (.cells cs X fr))
    (hc : ∀ i, i < E.s → cs[off + i]? = (E.f a)[i]?) : (loadVar T ⟨b, off, none⟩).run P w = .ok (E.val a) w := by
  obtain ⟨h1, ⟨h2, h3⟩ | ⟨h2, h3⟩⟩ := hF
  · have hs : E.s = 1 := by have := E.hs a; rw [h3 a] at this; simpa using this.symm
    refine run_load1 h2 h ?_
    have := hc 0 (by omega)
    rw [Nat.add_zero] at this
    rw [this, Enc.f, h3 a]; rfl
  · have hsz : off + E.s ≤ cs.size := by
      have h0 := E.pos
      have := hc (E.s - 1) (by omega)
      have hl := E.len a
      rw [List.getElem?_eq_getElem (by omega)] at this
      have := (Array.getElem?_eq_some_iff.1 this).1
      omega
    rw [run_loadA h2 h1 h hsz, h3 a]
    congr 2
    apply Array.ext
    · simp; have := E.hs a; omega
    · intro i hi1 hi2
      simp at hi1
      have hi : i < E.s := by omega
      have := hc i hi
      have hl := E.len a
      rw [Array.getElem?_eq_getElem (by omega), List.getElem?_eq_getElem (by omega)] at this
      simp only [Option.some.injEq] at this
      simp only [Array.getElem_extract]
      rw [this]
      simp [Enc.f]
end

/-! ### the operations -/
def fld (P : Program) (S : TypeId) (f : Nat) : Option (Nat × Nat × TypeId) :=
  match P.underlying S with
  | some (.struct fs) => (fs[f]?).bind fun x => (siz P x.type).map fun z => (x.offset, z, x.type)
  | _ => none
def pls (P : Program) (S : TypeId) : Option (Array (Nat × Nat)) :=
  match P.underlying S with
  | some (.struct fs) => fs.mapM fun f => (siz P f.type).map fun z => (f.offset, z)
  | _ => none
def arr (P : Program) (T : TypeId) : Option (Nat × Nat) :=
  match P.underlying T with
  | some (.array m e) => (siz P e).map fun z => (m, z)
  | _ => none
def sli (P : Program) (T : TypeId) : Option (TypeId × Nat) :=
  match P.underlying T with
  | some (.slice e) => (siz P e).map fun z => (e, z)
  | _ => none

section
variable {P : Program} {n : Nat} {ops : Array Oper} {Q : Exit → Act → World → Prop} {ρ : Env} {w w₀ : World} {d : Option Nat} {t T T' S : TypeId} {pos : String} {after : Array Edge} {g : Option (Nat × Bool)} {x y : Operand}
  {M : Nat → Prop} {L : List (Option Nat × Obj)} {rest : List Oper} {b k off : Nat} {cs cs' : Array Value} {X : TypeId} {fr : Nat × Nat}

theorem r_nilCheck {a : Addr} (hx : ev n ρ x = .pointer (some a)) : Runs P n ρ ⟨d, .nilCheck x, t, pos, after, g⟩ w (.pointer (some a)) w := by
  simp [Runs, execOp, hx]
theorem r_fieldAddr {f o z off' : Nat} {U : TypeId} (hf : fld P S f = some (o, z, U)) (hz : z ≠ 0) (hx : ev n ρ x = .pointer (some ⟨b, off, none⟩)) (ho : off + o = off') :
    Runs P n ρ ⟨d, .fieldAddr S x f, t, pos, after, g⟩ w (.pointer (some ⟨b, off', none⟩)) w := by
  subst ho
  unfold fld at hf
  split at hf
  · rename_i fs hu
    simp only [Option.bind_eq_some_iff, Option.map_eq_some_iff, Prod.mk.injEq] at hf
    obtain ⟨fd, h1, z', h2, rfl, rfl, rfl⟩ := hf
    simp [Runs, execOp, hx, Instr.fieldAt, run_underlying hu, h1, Instr.sureAddr, fieldPlace, run_siz h2, hz, Addr.add_lit]
  · cases hf
theorem r_indexA {m z j off' : Nat} {kk : IntKind} {i : Int} (ha : arr P T = some (m, z)) (hx : ev n ρ x = .pointer (some ⟨b, off, none⟩)) (hy : ev n ρ y = .int kk i) (hi : i = (j : Int)) (hj : j < m) (ho : off + j * z = off') :
    Runs P n ρ ⟨d, .indexAddr T x y, t, pos, after, g⟩ w (.pointer (some ⟨b, off', none⟩)) w := by
  subst ho hi
  unfold arr at ha
  split at ha
  · rename_i m' e hu
    simp only [Option.map_eq_some_iff, Prod.mk.injEq] at ha
    obtain ⟨z', h2, rfl, rfl⟩ := ha
    have h1 : (0 : Int) ≤ (j : Int) ∧ (j : Int) < (m' : Int) := by omega
    simp [Runs, execOp, hx, hy, Instr.indexAt, run_underlying hu, Instr.sureAddr, asIntOf, run_siz h2, Addr.add_lit, hj]
  · cases ha
theorem r_load {α : Type} {E : Enc α} {a : α} (hF : Fits P T E) (h : w.heap[b]? = some (.cells cs X fr)) (hx : ev n ρ x = .pointer (some ⟨b, off, none⟩))
    (hc : ∀ i, i < E.s → cs[off + i]? = (E.f a)[i]?) : Runs P n ρ ⟨d, .load T x, t, pos, after, g⟩ w (E.val a) w := by
  simp [Runs, execOp, hx, Instr.loadAt, Instr.sureAddr, run_loadEl hF h hc]
/-- a whole array, or a whole struct, cell by cell -/
theorem r_loadA {s : Nat} (h1 : isAgg' P T = true) (h2 : siz P T = some s) (h : w.heap[b]? = some (.cells cs X fr)) (hx : ev n ρ x = .pointer (some ⟨b, off, none⟩)) (hs : off + s ≤ cs.size)
    {cs' : Array Value} (hc : cs.extract off (off + s) = cs') : Runs P n ρ ⟨d, .load T x, t, pos, after, g⟩ w (.agg cs') w := by
  subst hc
  simp [Runs, execOp, hx, Instr.loadAt, Instr.sureAddr, run_loadA h1 h2 h hs]
theorem r_loadC {v : Value} (h1 : isOne P T = true) (h : w.heap[b]? = some (.cells cs X fr)) (hx : ev n ρ x = .pointer (some ⟨b, off, none⟩)) (hv : cs[off]? = some v) :
    Runs P n ρ ⟨d, .load T x, t, pos, after, g⟩ w v w := by
  simp [Runs, execOp, hx, Instr.loadAt, Instr.sureAddr, run_load1 h1 h hv]

theorem Does.store {v : Value} {s : Nat} (hx : ev n ρ x = .pointer (some ⟨b, off, none⟩)) (hy : ev n ρ y = v) (h2 : siz P T = some s) (hs : v.cells.size = s)
    (hone : ∀ u ∈ v.cells.toList, u.oneCell' = true) (h : w.heap[b]? = some (.cells cs X (0, 0))) (ho : off + s ≤ cs.size) :
    Does P n ρ ⟨d, .store T x y, t, pos, after, g⟩ w (setBlk w b (.cells (putR cs off v.cells.toList) X (0, 0))) := by
  simp [Does, execOp, hx, hy, Instr.storeAt, Instr.sureAddr, run_storeV h2 hs hone h ho]
/-- a store into a block of one's own -/
theorem d_store {v : Value} {s : Nat} (H : Hp M w₀ w L) (hk : L[k]? = some (some b, .cells cs X (0, 0))) (hx : ev n ρ x = .pointer (some ⟨b, off, none⟩)) (hy : ev n ρ y = v)
    (h2 : siz P T = some s) (hs : v.cells.size = s) (hone : ∀ u ∈ v.cells.toList, u.oneCell' = true) (ho : off + s ≤ cs.size) (hc : putR cs off v.cells.toList = cs')
    (h : ∀ w', Hp M w₀ w' (L.set k (some b, .cells cs' X (0, 0))) → Chg (· = b) w w' → W P n ops Q rest ρ w') :
    W P n ops Q (⟨none, .store T x y, t, pos, after, none⟩ :: rest) ρ w := by
  subst hc
  have hb := H.get hk
  exact sd (Does.store hx hy h2 hs hone hb ho) (h _ (H.set hk (Chg.setBlk _ _ _) (setBlk_new hb)) (Chg.setBlk _ _ _))
theorem run_newVar (v : Value) (w : World) : (newVar T v).run P w = .ok ⟨w.heap.size, 0, none⟩ (w.alloc (.cells v.cells T)) := rfl
theorem Runs.box {v : Value} (hx : ev n ρ x = v) : Runs P n ρ ⟨d, .box T x, t, pos, after, g⟩ w (.pointer (some ⟨w.heap.size, 0, none⟩)) (w.alloc (.cells v.cells T)) := by
  simp [Runs, execOp, hx, Instr.box, run_newVar]
theorem q_box {v : Value} {o : Obj} (H : Hp M w₀ w L) (hx : ev n ρ x = v) (hc : Obj.cells v.cells T (0, 0) = o)
    (h : ∀ b w', w.heap.size ≤ b → Hp M w₀ w' ((some b, o) :: L) → Ext w w' → W P n ops Q rest (updo ρ d (.pointer (some ⟨b, 0, none⟩))) w') :
    W P n ops Q (⟨d, .box T x, t, pos, after, none⟩ :: rest) ρ w := by
  subst hc
  exact sq (Runs.box hx) (h _ _ (Nat.le_refl _) (H.alloc _) (Ext.alloc _ _))
theorem Runs.alloc {z : Value} (hz : zer P T = some z) : Runs P n ρ ⟨d, .alloc T, t, pos, after, g⟩ w (.pointer (some ⟨w.heap.size, 0, none⟩)) (w.alloc (.cells z.cells T)) := by
  simp [Runs, execOp, Instr.alloc, run_zer hz, run_newVar]
theorem q_alloc {z : Value} {o : Obj} (H : Hp M w₀ w L) (hz : zer P T = some z) (hc : Obj.cells z.cells T (0, 0) = o)
    (h : ∀ b w', w.heap.size ≤ b → Hp M w₀ w' ((some b, o) :: L) → Ext w w' → W P n ops Q rest (updo ρ d (.pointer (some ⟨b, 0, none⟩))) w') :
    W P n ops Q (⟨d, .alloc T, t, pos, after, none⟩ :: rest) ρ w := by
  subst hc
  exact sq (Runs.alloc hz) (h _ _ (Nat.le_refl _) (H.alloc _) (Ext.alloc _ _))

/-! ### values that hold several -/
theorem r_field1 {f o z : Nat} {v : Value} {U : TypeId} (hf : fld P S f = some (o, z, U)) (h1 : isOne P U = true)
    (hx : ev n ρ x = .agg cs) (hv : cs[o]? = some v) : Runs P n ρ ⟨d, .field S x f, t, pos, after, g⟩ w v w := by
  unfold fld at hf
  split at hf
  · rename_i fs hu
    simp only [Option.bind_eq_some_iff, Option.map_eq_some_iff, Prod.mk.injEq] at hf
    obtain ⟨fd, e1, z', e2, rfl, rfl, rfl⟩ := hf
    simp [Runs, execOp, hx, Instr.field, run_underlying hu, e1, asAgg, part, run_one h1, hv]
  · cases hf
theorem r_fieldN {f o z : Nat} {U : TypeId} (hf : fld P S f = some (o, z, U)) (h1 : isAgg' P U = true)
    (hx : ev n ρ x = .agg cs) (hv : cs.extract o (o + z) = cs') : Runs P n ρ ⟨d, .field S x f, t, pos, after, g⟩ w (.agg cs') w := by
  subst hv
  unfold fld at hf
  split at hf
  · rename_i fs hu
    simp only [Option.bind_eq_some_iff, Option.map_eq_some_iff, Prod.mk.injEq] at hf
    obtain ⟨fd, e1, z', e2, rfl, rfl, rfl⟩ := hf
    simp [Runs, execOp, hx, Instr.field, run_underlying hu, e1, asAgg, part, run_agg h1, run_siz e2]
  · cases hf
theorem r_index1 {m z j : Nat} {kk : IntKind} {i : Int} {v : Value} {e : TypeId} (hu : P.underlying T = some (.array m e)) (h1 : isOne P e = true) (hz : siz P e = some z)
    (hx : ev n ρ x = .agg cs) (hy : ev n ρ y = .int kk i) (hi : i = (j : Int)) (hj : j < m) (hv : cs[j * z]? = some v) :
    Runs P n ρ ⟨d, .index T x y, t, pos, after, g⟩ w v w := by
  subst hi
  simp [Runs, execOp, hx, hy, Instr.index, run_underlying hu, asIntOf, part, run_one h1, run_siz hz, hv, hj]
theorem r_indexN {m z j : Nat} {kk : IntKind} {i : Int} {e : TypeId} (hu : P.underlying T = some (.array m e)) (h1 : isAgg' P e = true) (hz : siz P e = some z)
    (hx : ev n ρ x = .agg cs) (hy : ev n ρ y = .int kk i) (hi : i = (j : Int)) (hj : j < m) (hv : cs.extract (j * z) (j * z + z) = cs') :
    Runs P n ρ ⟨d, .index T x y, t, pos, after, g⟩ w (.agg cs') w := by
  subst hi hv
  simp [Runs, execOp, hx, hy, Instr.index, run_underlying hu, asIntOf, part, run_agg h1, run_siz hz, hj]
theorem r_extract {vs : Array Value} {i : Nat} {v : Value} (hx : ev n ρ x = .tuple vs) (hv : vs[i]? = some v) : Runs P n ρ ⟨d, .extract x i, t, pos, after, g⟩ w v w := by
  simp [Runs, execOp, hx, Instr.extract, hv]
/-- a struct or an array that is built of parts -/
theorem run_places : ∀ (l : List Field) (r : List (Nat × Nat)), (l.mapM fun f => (siz P f.type).map fun z => (f.offset, z)) = some r →
    (l.mapM (fun f => do pure (f.offset, ← sizeOf f.type) : Field → Sem (Nat × Nat))).run P w = .ok r w := by
  intro l
  induction l with
  | nil => intro r hr; simp at hr; subst hr; rfl
  | cons f l ih =>
    intro r hr
    simp only [List.mapM_cons, Option.bind_eq_bind, Option.bind_eq_some_iff, Option.map_eq_some_iff] at hr
    obtain ⟨p, ⟨z, hz, rfl⟩, r', hr', hh⟩ := hr
    cases hh
    simp only [List.mapM_cons, Sem.run_bind, run_siz hz, Result.andThen_ok, Sem.run_pure, ih r' hr']
theorem r_build {parts : Array (Nat × Operand)} {z : Value} {ps : List (Nat × Value)} {pl : Array (Nat × Nat)} (hz : zer P T = some z) (hu : pls P T = some pl)
    (hp : (parts.toList.map fun q => (q.1, ev n ρ q.2)) = ps) (hf : Instr.fill (pl[·]?) z.cells ps = some cs') :
    Runs P n ρ ⟨d, .build T parts, t, pos, after, g⟩ w (.agg cs') w := by
  unfold pls at hu
  split at hu
  · rename_i fs hS
    have hm2 : (fs.mapM (fun f => do pure (f.offset, ← sizeOf f.type) : Field → Sem (Nat × Nat))).run P w = .ok pl w := by
      rw [Array.mapM_eq_mapM_toList] at hu ⊢
      simp only [Option.map_eq_map, Option.map_eq_some_iff] at hu
      obtain ⟨r, hr, rfl⟩ := hu
      simp only [Sem.run_map, run_places _ _ hr, Result.andThen_ok]
    have hps : (parts.map fun q => (q.1, ev n ρ q.2)).toList = ps := by simpa using hp
    simp only [Runs, execOp, Sem.run_bind, Instr.build, run_zer hz, Result.andThen_ok, run_underlying hS, hm2, hps, hf, Sem.run_pure]
  · cases hu
theorem r_buildA {parts : Array (Nat × Operand)} {z : Value} {ps : List (Nat × Value)} {m s : Nat} (hz : zer P T = some z) (ha : arr P T = some (m, s))
    (hp : (parts.toList.map fun q => (q.1, ev n ρ q.2)) = ps) (hf : Instr.fill (fun i => some (i * s, s)) z.cells ps = some cs') :
    Runs P n ρ ⟨d, .build T parts, t, pos, after, g⟩ w (.agg cs') w := by
  unfold arr at ha
  split at ha
  · rename_i m' e hu
    simp only [Option.map_eq_some_iff, Prod.mk.injEq] at ha
    obtain ⟨z', h2, rfl, rfl⟩ := ha
    have hps : (parts.map fun q => (q.1, ev n ρ q.2)).toList = ps := by simpa using hp
    simp only [Runs, execOp, Sem.run_bind, Instr.build, run_zer hz, Result.andThen_ok, run_underlying hu, run_siz h2, hps, hf, Sem.run_pure]
  · cases ha

/-! ### calls -/
def callable (P : Program) (f : FuncId) : Bool := match P.funcs[f]? with
  | some fn => !(fn.name == "runtime.NumGoroutine") && fn.body.isSome
  | none => false
theorem run_callFunc {f : FuncId} {as : Array Value} (h : callable P f = true) : (callFunc f as).run P w = .ok (.enter f as) w := by
  unfold callable at h
  split at h
  · rename_i fn hfn
    simp only [Bool.and_eq_true, Bool.not_eq_true'] at h
    have hb : fn.body.isNone = false := by cases hb : fn.body <;> simp_all
    simp only [callFunc, Sem.run_bind, run_program, Result.andThen_ok, hfn, h.1, hb, Bool.false_eq_true, if_false]
    rfl
  · cases h
theorem Enters.call {f : FuncId} {as : Array Operand} {ats : Array TypeId} {vs : Array Value} (hf : callable P f = true) (ha : as.map (ev n ρ) = vs) :
    Enters P n ρ ⟨d, .call ⟨.value (.func f), as, ats⟩, t, pos, after, g⟩ w f vs := by
  subst ha
  have e : ev n ρ (.func f) = .func (.func f) #[] #[] := rfl
  simp [Enters, execOp, resolve, e, Deferred.ofValue, invoke, run_callFunc hf]
/-- a call, its arguments one by one -/
theorem c_call {f : FuncId} {as : List Operand} {ats : Array TypeId} {vs : List Value} {R : Value → World → Prop} (hf : callable P f = true) (ha : as.map (ev n ρ) = vs)
    (hc : Calls P f vs.toArray w fun e w' => ∃ v, e = .returned v ∧ R v w') (h : ∀ v w', R v w' → W P n ops Q rest (updo ρ d v) w') :
    W P n ops Q (⟨d, .call ⟨.value (.func f), as.toArray, ats⟩, t, pos, after, none⟩ :: rest) ρ w :=
  sc (Enters.call hf (by simp [ha])) hc h
theorem r_lenS {e : TypeId} {z m c : Nat} {a : Option Addr} (hT : sli P T = some (e, z)) (hx : ev n ρ x = .slice a m c) :
    Runs P n ρ ⟨d, .call ⟨.builtin .len, #[x], #[T]⟩, t, pos, after, g⟩ w (i64 (m : Int)) w := by
  unfold sli at hT
  split at hT
  · rename_i e' hu
    simp [Runs, execOp, resolve, hx, invoke, builtin, Builtin.len_, run_underlying hu, goInt, i64]
  · cases hT
theorem r_lenStr {s : ByteArray} (hT : P.underlying T = some .string) (hx : ev n ρ x = .string s) :
    Runs P n ρ ⟨d, .call ⟨.builtin .len, #[x], #[T]⟩, t, pos, after, g⟩ w (i64 (s.size : Int)) w := by
  simp [Runs, execOp, resolve, hx, invoke, builtin, Builtin.len_, run_underlying hT, goInt, i64]
end
end Go.Proofs.YteofdmdpaejgaaaDoor.Vc
