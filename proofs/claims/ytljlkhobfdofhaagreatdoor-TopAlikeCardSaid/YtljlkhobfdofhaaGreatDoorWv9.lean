/- What the claim has need of: RwH, RwI, RwJ, RvV, RwK, RwL, RwM. -/
import Derived.Test.YtljlkhobfdofhaaGreatDoorWv8
set_option linter.unusedVariables false
set_option maxHeartbeats 16000000
set_option maxRecDepth 20000
namespace Go.Proofs.YtljlkhobfdofhaaGreatDoor.Rv
open Go Vc
attribute [local irreducible] pg
section
variable {P:Program} {n:Nat} {ρ:EA} {Q:Exit→Act→World→Prop} {w:World} {c:Code}
def Lp (P:Program) (c:Code) (Q:Exit→Act→World→Prop) (a:Act) (w:World):Prop:=∀ (b:Frame) k cs,∃ e a' w',Q e a' w'∧Arrives P (lone (b.at a (.code c::.inLoop c::k)) cs w) b k cs e a' w'
theorem Lp.step {a:Act} (h:c.wp P (Exit.then (Lp P c Q) Q) a w):Lp P c Q a w:=by
 intro b k cs
 obtain ⟨e,a₁,w₁,hq,harr⟩:=h b (.inLoop c::k) cs
 cases e with
 | normal =>
  obtain ⟨e₂,a₂,w₂,hq₂,harr₂⟩:=hq b k cs
  exact ⟨e₂,a₂,w₂,hq₂,.of_steps (Steps.trans harr (.one step_inLoop)) harr₂⟩
 | exit id=>exact ⟨_,a₁,w₁,hq,.pass (x:=.inLoop c) rfl (fun _ _=>.inl (by simp)) harr⟩
 | goto l=>exact ⟨_,a₁,w₁,hq,.pass (x:=.inLoop c) rfl (fun _ _=>.inl (by simp)) harr⟩
 | ret=>exact ⟨_,a₁,w₁,hq,.pass (x:=.inLoop c) rfl (fun _ _=>.inl (by simp)) harr⟩
 | panic ch=>exact ⟨_,a₁,w₁,hq,.pass (x:=.inLoop c) rfl (fun _ _=>.inl (by simp)) harr⟩
 | outgrown=>exact ⟨_,a₁,w₁,hq,.pass (x:=.inLoop c) rfl (fun _ _=>.inl (by simp)) harr⟩
theorem Lp.out {a:Act} (h:Lp P c Q a w):(Code.loop c).wp P Q a w:=by
 intro b k cs
 obtain ⟨e,a',w',hq,harr⟩:=h b k cs
 exact ⟨e,a',w',hq,.of_steps (.one step_loop) harr⟩
end
section
variable {n:Nat} {call:Cl}
def exOf:Lv→Exit
 | .nx=>.normal
 | .ex i=>.exit i
 | .rt=>.ret
def Cok (n m:Nat) (c:Code) (F:Fr) (M:Me) (e:Lv) (F':Fr) (M':Me):Prop:=∀ (I:Itp) (w:World) (ρ:EA) (Q:Exit→Act→World→Prop),ER I n ⟨m,[],F⟩ ρ→MRel I w M.t →
 (∀ J ρ' w',Stp I w M.t J w' M'.t→ER J n ⟨m,[],F'⟩ ρ'→MRel J w' M'.t→Q (exOf e) (St n ρ') w')→c.wp pg Q (St n ρ) w
def Cs (n:Nat) (call:Cl) (c:Code):Prop:=∀ (cx:Cx) (F:Fr) (M:Me) (k:Kc) (r:Rs),mG c call cx F M k=some r→∃ e F' M',k e F' M'=some r∧Cok n cx.m c F M e F' M'
theorem loop_ok {c:Code} {cx:Cx} (h:Cs n call c) {k:Kc} {r:Rs}:∀ (m:Nat) (F:Fr) (M:Me),jR (mG c call cx) k m F M=some r→∃ e F' M',k e F' M'=some r ∧
  ∀ (I:Itp) (w:World) (ρ:EA) (Q:Exit→Act→World→Prop),ER I n ⟨cx.m,[],F⟩ ρ→MRel I w M.t→(∀ J ρ' w',Stp I w M.t J w' M'.t→ER J n ⟨cx.m,[],F'⟩ ρ'→MRel J w' M'.t→Q (exOf e) (St n ρ') w')→Lp pg c Q (St n ρ) w:=by
 intro m
 induction m with
 | zero=>intro F M h; cases h
 | succ m ih =>
  intro F M hl
  obtain ⟨e,F₁,M₁,h1,h2⟩:=h cx F M _ r (show mG c call cx F M (fun e F M=>KZ (jR (mG c call cx) k m) k e F M)=some r from hl)
  cases e with
  | nx =>
   obtain ⟨e,F',M',h3,h4⟩:=ih F₁ M₁ h1
   refine ⟨e,F',M',h3,fun I w ρ Q H HM hK=>Lp.step (h2 I w ρ _ H HM fun J ρ' w' g1 g2 g3=>?_)⟩
   exact h4 J w' ρ' Q g2 g3 fun L ρ'' w'' a1 a2 a3=>hK L ρ'' w'' (g1.trans a1) a2 a3
  | ex i=>exact ⟨.ex i,F₁,M₁,h1,fun I w ρ Q H HM hK=>Lp.step (h2 I w ρ _ H HM fun J ρ' w' g1 g2 g3=>hK J ρ' w' g1 g2 g3)⟩
  | rt=>exact ⟨.rt,F₁,M₁,h1,fun I w ρ Q H HM hK=>Lp.step (h2 I w ρ _ H HM fun J ρ' w' g1 g2 g3=>hK J ρ' w' g1 g2 g3)⟩
theorem wX (hmix:pg.follows .mixedOrders=true) (hC:CS call) (hn:n≤256):∀ (c:Code),okC n c=true→okA c=true→Cs n call c:=by
 intro c
 induction c with
 | skip=>intro _ _ cx F M k r h; exact ⟨.nx,F,M,h,fun I w ρ Q H HM hK=>LF (hK I ρ w Stp.refl H HM)⟩
 | region id ops d =>
  intro h1 h2 cx F M k r h
  have h1:BJ n ops.toList=true:=h1
  cases d with
  | false =>
   obtain ⟨E',M',g1,g2,g3⟩:=wZ hn hC h1 ops.toList _ M _ r h1 (show iI ops ops.toList call ⟨cx.m,[],F⟩ M (fun E M=>k .nx E.F M)=some r from h)
   refine ⟨.nx,E'.F,M',g1,fun I w ρ Q H HM hK=>?_⟩
   have e:ops=ops.toList.toArray:=by simp
   rw [e]
   refine xF ?_
   rw [← e]
   refine g3 I w ρ Q H HM fun J ρ' w' a1 a2 a3=>hK J ρ' w' a1 ?_ a3
   have:=a2.drop
   rw [g2] at this; exact this
  | true =>
   obtain ⟨E',M',g1,g2,g3⟩:=drwK_ok hmix hC hn h1 (show jQ ops (wJ ops) (DB ops)=true from h2) (show drwK ops call ⟨cx.m,[],F⟩ M (fun E M=>k .nx E.F M)=some r from h)
   refine ⟨.nx,E'.F,M',g1,fun I w ρ Q H HM hK=>g3 id I w ρ Q H HM fun J ρ' w' a1 a2 a3=>hK J ρ' w' a1 ?_ a3⟩
   have:=a2.drop
   rw [g2] at this; exact this
 | seq a b iha ihb =>
  intro h1 h2 cx F M k r h
  obtain ⟨o1,o2⟩:=eD (show KA (okC n a) (okC n b) false=true from h1)
  obtain ⟨p1,p2⟩:=eD (show KA (okA a) (okA b) false=true from h2)
  obtain ⟨e,F₁,M₁,g1,g2⟩:=iha o1 p1 cx F M _ r (show mG a call cx F M (KZ (fun F M=>mG b call cx F M k) k)=some r from h)
  cases e with
  | nx =>
   obtain ⟨e,F',M',g3,g4⟩:=ihb o2 p2 cx F₁ M₁ k r g1
   refine ⟨e,F',M',g3,fun I w ρ Q H HM hK=>xG (g2 I w ρ _ H HM fun J ρ' w' a1 a2 a3=>?_)⟩
   exact g4 J w' ρ' Q a2 a3 fun L ρ'' w'' b1 b2 b3=>hK L ρ'' w'' (a1.trans b1) b2 b3
  | ex i=>exact ⟨.ex i,F₁,M₁,g1,fun I w ρ Q H HM hK=>xG (g2 I w ρ _ H HM fun J ρ' w' a1 a2 a3=>hK J ρ' w' a1 a2 a3)⟩
  | rt=>exact ⟨.rt,F₁,M₁,g1,fun I w ρ Q H HM hK=>xG (g2 I w ρ _ H HM fun J ρ' w' a1 a2 a3=>hK J ρ' w' a1 a2 a3)⟩
 | cond x a b iha ihb =>
  intro h1 h2 cx F M k r h
  obtain ⟨o0,o1⟩:=eD (show KA (okX n x) (KA (okC n a) (okC n b) false) false=true from h1)
  obtain ⟨o1,o2⟩:=eD o1
  obtain ⟨p1,p2⟩:=eD (show KA (okA a) (okA b) false=true from h2)
  obtain ⟨v,q1,h⟩:=gA (show (mA (zD x ⟨cx.m,[],F⟩) fun v=>mA v.bool? fun t=>KA t (mG a call cx F M k) (mG b call cx F M k))=some r from h)
  obtain ⟨t,q2,h⟩:=gA h
  have ev:=AV.bool_eq q2
  subst ev
  cases t with
  | true =>
   obtain ⟨e,F',M',g1,g2⟩:=iha o1 p1 cx F M k r h
   refine ⟨e,F',M',g1,fun I w ρ Q H HM hK=>ZC ?_ (g2 I w ρ Q H HM hK)⟩
   have:=eQ H o0 q1
   simpa only [IV] using this
  | false =>
   obtain ⟨e,F',M',g1,g2⟩:=ihb o2 p2 cx F M k r h
   refine ⟨e,F',M',g1,fun I w ρ Q H HM hK=>CF ?_ (g2 I w ρ Q H HM hK)⟩
   have:=eQ H o0 q1
   simpa only [IV] using this
 | block id a iha =>
  intro h1 h2 cx F M k r h
  obtain ⟨e,F₁,M₁,g1,g2⟩:=iha h1 h2 cx F M _ r (show mG a call cx F M (blkK id k)=some r from h)
  cases e with
  | nx=>exact ⟨.nx,F₁,M₁,g1,fun I w ρ Q H HM hK=>cF (g2 I w ρ _ H HM fun J ρ' w' a1 a2 a3=>hK J ρ' w' a1 a2 a3)⟩
  | rt=>exact ⟨.rt,F₁,M₁,g1,fun I w ρ Q H HM hK=>cF (g2 I w ρ _ H HM fun J ρ' w' a1 a2 a3=>hK J ρ' w' a1 a2 a3)⟩
  | ex i =>
   have g9:KA (Nat.beq i id) (k .nx F₁ M₁) (k (.ex i) F₁ M₁)=some r:=g1
   cases hb:Nat.beq i id with
   | true =>
    rw [hb] at g9
    have e:=KC hb
    subst e
    exact ⟨.nx,F₁,M₁,g9,fun I w ρ Q H HM hK=>cF (g2 I w ρ _ H HM fun J ρ' w' a1 a2 a3=>kE (hK J ρ' w' a1 a2 a3))⟩
   | false =>
    rw [hb] at g9
    exact ⟨.ex i,F₁,M₁,g9,fun I w ρ Q H HM hK=>cF (g2 I w ρ _ H HM fun J ρ' w' a1 a2 a3=>FF hb (hK J ρ' w' a1 a2 a3))⟩
 | loop a iha =>
  intro h1 h2 cx F M k r h
  obtain ⟨e,F',M',g1,g2⟩:=loop_ok (iha h1 h2) cx.n F M (show jR (mG a call cx) k cx.n F M=some r from h)
  exact ⟨e,F',M',g1,fun I w ρ Q H HM hK=>(g2 I w ρ Q H HM hK).out⟩
 | exit id=>intro _ _ cx F M k r h; exact ⟨.ex id,F,M,h,fun I w ρ Q H HM hK=>cG (hK I ρ w Stp.refl H HM)⟩
 | ret=>intro _ _ cx F M k r h; exact ⟨.rt,F,M,h,fun I w ρ Q H HM hK=>RE (hK I ρ w Stp.refl H HM)⟩
 | rangeFunc f p a b iha ihb=>intro _ _ cx F M k r h; cases h
 | scope a iha=>intro _ _ cx F M k r h; cases h
 | label l=>intro _ _ cx F M k r h; cases h
 | goto l=>intro _ _ cx F M k r h; cases h
 | refuse s=>intro _ _ cx F M k r h; cases h
end
end Go.Proofs.YtljlkhobfdofhaaGreatDoor.Rv
namespace Go.Proofs.YtljlkhobfdofhaaGreatDoor.Rv
open Go Vc
attribute [local irreducible] pg
theorem OH (m t:Nat):tst m t=m.testBit t:=by
 have e:tst m t=Nat.beq ((m >>> t)&&&1) 1:=rfl
 rw [e,Nat.and_one_is_mod,Nat.testBit_eq_decide_div_mod_eq,Nat.shiftRight_eq_div_pow]
 cases h:decide (m / 2 ^ t % 2=1) with
 | true=>rw [of_decide_eq_true h]; rfl
 | false =>
  have:=of_decide_eq_false h
  cases hb:Nat.beq (m / 2 ^ t % 2) 1 with
  | true=>exact (this (KC hb)).elim
  | false=>rfl
theorem zY (a b t:Nat):tst (Nat.lor a b) t=(tst a t || tst b t):=by
 rw [OH,OH,OH]; exact Nat.testBit_or ..
theorem AU (t:Nat):tst (KX t) t=true:=by
 rw [OH]
 show (1 <<< t).testBit t=true
 rw [Nat.testBit_shiftLeft]; simp
theorem nW (fn:Func) (c:Code) {x:ResultVar} (h:x∈fn.results.toList):tst (tH fn c) (rH x)=true:=by
 unfold tH
 generalize fn.results.toList=l at h ⊢
 induction l with
 | nil=>cases h
 | cons y l ih =>
  show tst (Nat.lor _ (KX (rH y))) (rH x)=true
  rw [zY]
  rcases List.mem_cons.1 h with rfl | h
  ·rw [AU]; simp
  ·rw [ih h]; rfl
theorem PX {k:Fr→Option Rs} {r:Rs}:∀ (l:List AV) (i:Nat) (F:Fr),i+l.length≤256→QR l i F k=some r→∃ F',k F'=some r∧∀ t,t<256→pG (RN t) F'=if i≤t∧t<i+l.length then l[t-i]? else pG (RN t) F:=by
 intro l
 induction l with
 | nil =>
  intro i F _ h
  exact ⟨F,h,fun t _=>by rw [if_neg (by simp)]⟩
 | cons v l ih =>
  intro i F hi h
  have h:LN (RN i) F (some v) (fun F=>QR l (Nat.succ i) F k)=some r:=h
  rw [tM] at h
  obtain ⟨F',h1,h2⟩:=ih (i+1) _ (by simp at hi; omega) h
  refine ⟨F',h1,fun t ht=>?_⟩
  rw [h2 t ht]
  simp only [List.length_cons] at hi ⊢
  by_cases e:t=i
  ·subst e
   rw [if_neg (by omega),if_pos (by omega),YE,if_pos rfl,Nat.sub_self]; rfl
  ·by_cases h3:i+1≤t∧t<i+1+l.length
   ·rw [if_pos h3,if_pos (by omega),show t-i=(t-(i+1))+1 by omega]; rfl
   ·rw [if_neg h3,if_neg (by omega),YE,if_neg fun e2=>e (TQ _ _ ht (by omega) e2)]
end Go.Proofs.YtljlkhobfdofhaaGreatDoor.Rv
namespace Go.Proofs.YtljlkhobfdofhaaGreatDoor.Rv
open Go Vc
attribute [local irreducible] pg
def thenR {α β:Type} (r:Result α) (f:α→World→Result β):Result β:=match r with
 | .ok a w=>f a w
 | .halt h w=>.halt h w
theorem run_bind {α β:Type} (P:Program) (f:α→Sem β):∀ (x:Sem α) (w:World),(x.bind f).run P w=thenR (x.run P w) fun a w=>(f a).run P w:=by
 intro x
 induction x with
 | pure a=>intro w; rfl
 | load m a k ih =>
  intro w
  simp only [Sem.bind,Sem.run]
  cases w.cell? a with
  | some v=>exact ih v w
  | none =>
   cases w.farLoad P a (m == .atomic) with
   | ok q=>exact ih _ w
   | error h=>rfl
 | store m a v k ih =>
  intro w
  have key:(match w.cell? a with
   | some _=>if w.frozen? a then .halt (.unsupported (.unsafePointer "a write to bytes that a string shares")) w else (k.bind f).run P (w.setCell a v)
   | none=>match w.farStore P a v (m == .atomic) with
    | .ok (w,_)=>(k.bind f).run P w
    | .error h=>.halt h w)=thenR (match w.cell? a with
   | some _=>if w.frozen? a then .halt (.unsupported (.unsafePointer "a write to bytes that a string shares")) w else k.run P (w.setCell a v)
   | none=>match w.farStore P a v (m == .atomic) with
    | .ok (w,_)=>k.run P w
    | .error h=>.halt h w) fun a w=>(f a).run P w:=by
   cases w.cell? a with
   | some q =>
    dsimp only
    split
    ·rfl
    ·exact ih _
   | none =>
    dsimp only
    cases w.farStore P a v (m == .atomic) with
    | ok q=>exact ih _
    | error h=>rfl
  cases v<;>first | rfl | exact key
 | new o k ih=>intro w; exact ih _ _
 | shape r k ih=>intro w; exact ih _ _
 | freeze a n k ih=>intro w; exact ih _
 | frozen a k ih=>intro w; exact ih _ _
 | getObj r k ih =>
  intro w
  simp only [Sem.bind,Sem.run]
  cases w.heap[r]? with
  | none=>rfl
  | some o=>cases o<;>first | rfl | exact ih _ _
 | setObj r o k ih =>
  intro w
  simp only [Sem.bind,Sem.run]
  cases w.heap[r]? with
  | none=>rfl
  | some o=>cases o<;>first | rfl | exact ih _
 | choose q k ih =>
  intro w
  simp only [Sem.bind,Sem.run]
  split<;>exact ih _ _
 | sys c k ih=>intro w; exact ih _ _
 | program k ih=>intro w; exact ih _ _
 | mark m k ih=>intro w; exact ih _
 | halt h=>intro w; rfl
section
variable {n m:Nat} {F:Fr} {M:Me} {I:Itp} {w:World} {ρ:EA}
theorem eN {mask t:Nat} (h:tst mask t=true) {v:AV} (hv:pG (RN t) F=some v):fF t ⟨mask,[],F⟩=some v:=by
 unfold fF; simp only [h]; exact hv
noncomputable def ON (n:Nat) (ρ:EA):ResultVar→Sem Value
 | .tmp t=>pure ((St n ρ).tmps.getD t undef)
 | .cell a t=>do loadVar t (← asAddr ((St n ρ).tmps.getD a undef))
theorem VY {mask:Nat} {x:ResultVar} {v:AV} (hx:rH x<n) (hm:tst mask (rH x)=true) (H:ER I n ⟨mask,[],F⟩ ρ) (HM:MRel I w M.t) (h:CK F M.t x=some v):∃ u,(ON n ρ x).run pg w=.ok u w∧IV I.K v I.β u:=by
 cases x with
 | tmp t =>
  have hx:t<n:=hx
  have hv:=H t hx v (eN hm h)
  refine ⟨ρ t,?_,hv⟩
  show (pure ((St n ρ).tmps.getD t undef):Sem Value).run pg w=_
  rw [II (Nat.ble_eq_true_of_le hx)]
  rfl
 | cell t T =>
  have hx:t<n:=hx
  obtain ⟨a,h1,h2⟩:=gA (show (mA (pG (RN t) F) fun a=>load T M.t a)=some v from h)
  have ha:=H t hx a (eN hm h1)
  have hb:Nat.blt t n=true:=Nat.ble_eq_true_of_le hx
  obtain ⟨u,h3,h4⟩:=tO (d:=none) (t:=T) (pos := "") (after:=#[]) (g:=none) (x:=.tmp t) (E:=⟨mask,[],F⟩) (eN hm h1) h2 I w n ρ (fun y hy b hb'=>by
   have e:y=.tmp t:=by simpa [Op.operands] using hy
   subst e
   show IV I.K b I.β (bif Nat.blt t n then ρ t else undef)
   rw [hb]; exact H t hx b hb') HM
  refine ⟨u,?_,h3⟩
  show (do loadVar T (← asAddr ((St n ρ).tmps.getD t undef)):Sem Value).run pg w=_
  rw [II hb]
  have e:ev n ρ (.tmp t)=ρ t:=by show (bif Nat.blt t n then ρ t else undef)=_; rw [hb]; rfl
  have hp:∃ ad,ρ t=.pointer (some ad):=by
   unfold load at h2
   cases hq:a.ptr? with
   | none =>
    rw [hq] at h2
    obtain ⟨l,h5,h6⟩:=gA (show (mA a.fp? fun l=>yF T l 0)=some v from h2)
    have e:=AV.fp_eq h5; subst e
    simp only [IV] at ha
    obtain ⟨b,q,cs,X,fr,us,ha,_⟩:=ha
    exact ⟨_,ha⟩
   | some p =>
    have e:=AV.ptr_eq hq; subst e
    simp only [IV] at ha
    obtain ⟨bk,hk,ha⟩:=ha
    exact ⟨_,ha⟩
  obtain ⟨ad,hp⟩:=hp
  have h4:(execOp (ev n ρ) ⟨none,.load T (.tmp t),T, "", #[],none⟩).run pg w=.ok (.value u) w:=h4
  rw [hp]
  simp only [execOp,e,hp,Instr.loadAt,Instr.sureAddr] at h4
  have h5:((loadVar T ad).bind fun x=>Sem.pure (Next.value x)).run pg w=.ok (.value u) w:=h4
  rw [run_bind] at h5
  show (loadVar T ad).run pg w=.ok u w
  cases hr:(loadVar T ad).run pg w with
  | ok q w'=>rw [hr] at h5; cases h5; rfl
  | halt h w'=>rw [hr] at h5; cases h5
theorem IQ {mask:Nat} (H:ER I n ⟨mask,[],F⟩ ρ) (HM:MRel I w M.t):∀ {l:List ResultVar} {vs:List AV},(∀ x∈l,rH x<n∧tst mask (rH x)=true)→YU F M.t l=some vs→∃ us,(l.mapM (ON n ρ)).run pg w=.ok us w∧IVt I.K vs I.β us
 | [],vs,_,h=>by
  cases h
  exact ⟨[],rfl,by simp only [IVt]⟩
 | x::l,vs,hl,h=>by
  obtain ⟨v,h1,h⟩:=gA (show (mA (CK F M.t x) fun v=>mA (YU F M.t l) fun r=>some (v::r))=some vs from h)
  obtain ⟨r,h2,h⟩:=gA h
  cases h
  obtain ⟨u,g1,g2⟩:=VY (hl x (List.mem_cons_self ..)).1 (hl x (List.mem_cons_self ..)).2 H HM h1
  obtain ⟨us,g3,g4⟩:=IQ H HM (fun y hy=>hl y (List.mem_cons_of_mem _ hy)) h2
  refine ⟨u::us,?_,?_⟩
  ·rw [List.mapM_cons]
   show ((ON n ρ x).bind fun a=>(l.mapM (ON n ρ)).bind fun b=>Sem.pure (a::b)).run pg w=_
   rw [run_bind,g1]
   show ((l.mapM (ON n ρ)).bind fun b=>Sem.pure (u::b)).run pg w=_
   rw [run_bind,g3]; rfl
  ·simp only [IVt]; exact ⟨u,us,rfl,g2,g4⟩
theorem IM {vs:List AV} {us:LV} (H:IVt I.K vs I.β us):IV I.K (one vs) I.β (if h:us.toArray.size=1 then us.toArray[0] else .tuple us.toArray):=by
 match vs,us,H with
 | [],us,H =>
  simp only [IVt] at H
  subst H
  show IV I.K (.tup []) I.β (.tuple #[])
  simp only [IV,IVt]
  exact ⟨[],rfl,rfl⟩
 | [v],us,H =>
  simp only [IVt] at H
  obtain ⟨u,r,rfl,h1,rfl⟩:=H
  exact h1
 | v::v'::l,us,H =>
  have H':=H
  simp only [IVt] at H'
  obtain ⟨u,r,rfl,h1,u',r',rfl,h2,h3⟩:=H'
  rw [dif_neg (by simp)]
  show IV I.K (.tup (v::v'::l)) I.β _
  simp only [IV]
  exact ⟨_,rfl,H⟩
theorem AP {fn:Func} {mask:Nat} {vs:List AV} (H:ER I n ⟨mask,[],F⟩ ρ) (HM:MRel I w M.t) (hl:∀ x∈fn.results.toList,rH x<n∧tst mask (rH x)=true) (h:YU F M.t fn.results.toList=some vs) :
  ∃ u,(results fn (St n ρ).tmps).run pg w=.ok u w∧IV I.K (one vs) I.β u:=by
 obtain ⟨us,h1,h2⟩:=IQ H HM hl h
 refine ⟨_,?_,IM h2⟩
 have e:fn.results=fn.results.toList.toArray:=by simp
 have e2:fn.results.mapM (ON n ρ)=(fn.results.toList.mapM (ON n ρ)).bind fun l=>Sem.pure l.toArray:=by
  conv=>lhs; rw [e,List.mapM_toArray]
  rfl
 have e3:results fn (St n ρ).tmps=(fn.results.mapM (ON n ρ)).bind fun vs=>Sem.pure (if h:vs.size=1 then vs[0] else .tuple vs):=by
  unfold results
  show Sem.bind (Array.mapM _ fn.results) _=Sem.bind (Array.mapM _ fn.results) _
  congr 2
 rw [e3,run_bind,e2,run_bind,h1]
 rfl
end
end Go.Proofs.YtljlkhobfdofhaaGreatDoor.Rv
namespace Go.Proofs.YtljlkhobfdofhaaGreatDoor.Rv
open Go Vc
noncomputable def HZ (f:Nat):Bool:=match pg.funcs[f]? with
 | some fn=>Option.rec true (fun c=>okF fn c) fn.body
 | none=>true
noncomputable def allF (n:Nat):Bool:=Nat.rec true (fun f ih=>KA (tst fm f) (KA (HZ f) ih false) ih) n
set_option maxRecDepth 100000
theorem DH:allF 373=true:=by kernel_rfl
end Go.Proofs.YtljlkhobfdofhaaGreatDoor.Rv
namespace Go.Proofs.YtljlkhobfdofhaaGreatDoor.Rv
open Go Vc
theorem all_at:∀ (N f:Nat),f<N→allF N=true→tst fm f=true→HZ f=true:=by
 intro N
 induction N with
 | zero=>intro f h; omega
 | succ N ih =>
  intro f hf h ht
  have h:KA (tst fm N) (KA (HZ N) (allF N) false) (allF N)=true:=h
  by_cases e:f=N
  ·subst e
   rw [ht,tC] at h
   exact (eD h).1
  ·refine ih f (by omega) ?_ ht
   cases hN:tst fm N with
   | true=>rw [hN,tC] at h; exact (eD h).2
   | false=>rw [hN,BD] at h; exact h
set_option exponentiation.threshold 400 in
theorem VW {f:Nat} (h:tst fm f=true):f<373:=by
 rw [OH] at h
 rcases Nat.lt_or_ge f 373 with h1 | h1
 ·exact h1
 ·have:fm<2 ^ f:=Nat.lt_of_lt_of_le (show fm<2 ^ 373 by unfold fm; decide) (Nat.pow_le_pow_right (by omega) h1)
  rw [Nat.testBit_lt_two_pow this] at h; cases h
theorem okF_at {f:Nat} {fn:Func} {c:Code} (h:tst fm f=true) (hf:pg.funcs[f]?=some fn) (hb:fn.body=some c):okF fn c=true:=by
 have:=all_at 373 f (VW h) DH h
 unfold HZ at this
 rw [hf] at this
 have this:(Option.rec true (fun c=>okF fn c) fn.body:Bool)=true:=this
 rw [hb] at this
 exact this
attribute [local irreducible] pg
def XR (f:FuncId) (xs:List AV) (M:Me) (v:AV) (M':Me):Prop:=∀ (I:Itp) (w:World) (us:LV),IVt I.K xs I.β us→MRel I w M.t →
 Out pg (fun u w'=>∃ J,Stp I w M.t J w' M'.t∧IV J.K v J.β u∧MRel J w' M'.t) ((callFunc f us.toArray).run pg w)
def XS (X:Kw):Prop:=∀ f xs M k q,X f xs M k=some q→∀ r,q=some r→∃ v M',k v M'=some r∧XR f xs M v M'
theorem IVt.length {K:Kp} {β:Mp}:∀ {l:List AV} {us:LV},IVt K l β us→us.length=l.length
 | [],us,h=>by simp only [IVt] at h; rw [h]; rfl
 | v::l,us,h=>by
  simp only [IVt] at h
  obtain ⟨u,r,rfl,_,h2⟩:=h
  simp [IVt.length h2]
theorem body_ok {m:Nat} {call:Cl} {f:FuncId} {fn:Func} {c:Code} {xs:List AV} {M:Me} {k:Kn} {r:Rs} (hmix:pg.follows .mixedOrders=true) (hC:CS call) (hf:pg.funcs[f]?=some fn) (hb:fn.body=some c) (hok:okF fn c=true)
  (hng:(fn.name == "runtime.NumGoroutine")=false) (h:fnK m call fn xs M k=some r):∃ v M',k v M'=some r∧XR f xs M v M':=by
 obtain ⟨h1,hok⟩:=eD (show KA (Nat.ble fn.ntmps 256) (KA (okC fn.ntmps c) (KA (okR fn.ntmps fn.results.toList) (okA c) false) false) false=true from hok)
 obtain ⟨h2,hok⟩:=eD hok
 obtain ⟨h3,h4⟩:=eD hok
 have hn:=lE.1 h1
 unfold fnK at h
 rw [hb] at h
 obtain ⟨h5,h⟩:=AA (show KA (Nat.ble (DC xs) fn.ntmps) (QR xs 0 e4 fun F=>mG c call ⟨tH fn c,m⟩ F M fun e F M=>Lv.rec (XU fn k F M) (fun _=>none) (XU fn k F M) e) none=some r from h)
 have hlen:=lE.1 h5
 rw [lB] at hlen
 obtain ⟨F,g1,g2⟩:=PX xs 0 e4 (by omega) h
 obtain ⟨e,F',M',g3,g4⟩:=wX hmix hC hn c h2 h4 ⟨tH fn c,m⟩ F M _ r g1
 have hre:∀ x∈fn.results.toList,rH x<fn.ntmps∧tst (tH fn c) (rH x)=true:=fun x hx=>⟨by
  have key:∀ l:List ResultVar,okR fn.ntmps l=true→x∈l→rH x<fn.ntmps:=by
   intro l
   induction l with
   | nil=>intro _ h; cases h
   | cons y l ih =>
    intro h hx
    obtain ⟨a1,a2⟩:=eD (show KA (Nat.blt (rH y) fn.ntmps) (okR fn.ntmps l) false=true from h)
    rcases List.mem_cons.1 hx with rfl | hx
    ·exact GJ a1
    ·exact ih a2 hx
  exact key _ h3 hx,nW fn c hx⟩
 have hret:XU fn k F' M'=some r∧(e=.nx∨e=.rt):=by
  cases e with
  | nx=>exact ⟨g3,.inl rfl⟩
  | rt=>exact ⟨g3,.inr rfl⟩
  | ex i=>cases g3
 obtain ⟨vs,q1,q2⟩:=gA (show (mA (YU F' M'.t fn.results.toList) fun l=>k (one l) M')=some r from hret.1)
 refine ⟨one vs,M',q2,fun I w us hus HM=>?_⟩
 have hcf:(callFunc f us.toArray).run pg w=.ok (.enter f us.toArray) w:=by
  unfold callFunc
  show (match pg.funcs[f]? with
   | none=>stuck "call: no such function"
   | some fn=>_:Sem Next).run pg w=_
  rw [hf]
  simp only [hng,hb,Option.isNone_some,if_false]
  rfl
 rw [hcf]
 have hul:=hus.length
 show Calls pg f us.toArray w fun e w'=>∃ v,e=.returned v∧_
 refine enter hf hb rfl (by omega) (g4 I w (args us) _ ?_ HM fun J ρ' w' a1 a2 a3=>?_)
 ·intro t ht v hv
  unfold fF at hv
  cases hm:tst (tH fn c) t with
  | false=>simp only [hm] at hv; cases hv
  | true =>
   simp only [hm] at hv
   have hg:=g2 t (by omega)
   have hv:pG (RN t) F=some v:=hv
   rw [hg] at hv
   split at hv
   ·rename_i hc
    obtain ⟨u,b1,b2⟩:=hus.at hv
    have:args us t=u:=by
     show us.getD t undef=u
     rw [List.getD_eq_getElem?_getD]
     rw [Nat.sub_zero] at b1
     rw [b1]; rfl
    rw [this]; exact b2
   ·have:pG (RN t) (e4:Fr)=none:=by unfold e4; rw [PW]
    rw [this] at hv; cases hv
 ·obtain ⟨u,b1,b2⟩:=AP (fn:=fn) a2 a3 hre q1
  rcases hret.2 with rfl | rfl
  ·exact bodyPost_end b1 rfl ⟨u,rfl,J,a1,b2,a3⟩
  ·exact bodyPost_ret b1 rfl ⟨u,rfl,J,a1,b2,a3⟩
end Go.Proofs.YtljlkhobfdofhaaGreatDoor.Rv
namespace Go.Proofs.YtljlkhobfdofhaaGreatDoor.Rv
open Go Vc
noncomputable def nmB (f:Nat):Bool:=match pg.funcs[f]? with
 | some fn=>SF (fn.name == "runtime.NumGoroutine")
 | none=>true
noncomputable def allN (n:Nat):Bool:=Nat.rec true (fun f ih=>KA (tst fm f) (KA (nmB f) ih false) ih) n
set_option maxRecDepth 100000
theorem nm_ok:allN 373=true:=by kernel_rfl
theorem TP:pg.follows .mixedOrders=true:=by kernel_rfl
theorem bR {f:Nat} {fn:Func} (h:tst fm f=true) (hf:pg.funcs[f]?=some fn):(fn.name == "runtime.NumGoroutine")=false:=by
 have key:∀ (N f:Nat),f<N→allN N=true→tst fm f=true→nmB f=true:=by
  intro N
  induction N with
  | zero=>intro f h; omega
  | succ N ih =>
   intro f hf h ht
   have h:KA (tst fm N) (KA (nmB N) (allN N) false) (allN N)=true:=h
   by_cases e:f=N
   ·subst e
    rw [ht,tC] at h
    exact (eD h).1
   ·refine ih f (by omega) ?_ ht
    cases hN:tst fm N with
    | true=>rw [hN,tC] at h; exact (eD h).2
    | false=>rw [hN,BD] at h; exact h
 have:=key 373 f (VW h) nm_ok h
 unfold nmB at this
 rw [hf] at this
 have this:SF (fn.name == "runtime.NumGoroutine")=true:=this
 rw [jF] at this
 simpa using this
attribute [local irreducible] pg
def XE:Prop:=∀ f fn xs M v,tst fm f=true→pg.funcs[f]?=some fn→fn.body=none→cQ fn.name xs=some v→XR f xs M v M
theorem nL {X:Kw} {m:Nat} (hX:XS X) (hE:XE):∀ fuel,CS (HC X m fuel):=by
 intro fuel
 induction fuel with
 | zero=>intro f xs M k r h; cases h
 | succ fuel ih =>
  intro f xs M k r h
  have h:(Option.rec (KA (tst fm f) (mA (pg.funcs[f]?) fun fn=>fnK m (HC X m fuel) fn xs M k) none) (fun r=>r) (X f xs M k):Option Rs)=some r:=h
  cases hx:X f xs M k with
  | some q =>
   rw [hx] at h
   exact hX f xs M k q hx r h
  | none =>
   rw [hx] at h
   have h:KA (tst fm f) (mA (pg.funcs[f]?) fun fn=>fnK m (HC X m fuel) fn xs M k) none=some r:=h
   obtain ⟨ht,h⟩:=AA h
   obtain ⟨fn,hf,h⟩:=gA h
   cases hb:fn.body with
   | some c=>exact body_ok TP ih hf hb (okF_at ht hf hb) (bR ht hf) h
   | none =>
    unfold fnK at h
    rw [hb] at h
    obtain ⟨v,h1,h2⟩:=gA (show (mA (cQ fn.name xs) fun v=>k v M)=some r from h)
    exact ⟨v,M,h2,hE f fn xs M v ht hf hb h1⟩
end Go.Proofs.YtljlkhobfdofhaaGreatDoor.Rv
namespace Go.Proofs.YtljlkhobfdofhaaGreatDoor.Rv
open Go Vc
theorem idxB_ok (b:UInt8):∀ (l:List UInt8) (i:Nat),HW b l i=match (List.range l.length).find? fun j=>l[j]! == b with
 | some j=>.ofNat (i+j)
 | none=>.negSucc 0:=by
 intro l
 induction l with
 | nil=>intro i; rfl
 | cons a l ih =>
  intro i
  show KA (Nat.beq a.toNat b.toNat) (.ofNat i) (HW b l (Nat.succ i))=_
  rw [List.length_cons,List.range_succ_eq_map,List.find?_cons]
  have e0:((a::l)[0]! == b)=Nat.beq a.toNat b.toNat:=by
   show (a == b)=_
   cases hb:Nat.beq a.toNat b.toNat with
   | true=>rw [beq_iff_eq]; exact UInt8.toNat_inj.1 (KC hb)
   | false =>
    rw [beq_eq_false_iff_ne]
    intro e; subst e
    rw [Nat.beq_refl] at hb; cases hb
  rw [e0]
  cases hb:Nat.beq a.toNat b.toNat with
  | true=>rfl
  | false =>
   rw [BD,ih,List.find?_map]
   have e1:((fun j=>(a::l)[j]! == b) ∘ Nat.succ)=fun j=>l[j]! == b:=by funext j; rfl
   rw [e1]
   cases (List.range l.length).find? fun j=>l[j]! == b with
   | none=>rfl
   | some j=>show Int.ofNat (Nat.succ i+j)=Int.ofNat (i+Nat.succ j); congr 1; omega
end Go.Proofs.YtljlkhobfdofhaaGreatDoor.Rv
