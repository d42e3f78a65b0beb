/- What the claim has need of: Vc, VcInt, VcMem, VcOps, VcDraw, VcDrawI, VcMore. -/
import Derived.Calls
import Derived.Tactics
import Derived.Orders
import Derived.Below
import Derived.WalkKit
import Derived.KernelRfl
set_option linter.unusedVariables false
set_option maxHeartbeats 4000000
namespace Go.Proofs.YtljlkhobfdofhaaGreatDoor.Vc
open Go
abbrev RW:=Option Nat × Obj
abbrev LV:=List Value
theorem kr {p:Prop} (h:p:=by kernel_rfl):p:=h
end Go.Proofs.YtljlkhobfdofhaaGreatDoor.Vc
namespace Go.Proofs.YtljlkhobfdofhaaGreatDoor.Vc
open Go
abbrev EA:=Nat→Value
def upd (ρ:EA) (d:Nat) (v:Value):EA:=fun i=>bif Nat.beq i d then v else ρ i
def St (n:Nat) (ρ:EA):Act:={ tmps:=Array.ofFn (n:=n) fun i=>ρ i.val,defers:=[] }
def ev (n:Nat) (ρ:EA):Operand→Value
 | .tmp t=>bif Nat.blt t n then ρ t else undef
 | .const v=>v
 | .global g=>.pointer (some ⟨g,0,none⟩)
 | .func f=>.func (.func f) #[] #[]
def XA (ρ:EA):Option Nat→Value→EA
 | some d,v=>upd ρ d v
 | none,_=>ρ
theorem oE (ρ:EA) (d:Nat) (v:Value):upd ρ d v d=v:=by simp [upd]
theorem oH (ρ:EA) {d i:Nat} (v:Value) (h:i≠d):upd ρ d v i=ρ i:=by
 simp only [upd]
 have:Nat.beq i d=false:=by
  cases hb:Nat.beq i d
  ·rfl
  ·exact absurd (Nat.eq_of_beq_eq_true hb) h
 rw [this]; rfl
theorem nE (n:Nat) (ρ:EA):(St n ρ).eval=ev n ρ:=by
 funext x
 cases x with
 | tmp t =>
  simp only [Act.eval,St,ev]
  by_cases h:t<n
  ·have hb:Nat.blt t n=true:=by simpa [Nat.blt_eq] using h
   rw [hb]
   simp [h]
  ·have hb:Nat.blt t n=false:=by
    cases hb:Nat.blt t n
    ·rfl
    ·exact absurd (by simpa [Nat.blt_eq] using hb) h
   rw [hb]
   simp [h]
 | _=>rfl
theorem dE (n:Nat) (ρ:EA) (d:Option Nat) (v:Value):(St n ρ).put d v=St n (XA ρ d v):=by
 cases d with
 | none=>rfl
 | some d =>
  simp only [Act.put,St,XA]
  congr 1
  apply Array.ext
  ·simp
  ·intro i h1 h2
   have h3:i<n:=by simpa using h2
   rw [Array.getElem_setIfInBounds (by simpa using h3)]
   simp only [Array.getElem_ofFn]
   by_cases hd:d=i
   ·subst hd; simp [oE]
   ·rw [if_neg hd,oH _ _ (fun h=>hd h.symm)]
theorem OG {n:Nat} {ρ ρ':EA} (h:∀ i,i<n→ρ i=ρ' i):St n ρ=St n ρ':=by
 simp only [St]
 congr 1
 apply Array.ext
 ·simp
 ·intro i h1 h2
  simp only [Array.getElem_ofFn]
  exact h i (by simpa using h1)
def args (l:LV):EA:=fun i=>l.getD i undef
theorem enter {P:Program} {f:FuncId} {fn:Func} {c:Code} {l:LV} {n:Nat} {w:World} {R:Ending→World→Prop}
  (hf:P.funcs[f]?=some fn) (hb:fn.body=some c) (hn:fn.ntmps=n) (hl:l.length≤n)
  (h:c.wp P (bodyPost P fn R) (St n (args l)) w):Calls P f l.toArray w R:=by
 refine calls_of_wp hf hb ?_
 have:({ tmps:=l.toArray++Array.replicate (fn.ntmps-l.toArray.size) undef,defers:=[] }:Act)=St n (args l):=by
  subst hn
  simp only [St]
  congr 1
  apply Array.ext
  ·simp; omega
  ·intro i h1 h2
   simp only [Array.getElem_ofFn,args]
   rw [Array.getElem_append]
   split
   ·rename_i hi
    simp at hi
    simp [hi]
   ·rename_i hi
    simp at hi
    simp [hi]
 rw [this]
 exact h
section
variable {P:Program} {n:Nat} {ops:Array Oper} {Q:Exit→Act→World→Prop} {ρ:EA} {w:World}
structure W (P:Program) (n:Nat) (ops:Array Oper) (Q:Exit→Act→World→Prop) (l:List Oper) (ρ:EA) (w:World):Prop where
 out:wpList P ops Q l (St n ρ) w
def Runs (P:Program) (n:Nat) (ρ:EA) (o:Oper) (w:World) (v:Value) (w':World):Prop :=
 (execOp (ev n ρ) o).run P w=.ok (.value v) w'
def Does (P:Program) (n:Nat) (ρ:EA) (o:Oper) (w:World) (w':World):Prop :=
 (execOp (ev n ρ) o).run P w=.ok .skip w'
def Enters (P:Program) (n:Nat) (ρ:EA) (o:Oper) (w:World) (f:FuncId) (as:Array Value):Prop :=
 (execOp (ev n ρ) o).run P w=.ok (.enter f as) w
theorem mH (h:Q .normal (St n ρ) w):W P n ops Q [] ρ w:=⟨wpList_nil h⟩
theorem NI {K:Act→World→Prop} (h:K (St n ρ) w):W P n ops (Exit.then K Q) [] ρ w:=⟨wpList_nil h⟩
theorem KB {o:Oper} (hg:o.guard=none) (ops:Array Oper) (a:Act):Region.wanted o (yielded ops a.tmps)=true:=by
 simp [Region.wanted,hg]
theorem ZA {o:Oper} {rest:List Oper} {v:Value} {w':World} (hw:Region.wanted o (yielded ops (St n ρ).tmps)=true)
  (hr:Runs P n ρ o w v w') (h:W P n ops Q rest (XA ρ o.dst v) w'):W P n ops Q (o::rest) ρ w:=by
 refine ⟨wpList_step fun K hK=>?_⟩
 rw [if_pos hw]
 unfold Oper.wp
 rw [nE,hr,Oper.upon_value,dE]
 exact hK _ _ h.out
theorem doAny {o:Oper} {rest:List Oper} {w':World} (hw:Region.wanted o (yielded ops (St n ρ).tmps)=true)
  (hr:Does P n ρ o w w') (h:W P n ops Q rest (XA ρ o.dst undef) w'):W P n ops Q (o::rest) ρ w:=by
 refine ⟨wpList_step fun K hK=>?_⟩
 rw [if_pos hw]
 unfold Oper.wp
 rw [nE,hr,Oper.upon_skip,dE]
 exact hK _ _ h.out
theorem uB {o:Oper} {rest:List Oper} (hw:Region.wanted o (yielded ops (St n ρ).tmps)=false)
  (h:W P n ops Q rest (XA ρ o.dst undef) w):W P n ops Q (o::rest) ρ w:=by
 refine ⟨wpList_step fun K hK=>?_⟩
 rw [if_neg (by simp [hw]),dE]
 exact hK _ _ h.out
theorem ZO {o:Oper} {rest:List Oper} {f:FuncId} {as:Array Value} {R:Value→World→Prop} (hw:Region.wanted o (yielded ops (St n ρ).tmps)=true)
  (hr:Enters P n ρ o w f as) (hc:Calls P f as w fun e w'=>∃ v,e=.returned v∧R v w')
  (h:∀ v w',R v w'→W P n ops Q rest (XA ρ o.dst v) w'):W P n ops Q (o::rest) ρ w:=by
 refine ⟨wpList_step fun K hK=>?_⟩
 rw [if_pos hw]
 unfold Oper.wp
 rw [nE,hr,Oper.upon_enter]
 refine hc.mono fun e w' he=>?_
 obtain ⟨v,rfl,hv⟩:=he
 show K ((St n ρ).put o.dst v) w'
 rw [dE]
 exact hK _ _ (h v w' hv).out
theorem sq {d:Option Nat} {op:Op} {t:TypeId} {pos:String} {after:Array Edge} {rest:List Oper} {v:Value} {w':World}
  (hr:Runs P n ρ ⟨d,op,t,pos,after,none⟩ w v w') (h:W P n ops Q rest (XA ρ d v) w'):W P n ops Q (⟨d,op,t,pos,after,none⟩::rest) ρ w :=
 ZA (KB rfl _ _) hr h
theorem sd {d:Option Nat} {op:Op} {t:TypeId} {pos:String} {after:Array Edge} {rest:List Oper} {w':World}
  (hr:Does P n ρ ⟨d,op,t,pos,after,none⟩ w w') (h:W P n ops Q rest (XA ρ d undef) w'):W P n ops Q (⟨d,op,t,pos,after,none⟩::rest) ρ w :=
 doAny (KB rfl _ _) hr h
theorem sc {d:Option Nat} {op:Op} {t:TypeId} {pos:String} {after:Array Edge} {rest:List Oper} {f:FuncId} {as:Array Value} {R:Value→World→Prop}
  (hr:Enters P n ρ ⟨d,op,t,pos,after,none⟩ w f as) (hc:Calls P f as w fun e w'=>∃ v,e=.returned v∧R v w')
  (h:∀ v w',R v w'→W P n ops Q rest (XA ρ d v) w'):W P n ops Q (⟨d,op,t,pos,after,none⟩::rest) ρ w :=
 ZO (KB rfl _ _) hr hc h
theorem oA {d:Option Nat} {op:Op} {t:TypeId} {pos:String} {after:Array Edge} {j d':Nat} {want b:Bool}
  (hj:(ops[j]?).bind (·.dst)=some d') (hd:Nat.blt d' n=true) (hb:ρ d'=.bool b) :
  Region.wanted ⟨d,op,t,pos,after,some (j,want)⟩ (yielded ops (St n ρ).tmps)=(b == want):=by
 have hd':d'<n:=by simpa [Nat.blt_eq] using hd
 have hy:yielded ops (St n ρ).tmps j=some b:=by
  simp only [yielded,hj,Option.bind_some]
  simp [St,hd',hb]
 show (yielded ops (St n ρ).tmps j == some want)=(b == want)
 rw [hy]
 cases b<;>cases want<;>rfl
theorem TI {id:Nat} {l:List Oper} {y:Code} (h:W P n l.toArray (Exit.then (y.wp P Q) Q) l ρ w) :
  (Code.seq (.region id l.toArray false) y).wp P Q (St n ρ) w:=wp_seq (wp_region_lit h.out)
theorem xF {id:Nat} {l:List Oper} (h:W P n l.toArray Q l ρ w):(Code.region id l.toArray false).wp P Q (St n ρ) w:=wp_region_lit h.out
theorem xG {x y:Code} (h:x.wp P (Exit.then (y.wp P Q) Q) (St n ρ) w):(Code.seq x y).wp P Q (St n ρ) w:=wp_seq h
theorem cF {id:Nat} {c:Code} (h:c.wp P (Exit.inBlock id Q) (St n ρ) w):(Code.block id c).wp P Q (St n ρ) w:=wp_block h
theorem LF (h:Q .normal (St n ρ) w):Code.skip.wp P Q (St n ρ) w:=wp_skip h
theorem cG {id:Nat} (h:Q (.exit id) (St n ρ) w):(Code.exit id).wp P Q (St n ρ) w:=wp_exit h
theorem RE (h:Q .ret (St n ρ) w):Code.ret.wp P Q (St n ρ) w:=wp_ret h
theorem ZC {c:Operand} {x y:Code} (hc:ev n ρ c=.bool true) (h:x.wp P Q (St n ρ) w):(Code.cond c x y).wp P Q (St n ρ) w :=
 wp_cond_true (by rw [nE]; exact hc) h
theorem CF {c:Operand} {x y:Code} (hc:ev n ρ c=.bool false) (h:y.wp P Q (St n ρ) w):(Code.cond c x y).wp P Q (St n ρ) w :=
 wp_cond_false (by rw [nE]; exact hc) h
theorem lA {c:Operand} {x y:Code} (p:Prop) [Decidable p] (hc:ev n ρ c=.bool (decide p)) (ht:p→x.wp P Q (St n ρ) w) (hf:¬ p→y.wp P Q (St n ρ) w) :
  (Code.cond c x y).wp P Q (St n ρ) w:=by
 by_cases hp:p
 ·exact ZC (by rw [hc]; simp [hp]) (ht hp)
 ·exact CF (by rw [hc]; simp [hp]) (hf hp)
theorem FD {c:Operand} {x y:Code} (b:Bool) (hc:ev n ρ c=.bool b) (ht:b=true→x.wp P Q (St n ρ) w) (hf:b=false→y.wp P Q (St n ρ) w) :
  (Code.cond c x y).wp P Q (St n ρ) w:=by
 cases b
 ·exact CF hc (hf rfl)
 ·exact ZC hc (ht rfl)
theorem AB {K:Act→World→Prop} {a:Act} (h:K a w):Exit.then K Q .normal a w:=h
theorem pE {K:Act→World→Prop} {a:Act} {i:Nat} (h:Q (.exit i) a w):Exit.then K Q (.exit i) a w:=h
theorem JJ {K:Act→World→Prop} {a:Act} (h:Q .ret a w):Exit.then K Q .ret a w:=h
theorem oD {i:Nat} {a:Act} (h:Q .normal a w):Exit.inBlock i Q .normal a w:=h
theorem CI {i:Nat} {a:Act} (h:Q .ret a w):Exit.inBlock i Q .ret a w:=h
theorem kE {i:Nat} {a:Act} (h:Q .normal a w):Exit.inBlock i Q (.exit i) a w:=by simpa [Exit.inBlock] using h
theorem FF {i j:Nat} {a:Act} (hne:Nat.beq j i=false) (h:Q (.exit j) a w):Exit.inBlock i Q (.exit j) a w:=by
 have:j≠i:=fun e=>by subst e; simp at hne
 simpa [Exit.inBlock,this] using h
def SI (ρ:EA):List (Nat × Value)→EA
 | []=>ρ
 | (d,v)::r=>upd (SI ρ r) d v
def eP (ρ:EA):List (Nat × Value)→Prop
 | []=>True
 | (d,v)::r=>ρ d=v∧eP ρ r
theorem vU (ρ:EA) (d:Nat) (v:Value) (h:ρ d=v):upd ρ d v=ρ:=by
 funext i
 by_cases e:i=d
 ·subst e; rw [oE,h]
 ·rw [oH _ _ e]
theorem JE {ρ:EA}:∀ {l:List (Nat × Value)},eP ρ l→SI ρ l=ρ
 | [],_=>rfl
 | (d,v)::r,h=>by rw [SI,JE h.2,vU _ _ _ h.1]
def Head {σ:Type} (n:Nat) (slots:σ→List (Nat × Value)) (J:σ→World→Prop) (m:σ→Nat) (x:σ) (a:Act) (w:World):Prop :=
 ∃ x' ρ',a=St n ρ'∧eP ρ' (slots x')∧J x' w∧m x'<m x
theorem DA {σ:Type} (slots:σ→List (Nat × Value)) (J:σ→World→Prop) (m:σ→Nat) (x₀:σ) {c:Code}
  (hs:eP ρ (slots x₀)) (hJ:J x₀ w)
  (round:∀ x ρ w,J x w→c.wp P (Exit.then (Head n slots J m x) Q) (St n (SI ρ (slots x))) w):(Code.loop c).wp P Q (St n ρ) w:=by
 intro b k cs
 have key:∀ N x ρ w,m x=N→J x w →
   ∃ e a' w',Q e a' w'∧Arrives P (lone (b.at (St n (SI ρ (slots x))) (.code c::.inLoop c::k)) cs w) b k cs e a' w':=by
  intro N
  induction N using Nat.strongRecOn with
  | _ N ih =>
   intro x ρ w hn hJ
   obtain ⟨e,a₁,w₁,hq,harr⟩:=round x ρ w hJ b (.inLoop c::k) cs
   cases e with
   | normal =>
    obtain ⟨x',ρ',rfl,hk,hJ',hlt⟩:=hq
    obtain ⟨e₂,a₂,w₂,hq₂,harr₂⟩:=ih (m x') (hn ▸ hlt) x' ρ' w₁ rfl hJ'
    rw [JE hk] at harr₂
    exact ⟨e₂,a₂,w₂,hq₂,.of_steps (Steps.trans harr (.one step_inLoop)) harr₂⟩
   | exit id=>exact ⟨_,a₁,w₁,hq,.pass (x:=.inLoop c) rfl (fun _ _=>.inl (by simp)) harr⟩
   | goto l=>exact ⟨_,a₁,w₁,hq,.pass (x:=.inLoop c) rfl (fun _ _=>.inl (by simp)) harr⟩
   | ret=>exact ⟨_,a₁,w₁,hq,.pass (x:=.inLoop c) rfl (fun _ _=>.inl (by simp)) harr⟩
   | panic ch=>exact ⟨_,a₁,w₁,hq,.pass (x:=.inLoop c) rfl (fun _ _=>.inl (by simp)) harr⟩
   | outgrown=>exact ⟨_,a₁,w₁,hq,.pass (x:=.inLoop c) rfl (fun _ _=>.inl (by simp)) harr⟩
 obtain ⟨e,a',w',hq,harr⟩:=key _ x₀ ρ w rfl hJ
 rw [JE hs] at harr
 exact ⟨e,a',w',hq,.of_steps (.one step_loop) harr⟩
theorem II {t:Nat} (ht:Nat.blt t n=true):(St n ρ).tmps.getD t undef=ρ t:=by
 have:t<n:=by simpa [Nat.blt_eq] using ht
 simp [St,this]
end
end Go.Proofs.YtljlkhobfdofhaaGreatDoor.Vc
namespace Go.Proofs.YtljlkhobfdofhaaGreatDoor.Vc
open Go
def u8 (x:BitVec 8):Value:=.int .u8 (x.toNat:Int)
def u32 (x:BitVec 32):Value:=.int .u32 (x.toNat:Int)
def u64 (x:BitVec 64):Value:=.int .u64 (x.toNat:Int)
def i64 (x:Int):Value:=.int .i64 x
theorem lH (x:Int):IntKind.u8.wrap x=x % 256:=by simp [IntKind.wrap,IntKind.signed,IntKind.bits]
theorem IE (x:Int):IntKind.u64.wrap x=x % 18446744073709551616:=by simp [IntKind.wrap,IntKind.signed,IntKind.bits]
theorem LH {x:Int} (h1:-9223372036854775808≤x) (h2:x<9223372036854775808):IntKind.i64.wrap x=x:=by
 simp only [IntKind.wrap,IntKind.signed,IntKind.bits]
 simp
 omega
section
variable {P:Program} {n:Nat} {ρ:EA} {w:World} {d:Option Nat} {t T T':TypeId} {pos:String} {after:Array Edge} {g:Option (Nat × Bool)} {x y:Operand}
theorem NA {v:Value} (hx:ev n ρ x=v):Runs P n ρ ⟨d,.move x,t,pos,after,g⟩ w v w:=by
 simp [Runs,execOp,hx]
theorem MA {v:Value} (hx:ev n ρ x=v):Runs P n ρ ⟨d,.assign x,t,pos,after,g⟩ w v w:=by
 simp [Runs,execOp,hx]
theorem fD {c:Operand} {u:Value} (hc:ev n ρ c=.bool true) (hx:ev n ρ x=u) :
  Runs P n ρ ⟨d,.pick c x y,t,pos,after,g⟩ w u w:=by
 simp [Runs,execOp,hc,hx,asBool]
theorem gD {c:Operand} {v:Value} (hc:ev n ρ c=.bool false) (hy:ev n ρ y=v) :
  Runs P n ρ ⟨d,.pick c x y,t,pos,after,g⟩ w v w:=by
 simp [Runs,execOp,hc,hy,asBool]
theorem NQ {b:Bool} (hx:ev n ρ x=.bool b):Runs P n ρ ⟨d,.unOp .not T x,t,pos,after,g⟩ w (.bool !b) w:=by
 simp [Runs,execOp,hx,Op.unary]
theorem r_notT (hx:ev n ρ x=.bool true):Runs P n ρ ⟨d,.unOp .not T x,t,pos,after,g⟩ w (.bool false) w:=NQ hx
theorem r_notF (hx:ev n ρ x=.bool false):Runs P n ρ ⟨d,.unOp .not T x,t,pos,after,g⟩ w (.bool true) w:=NQ hx
theorem cM (o:BinOp) (k k':IntKind) (a b:Int):(eqGuard o T x y (.int k a) (.int k' b)).run P w=.ok () w:=by
 cases o<;>simp [eqGuard]
theorem TB {o:BinOp} {k:IntKind} {a b:Int} {v:Value} (hx:ev n ρ x=.int k a) (hy:ev n ρ y=.int k b)
  (h:(binOp o T (.int k a) (.int k b)).run P w=.ok v w):Runs P n ρ ⟨d,.binOp o T x y T',t,pos,after,g⟩ w v w:=by
 simp [Runs,execOp,hx,hy,cM,h]
theorem bI {o:BinOp} {k k':IntKind} {a b:Int} {v:Value} (hx:ev n ρ x=.int k a) (hy:ev n ρ y=.int k' b)
  (h:(binOp o T (.int k a) (.int k' b)).run P w=.ok v w):Runs P n ρ ⟨d,.binOp o T x y T',t,pos,after,g⟩ w v w:=by
 simp [Runs,execOp,hx,hy,cM,h]
theorem YM (a b:Int):(a == b)=decide (a=b):=by rw [Bool.eq_iff_iff]; simp
section
variable {a b:BitVec 8}
theorem r_add8 (hx:ev n ρ x=u8 a) (hy:ev n ρ y=u8 b):Runs P n ρ ⟨d,.binOp .add T x y T',t,pos,after,g⟩ w (u8 (a+b)) w :=
 TB hx hy (by simp [binOp,Op.intArith,u8,lH,BitVec.toNat_add])
theorem r_sub8 (hx:ev n ρ x=u8 a) (hy:ev n ρ y=u8 b):Runs P n ρ ⟨d,.binOp .sub T x y T',t,pos,after,g⟩ w (u8 (a-b)) w :=
 TB hx hy (by
  simp only [binOp,Op.intArith,u8,lH,ne_eq,not_true_eq_false,if_false,Sem.run_pure]
  have h1:=a.isLt
  have h2:=b.isLt
  have e:((a-b).toNat:Int)=((a.toNat:Int)-b.toNat) % 256:=by
   rw [BitVec.toNat_sub]
   omega
  rw [e])
theorem r_mul8 (hx:ev n ρ x=u8 a) (hy:ev n ρ y=u8 b):Runs P n ρ ⟨d,.binOp .mul T x y T',t,pos,after,g⟩ w (u8 (a*b)) w :=
 TB hx hy (by simp [binOp,Op.intArith,u8,lH,BitVec.toNat_mul])
theorem JX (o:BinOp) (r:BitVec 8) (h:r=match o with | .and=>a&&&b | .or=>a ||| b | .xor=>a^^^b | _=>a&&&~~~b) (ho:o=.and∨o=.or∨o=.xor∨o=.andNot) :
  (binOp o T (u8 a) (u8 b)).run P w=.ok (u8 r) w:=by
 have e1:BitVec.ofInt 8 (a.toNat:Int)=a:=by simp
 have e2:BitVec.ofInt 8 (b.toNat:Int)=b:=by simp
 have hw:∀ r:BitVec 8,IntKind.u8.wrap (r.toNat:Int)=r.toNat:=fun r=>by rw [lH]; have:=r.isLt; omega
 rcases ho with rfl | rfl | rfl | rfl<;>subst h <;>
  simp only [binOp,Op.intBits,u8,IntKind.bits,e1,e2,hw,ne_eq,not_true_eq_false,if_false,Sem.run_pure]<;>rfl
theorem r_and8 (hx:ev n ρ x=u8 a) (hy:ev n ρ y=u8 b):Runs P n ρ ⟨d,.binOp .and T x y T',t,pos,after,g⟩ w (u8 (a&&&b)) w :=
 TB hx hy (JX .and _ rfl (by simp))
theorem r_or8 (hx:ev n ρ x=u8 a) (hy:ev n ρ y=u8 b):Runs P n ρ ⟨d,.binOp .or T x y T',t,pos,after,g⟩ w (u8 (a ||| b)) w :=
 TB hx hy (JX .or _ rfl (by simp))
theorem r_xor8 (hx:ev n ρ x=u8 a) (hy:ev n ρ y=u8 b):Runs P n ρ ⟨d,.binOp .xor T x y T',t,pos,after,g⟩ w (u8 (a^^^b)) w :=
 TB hx hy (JX .xor _ rfl (by simp))
theorem deq8:decide (a.toNat=b.toNat)=decide (a=b):=by simp [BitVec.toNat_inj]
theorem r_eql8 (hx:ev n ρ x=u8 a) (hy:ev n ρ y=u8 b):Runs P n ρ ⟨d,.binOp .eql T x y T',t,pos,after,g⟩ w (.bool (decide (a=b))) w :=
 TB hx hy (by simp [binOp,Op.intCmp,← deq8,YM]; omega)
theorem EP (hx:ev n ρ x=u8 a) (hy:ev n ρ y=u8 b):Runs P n ρ ⟨d,.binOp .neq T x y T',t,pos,after,g⟩ w (.bool (decide (a≠b))) w :=
 TB hx hy (by simp [binOp,Op.intCmp,← deq8,bne,YM]; omega)
theorem r_lss8 (hx:ev n ρ x=u8 a) (hy:ev n ρ y=u8 b):Runs P n ρ ⟨d,.binOp .lss T x y T',t,pos,after,g⟩ w (.bool (decide (a.toNat<b.toNat))) w :=
 TB hx hy (by simp [binOp,Op.intCmp])
theorem r_leq8 (hx:ev n ρ x=u8 a) (hy:ev n ρ y=u8 b):Runs P n ρ ⟨d,.binOp .leq T x y T',t,pos,after,g⟩ w (.bool (decide (a.toNat≤b.toNat))) w :=
 TB hx hy (by simp [binOp,Op.intCmp])
theorem r_gtr8 (hx:ev n ρ x=u8 a) (hy:ev n ρ y=u8 b):Runs P n ρ ⟨d,.binOp .gtr T x y T',t,pos,after,g⟩ w (.bool (decide (b.toNat<a.toNat))) w :=
 TB hx hy (by simp [binOp,Op.intCmp])
theorem r_geq8 (hx:ev n ρ x=u8 a) (hy:ev n ρ y=u8 b):Runs P n ρ ⟨d,.binOp .geq T x y T',t,pos,after,g⟩ w (.bool (decide (b.toNat≤a.toNat))) w :=
 TB hx hy (by simp [binOp,Op.intCmp])
theorem r_shl8 {k:IntKind} {c:Nat} (hx:ev n ρ x=u8 a) (hy:ev n ρ y=.int k (c:Int)):Runs P n ρ ⟨d,.binOp .shl T x y T',t,pos,after,g⟩ w (u8 (a <<< c)) w :=
 bI hx hy (by
  have h0:¬ ((c:Int)<0):=by omega
  simp only [binOp,Op.shift,u8,h0,if_false,Int.toNat_natCast,IntKind.bits,lH,Sem.run_pure]
  congr 2
  rw [BitVec.toNat_shiftLeft,Nat.shiftLeft_eq]
  by_cases hc:c≤8
  ·rw [Nat.min_eq_left hc,Int.natCast_emod,Int.natCast_mul,Int.natCast_pow]; rfl
  ·rw [Nat.min_eq_right (by omega)]
   have e1:a.toNat*2 ^ c % 2 ^ 8=0:=Nat.mod_eq_zero_of_dvd (Nat.dvd_trans (Nat.pow_dvd_pow 2 (by omega)) (Nat.dvd_mul_left _ _))
   rw [e1]
   omega)
theorem r_shr8 {k:IntKind} {c:Nat} (hx:ev n ρ x=u8 a) (hy:ev n ρ y=.int k (c:Int)):Runs P n ρ ⟨d,.binOp .shr T x y T',t,pos,after,g⟩ w (u8 (a >>> c)) w :=
 bI hx hy (by
  have h0:¬ ((c:Int)<0):=by omega
  simp only [binOp,Op.shift,u8,h0,if_false,Int.toNat_natCast,IntKind.bits,Sem.run_pure]
  congr 2
  rw [BitVec.toNat_ushiftRight,Nat.shiftRight_eq_div_pow,Int.fdiv_eq_ediv_of_nonneg _ (by exact Int.le_of_lt (Int.pow_pos (by omega)))]
  by_cases hc:c≤8
  ·rw [Nat.min_eq_left hc]; push_cast; rfl
  ·rw [Nat.min_eq_right (by omega)]
   have h1:a.toNat<2 ^ c:=Nat.lt_of_lt_of_le a.isLt (Nat.pow_le_pow_right (by omega) (by omega))
   rw [Nat.div_eq_of_lt h1]
   have:=a.isLt
   omega)
end
section
variable {a b:BitVec 32}
end
section
variable {a b:BitVec 64}
theorem nZ (hx:ev n ρ x=u64 a) (hy:ev n ρ y=u64 b):Runs P n ρ ⟨d,.binOp .add T x y T',t,pos,after,g⟩ w (u64 (a+b)) w :=
 TB hx hy (by simp [binOp,Op.intArith,u64,IE,BitVec.toNat_add])
theorem DM (hx:ev n ρ x=u64 a) (hy:ev n ρ y=u64 b):Runs P n ρ ⟨d,.binOp .sub T x y T',t,pos,after,g⟩ w (u64 (a-b)) w :=
 TB hx hy (by
  simp only [binOp,Op.intArith,u64,IE,ne_eq,not_true_eq_false,if_false,Sem.run_pure]
  have h1:=a.isLt
  have h2:=b.isLt
  have e:((a-b).toNat:Int)=((a.toNat:Int)-b.toNat) % 18446744073709551616:=by
   rw [BitVec.toNat_sub]
   omega
  rw [e])
theorem fZ (hx:ev n ρ x=u64 a) (hy:ev n ρ y=u64 b):Runs P n ρ ⟨d,.binOp .mul T x y T',t,pos,after,g⟩ w (u64 (a*b)) w :=
 TB hx hy (by simp [binOp,Op.intArith,u64,IE,BitVec.toNat_mul])
theorem nz64 (hb:b≠0#64):((b.toNat:Int)=0)↔False:=by
 constructor
 ·intro h; exact hb (BitVec.eq_of_toNat_eq (by simpa using h))
 ·exact False.elim
theorem cZ (hx:ev n ρ x=u64 a) (hy:ev n ρ y=u64 b) (hb:b≠0#64):Runs P n ρ ⟨d,.binOp .quo T x y T',t,pos,after,g⟩ w (u64 (a / b)) w :=
 TB hx hy (by
  have h1:a.toNat / b.toNat<18446744073709551616:=Nat.lt_of_le_of_lt (Nat.div_le_self _ _) a.isLt
  have h2:((a.toNat / b.toNat:Nat):Int)<18446744073709551616:=by omega
  have h3:(0:Int)≤((a.toNat / b.toNat:Nat):Int):=Int.natCast_nonneg _
  rw [Int.natCast_ediv] at h2 h3
  simp only [binOp,Op.intDiv,u64,nz64 hb,IE]
  simp [BitVec.toNat_udiv]
  omega)
theorem bZ (hx:ev n ρ x=u64 a) (hy:ev n ρ y=u64 b) (hb:b≠0#64):Runs P n ρ ⟨d,.binOp .rem T x y T',t,pos,after,g⟩ w (u64 (a % b)) w :=
 TB hx hy (by
  simp only [binOp,Op.intDiv,u64,nz64 hb]
  simp [BitVec.toNat_umod]
  rw [Int.tmod_eq_emod_of_nonneg (by omega)])
theorem lQ (o:BinOp) (r:BitVec 64) (h:r=match o with | .and=>a&&&b | .or=>a ||| b | .xor=>a^^^b | _=>a&&&~~~b) (ho:o=.and∨o=.or∨o=.xor∨o=.andNot) :
  (binOp o T (u64 a) (u64 b)).run P w=.ok (u64 r) w:=by
 have e1:BitVec.ofInt 64 (a.toNat:Int)=a:=by simp
 have e2:BitVec.ofInt 64 (b.toNat:Int)=b:=by simp
 have hw:∀ r:BitVec 64,IntKind.u64.wrap (r.toNat:Int)=r.toNat:=fun r=>by rw [IE]; have:=r.isLt; omega
 rcases ho with rfl | rfl | rfl | rfl<;>subst h <;>
  simp only [binOp,Op.intBits,u64,IntKind.bits,e1,e2,hw,ne_eq,not_true_eq_false,if_false,Sem.run_pure]<;>rfl
theorem fI (hx:ev n ρ x=u64 a) (hy:ev n ρ y=u64 b):Runs P n ρ ⟨d,.binOp .and T x y T',t,pos,after,g⟩ w (u64 (a&&&b)) w :=
 TB hx hy (lQ .and _ rfl (by simp))
theorem r_or64 (hx:ev n ρ x=u64 a) (hy:ev n ρ y=u64 b):Runs P n ρ ⟨d,.binOp .or T x y T',t,pos,after,g⟩ w (u64 (a ||| b)) w :=
 TB hx hy (lQ .or _ rfl (by simp))
theorem ZY (hx:ev n ρ x=u64 a) (hy:ev n ρ y=u64 b):Runs P n ρ ⟨d,.binOp .xor T x y T',t,pos,after,g⟩ w (u64 (a^^^b)) w :=
 TB hx hy (lQ .xor _ rfl (by simp))
theorem deq64:decide (a.toNat=b.toNat)=decide (a=b):=by simp [BitVec.toNat_inj]
theorem NJ (hx:ev n ρ x=u64 a) (hy:ev n ρ y=u64 b):Runs P n ρ ⟨d,.binOp .eql T x y T',t,pos,after,g⟩ w (.bool (decide (a=b))) w :=
 TB hx hy (by simp [binOp,Op.intCmp,← deq64,YM]; omega)
theorem PQ (hx:ev n ρ x=u64 a) (hy:ev n ρ y=u64 b):Runs P n ρ ⟨d,.binOp .neq T x y T',t,pos,after,g⟩ w (.bool (decide (a≠b))) w :=
 TB hx hy (by simp [binOp,Op.intCmp,← deq64,bne,YM]; omega)
theorem MJ (hx:ev n ρ x=u64 a) (hy:ev n ρ y=u64 b):Runs P n ρ ⟨d,.binOp .lss T x y T',t,pos,after,g⟩ w (.bool (decide (a.toNat<b.toNat))) w :=
 TB hx hy (by simp [binOp,Op.intCmp])
theorem gZ (hx:ev n ρ x=u64 a) (hy:ev n ρ y=u64 b):Runs P n ρ ⟨d,.binOp .leq T x y T',t,pos,after,g⟩ w (.bool (decide (a.toNat≤b.toNat))) w :=
 TB hx hy (by simp [binOp,Op.intCmp])
theorem iZ (hx:ev n ρ x=u64 a) (hy:ev n ρ y=u64 b):Runs P n ρ ⟨d,.binOp .gtr T x y T',t,pos,after,g⟩ w (.bool (decide (b.toNat<a.toNat))) w :=
 TB hx hy (by simp [binOp,Op.intCmp])
theorem jZ (hx:ev n ρ x=u64 a) (hy:ev n ρ y=u64 b):Runs P n ρ ⟨d,.binOp .geq T x y T',t,pos,after,g⟩ w (.bool (decide (b.toNat≤a.toNat))) w :=
 TB hx hy (by simp [binOp,Op.intCmp])
theorem MQ {k:IntKind} {c:Nat} (hx:ev n ρ x=u64 a) (hy:ev n ρ y=.int k (c:Int)):Runs P n ρ ⟨d,.binOp .shl T x y T',t,pos,after,g⟩ w (u64 (a <<< c)) w :=
 bI hx hy (by
  have h0:¬ ((c:Int)<0):=by omega
  simp only [binOp,Op.shift,u64,h0,if_false,Int.toNat_natCast,IntKind.bits,IE,Sem.run_pure]
  congr 2
  rw [BitVec.toNat_shiftLeft,Nat.shiftLeft_eq]
  by_cases hc:c≤64
  ·rw [Nat.min_eq_left hc,Int.natCast_emod,Int.natCast_mul,Int.natCast_pow]; rfl
  ·rw [Nat.min_eq_right (by omega)]
   have e1:a.toNat*2 ^ c % 2 ^ 64=0:=Nat.mod_eq_zero_of_dvd (Nat.dvd_trans (Nat.pow_dvd_pow 2 (by omega)) (Nat.dvd_mul_left _ _))
   rw [e1]
   omega)
theorem aZ {k:IntKind} {c:Nat} (hx:ev n ρ x=u64 a) (hy:ev n ρ y=.int k (c:Int)):Runs P n ρ ⟨d,.binOp .shr T x y T',t,pos,after,g⟩ w (u64 (a >>> c)) w :=
 bI hx hy (by
  have h0:¬ ((c:Int)<0):=by omega
  simp only [binOp,Op.shift,u64,h0,if_false,Int.toNat_natCast,IntKind.bits,Sem.run_pure]
  congr 2
  rw [BitVec.toNat_ushiftRight,Nat.shiftRight_eq_div_pow,Int.fdiv_eq_ediv_of_nonneg _ (by exact Int.le_of_lt (Int.pow_pos (by omega)))]
  by_cases hc:c≤64
  ·rw [Nat.min_eq_left hc]; push_cast; rfl
  ·rw [Nat.min_eq_right (by omega)]
   have h1:a.toNat<2 ^ c:=Nat.lt_of_lt_of_le a.isLt (Nat.pow_le_pow_right (by omega) (by omega))
   rw [Nat.div_eq_of_lt h1]
   have:=a.isLt
   omega)
end
section
variable {a b:Int}
theorem iC (hx:ev n ρ x=i64 a) (hy:ev n ρ y=i64 b) (h:-9223372036854775808≤a+b∧a+b<9223372036854775808) :
  Runs P n ρ ⟨d,.binOp .add T x y T',t,pos,after,g⟩ w (i64 (a+b)) w :=
 TB hx hy (by simp [binOp,Op.intArith,i64,LH h.1 h.2])
theorem CP (hx:ev n ρ x=i64 a) (hy:ev n ρ y=i64 b) (h:-9223372036854775808≤a-b∧a-b<9223372036854775808) :
  Runs P n ρ ⟨d,.binOp .sub T x y T',t,pos,after,g⟩ w (i64 (a-b)) w :=
 TB hx hy (by simp [binOp,Op.intArith,i64,LH h.1 h.2])
theorem AC (hx:ev n ρ x=i64 a) (hy:ev n ρ y=i64 b) (h:-9223372036854775808≤a*b∧a*b<9223372036854775808) :
  Runs P n ρ ⟨d,.binOp .mul T x y T',t,pos,after,g⟩ w (i64 (a*b)) w :=
 TB hx hy (by simp [binOp,Op.intArith,i64,LH h.1 h.2])
theorem r_quoI (hx:ev n ρ x=i64 a) (hy:ev n ρ y=i64 b) (h:0≤a∧a<9223372036854775808∧0<b) :
  Runs P n ρ ⟨d,.binOp .quo T x y T',t,pos,after,g⟩ w (i64 (a / b)) w :=
 TB hx hy (by
  have h0:¬ b=0:=by omega
  have h1:0≤a / b:=Int.ediv_nonneg h.1 (by omega)
  have h2:a / b≤a:=Int.ediv_le_self _ h.1
  simp only [binOp,Op.intDiv,i64,h0,if_false,ne_eq,not_true_eq_false,Sem.run_pure]
  rw [Int.tdiv_eq_ediv_of_nonneg h.1,LH (by omega) (by omega)])
theorem r_remI (hx:ev n ρ x=i64 a) (hy:ev n ρ y=i64 b) (h:0≤a∧0<b) :
  Runs P n ρ ⟨d,.binOp .rem T x y T',t,pos,after,g⟩ w (i64 (a % b)) w :=
 TB hx hy (by
  have h0:¬ b=0:=by omega
  simp only [binOp,Op.intDiv,i64,h0,if_false,ne_eq,not_true_eq_false,Sem.run_pure]
  rw [Int.tmod_eq_emod_of_nonneg h.1])
theorem RB (hx:ev n ρ x=i64 a) (hy:ev n ρ y=i64 b):Runs P n ρ ⟨d,.binOp .eql T x y T',t,pos,after,g⟩ w (.bool (decide (a=b))) w :=
 TB hx hy (by simp [binOp,Op.intCmp,YM])
theorem TE (hx:ev n ρ x=i64 a) (hy:ev n ρ y=i64 b):Runs P n ρ ⟨d,.binOp .neq T x y T',t,pos,after,g⟩ w (.bool (decide (a≠b))) w :=
 TB hx hy (by simp [binOp,Op.intCmp,bne,YM])
theorem bD (hx:ev n ρ x=i64 a) (hy:ev n ρ y=i64 b):Runs P n ρ ⟨d,.binOp .lss T x y T',t,pos,after,g⟩ w (.bool (decide (a<b))) w :=
 TB hx hy (by simp [binOp,Op.intCmp])
theorem r_leqI (hx:ev n ρ x=i64 a) (hy:ev n ρ y=i64 b):Runs P n ρ ⟨d,.binOp .leq T x y T',t,pos,after,g⟩ w (.bool (decide (a≤b))) w :=
 TB hx hy (by simp [binOp,Op.intCmp])
theorem iE (hx:ev n ρ x=i64 a) (hy:ev n ρ y=i64 b):Runs P n ρ ⟨d,.binOp .gtr T x y T',t,pos,after,g⟩ w (.bool (decide (b<a))) w :=
 TB hx hy (by simp [binOp,Op.intCmp])
theorem ZI (hx:ev n ρ x=i64 a) (hy:ev n ρ y=i64 b):Runs P n ρ ⟨d,.binOp .geq T x y T',t,pos,after,g⟩ w (.bool (decide (b≤a))) w :=
 TB hx hy (by simp [binOp,Op.intCmp])
end
section
variable {a b:Nat}
end
section
variable {a b:Bool}
theorem vH (o:BinOp) (a b:Bool):(eqGuard o T x y (.bool a) (.bool b)).run P w=.ok () w:=by
 cases o<;>simp [eqGuard]
theorem xP (w:World) (e:Nat) (hT:P.underlying T=some .bool):(Op.equalIn (e+1) T (.bool a) (.bool b)).run P w=.ok (a == b) w:=by
 simp [Op.equalIn,run_underlying hT]
theorem BQ (w:World) (hT:P.underlying T=some .bool):(Op.equal T (.bool a) (.bool b)).run P w=.ok (a == b) w:=xP w 9999 hT
theorem gV (hT:P.underlying T=some .bool) (hx:ev n ρ x=.bool a) (hy:ev n ρ y=.bool b):Runs P n ρ ⟨d,.binOp .neq T x y T',t,pos,after,g⟩ w (.bool (a != b)) w:=by
 have h:(binOp .neq T (.bool a) (.bool b)).run P w=.ok (.bool (a != b)) w:=by
  simp only [binOp,Sem.run_bind,BQ w hT,Result.andThen_ok,Sem.run_pure]; rfl
 simp [Runs,execOp,hx,hy,vH,h]
end
section
theorem aJ {k k':IntKind} {S:TypeId} {sd:TypeDesc} {a:Int} (hs:P.underlying S=some sd) (hT:P.underlying T=some (.int k)) (hx:ev n ρ x=.int k' a) :
  Runs P n ρ ⟨d,.convert S T x,t,pos,after,g⟩ w (.int k (k.wrap a)) w:=by
 simp [Runs,execOp,hx,convert,run_underlying hs,run_underlying hT,Conv.intToInt]
theorem Runs.as {o:Oper} {v v':Value} {w':World} (h:Runs P n ρ o w v w') (e:v=v'):Runs P n ρ o w v' w':=e ▸ h
variable {S:TypeId} {k:IntKind}
theorem r_8toI {a:BitVec 8} (hs:P.underlying S=some (.int .u8)) (hT:P.underlying T=some (.int .i64)) (hx:ev n ρ x=u8 a) :
  Runs P n ρ ⟨d,.convert S T x,t,pos,after,g⟩ w (i64 (a.toNat:Int)) w :=
 (aJ hs hT hx).as (by have:=a.isLt; rw [i64,LH (by omega) (by omega)])
theorem r_Ito8 {a:Int} (hs:P.underlying S=some (.int .i64)) (hT:P.underlying T=some (.int .u8)) (hx:ev n ρ x=i64 a) :
  Runs P n ρ ⟨d,.convert S T x,t,pos,after,g⟩ w (u8 (BitVec.ofInt 8 a)) w :=
 (aJ hs hT hx).as (by rw [u8,lH,BitVec.toNat_ofInt]; congr 1; omega)
theorem oZ {a:Int} (hs:P.underlying S=some (.int .i64)) (hT:P.underlying T=some (.int .u64)) (hx:ev n ρ x=i64 a) :
  Runs P n ρ ⟨d,.convert S T x,t,pos,after,g⟩ w (u64 (BitVec.ofInt 64 a)) w :=
 (aJ hs hT hx).as (by rw [u64,IE,BitVec.toNat_ofInt]; congr 1; omega)
theorem OJ {a:BitVec 64} (hs:P.underlying S=some (.int .u64)) (hT:P.underlying T=some (.int .i64)) (hx:ev n ρ x=u64 a) :
  Runs P n ρ ⟨d,.convert S T x,t,pos,after,g⟩ w (i64 a.toInt) w :=
 (aJ hs hT hx).as (by
  rw [i64,BitVec.toInt_eq_toNat_cond]
  have:=a.isLt
  congr 1
  simp only [IntKind.wrap,IntKind.signed,IntKind.bits]
  simp
  split<;>omega)
theorem pZ {a:BitVec 8} (hs:P.underlying S=some (.int .u8)) (hT:P.underlying T=some (.int .u64)) (hx:ev n ρ x=u8 a) :
  Runs P n ρ ⟨d,.convert S T x,t,pos,after,g⟩ w (u64 (a.setWidth 64)) w :=
 (aJ hs hT hx).as (by rw [u64,IE,BitVec.toNat_setWidth]; congr 1)
theorem qZ {a:BitVec 64} (hs:P.underlying S=some (.int .u64)) (hT:P.underlying T=some (.int .u8)) (hx:ev n ρ x=u64 a) :
  Runs P n ρ ⟨d,.convert S T x,t,pos,after,g⟩ w (u8 (a.setWidth 8)) w :=
 (aJ hs hT hx).as (by rw [u8,lH,BitVec.toNat_setWidth]; rfl)
end
end
end Go.Proofs.YtljlkhobfdofhaaGreatDoor.Vc
namespace Go.Proofs.YtljlkhobfdofhaaGreatDoor.Vc
open Go
structure Chg (M:Nat→Prop) (w w':World):Prop where
 blk:∀ b o,¬ M b→w.heap[b]?=some o→w'.heap[b]?=some o
 size:w.heap.size≤w'.heap.size
 os:w'.os=w.os
 tape:w'.tape=w.tape
 output:w'.output=w.output
def No:Nat→Prop:=fun _=>False
abbrev Ext (w w':World):Prop:=Chg No w w'
theorem Chg.refl (M:Nat→Prop) (w:World):Chg M w w:=⟨fun _ _ _ h=>h,Nat.le_refl _,rfl,rfl,rfl⟩
theorem Chg.trans {M:Nat→Prop} {a b c:World} (h:Chg M a b) (k:Chg M b c):Chg M a c :=
 ⟨fun i o hn hi=>k.blk i o hn (h.blk i o hn hi),Nat.le_trans h.size k.size,k.os.trans h.os,k.tape.trans h.tape,k.output.trans h.output⟩
theorem Chg.mono {M M':Nat→Prop} {a b:World} (h:Chg M a b) (hm:∀ i,M i→M' i):Chg M' a b :=
 ⟨fun i o hn hi=>h.blk i o (fun x=>hn (hm i x)) hi,h.size,h.os,h.tape,h.output⟩
theorem Ext.chg {M:Nat→Prop} {a b:World} (h:Ext a b):Chg M a b:=h.mono fun _ x=>x.elim
theorem Ext.get {a b:World} (h:Ext a b) {i:Nat} {o:Obj} (hi:a.heap[i]?=some o):b.heap[i]?=some o:=h.blk i o (fun x=>x) hi
theorem xB {w:World} {i:Nat} {o:Obj} (h:w.heap[i]?=some o):i<w.heap.size:=by
 rcases Nat.lt_or_ge i w.heap.size with h' | h'
 ·exact h'
 ·rw [Array.getElem?_eq_none h'] at h; cases h
theorem Ext.below {a b:World} (h:Ext a b):RowKit.Below a.heap.size a b :=
 ⟨h.os,h.tape,h.output,h.size,fun k hk=>by rw [Array.getElem?_eq_getElem hk]; exact h.get (Array.getElem?_eq_getElem hk)⟩
theorem Chg.own {M:Nat→Prop} {a b c:World} {i:Nat} (h:Chg M a b) (hi:M i∨a.heap.size≤i) (k:Chg (·=i) b c):Chg M a c :=
 ⟨fun j o hn hj=>k.blk j o (fun e=>by
   rcases hi with hi | hi
   ·exact hn (e ▸ hi)
   ·have:=xB hj; omega) (h.blk j o hn hj),Nat.le_trans h.size k.size,k.os.trans h.os,k.tape.trans h.tape,k.output.trans h.output⟩
theorem Ext.drew (w:World):Ext w { w with drawn:=w.drawn+1 }:=⟨fun _ _ _ h=>h,Nat.le_refl _,rfl,rfl,rfl⟩
theorem Ext.alloc (w:World) (o:Obj):Ext w (w.alloc o) :=
 ⟨fun i x _ h=>by
  have:=xB h
  simp only [World.alloc,Array.getElem?_push]
  rw [if_neg (by omega)]; exact h,by simp,rfl,rfl,rfl⟩
theorem PB (w:World) (o:Obj):(w.alloc o).heap[w.heap.size]?=some o:=by simp only [World.alloc]; exact Array.getElem?_push_size
def setBlk (w:World) (b:Nat) (o:Obj):World:={ w with heap:=w.heap.setIfInBounds b o }
theorem Chg.setBlk (w:World) (b:Nat) (o:Obj):Chg (·=b) w (setBlk w b o) :=
 ⟨fun i x hn h=>by simp only [Vc.setBlk]; rw [Array.getElem?_setIfInBounds_ne (fun e=>hn e.symm)]; exact h,by simp [Vc.setBlk],rfl,rfl,rfl⟩
theorem OD {w:World} {b:Nat} {o o':Obj} (h:w.heap[b]?=some o):(setBlk w b o').heap[b]?=some o':=by
 have:=xB h
 simp [setBlk,this]
theorem tJ {w:World} {b:Nat} {o:Obj} (h:w.heap[b]?=some o):setBlk w b o=w:=by
 have e:w.heap.setIfInBounds b o=w.heap:=by
  apply Array.ext_getElem?
  intro j
  by_cases e:j=b
  ·subst e; rw [Array.getElem?_setIfInBounds,if_pos rfl,if_pos (xB h),h]
  ·rw [Array.getElem?_setIfInBounds_ne (Ne.symm e)]
 simp only [setBlk,e]
theorem wK (w:World) (b:Nat) (o o':Obj):setBlk (setBlk w b o) b o'=setBlk w b o':=by
 simp only [setBlk]
 congr 1
 apply Array.ext_getElem?
 intro i
 by_cases h:i=b
 ·subst h
  simp only [Array.getElem?_setIfInBounds]
  simp
 ·simp only [Array.getElem?_setIfInBounds_ne (Ne.symm h)]
theorem vK {w:World} {b off:Nat} {cs:Array Value} {T:TypeId} {fr:Nat × Nat} {v:Value} (h:w.heap[b]?=some (.cells cs T fr)) :
  w.setCell ⟨b,off,none⟩ v=setBlk w b (.cells (cs.setIfInBounds off v) T fr):=by
 simp only [World.setCell,setBlk]
 congr 1
 apply Array.ext_getElem?
 intro i
 have hb:=xB h
 by_cases e:i=b
 ·subst e
  rw [Array.getElem?_modify,if_pos rfl,h,Array.getElem?_setIfInBounds]
  simp [hb]
 ·rw [Array.getElem?_setIfInBounds_ne (Ne.symm e),Array.getElem?_modify,if_neg (fun x=>e x.symm)]
structure Hp (M:Nat→Prop) (w₀ w:World) (L:List RW):Prop where
 chg:Chg M w₀ w
 own:∀ p∈L,∀ b,p.1=some b→M b∨w₀.heap.size≤b
 apart:∀ (i j:Nat) (p q:RW) b,L[i]?=some p→L[j]?=some q→p.1=some b→q.1=some b→i=j
 has:∀ p∈L,∀ b,p.1=some b→w.heap[b]?=some p.2
section
variable {M:Nat→Prop} {w₀ w w':World} {L:List RW} {b k:Nat} {o o':Obj} {key key':Option Nat}
theorem eA (M:Nat→Prop) (w:World):Hp M w w []:=⟨Chg.refl _ _,fun _ h=>(by cases h),fun _ _ _ _ _ h=>(by simp at h),fun _ h=>(by cases h)⟩
theorem Hp.get (H:Hp M w₀ w L) (hk:L[k]?=some (some b,o)):w.heap[b]?=some o:=H.has _ (List.mem_of_getElem? hk) b rfl
theorem Hp.ext (H:Hp M w₀ w L) (h:Ext w w'):Hp M w₀ w' L:=⟨H.chg.trans h.chg,H.own,H.apart,fun p hp b hb=>h.get (H.has p hp b hb)⟩
theorem Hp.drew (H:Hp M w₀ w L):Hp M w₀ { w with drawn:=w.drawn+1 } L:=H.ext (Ext.drew w)
theorem Hp.lt (H:Hp M w₀ w L) {p:RW} (hp:p∈L) (hb:p.1=some b):b<w.heap.size:=xB (H.has p hp b hb)
theorem Hp.add (H:Hp M w₀ w L) (h:Ext w w') (hb:∀ b,key=some b→w.heap.size≤b∧w'.heap[b]?=some o):Hp M w₀ w' ((key,o)::L):=by
 refine ⟨H.chg.trans h.chg,?_,?_,?_⟩
 ·intro p hp c hc
  rcases List.mem_cons.1 hp with rfl | hp
  ·have:=(hb c hc).1; have:=H.chg.size; exact .inr (by omega)
  ·exact H.own p hp c hc
 ·intro i j p q c hi hj hp hq
  cases i with
  | zero =>
   cases j with
   | zero=>rfl
   | succ j =>
    simp only [List.getElem?_cons_zero,Option.some.injEq] at hi
    subst hi
    have h1:=(hb c hp).1
    have h2:=H.lt (List.mem_of_getElem? (by simpa using hj)) hq
    omega
  | succ i =>
   cases j with
   | zero =>
    simp only [List.getElem?_cons_zero,Option.some.injEq] at hj
    subst hj
    have h1:=(hb c hq).1
    have h2:=H.lt (List.mem_of_getElem? (by simpa using hi)) hp
    omega
   | succ j=>rw [H.apart i j p q c (by simpa using hi) (by simpa using hj) hp hq]
 ·intro p hp c hc
  rcases List.mem_cons.1 hp with rfl | hp
  ·exact (hb c hc).2
  ·exact h.get (H.has p hp c hc)
theorem Hp.add1 (H:Hp M w₀ w L) (h:Ext w w') (hb:w.heap.size≤b) (ho:w'.heap[b]?=some o):Hp M w₀ w' ((some b,o)::L) :=
 H.add h fun c hc=>by cases hc; exact ⟨hb,ho⟩
theorem Hp.nil (H:Hp M w₀ w L) (o:Obj):Hp M w₀ w ((none,o)::L):=H.add (Chg.refl _ _) fun c hc=>by cases hc
theorem Hp.alloc (H:Hp M w₀ w L) (o:Obj):Hp M w₀ (w.alloc o) ((some w.heap.size,o)::L):=H.add1 (Ext.alloc w o) (Nat.le_refl _) (PB w o)
theorem Hp.start1 {M:Nat→Prop} {w:World} (hM:M b) (h:w.heap[b]?=some o):Hp M w w [(some b,o)] :=
 ⟨Chg.refl _ _,fun p hp c hc=>by simp at hp; subst hp; cases hc; exact .inl hM,
  fun i j p q c hi hj _ _=>by cases i<;>cases j<;>simp at hi hj<;>rfl,
  fun p hp c hc=>by simp at hp; subst hp; cases hc; exact h⟩
theorem Hp.turn (H:Hp M w₀ w L) (hk:L[k]?=some (key,o)) (h:Chg (fun i=>key=some i) w w')
  (ho:∀ b,key'=some b→(key=some b∨w.heap.size≤b)∧w'.heap[b]?=some o'):Hp M w₀ w' (L.set k (key',o')):=by
 have hlt:k<L.length:=(List.getElem?_eq_some_iff.1 hk).1
 have hown:∀ b,key=some b→M b∨w₀.heap.size≤b:=H.own _ (List.mem_of_getElem? hk)
 have hin:∀ i p,(L.set k (key',o'))[i]?=some p→(i=k∧p=(key',o'))∨(i≠k∧L[i]?=some p):=by
  intro i p hi
  by_cases e:k=i
  ·subst e
   rw [List.getElem?_set_self hlt] at hi
   exact .inl ⟨rfl,(Option.some.inj hi).symm⟩
  ·rw [List.getElem?_set_ne e] at hi
   exact .inr ⟨fun x=>e x.symm,hi⟩
 have hnew:∀ i p b,i≠k→L[i]?=some p→p.1=some b→key'=some b→False:=by
  intro i p b hi hp hb hb'
  rcases (ho b hb').1 with e | e
  ·exact hi (H.apart i k p (key,o) b hp hk hb e)
  ·have:=H.lt (List.mem_of_getElem? hp) hb; omega
 refine ⟨?_,?_,?_,?_⟩
 ·refine ⟨fun j x hn hj=>h.blk j x (fun e=>?_) (H.chg.blk j x hn hj),Nat.le_trans H.chg.size h.size,h.os.trans H.chg.os,h.tape.trans H.chg.tape,h.output.trans H.chg.output⟩
  rcases hown j e with hi | hi
  ·exact hn hi
  ·have:=xB hj; omega
 ·intro p hp b hb
  obtain ⟨i,hi⟩:=List.getElem?_of_mem hp
  rcases hin i p hi with ⟨_,rfl⟩ | ⟨_,hi⟩
  ·rcases (ho b hb).1 with e | e
   ·exact hown b e
   ·have:=H.chg.size; exact .inr (by omega)
  ·exact H.own p (List.mem_of_getElem? hi) b hb
 ·intro i j p q b hi hj hp hq
  rcases hin i p hi with ⟨ei,rfl⟩ | ⟨ei,hi⟩<;>rcases hin j q hj with ⟨ej,rfl⟩ | ⟨ej,hj⟩
  ·omega
  ·exact (hnew j q b ej hj hq hp).elim
  ·exact (hnew i p b ei hi hp hq).elim
  ·exact H.apart i j p q b hi hj hp hq
 ·intro p hp b hb
  obtain ⟨i,hi⟩:=List.getElem?_of_mem hp
  rcases hin i p hi with ⟨_,rfl⟩ | ⟨ei,hi⟩
  ·exact (ho b hb).2
  ·refine h.blk b p.2 (fun e=>ei (H.apart i k p (key,o) b hi hk hb e)) (H.has p (List.mem_of_getElem? hi) b hb)
theorem Hp.set (H:Hp M w₀ w L) (hk:L[k]?=some (some b,o)) (h:Chg (·=b) w w') (ho:w'.heap[b]?=some o'):Hp M w₀ w' (L.set k (some b,o')) :=
 H.turn hk (h.mono fun i e=>by rw [e]) fun c hc=>by cases hc; exact ⟨.inl rfl,ho⟩
theorem Hp.keep (H:Hp M w₀ w L) {i:Nat} {x:Obj} (hn:¬ M i) (h:w₀.heap[i]?=some x):w.heap[i]?=some x:=H.chg.blk i x hn h
theorem Hp.keepE (H:Hp No w₀ w L) {i:Nat} {x:Obj} (h:w₀.heap[i]?=some x):w.heap[i]?=some x:=H.chg.blk i x (fun x=>x) h
theorem Hp.as (H:Hp M w₀ w L) {L':List RW} (h:L=L'):Hp M w₀ w L':=h ▸ H
theorem Hp.drop1 {p:RW} (H:Hp M w₀ w (p::L)):Hp M w₀ w L :=
 ⟨H.chg,fun q hq=>H.own q (List.mem_cons_of_mem _ hq),fun i j p q b hi hj hp hq=>by
  have:=H.apart (i+1) (j+1) p q b (by simpa using hi) (by simpa using hj) hp hq; omega,fun q hq=>H.has q (List.mem_cons_of_mem _ hq)⟩
end
def QA (P:Program) (T:TypeId):Bool:=match P.underlying T with
 | some (.struct _) | some (.array _ _) | none=>false
 | _=>true
def SA (P:Program) (T:TypeId):Bool:=match P.underlying T with
 | some (.struct _) | some (.array _ _)=>true
 | _=>false
def ZB (P:Program) (T:TypeId):Option Nat:=(P.info? T).map (·.size)
def BI (P:Program) (T:TypeId):Option Nat:=(P.info? T).map (·.bytes)
def YB (P:Program) (T:TypeId):Option Value:=(P.info? T).bind (·.zero)
section
variable {P:Program} {w:World} {T:TypeId}
theorem MC {s:Nat} (h:ZB P T=some s):(sizeOf T).run P w=.ok s w:=by
 simp only [ZB,Option.map_eq_some_iff] at h
 obtain ⟨i,hi,hs⟩:=h
 simp [sizeOf,typeInfo,hi,hs]
theorem YH {v:Value} (h:YB P T=some v):(zeroValue T).run P w=.ok v w:=by
 simp only [YB,Option.bind_eq_some_iff] at h
 obtain ⟨i,hi,hs⟩:=h
 simp [zeroValue,typeInfo,hi,hs]
theorem wM (h:QA P T=true):(isAgg T).run P w=.ok false w:=by
 unfold QA at h
 cases hu:P.underlying T with
 | none=>rw [hu] at h; cases h
 | some d =>
  rw [hu] at h
  simp only [isAgg,Sem.run_bind,run_underlying hu,Result.andThen_ok]
  cases d<;>first | (cases h; done) | rfl
theorem CQ (h:SA P T=true):(isAgg T).run P w=.ok true w:=by
 unfold SA at h
 cases hu:P.underlying T with
 | none=>rw [hu] at h; cases h
 | some d =>
  rw [hu] at h
  simp only [isAgg,Sem.run_bind,run_underlying hu,Result.andThen_ok]
  cases d<;>first | (cases h; done) | rfl
theorem AI {b off:Nat} {cs:Array Value} {E:TypeId} {fr:Nat × Nat} (h:w.heap[b]?=some (.cells cs E fr)):w.cell? ⟨b,off,none⟩=cs[off]?:=by
 simp [World.cell?,h]
theorem sT {b off:Nat} {cs:Array Value} {E:TypeId} (h:w.heap[b]?=some (.cells cs E (0,0))):w.frozen? ⟨b,off,none⟩=false:=by
 simp [World.frozen?,h]
theorem WI {b off:Nat} {cs:Array Value} {E:TypeId} {fr:Nat × Nat} {v:Value} (h1:QA P T=true) (h:w.heap[b]?=some (.cells cs E fr)) (hv:cs[off]?=some v) :
  (loadVar T ⟨b,off,none⟩).run P w=.ok v w:=by
 simp only [loadVar,Sem.run_bind,wM h1,Result.andThen_ok,Bool.false_eq_true,if_false,run_load,AI h,hv]
theorem VI {b off s:Nat} {cs:Array Value} {E:TypeId} {fr:Nat × Nat} (h1:SA P T=true) (h2:ZB P T=some s) (h:w.heap[b]?=some (.cells cs E fr)) (hs:off+s≤cs.size) :
  (loadVar T ⟨b,off,none⟩).run P w=.ok (.agg (cs.extract off (off+s))) w:=by
 simp only [loadVar,Sem.run_bind,CQ h1,Result.andThen_ok,if_true,MC h2]
 rw [run_loadCells w ⟨b,off,none⟩ s (fun j=>cs.getD (off+j) undef) (fun j hj=>by
  rw [Addr.add_lit,AI h]
  have:off+j<cs.size:=by omega
  simp [this])]
 simp only [Result.andThen_ok,Sem.run_pure]
 congr 2
 apply Array.ext
 ·simp; omega
 ·intro i h1 h2
  simp at h1
  have:off+i<cs.size:=by omega
  simp [this]
def sD (cs:Array Value) (off:Nat):LV→Array Value
 | []=>cs
 | v::r=>sD (cs.setIfInBounds off v) (off+1) r
theorem yG {b:Nat} {E:TypeId}:∀ (l:LV) (w:World) (cs:Array Value) (off i:Nat),(∀ v∈l,v.oneCell'=true) →
  w.heap[b]?=some (.cells cs E (0,0))→off+i+l.length≤cs.size →
  (storeCells ⟨b,off,none⟩ l i).run P w=.ok () (setBlk w b (.cells (sD cs (off+i) l) E (0,0)))
 | [],w,cs,off,i,_,h,_=>by
  simp only [storeCells,sD,Sem.run_pure,tJ h]
 | v::r,w,cs,off,i,hv,h,hs=>by
  simp only [List.length_cons] at hs
  have hi:off+i<cs.size:=by omega
  simp only [storeCells,Sem.run_bind,Addr.add_lit]
  rw [run_store P w _ v .plain (hv v (by simp)),AI h,sT h,Array.getElem?_eq_getElem hi]
  simp only [Bool.false_eq_true,if_false,Result.andThen_ok]
  rw [vK h,yG r _ (cs.setIfInBounds (off+i) v) off (i+1) (fun u hu=>hv u (by simp [hu])) (OD h) (by simp; omega),wK]
  rfl
theorem pP {b off:Nat} {cs:Array Value} {E:TypeId} {v:Value} {s:Nat} (h2:ZB P T=some s) (hs:v.cells.size=s) (hone:∀ u∈v.cells.toList,u.oneCell'=true)
  (h:w.heap[b]?=some (.cells cs E (0,0))) (ho:off+s≤cs.size) :
  (storeVar T ⟨b,off,none⟩ v).run P w=.ok () (setBlk w b (.cells (sD cs off v.cells.toList) E (0,0))):=by
 simp only [storeVar,Sem.run_bind,MC h2,Result.andThen_ok,hs,ne_eq,not_true_eq_false,if_false]
 rw [yG v.cells.toList w cs off 0 hone h (by simp; omega)]
 rfl
end
end Go.Proofs.YtljlkhobfdofhaaGreatDoor.Vc
namespace Go.Proofs.YtljlkhobfdofhaaGreatDoor.Vc
open Go
structure Enc (α:Type) where
 val:α→Value
 s:Nat
 pos:0<s
 hs:∀ a,(val a).cells.size=s
 one:∀ a,∀ u∈(val a).cells.toList,u.oneCell'=true
def Enc.f {α:Type} (E:Enc α) (a:α):LV:=(E.val a).cells.toList
theorem Enc.len {α:Type} (E:Enc α) (a:α):(E.f a).length=E.s:=by simp [Enc.f,E.hs]
def E8:Enc (BitVec 8):=⟨u8,1,by decide,fun _=>rfl,fun a u h=>by simp [u8,Value.cells] at h; subst h; rfl⟩
def E32:Enc (BitVec 32):=⟨u32,1,by decide,fun _=>rfl,fun a u h=>by simp [u32,Value.cells] at h; subst h; rfl⟩
def E64:Enc (BitVec 64):=⟨u64,1,by decide,fun _=>rfl,fun a u h=>by simp [u64,Value.cells] at h; subst h; rfl⟩
def EI:Enc Int:=⟨i64,1,by decide,fun _=>rfl,fun a u h=>by simp [i64,Value.cells] at h; subst h; rfl⟩
def EB:Enc Bool:=⟨.bool,1,by decide,fun _=>rfl,fun a u h=>by simp [Value.cells] at h; subst h; rfl⟩
def xA {α:Type} (E:Enc α) (l:List α):LV:=l.flatMap E.f
section
variable {α:Type} {E:Enc α}
@[simp] theorem cel_nil:xA E []=[]:=rfl
@[simp] theorem yE (a:α) (l:List α):xA E (a::l)=E.f a++xA E l:=rfl
theorem dB (l m:List α):xA E (l++m)=xA E l++xA E m:=by simp [xA]
theorem qA:∀ l:List α,(xA E l).length=l.length*E.s
 | []=>by simp
 | a::l=>by rw [yE,List.length_append,E.len,qA l,List.length_cons,Nat.add_mul]; omega
theorem YG:∀ (l:List α) (j i:Nat) (a:α),l[j]?=some a→i<E.s→(xA E l)[j*E.s+i]?=(E.f a)[i]?
 | [],j,i,a,h,_=>by simp at h
 | x::l,0,i,a,h,hi=>by
  simp only [List.getElem?_cons_zero,Option.some.injEq] at h
  subst h
  rw [yE,List.getElem?_append_left (by rw [E.len]; omega)]
  simp
 | x::l,j+1,i,a,h,hi=>by
  rw [yE,List.getElem?_append_right (by rw [E.len,Nat.add_mul]; omega),E.len]
  rw [show (j+1)*E.s+i-E.s=j*E.s+i by rw [Nat.add_mul]; omega]
  exact YG l j i a (by simpa using h) hi
theorem CB:∀ (x y r z:LV),y.length=r.length→sD (x++y++z).toArray x.length r=(x++r++z).toArray
 | x,[],[],z,_=>by simp [sD]
 | x,a::y,b::r,z,h=>by
  rw [sD]
  have e:(x++a::y++z).toArray.setIfInBounds x.length b=((x++[b])++y++z).toArray:=by
   simp
  rw [e,show x.length+1=(x++[b]).length by simp,CB (x++[b]) y r z (by simpa using h)]
  simp
 | _,[],_::_,_,h=>by simp at h
 | _,_::_,[],_,h=>by simp at h
theorem cel_set (l:List α) (j:Nat) (a b:α) (h:l[j]?=some a) (pre post:LV) :
  sD (pre++xA E l++post).toArray (pre.length+j*E.s) (E.f b)=(pre++xA E (l.set j b)++post).toArray:=by
 have hj:j<l.length:=(List.getElem?_eq_some_iff.1 h).1
 have e1:l=l.take j++a::l.drop (j+1):=by
  have:=(List.getElem?_eq_some_iff.1 h).2
  rw [← this,List.getElem_cons_drop,List.take_append_drop]
 have e2:l.set j b=l.take j++b::l.drop (j+1):=by
  rw [List.set_eq_take_append_cons_drop,if_pos hj]
 rw [e2]
 conv=>lhs; rw [e1]
 have hl:pre.length+j*E.s=(pre++xA E (l.take j)).length:=by
  rw [List.length_append,qA,List.length_take,Nat.min_eq_left (by omega)]
 rw [hl]
 have e3:pre++xA E (l.take j++a::l.drop (j+1))++post=(pre++xA E (l.take j))++E.f a++(xA E (l.drop (j+1))++post):=by
  simp [dB,List.append_assoc]
 rw [e3,CB _ _ _ _ (by rw [E.len,E.len])]
 simp [dB,List.append_assoc]
end
def pD {α:Type} (P:Program) (T:TypeId) (E:Enc α):Prop :=
 ZB P T=some E.s∧((QA P T=true∧∀ a,(E.val a).cells=#[E.val a])∨(SA P T=true∧∀ a,E.val a=.agg (E.val a).cells))
theorem fits8 {P:Program} {T:TypeId} (h1:ZB P T=some 1) (h2:QA P T=true):pD P T E8:=⟨h1,.inl ⟨h2,fun _=>rfl⟩⟩
theorem FG {P:Program} {T:TypeId} (h1:ZB P T=some 1) (h2:QA P T=true):pD P T E64:=⟨h1,.inl ⟨h2,fun _=>rfl⟩⟩
theorem jH {P:Program} {T:TypeId} (h1:ZB P T=some 1) (h2:QA P T=true):pD P T EI:=⟨h1,.inl ⟨h2,fun _=>rfl⟩⟩
section
variable {α:Type} {E:Enc α} {P:Program} {w:World} {T:TypeId}
theorem wP {b off:Nat} {cs:Array Value} {X:TypeId} {fr:Nat × Nat} {a:α} (hF:pD P T E) (h:w.heap[b]?=some (.cells cs X fr))
  (hc:∀ i,i<E.s→cs[off+i]?=(E.f a)[i]?):(loadVar T ⟨b,off,none⟩).run P w=.ok (E.val a) w:=by
 obtain ⟨h1,⟨h2,h3⟩ | ⟨h2,h3⟩⟩:=hF
 ·have hs:E.s=1:=by have:=E.hs a; rw [h3 a] at this; simpa using this.symm
  refine WI h2 h ?_
  have:=hc 0 (by omega)
  rw [Nat.add_zero] at this
  rw [this,Enc.f,h3 a]; rfl
 ·have hsz:off+E.s≤cs.size:=by
   have h0:=E.pos
   have:=hc (E.s-1) (by omega)
   have hl:=E.len a
   rw [List.getElem?_eq_getElem (by omega)] at this
   have:=(Array.getElem?_eq_some_iff.1 this).1
   omega
  rw [VI h2 h1 h hsz,h3 a]
  congr 2
  apply Array.ext
  ·simp; have:=E.hs a; omega
  ·intro i hi1 hi2
   simp at hi1
   have hi:i<E.s:=by omega
   have:=hc i hi
   have hl:=E.len a
   rw [Array.getElem?_eq_getElem (by omega),List.getElem?_eq_getElem (by omega)] at this
   simp only [Option.some.injEq] at this
   simp only [Array.getElem_extract]
   rw [this]
   simp [Enc.f]
end
def mC (P:Program) (S:TypeId) (f:Nat):Option (Nat × Nat × TypeId) :=
 match P.underlying S with
 | some (.struct fs)=>(fs[f]?).bind fun x=>(ZB P x.type).map fun z=>(x.offset,z,x.type)
 | _=>none
def TN (P:Program) (S:TypeId):Option (Array (Nat × Nat)) :=
 match P.underlying S with
 | some (.struct fs)=>fs.mapM fun f=>(ZB P f.type).map fun z=>(f.offset,z)
 | _=>none
def UD (P:Program) (T:TypeId):Option (Nat × Nat) :=
 match P.underlying T with
 | some (.array m e)=>(ZB P e).map fun z=>(m,z)
 | _=>none
def qD (P:Program) (T:TypeId):Option (TypeId × Nat) :=
 match P.underlying T with
 | some (.slice e)=>(ZB P e).map fun z=>(e,z)
 | _=>none
section
variable {P:Program} {n:Nat} {ops:Array Oper} {Q:Exit→Act→World→Prop} {ρ:EA} {w w₀:World} {d:Option Nat} {t T T' S:TypeId} {pos:String} {after:Array Edge} {g:Option (Nat × Bool)} {x y:Operand}
 {M:Nat→Prop} {L:List RW} {rest:List Oper} {b k off:Nat} {cs cs':Array Value} {X:TypeId} {fr:Nat × Nat}
theorem MB {a:Addr} (hx:ev n ρ x=.pointer (some a)):Runs P n ρ ⟨d,.nilCheck x,t,pos,after,g⟩ w (.pointer (some a)) w:=by
 simp [Runs,execOp,hx]
theorem vA {f o z off':Nat} {U:TypeId} (hf:mC P S f=some (o,z,U)) (hz:z≠0) (hx:ev n ρ x=.pointer (some ⟨b,off,none⟩)) (ho:off+o=off') :
  Runs P n ρ ⟨d,.fieldAddr S x f,t,pos,after,g⟩ w (.pointer (some ⟨b,off',none⟩)) w:=by
 subst ho
 unfold mC at hf
 split at hf
 ·rename_i fs hu
  simp only [Option.bind_eq_some_iff,Option.map_eq_some_iff,Prod.mk.injEq] at hf
  obtain ⟨fd,h1,z',h2,rfl,rfl,rfl⟩:=hf
  simp [Runs,execOp,hx,Instr.fieldAt,run_underlying hu,h1,Instr.sureAddr,fieldPlace,MC h2,hz,Addr.add_lit]
 ·cases hf
theorem LA {m z j off':Nat} {kk:IntKind} {i:Int} (ha:UD P T=some (m,z)) (hx:ev n ρ x=.pointer (some ⟨b,off,none⟩)) (hy:ev n ρ y=.int kk i) (hi:i=(j:Int)) (hj:j<m) (ho:off+j*z=off') :
  Runs P n ρ ⟨d,.indexAddr T x y,t,pos,after,g⟩ w (.pointer (some ⟨b,off',none⟩)) w:=by
 subst ho hi
 unfold UD at ha
 split at ha
 ·rename_i m' e hu
  simp only [Option.map_eq_some_iff,Prod.mk.injEq] at ha
  obtain ⟨z',h2,rfl,rfl⟩:=ha
  have h1:(0:Int)≤(j:Int)∧(j:Int)<(m':Int):=by omega
  simp [Runs,execOp,hx,hy,Instr.indexAt,run_underlying hu,Instr.sureAddr,asIntOf,MC h2,Addr.add_lit,hj]
 ·cases ha
theorem kV {α:Type} {E:Enc α} {a:α} (hF:pD P T E) (h:w.heap[b]?=some (.cells cs X fr)) (hx:ev n ρ x=.pointer (some ⟨b,off,none⟩))
  (hc:∀ i,i<E.s→cs[off+i]?=(E.f a)[i]?):Runs P n ρ ⟨d,.load T x,t,pos,after,g⟩ w (E.val a) w:=by
 simp [Runs,execOp,hx,Instr.loadAt,Instr.sureAddr,wP hF h hc]
theorem kB {s:Nat} (h1:SA P T=true) (h2:ZB P T=some s) (h:w.heap[b]?=some (.cells cs X fr)) (hx:ev n ρ x=.pointer (some ⟨b,off,none⟩)) (hs:off+s≤cs.size)
  {cs':Array Value} (hc:cs.extract off (off+s)=cs'):Runs P n ρ ⟨d,.load T x,t,pos,after,g⟩ w (.agg cs') w:=by
 subst hc
 simp [Runs,execOp,hx,Instr.loadAt,Instr.sureAddr,VI h1 h2 h hs]
theorem FA {v:Value} (h1:QA P T=true) (h:w.heap[b]?=some (.cells cs X fr)) (hx:ev n ρ x=.pointer (some ⟨b,off,none⟩)) (hv:cs[off]?=some v) :
  Runs P n ρ ⟨d,.load T x,t,pos,after,g⟩ w v w:=by
 simp [Runs,execOp,hx,Instr.loadAt,Instr.sureAddr,WI h1 h hv]
theorem Does.store {v:Value} {s:Nat} (hx:ev n ρ x=.pointer (some ⟨b,off,none⟩)) (hy:ev n ρ y=v) (h2:ZB P T=some s) (hs:v.cells.size=s)
  (hone:∀ u∈v.cells.toList,u.oneCell'=true) (h:w.heap[b]?=some (.cells cs X (0,0))) (ho:off+s≤cs.size) :
  Does P n ρ ⟨d,.store T x y,t,pos,after,g⟩ w (setBlk w b (.cells (sD cs off v.cells.toList) X (0,0))):=by
 simp [Does,execOp,hx,hy,Instr.storeAt,Instr.sureAddr,pP h2 hs hone h ho]
theorem GA {v:Value} {s:Nat} (H:Hp M w₀ w L) (hk:L[k]?=some (some b,.cells cs X (0,0))) (hx:ev n ρ x=.pointer (some ⟨b,off,none⟩)) (hy:ev n ρ y=v)
  (h2:ZB P T=some s) (hs:v.cells.size=s) (hone:∀ u∈v.cells.toList,u.oneCell'=true) (ho:off+s≤cs.size) (hc:sD cs off v.cells.toList=cs')
  (h:∀ w',Hp M w₀ w' (L.set k (some b,.cells cs' X (0,0)))→Chg (·=b) w w'→W P n ops Q rest ρ w') :
  W P n ops Q (⟨none,.store T x y,t,pos,after,none⟩::rest) ρ w:=by
 subst hc
 have hb:=H.get hk
 exact sd (Does.store hx hy h2 hs hone hb ho) (h _ (H.set hk (Chg.setBlk _ _ _) (OD hb)) (Chg.setBlk _ _ _))
theorem zK (v:Value) (w:World):(newVar T v).run P w=.ok ⟨w.heap.size,0,none⟩ (w.alloc (.cells v.cells T)):=rfl
theorem Runs.box {v:Value} (hx:ev n ρ x=v):Runs P n ρ ⟨d,.box T x,t,pos,after,g⟩ w (.pointer (some ⟨w.heap.size,0,none⟩)) (w.alloc (.cells v.cells T)):=by
 simp [Runs,execOp,hx,Instr.box,zK]
theorem q_box {v:Value} {o:Obj} (H:Hp M w₀ w L) (hx:ev n ρ x=v) (hc:Obj.cells v.cells T (0,0)=o)
  (h:∀ b w',w.heap.size≤b→Hp M w₀ w' ((some b,o)::L)→Ext w w'→W P n ops Q rest (XA ρ d (.pointer (some ⟨b,0,none⟩))) w') :
  W P n ops Q (⟨d,.box T x,t,pos,after,none⟩::rest) ρ w:=by
 subst hc
 exact sq (Runs.box hx) (h _ _ (Nat.le_refl _) (H.alloc _) (Ext.alloc _ _))
theorem Runs.alloc {z:Value} (hz:YB P T=some z):Runs P n ρ ⟨d,.alloc T,t,pos,after,g⟩ w (.pointer (some ⟨w.heap.size,0,none⟩)) (w.alloc (.cells z.cells T)):=by
 simp [Runs,execOp,Instr.alloc,YH hz,zK]
theorem rZ {z:Value} {o:Obj} (H:Hp M w₀ w L) (hz:YB P T=some z) (hc:Obj.cells z.cells T (0,0)=o)
  (h:∀ b w',w.heap.size≤b→Hp M w₀ w' ((some b,o)::L)→Ext w w'→W P n ops Q rest (XA ρ d (.pointer (some ⟨b,0,none⟩))) w') :
  W P n ops Q (⟨d,.alloc T,t,pos,after,none⟩::rest) ρ w:=by
 subst hc
 exact sq (Runs.alloc hz) (h _ _ (Nat.le_refl _) (H.alloc _) (Ext.alloc _ _))
theorem qV {f o z:Nat} {v:Value} {U:TypeId} (hf:mC P S f=some (o,z,U)) (h1:QA P U=true)
  (hx:ev n ρ x=.agg cs) (hv:cs[o]?=some v):Runs P n ρ ⟨d,.field S x f,t,pos,after,g⟩ w v w:=by
 unfold mC at hf
 split at hf
 ·rename_i fs hu
  simp only [Option.bind_eq_some_iff,Option.map_eq_some_iff,Prod.mk.injEq] at hf
  obtain ⟨fd,e1,z',e2,rfl,rfl,rfl⟩:=hf
  simp [Runs,execOp,hx,Instr.field,run_underlying hu,e1,asAgg,part,wM h1,hv]
 ·cases hf
theorem pV {f o z:Nat} {U:TypeId} (hf:mC P S f=some (o,z,U)) (h1:SA P U=true)
  (hx:ev n ρ x=.agg cs) (hv:cs.extract o (o+z)=cs'):Runs P n ρ ⟨d,.field S x f,t,pos,after,g⟩ w (.agg cs') w:=by
 subst hv
 unfold mC at hf
 split at hf
 ·rename_i fs hu
  simp only [Option.bind_eq_some_iff,Option.map_eq_some_iff,Prod.mk.injEq] at hf
  obtain ⟨fd,e1,z',e2,rfl,rfl,rfl⟩:=hf
  simp [Runs,execOp,hx,Instr.field,run_underlying hu,e1,asAgg,part,CQ h1,MC e2]
 ·cases hf
theorem QN {m z j:Nat} {kk:IntKind} {i:Int} {v:Value} {e:TypeId} (hu:P.underlying T=some (.array m e)) (h1:QA P e=true) (hz:ZB P e=some z)
  (hx:ev n ρ x=.agg cs) (hy:ev n ρ y=.int kk i) (hi:i=(j:Int)) (hj:j<m) (hv:cs[j*z]?=some v) :
  Runs P n ρ ⟨d,.index T x y,t,pos,after,g⟩ w v w:=by
 subst hi
 simp [Runs,execOp,hx,hy,Instr.index,run_underlying hu,asIntOf,part,wM h1,MC hz,hv,hj]
theorem ML {vs:Array Value} {i:Nat} {v:Value} (hx:ev n ρ x=.tuple vs) (hv:vs[i]?=some v):Runs P n ρ ⟨d,.extract x i,t,pos,after,g⟩ w v w:=by
 simp [Runs,execOp,hx,Instr.extract,hv]
theorem uP:∀ (l:List Field) (r:List (Nat × Nat)),(l.mapM fun f=>(ZB P f.type).map fun z=>(f.offset,z))=some r →
  (l.mapM (fun f=>do pure (f.offset,← sizeOf f.type):Field→Sem (Nat × Nat))).run P w=.ok r w:=by
 intro l
 induction l with
 | nil=>intro r hr; simp at hr; subst hr; rfl
 | cons f l ih =>
  intro r hr
  simp only [List.mapM_cons,Option.bind_eq_bind,Option.bind_eq_some_iff,Option.map_eq_some_iff] at hr
  obtain ⟨p,⟨z,hz,rfl⟩,r',hr',hh⟩:=hr
  cases hh
  simp only [List.mapM_cons,Sem.run_bind,MC hz,Result.andThen_ok,Sem.run_pure,ih r' hr']
theorem PF {parts:Array (Nat × Operand)} {z:Value} {ps:List (Nat × Value)} {pl:Array (Nat × Nat)} (hz:YB P T=some z) (hu:TN P T=some pl)
  (hp:(parts.toList.map fun q=>(q.1,ev n ρ q.2))=ps) (hf:Instr.fill (pl[·]?) z.cells ps=some cs') :
  Runs P n ρ ⟨d,.build T parts,t,pos,after,g⟩ w (.agg cs') w:=by
 unfold TN at hu
 split at hu
 ·rename_i fs hS
  have hm2:(fs.mapM (fun f=>do pure (f.offset,← sizeOf f.type):Field→Sem (Nat × Nat))).run P w=.ok pl w:=by
   rw [Array.mapM_eq_mapM_toList] at hu ⊢
   simp only [Option.map_eq_map,Option.map_eq_some_iff] at hu
   obtain ⟨r,hr,rfl⟩:=hu
   simp only [Sem.run_map,uP _ _ hr,Result.andThen_ok]
  have hps:(parts.map fun q=>(q.1,ev n ρ q.2)).toList=ps:=by simpa using hp
  simp only [Runs,execOp,Sem.run_bind,Instr.build,YH hz,Result.andThen_ok,run_underlying hS,hm2,hps,hf,Sem.run_pure]
 ·cases hu
theorem AG {parts:Array (Nat × Operand)} {z:Value} {ps:List (Nat × Value)} {m s:Nat} (hz:YB P T=some z) (ha:UD P T=some (m,s))
  (hp:(parts.toList.map fun q=>(q.1,ev n ρ q.2))=ps) (hf:Instr.fill (fun i=>some (i*s,s)) z.cells ps=some cs') :
  Runs P n ρ ⟨d,.build T parts,t,pos,after,g⟩ w (.agg cs') w:=by
 unfold UD at ha
 split at ha
 ·rename_i m' e hu
  simp only [Option.map_eq_some_iff,Prod.mk.injEq] at ha
  obtain ⟨z',h2,rfl,rfl⟩:=ha
  have hps:(parts.map fun q=>(q.1,ev n ρ q.2)).toList=ps:=by simpa using hp
  simp only [Runs,execOp,Sem.run_bind,Instr.build,YH hz,Result.andThen_ok,run_underlying hu,MC h2,hps,hf,Sem.run_pure]
 ·cases ha
def rA (P:Program) (f:FuncId):Bool:=match P.funcs[f]? with
 | some fn=>!(fn.name == "runtime.NumGoroutine") && fn.body.isSome
 | none=>false
theorem xM {f:FuncId} {as:Array Value} (h:rA P f=true):(callFunc f as).run P w=.ok (.enter f as) w:=by
 unfold rA at h
 split at h
 ·rename_i fn hfn
  simp only [Bool.and_eq_true,Bool.not_eq_true'] at h
  have hb:fn.body.isNone=false:=by cases hb:fn.body<;>simp_all
  simp only [callFunc,Sem.run_bind,run_program,Result.andThen_ok,hfn,h.1,hb,Bool.false_eq_true,if_false]
  rfl
 ·cases h
theorem Enters.call {f:FuncId} {as:Array Operand} {ats:Array TypeId} {vs:Array Value} (hf:rA P f=true) (ha:as.map (ev n ρ)=vs) :
  Enters P n ρ ⟨d,.call ⟨.value (.func f),as,ats⟩,t,pos,after,g⟩ w f vs:=by
 subst ha
 have e:ev n ρ (.func f)=.func (.func f) #[] #[]:=rfl
 simp [Enters,execOp,resolve,e,Deferred.ofValue,invoke,xM hf]
theorem c_call {f:FuncId} {as:List Operand} {ats:Array TypeId} {vs:LV} {R:Value→World→Prop} (hf:rA P f=true) (ha:as.map (ev n ρ)=vs)
  (hc:Calls P f vs.toArray w fun e w'=>∃ v,e=.returned v∧R v w') (h:∀ v w',R v w'→W P n ops Q rest (XA ρ d v) w') :
  W P n ops Q (⟨d,.call ⟨.value (.func f),as.toArray,ats⟩,t,pos,after,none⟩::rest) ρ w :=
 sc (Enters.call hf (by simp [ha])) hc h
theorem EK {e:TypeId} {z m c:Nat} {a:Option Addr} (hT:qD P T=some (e,z)) (hx:ev n ρ x=.slice a m c) :
  Runs P n ρ ⟨d,.call ⟨.builtin .len,#[x],#[T]⟩,t,pos,after,g⟩ w (i64 (m:Int)) w:=by
 unfold qD at hT
 split at hT
 ·rename_i e' hu
  simp [Runs,execOp,resolve,hx,invoke,builtin,Builtin.len_,run_underlying hu,goInt,i64]
 ·cases hT
theorem lV {s:ByteArray} (hT:P.underlying T=some .string) (hx:ev n ρ x=.string s) :
  Runs P n ρ ⟨d,.call ⟨.builtin .len,#[x],#[T]⟩,t,pos,after,g⟩ w (i64 (s.size:Int)) w:=by
 simp [Runs,execOp,resolve,hx,invoke,builtin,Builtin.len_,run_underlying hT,goInt,i64]
end
end Go.Proofs.YtljlkhobfdofhaaGreatDoor.Vc
namespace Go.Proofs.YtljlkhobfdofhaaGreatDoor.Vc
open Go
def fC (mask:List Nat) (i j:Nat):Bool:=(mask.getD i 0).testBit j
def Out (P:Program) (S:Value→World→Prop):Result Next→Prop
 | .ok (.value v) w'=>S v w'
 | .ok .skip w'=>S undef w'
 | .ok (.enter f as) w'=>Calls P f as w' fun e w''=>∃ v,e=.returned v∧S v w''
 | .ok (.row row as) w'=>Rows P row as w' S
 | _=>False
theorem Out.mono {P:Program} {S S':Value→World→Prop} {r:Result Next} (h:Out P S r) (hs:∀ v w',S v w'→S' v w'):Out P S' r:=by
 cases r with
 | ok x w' =>
  cases x with
  | value v=>exact hs _ _ h
  | skip=>exact hs _ _ h
  | enter f as=>exact Calls.mono h fun e w' ⟨v,he,hv⟩=>⟨v,he,hs _ _ hv⟩
  | row r as=>exact Rows.mono h hs
  | _=>exact h.elim
 | halt x w'=>exact h.elim
def Gives (P:Program) (n:Nat) (ops:Array Oper) (ρ:EA) (o:Oper) (w:World) (S:Value→World→Prop):Prop :=
 (Region.wanted o (yielded ops (St n ρ).tmps)=true∧Out P S ((execOp (ev n ρ) o).run P w)) ∨
 (Region.wanted o (yielded ops (St n ρ).tmps)=false∧S undef w)
section
variable {P:Program} {n:Nat} {ops:Array Oper} {Q:Exit→Act→World→Prop} {ρ ρ':EA} {o:Oper} {w:World} {S S':Value→World→Prop}
theorem Gives.wpOp {i:Nat} {K:Act→World→Prop} (hi:ops[i]?=some o) (h:Gives P n ops ρ o w S)
  (hK:∀ v w',S v w'→K (St n (XA ρ o.dst v)) w'):wpOp P ops Q i K (St n ρ) w:=by
 unfold Go.wpOp
 simp only [hi]
 rcases h with ⟨hw,h⟩ | ⟨hw,h⟩
 ·simp only [hw,if_true]
  refine .inl ?_
  unfold Oper.wp
  rw [nE]
  generalize (execOp (ev n ρ) o).run P w=r at h
  cases r with
  | ok x w' =>
   cases x with
   | value v=>rw [Oper.upon_value,dE]; exact hK _ _ h
   | skip=>rw [Oper.upon_skip,dE]; exact hK _ _ h
   | enter f as =>
    rw [Oper.upon_enter]
    refine Calls.mono h fun e w' he=>?_
    obtain ⟨v,rfl,hv⟩:=he
    show K ((St n ρ).put o.dst v) w'
    rw [dE]
    exact hK _ _ hv
   | row r as =>
    rw [Oper.upon_row]
    refine Rows.mono h fun v w'' hv=>?_
    rw [dE]; exact hK _ _ hv
   | _=>exact h.elim
  | halt x w'=>exact h.elim
 ·simp only [hw,Bool.false_eq_true,if_false,dE]
  exact hK _ _ h
theorem Gives.mono (h:Gives P n ops ρ o w S) (hs:∀ v w',S v w'→S' v w'):Gives P n ops ρ o w S':=by
 rcases h with ⟨hw,h⟩ | ⟨hw,h⟩
 ·exact .inl ⟨hw,h.mono hs⟩
 ·exact .inr ⟨hw,hs _ _ h⟩
theorem yL (g:Nat) (h:∀ t,(ops[g]?).bind (·.dst)=some t→ρ t=ρ' t):yielded ops (St n ρ).tmps g=yielded ops (St n ρ').tmps g:=by
 unfold yielded
 cases ht:(ops[g]?).bind (·.dst) with
 | none=>rfl
 | some t =>
  have:=h t ht
  simp only [Option.bind_some]
  have e:(St n ρ).tmps[t]?=(St n ρ').tmps[t]?:=by
   simp only [St,Array.getElem?_ofFn]
   split
   ·simp [this]
   ·rfl
  rw [e]
theorem oM (h:∀ t,t∈o.looksAt ops→ρ t=ρ' t):Region.wanted o (yielded ops (St n ρ).tmps)=Region.wanted o (yielded ops (St n ρ').tmps):=by
 unfold Region.wanted
 cases hg:o.guard with
 | none=>rfl
 | some gw =>
  obtain ⟨g,want⟩:=gw
  simp only
  rw [yL g fun t ht=>h t (by simp [Oper.looksAt,hg,ht])]
theorem dQ (hs:∀ cs b,o.op≠.select cs b) (h:∀ t,t∈o.looksAt ops→ρ t=ρ' t):execOp (ev n ρ) o=execOp (ev n ρ') o :=
 execOp_congr o hs fun x hx=>by
  cases x with
  | tmp t =>
   have:=h t (List.mem_append_left _ (List.mem_filterMap.2 ⟨.tmp t,by simpa using hx,rfl⟩))
   simp only [ev,this]
  | _=>rfl
theorem Gives.congr (hs:∀ cs b,o.op≠.select cs b) (h:∀ t,t∈o.looksAt ops→ρ t=ρ' t) (hg:Gives P n ops ρ o w S):Gives P n ops ρ' o w S:=by
 have e1:=oM (n:=n) h
 have e2:=dQ (n:=n) hs h
 unfold Gives at *
 rw [← e1,← e2]
 exact hg
theorem dA {v:Value} {w':World} (hg:Region.wanted o (yielded ops (St n ρ).tmps)=true) (hr:Runs P n ρ o w v w') (h:S v w'):Gives P n ops ρ o w S :=
 .inl ⟨hg,by rw [show (execOp (ev n ρ) o).run P w=_ from hr]; exact h⟩
theorem Gives.callW {f:FuncId} {as:Array Value} (hg:Region.wanted o (yielded ops (St n ρ).tmps)=true) (hr:Enters P n ρ o w f as) (hc:Calls P f as w fun e w'=>∃ v,e=.returned v∧S v w'):Gives P n ops ρ o w S :=
 .inl ⟨hg,by rw [show (execOp (ev n ρ) o).run P w=_ from hr]; exact hc⟩
theorem Gives.run {v:Value} {w':World} (hg:o.guard=none) (hr:Runs P n ρ o w v w') (h:S v w'):Gives P n ops ρ o w S:=dA (KB hg _ _) hr h
theorem Gives.call {f:FuncId} {as:Array Value} (hg:o.guard=none) (hr:Enters P n ρ o w f as) (hc:Calls P f as w fun e w'=>∃ v,e=.returned v∧S v w'):Gives P n ops ρ o w S :=
 Gives.callW (KB hg _ _) hr hc
theorem uU {d:Nat} (hd:Nat.blt d n=true) {u v:Value} (h:St n (XA ρ (some d) u)=St n (XA ρ (some d) v)):u=v:=by
 have h1:=II (n:=n) (ρ:=XA ρ (some d) u) hd
 rw [h,II hd] at h1
 simpa [XA,oE] using h1.symm
theorem Gives.ofW {d:Nat} (hd:o.dst=some d) (hn:Nat.blt d n=true) (h:∀ Q':Exit→Act→World→Prop,(∀ u w',S u w'→W P n ops Q' [] (XA ρ (some d) u) w')→W P n ops Q' [o] ρ w):Gives P n ops ρ o w S:=by
 have h1:=(h (fun e a w'=>e=.normal∧∃ u,a=St n (XA ρ (some d) u)∧S u w') fun u w' hs=>mH ⟨rfl,u,rfl,hs⟩).out
 have hno:∀ e,e≠.normal→∀ a w',¬ (e=Exit.normal∧∃ u,a=St n (XA ρ (some d) u)∧S u w'):=fun e he a w' h=>he h.1
 have key:∀ {v w'},wpList P ops (fun e a w'=>e=.normal∧∃ u,a=St n (XA ρ (some d) u)∧S u w') [] ((St n ρ).put o.dst v) w'→S v w':=by
  rintro v w' ⟨_,u,hu,hs⟩
  rw [dE,hd] at hu
  rw [uU hn hu]; exact hs
 unfold wpList at h1
 split at h1
 ·rename_i hw
  refine .inl ⟨hw,?_⟩
  rcases h1 with h1 | ⟨_,a,w',h1⟩
  ·unfold Oper.wp at h1
   rw [nE] at h1
   generalize (execOp (ev n ρ) o).run P w=r at h1
   cases r with
   | ok x w' =>
    cases x with
    | value v=>exact key h1
    | skip=>exact key h1
    | enter f as =>
     refine Calls.mono h1 fun e w'' he=>?_
     cases e with
     | returned v=>exact ⟨v,rfl,key he⟩
     | panicked c=>exact (by cases he.1)
     | outgrown=>obtain ⟨_,_,h2,_⟩:=he; cases h2
    | row r as=>exact Rows.mono h1 fun v w'' hv=>key hv
    | defer x =>
     obtain ⟨_,u,hu,_⟩:=h1
     have h2:=congrArg Act.defers hu
     rw [hd] at h2
     simp [Act.put,St] at h2
    | _=>exact h1
   | halt x w' =>
    cases x with
    | panic v=>have h2:=h1.1; cases h2
    | _=>exact h1
  ·exact (by cases h1.1)
 ·rename_i hw
  exact .inr ⟨by simpa using hw,key h1⟩
theorem Gives.ofW0 (hd:o.dst=none) (h:∀ Q':Exit→Act→World→Prop,(∀ w',(∀ u,S u w')→W P n ops Q' [] ρ w')→W P n ops Q' [o] ρ w):Gives P n ops ρ o w S:=by
 have h1:=(h (fun e a w'=>e=.normal∧a.defers=[]∧∀ u,S u w') fun w' hs=>mH ⟨rfl,rfl,hs⟩).out
 have key:∀ {a w'} (v:Value),wpList P ops (fun e a w'=>e=.normal∧a.defers=[]∧∀ u,S u w') [] a w'→S v w':=fun v h=>h.2.2 v
 unfold wpList at h1
 split at h1
 ·rename_i hw
  refine .inl ⟨hw,?_⟩
  rcases h1 with h1 | ⟨_,a,w',h1⟩
  ·unfold Oper.wp at h1
   rw [nE] at h1
   generalize (execOp (ev n ρ) o).run P w=r at h1
   cases r with
   | ok x w' =>
    cases x with
    | value v=>exact key _ h1
    | skip=>exact key _ h1
    | enter f as =>
     refine Calls.mono h1 fun e w'' he=>?_
     cases e with
     | returned v=>exact ⟨v,rfl,key _ he⟩
     | panicked c=>exact (by cases he.1)
     | outgrown=>obtain ⟨_,_,h2,_⟩:=he; cases h2
    | row r as=>exact Rows.mono h1 fun v w'' hv=>key _ hv
    | defer x =>
     have h2:=h1.2.1
     rw [hd] at h2
     simp [Act.put] at h2
    | _=>exact h1
   | halt x w' =>
    cases x with
    | panic v=>have h2:=h1.1; cases h2
    | _=>exact h1
  ·exact (by cases h1.1)
 ·rename_i hw
  exact .inr ⟨by simpa using hw,key _ h1⟩
theorem Gives.off (hg:Region.wanted o (yielded ops (St n ρ).tmps)=false) (h:S undef w):Gives P n ops ρ o w S:=.inr ⟨hg,h⟩
end
abbrev yJ:=EA→Value→World→Prop
def WR (mask:List Nat) (K:List (Option yJ)) (r:EA) (i:Nat) (w:World):Prop :=
 ∀ (j:Nat) (T:yJ),K[j]?=some (some T)→fC mask i j=true→T r (r j) w
def fP (K:List (Option yJ)) (r:EA) (w:World):Prop:=∀ (j:Nat) (T:yJ),K[j]?=some (some T)→T r (r j) w
def Walk (P:Program) (n:Nat) (ops:Array Oper) (C:World→Prop) (R:World→World→Prop) (mask:List Nat) (K:List (Option yJ)) (Fin:(EA→EA)→Prop) :
  Nat→List (Option yJ)→List Oper→(EA→EA)→Prop
 | _,[],_,ρ=>Fin ρ
 | i,none::ks,o::l,ρ=>∃ v,(∀ r w,C w→WR mask K r i w→Gives P n ops (ρ r) o w fun u w'=>u=v∧R w w')∧Walk P n ops C R mask K Fin (i+1) ks l fun r=>XA (ρ r) o.dst v
 | i,some T::ks,o::l,ρ=>(∀ r w,C w→WR mask K r i w→Gives P n ops (ρ r) o w fun u w'=>T r u w'∧R w w')∧Walk P n ops C R mask K Fin (i+1) ks l fun r=>XA (ρ r) o.dst (r i)
 | _,_::_,[],_=>False
def pB (ops:Array Oper) (ρ:EA) (V:Nat→Value):Nat→EA
 | 0=>ρ
 | k+1=>XA (pB ops ρ V k) ((ops[k]?).bind (·.dst)) (V k)
def yC (K:List (Option yJ)) (e:Nat→Value) (r:EA) (j:Nat):Value:=match K[j]? with
 | some (some _)=>r j
 | _=>e j
section
variable {P:Program} {n:Nat} {ops:Array Oper} {C:World→Prop} {R:World→World→Prop} {mask:List Nat} {K:List (Option yJ)} {Fin:(EA→EA)→Prop} {ρ:EA}
theorem UM (e₁ e₂:Nat→Value) (r:EA):∀ m:Nat,(∀ j,j<m→e₁ j=e₂ j)→pB ops ρ (yC K e₁ r) m=pB ops ρ (yC K e₂ r) m
 | 0,_=>rfl
 | m+1,hm=>by
  simp only [pB]
  rw [UM e₁ e₂ r m fun j hj=>hm j (by omega)]
  have:yC K e₁ r m=yC K e₂ r m:=by
   unfold yC
   split
   ·rfl
   ·exact hm m (by omega)
  rw [this]
def Ob (P:Program) (n:Nat) (ops:Array Oper) (C:World→Prop) (R:World→World→Prop) (mask:List Nat) (K:List (Option yJ)) (ρ:EA) (e:Nat→Value) (j:Nat) (o:Oper):Prop :=
 ∀ r w,C w→WR mask K r j w→Gives P n ops (pB ops ρ (yC K e r) j) o w fun u w'=>(∀ T:yJ,K[j]?=some (some T)→T r u w')∧(K[j]?=some none→u=e j)∧R w w'
theorem Walk.out:∀ (ks:List (Option yJ)) (l:List Oper) (i:Nat) (ρ':EA→EA) (e:Nat→Value),
  (∀ j:Nat,ks[j]?=K[i+j]?)→(∀ j:Nat,l[j]?=ops[i+j]?)→(∀ r,ρ' r=pB ops ρ (yC K e r) i) →
  Walk P n ops C R mask K Fin i ks l ρ' →
  ∃ e':Nat→Value,(∀ j,j<i→e' j=e j) ∧
   (∀ (j:Nat) (o:Oper),i≤j→j<i+ks.length→ops[j]?=some o→Ob P n ops C R mask K ρ e' j o) ∧
   (∀ j:Nat,i≤j→j<i+ks.length→(ops[j]?).isSome) ∧
   Fin fun r=>pB ops ρ (yC K e' r) (i+ks.length)
 | [],l,i,ρ',e,hk,hl,hρ,h=>by
  refine ⟨e,fun _ _=>rfl,fun j o h1 h2=>by simp at h2; omega,fun j h1 h2=>by simp at h2; omega,?_⟩
  have:(fun r=>pB ops ρ (yC K e r) (i+([]:List (Option yJ)).length))=ρ':=by funext r; rw [hρ r]; rfl
  rw [this]
  cases l<;>exact h
 | k::ks,[],i,ρ',e,hk,hl,hρ,h=>by cases k<;>exact h.elim
 | k::ks,o::l,i,ρ',e,hk,hl,hρ,h=>by
  have hki:K[i]?=some k:=by simpa using (hk 0).symm
  have hoi:ops[i]?=some o:=by simpa using (hl 0).symm
  have hk':∀ j:Nat,ks[j]?=K[i+1+j]?:=fun j=>by have:=hk (j+1); simpa [Nat.add_assoc,Nat.add_comm 1 j] using this
  have hl':∀ j:Nat,l[j]?=ops[i+1+j]?:=fun j=>by have:=hl (j+1); simpa [Nat.add_assoc,Nat.add_comm 1 j] using this
  cases k with
  | none =>
   obtain ⟨v,h1,h2⟩:=h
   let e₁:Nat→Value:=fun j=>if j=i then v else e j
   have hbe:∀ j,j<i→e₁ j=e j:=fun j hj=>if_neg (by omega)
   have hi:e₁ i=v:=if_pos rfl
   obtain ⟨e',h3,h4,h5,h6⟩:=Walk.out ks l (i+1) (fun r=>XA (ρ' r) o.dst v) e₁ hk' hl' (fun r=>by
    simp only [pB,hoi,Option.bind_some]
    rw [hρ r,UM e₁ e r i hbe]
    have:yC K e₁ r i=v:=by simp [yC,hki,hi]
    rw [this]) h2
   refine ⟨e',fun j hj=>(h3 j (by omega)).trans (hbe j hj),?_,?_,?_⟩
   ·intro j o' hj1 hj2 hoj r w hC hF
    rcases Nat.eq_or_lt_of_le hj1 with rfl | hlt
    ·rw [hoi] at hoj; cases hoj
     have:=h1 r w hC hF
     rw [hρ r,UM e e' r i (fun j hj=>((h3 j (by omega)).trans (hbe j hj)).symm)] at this
     refine this.mono fun u w' ⟨hu,hr⟩=>⟨fun T hT=>?_,fun _=>?_,hr⟩
     ·rw [hki] at hT; cases hT
     ·rw [h3 i (by omega),hi]; exact hu
    ·exact h4 j o' (by omega) (by simp at hj2; omega) hoj r w hC hF
   ·intro j hj1 hj2
    rcases Nat.eq_or_lt_of_le hj1 with rfl | hlt
    ·simp [hoi]
    ·exact h5 j (by omega) (by simp at hj2; omega)
   ·simpa [Nat.add_assoc,Nat.add_comm 1] using h6
  | some T =>
   obtain ⟨h1,h2⟩:=h
   obtain ⟨e',h3,h4,h5,h6⟩:=Walk.out ks l (i+1) (fun r=>XA (ρ' r) o.dst (r i)) e hk' hl' (fun r=>by
    simp only [pB,hoi,Option.bind_some]
    rw [hρ r]
    have:yC K e r i=r i:=by simp [yC,hki]
    rw [this]) h2
   refine ⟨e',fun j hj=>h3 j (by omega),?_,?_,?_⟩
   ·intro j o' hj1 hj2 hoj r w hC hF
    rcases Nat.eq_or_lt_of_le hj1 with rfl | hlt
    ·rw [hoi] at hoj; cases hoj
     have:=h1 r w hC hF
     rw [hρ r,UM e e' r i (fun j hj=>(h3 j (by omega)).symm)] at this
     refine this.mono fun u w' ⟨hu,hr⟩=>⟨fun T' hT=>?_,fun hT=>?_,hr⟩
     ·rw [hki] at hT; cases hT; exact hu
     ·rw [hki] at hT; cases hT
    ·exact h4 j o' (by omega) (by simp at hj2; omega) hoj r w hC hF
   ·intro j hj1 hj2
    rcases Nat.eq_or_lt_of_le hj1 with rfl | hlt
    ·simp [hoi]
    ·exact h5 j (by omega) (by simp at hj2; omega)
   ·simpa [Nat.add_assoc,Nat.add_comm 1] using h6
end
def iD (ops:Array Oper) (m t:Nat):Option Nat:=(List.range m).find? fun j=>(ops[j]?).bind (·.dst) == some t
def kH (ops:Array Oper) (mask:List Nat) (m:Nat):Bool :=
 Region.noSelect ops && decide (m≤ops.size) &&
 ((List.range ops.size).all fun i=>(List.range ops.size).all fun j=>!fC mask i j ||
  ((j<i) && (match ops[i]? with | some o=>o.after.any fun e=>Region.binds .any e && (e.on == j || fC mask e.on j) | none=>false))) &&
 ((List.range ops.size).all fun i=>match ops[i]? with | some o=>o.after.all fun e=>!Region.binds .any e || decide (e.on<i) | none=>false) &&
 ((List.range m).all fun i=>(List.range m).all fun j=>i == j || (match (ops[i]?).bind (·.dst) with | some t=>(ops[j]?).bind (·.dst) != some t | none=>true)) &&
 ((List.range m).all fun i=>match ops[i]? with
  | some o=>(o.looksAt ops).all fun t=>match iD ops m t with
   | some j=>i == j || (if j<i then fC mask i j else fC mask j i)
   | none=>true
  | none=>false) &&
 ((List.range ops.size).all fun i=>i<m || (List.range i).all fun j=>fC mask i j)
structure DrawOk (ops:Array Oper) (mask:List Nat) (m:Nat):Prop where
 nosel:Region.noSelect ops=true
 hm:m≤ops.size
 up:∀ i j,i<ops.size→j<ops.size→fC mask i j=true→j<i∧∃ o,ops[i]?=some o∧∃ e∈o.after,Region.binds .any e=true∧(e.on=j∨fC mask e.on j=true)
 edges:∀ (i:Nat) (o:Oper),ops[i]?=some o→∀ e∈o.after,Region.binds .any e=true→e.on<i
 dist:∀ i j,i<m→j<m→i≠j→∀ t,(ops[i]?).bind (·.dst)=some t→(ops[j]?).bind (·.dst)≠some t
 reads:∀ (i:Nat) (o:Oper),i<m→ops[i]?=some o→∀ t∈o.looksAt ops,∀ j,iD ops m t=some j→i=j∨(j<i∧fC mask i j=true)∨(i<j∧fC mask j i=true)
 tail:∀ i j,m≤i→i<ops.size→j<i→fC mask i j=true
theorem DrawOk.of {ops:Array Oper} {mask:List Nat} {m:Nat} (h:kH ops mask m=true):DrawOk ops mask m:=by
 simp only [kH,Bool.and_eq_true,decide_eq_true_eq] at h
 obtain ⟨⟨⟨⟨⟨⟨h1,h2⟩,h3⟩,h4⟩,h5⟩,h6⟩,h7⟩:=h
 refine ⟨h1,h2,?_,?_,?_,?_,?_⟩
 ·intro i j hi hj ha
  have h:=List.all_eq_true.1 (List.all_eq_true.1 h3 i (List.mem_range.2 hi)) j (List.mem_range.2 hj)
  rw [ha] at h
  simp only [Bool.not_true,Bool.false_or,Bool.and_eq_true,decide_eq_true_eq] at h
  refine ⟨h.1,?_⟩
  have h:=h.2
  split at h
  ·rename_i o ho
   obtain ⟨e,he,h'⟩:=Array.any_eq_true'.1 h
   simp only [Bool.and_eq_true,Bool.or_eq_true,beq_iff_eq] at h'
   exact ⟨o,ho,e,he,h'⟩
  ·cases h
 ·intro i o ho e he hb
  have hi:i<ops.size:=(Array.getElem?_eq_some_iff.1 ho).1
  have h:=List.all_eq_true.1 h4 i (List.mem_range.2 hi)
  rw [ho] at h
  have h:=Array.all_eq_true_iff_forall_mem.1 h e he
  simpa [hb] using h
 ·intro i j hi hj hne t ht
  have h:=List.all_eq_true.1 (List.all_eq_true.1 h5 i (List.mem_range.2 hi)) j (List.mem_range.2 hj)
  simp only [Bool.or_eq_true,beq_iff_eq,hne,false_or] at h
  rw [ht] at h
  simpa using h
 ·intro i o hi ho t ht j hj
  have h:=List.all_eq_true.1 h6 i (List.mem_range.2 hi)
  rw [ho] at h
  have h:=List.all_eq_true.1 h t ht
  rw [hj] at h
  simp only [Bool.or_eq_true,beq_iff_eq] at h
  rcases h with h | h
  ·exact .inl h
  ·by_cases hij:j<i
   ·rw [if_pos hij] at h; exact .inr (.inl ⟨hij,h⟩)
   ·rw [if_neg hij] at h
    by_cases e:i=j
    ·exact .inl e
    ·exact .inr (.inr ⟨by omega,h⟩)
 ·intro i j hm hi hj
  have h:=List.all_eq_true.1 h7 i (List.mem_range.2 hi)
  simp only [Bool.or_eq_true,decide_eq_true_eq] at h
  rcases h with h | h
  ·omega
  ·exact List.all_eq_true.1 h j (List.mem_range.2 hj)
theorem BB {ops:Array Oper} {m t j:Nat} (h:iD ops m t=some j):j<m∧(ops[j]?).bind (·.dst)=some t:=by
 unfold iD at h
 have h1:=List.find?_some h
 have h2:=List.mem_of_find?_eq_some h
 exact ⟨List.mem_range.1 h2,by simpa using h1⟩
theorem qF {ops:Array Oper} {mask:List Nat} {m t j:Nat} (D:DrawOk ops mask m) (hj:j<m) (h:(ops[j]?).bind (·.dst)=some t):iD ops m t=some j:=by
 cases hw:iD ops m t with
 | none =>
  unfold iD at hw
  have:=List.find?_eq_none.1 hw j (List.mem_range.2 hj)
  simp [h] at this
 | some k =>
  obtain ⟨hk,hk'⟩:=BB hw
  by_cases e:k=j
  ·rw [e]
  ·exact absurd h (D.dist k j hk hj e t hk')
def JB (ops:Array Oper) (m:Nat) (ρ:EA) (V:Nat→Value) (listed:Array Bool):EA:=fun t=>match iD ops m t with
 | some j=>if listed.getD j false=true then V j else ρ t
 | none=>ρ t
theorem sC {ops:Array Oper} {mask:List Nat} {m:Nat} (D:DrawOk ops mask m) (ρ:EA) (V:Nat→Value) (t:Nat):∀ k,k≤m →
  pB ops ρ V k t=match iD ops m t with
   | some j=>if j<k then V j else ρ t
   | none=>ρ t
 | 0,_=>by
  simp only [pB]
  split<;>simp
 | k+1,hk=>by
  simp only [pB]
  have ih:=sC D ρ V t k (by omega)
  cases hd:(ops[k]?).bind (·.dst) with
  | none =>
   simp only [XA,ih]
   split
   ·rename_i j hj
    have:=(BB hj).2
    have hne:j≠k:=fun e=>by rw [e,hd] at this; cases this
    by_cases h1:j<k
    ·rw [if_pos h1,if_pos (by omega)]
    ·rw [if_neg h1,if_neg (by omega)]
   ·rfl
  | some d =>
   simp only [XA]
   by_cases ht:t=d
   ·subst ht
    rw [oE,qF D (by omega) hd]
    simp
   ·rw [oH _ _ ht,ih]
    split
    ·rename_i j hj
     have:=(BB hj).2
     have hne:j≠k:=fun e=>by rw [e,hd] at this; exact ht (Option.some.inj this).symm
     by_cases h1:j<k
     ·rw [if_pos h1,if_pos (by omega)]
     ·rw [if_neg h1,if_neg (by omega)]
    ·rfl
theorem mE {listed:Array Bool} {i:Nat} (h:i<listed.size):(listed.setIfInBounds i true).getD i false=true:=by simp [h]
theorem KE {listed:Array Bool} {i:Nat} (h:i<listed.size):listed.getD i true=listed.getD i false:=by simp [h]
theorem oJ:∀ (l:List Bool) (i:Nat),l[i]?=some false→(l.set i true).count false+1=l.count false
 | [],i,h=>by simp at h
 | x::l,0,h=>by simp at h; subst h; simp
 | x::l,i+1,h=>by
  simp only [List.getElem?_cons_succ] at h
  have:=oJ l i h
  simp only [List.set_cons_succ,List.count_cons]
  omega
section
variable {P:Program} {n:Nat} {ops:Array Oper} {Q:Exit→Act→World→Prop} {C:World→Prop} {R:World→World→Prop} {mask:List Nat} {K:List (Option yJ)} {ρ:EA} {m:Nat}
def dH (ops:Array Oper) (mask:List Nat) (listed:Array Bool):Prop:=∀ j,listed.getD j false=true→∀ k,k<ops.size→fC mask j k=true→listed.getD k false=true
theorem rD (D:DrawOk ops mask m) {listed:Array Bool} (hc:dH ops mask listed) {i:Nat} (hr:i∈Region.ready .any ops listed) :
  i<ops.size∧listed.getD i true=false∧∀ k,k<ops.size→fC mask i k=true→listed.getD k false=true:=by
 obtain ⟨h0,o,ho,h1⟩:=mem_ready.1 hr
 have hi:i<ops.size:=(Array.getElem?_eq_some_iff.1 ho).1
 refine ⟨hi,h0,fun k hk ha=>?_⟩
 obtain ⟨_,o',ho',e,he,hb,h⟩:=D.up i k hi hk ha
 rw [ho] at ho'; cases ho'
 have hl:=h1 e he hb
 rcases h with rfl | h
 ·exact hl
 ·exact hc _ hl k hk h
theorem BH (D:DrawOk ops mask m) {listed:Array Bool} (hc:dH ops mask listed) {i:Nat} (hr:i∈Region.ready .any ops listed):dH ops mask (listed.setIfInBounds i true):=by
 intro j hj k hk ha
 obtain ⟨_,_,h⟩:=rD D hc hr
 by_cases e:i=j
 ·subst e; exact getD_set_true (h k hk ha)
 ·rw [getD_set_ne false e] at hj
  exact getD_set_true (hc j hj k hk ha)
theorem qL (D:DrawOk ops mask m):∀ (l:List Oper) (k:Nat) (listed:Array Bool) (a:Act) (w:World),m≤k→(∀ j:Nat,l[j]?=ops[k+j]?)→listed.size=ops.size→dH ops mask listed →
  (∀ j,j<ops.size→(listed.getD j false=true↔j<k))→wpList P ops Q l a w→wpAny P .any ops Q l.length listed a w
 | [],k,listed,a,w,hk,hl,hs,hc,hL,h=>by
  have hn:ops.size≤k:=by
   have:=hl 0
   simp only [List.getElem?_nil,Nat.add_zero] at this
   rcases Nat.lt_or_ge k ops.size with h' | h'
   ·rw [Array.getElem?_eq_getElem h'] at this; cases this
   ·exact h'
  refine ⟨?_,h⟩
  cases hr:Region.ready .any ops listed with
  | nil=>rfl
  | cons i r =>
   have hi:i∈Region.ready .any ops listed:=by rw [hr]; simp
   obtain ⟨h1,h2,_⟩:=rD D hc hi
   have:=(hL i h1).2 (by omega)
   rw [KE (by omega)] at h2
   rw [this] at h2; cases h2
 | o::l,k,listed,a,w,hk,hl,hs,hc,hL,h=>by
  have hok:ops[k]?=some o:=by simpa using (hl 0).symm
  have hkn:k<ops.size:=(Array.getElem?_eq_some_iff.1 hok).1
  have only:∀ i,i∈Region.ready .any ops listed→i=k:=by
   intro i hi
   obtain ⟨h1,h2,h3⟩:=rD D hc hi
   rcases Nat.lt_trichotomy i k with e | e | e
   ·have:=(hL i h1).2 e
    rw [KE (by omega),this] at h2; cases h2
   ·exact e
   ·have:=h3 k hkn (D.tail i k (by omega) h1 e)
    have:=(hL k hkn).1 this
    omega
  have hin:k∈Region.ready .any ops listed:=by
   refine mem_ready.2 ⟨?_,o,hok,fun e he hb=>?_⟩
   ·rw [KE (by omega)]
    cases hx:listed.getD k false with
    | false=>rfl
    | true=>have:=(hL k hkn).1 hx; omega
   ·have:=D.edges k o hok e he hb
    exact (hL e.on (by omega)).2 this
  refine ⟨fun h0=>(by rw [h0] at hin; cases hin),fun i hi=>?_⟩
  obtain rfl:=only i hi
  have hstep:wpOp P ops Q i (wpList P ops Q l) a w:=by
   unfold wpOp; simp only [hok]
   unfold wpList at h
   exact h
  refine wpOp_mono (fun a' w' h'=>?_) hstep
  refine qL D l (i+1) _ a' w' (by omega) (fun j=>by have:=hl (j+1); simpa [Nat.add_assoc,Nat.add_comm 1 j] using this) (by simpa using hs) (BH D hc hi) ?_ h'
  intro j hj
  by_cases e:i=j
  ·subst e; simp only [mE (show i<listed.size by omega)]; simp
  ·rw [getD_set_ne false e,hL j hj]; omega
theorem any_fam (D:DrawOk ops mask m) (hK:K.length=m) (e:Nat→Value)
  (hCR:∀ w w',C w→R w w'→C w')
  (hT:∀ (i:Nat) (T:yJ),K[i]?=some (some T)→(∀ r u w w',C w→R w w'→T r u w→T r u w')∧∀ r r' u w,(∀ j,j<m→fC mask i j=true→r j=r' j)→T r u w→T r' u w)
  (hob:∀ (j:Nat) (o:Oper),j<m→ops[j]?=some o→Ob P n ops C R mask K ρ e j o)
  (hfin:∀ r w',C w'→fP K r w'→wpList P ops Q (ops.toList.drop m) (St n (pB ops ρ (yC K e r) m)) w') :
  ∀ (fuel:Nat) (listed:Array Bool) (w:World) (r:EA),listed.size=ops.size→listed.toList.count false=fuel→dH ops mask listed →
   (∀ j,m≤j→listed.getD j false=false)→C w→(∀ (j:Nat) (T:yJ),K[j]?=some (some T)→listed.getD j false=true→T r (r j) w) →
   wpAny P .any ops Q fuel listed (St n (JB ops m ρ (yC K e r) listed)) w:=by
 have hsel:=Region.noSelect_spec D.nosel
 intro fuel
 induction fuel with
 | zero =>
  intro listed w r hs hcnt hcl hm hC hF
  -- all are listed: then there is nothing behind the first ones
  have hall:∀ j,j<ops.size→listed.getD j false=true:=by
   intro j hj
   cases hx:listed.getD j false with
   | true=>rfl
   | false =>
    have:false∈listed.toList:=by
     have hj':j<listed.size:=by omega
     have:listed[j]=false:=by simpa [hj'] using hx
     rw [← this]; simp
    have:=List.count_pos_iff.2 this
    omega
  have hmn:m=ops.size:=by
   have h1:=D.hm
   rcases Nat.eq_or_lt_of_le h1 with h | h
   ·exact h
   ·have:=hall m h; rw [hm m (Nat.le_refl _)] at this; cases this
  have hfr:St n (JB ops m ρ (yC K e r) listed)=St n (pB ops ρ (yC K e r) m):=OG fun t _=>by
   rw [sC D ρ _ t m (Nat.le_refl _)]
   unfold JB
   split
   ·rename_i j hj
    have:=(BB hj).1
    rw [if_pos (hall j (by omega)),if_pos this]
   ·rfl
  rw [hfr]
  have h:=hfin r w hC fun j T hj=>hF j T hj (hall j (by
   have:j<K.length:=(List.getElem?_eq_some_iff.1 hj).1
   omega))
  have:ops.toList.drop m=[]:=by rw [List.drop_eq_nil_iff]; simp; omega
  rw [this] at h
  refine ⟨?_,h⟩
  cases hr:Region.ready .any ops listed with
  | nil=>rfl
  | cons i _ =>
   have hi:i∈Region.ready .any ops listed:=by rw [hr]; simp
   obtain ⟨h1,h2,_⟩:=rD D hcl hi
   rw [KE (by omega),hall i h1] at h2; cases h2
 | succ fuel ih =>
  intro listed w r hs hcnt hcl hm hC hF
  by_cases hpre:∀ j,j<m→listed.getD j false=true
  ·-- all the first ones are there: the rest, in the order of the text
   have hfr:St n (JB ops m ρ (yC K e r) listed)=St n (pB ops ρ (yC K e r) m):=OG fun t _=>by
    rw [sC D ρ _ t m (Nat.le_refl _)]
    unfold JB
    split
    ·rename_i j hj
     have:=(BB hj).1
     rw [if_pos (hpre j this),if_pos this]
    ·rfl
   rw [hfr]
   have h:=hfin r w hC fun j T hj=>hF j T hj (hpre j (by
    have:j<K.length:=(List.getElem?_eq_some_iff.1 hj).1
    omega))
   have hlen:(ops.toList.drop m).length=fuel+1:=by
    have hl:listed.toList=List.replicate m true++List.replicate (ops.size-m) false:=by
     have hm':=D.hm
     apply List.ext_getElem?
     intro j
     rcases Nat.lt_or_ge j m with h1 | h1
     ·rw [List.getElem?_append_left (by simpa using h1)]
      have:=hpre j h1
      have hj':j<listed.size:=by omega
      simp [hj',h1] at this ⊢; exact this
     ·rw [List.getElem?_append_right (by simpa using h1)]
      rcases Nat.lt_or_ge j ops.size with h2 | h2
      ·have:=hm j h1
       have hj':j<listed.size:=by omega
       have h3:j-m<ops.size-m:=by omega
       simp [hj',h3] at this ⊢; exact this
      ·rw [List.getElem?_eq_none (by simp; omega),List.getElem?_eq_none (by simp; omega)]
    rw [hl] at hcnt
    simp [List.count_append,List.count_replicate] at hcnt
    simp; omega
   rw [← hlen]
   exact qL D _ m listed _ w (Nat.le_refl _) (fun j=>by simp) hs hcl (fun j hj=>⟨fun hx=>Nat.lt_of_not_le fun h1=>(by rw [hm j h1] at hx; cases hx),hpre j⟩) h
  ·-- one of the first ones comes next
   have only:∀ i,i∈Region.ready .any ops listed→i<m:=by
    intro i hi
    obtain ⟨h1,_,h3⟩:=rD D hcl hi
    rcases Nat.lt_or_ge i m with h | h
    ·exact h
    ·exact absurd (fun j hj=>h3 j (by have:=D.hm; omega) (D.tail i j h h1 (by omega))) hpre
   have some':∃ i,i∈Region.ready .any ops listed:=by
    have hex:∃ j,j<m∧listed.getD j false=false:=by
     rcases Classical.em (∃ j,j<m∧listed.getD j false=false) with h | h
     ·exact h
     ·exact absurd (fun j hj=>by
       cases hx:listed.getD j false with
       | true=>rfl
       | false=>exact absurd ⟨j,hj,hx⟩ h) hpre
    -- the least one
    have least:∀ j,j<m→listed.getD j false=false→∃ i,i<m∧listed.getD i false=false∧∀ k,k<i→listed.getD k false=true:=by
     intro j
     induction j using Nat.strongRecOn with
     | _ j ihj =>
      intro h1 h2
      rcases Classical.em (∃ k,k<j∧listed.getD k false=false) with ⟨k,hk,hk'⟩ | h
      ·exact ihj k hk (by omega) hk'
      ·exact ⟨j,h1,h2,fun k hk=>by
        cases hx:listed.getD k false with
        | true=>rfl
        | false=>exact absurd ⟨k,hk,hx⟩ h⟩
    obtain ⟨j,h1,h2⟩:=hex
    obtain ⟨i,h3,h4,h5⟩:=least j h1 h2
    have hi:i<ops.size:=by have:=D.hm; omega
    refine ⟨i,mem_ready.2 ⟨by rw [KE (by omega)]; exact h4,ops[i],Array.getElem?_eq_getElem hi,fun e he hb=>h5 e.on (D.edges i _ (Array.getElem?_eq_getElem hi) e he hb)⟩⟩
   refine ⟨fun h0=>(by obtain ⟨i,hi⟩:=some'; rw [h0] at hi; cases hi),fun i hi=>?_⟩
   have him:=only i hi
   obtain ⟨hin,hun,hanc⟩:=rD D hcl hi
   have hun':listed.getD i false=false:=by rw [← KE (by omega)]; exact hun
   have hoi:ops[i]?=some ops[i]:=Array.getElem?_eq_getElem hin
   have hil:i<listed.size:=by omega
   have facts:WR mask K r i w:=fun j T hj ha=>hF j T hj (hanc j (by
    have h1:j<K.length:=(List.getElem?_eq_some_iff.1 hj).1
    have:=D.hm; omega) ha)
   have hg:=hob i _ him hoi r w hC facts
   have hg':Gives P n ops (JB ops m ρ (yC K e r) listed) ops[i] w fun u w'=>(∀ T:yJ,K[i]?=some (some T)→T r u w')∧(K[i]?=some none→u=e i)∧R w w':=by
    refine hg.congr (fun cs b=>hsel i _ cs b hoi) fun t ht=>?_
    rw [sC D ρ _ t i (by omega)]
    unfold JB
    split
    ·rename_i j hj
     rcases D.reads i _ him hoi t ht j hj with rfl | ⟨h1,h2⟩ | ⟨h1,h2⟩
     ·rw [if_neg (by omega),if_neg (by rw [hun']; simp)]
     ·rw [if_pos h1,if_pos (hanc j (by omega) h2)]
     ·rw [if_neg (by omega)]
      rw [if_neg]
      intro hx
      have:=hcl j hx i hin h2
      rw [hun'] at this; cases this
    ·rfl
   refine hg'.wpOp hoi fun u w' ⟨h1,h2,h3⟩=>?_
   -- the values behind this operation
   let r':EA:=fun j=>if j=i then u else r j
   have hr':∀ j,j≠i→r' j=r j:=fun j hj=>if_neg hj
   have hri:r' i=u:=if_pos rfl
   have hKi:∃ x,K[i]?=some x:=⟨_,List.getElem?_eq_getElem (by omega)⟩
   have hval:∀ j,j≠i→yC K e r' j=yC K e r j:=by
    intro j hj
    unfold yC
    split
    ·exact hr' j hj
    ·rfl
   have hvi:yC K e r' i=u:=by
    obtain ⟨x,hx⟩:=hKi
    cases x with
    | none=>simp only [yC,hx]; exact (h2 hx).symm
    | some T=>simp only [yC,hx]; exact hri
   have hframe:St n (XA (JB ops m ρ (yC K e r) listed) (ops[i]).dst u)=St n (JB ops m ρ (yC K e r') (listed.setIfInBounds i true)):=by
    refine OG fun t _=>?_
    have hbind:(ops[i]?).bind (·.dst)=(ops[i]).dst:=by rw [hoi]; rfl
    cases hd:(ops[i]).dst with
    | none =>
     simp only [XA]
     unfold JB
     split
     ·rename_i j hj
      have hne:j≠i:=fun e=>by have:=(BB hj).2; rw [e,hbind,hd] at this; cases this
      rw [getD_set_ne false (Ne.symm hne),hval j hne]
     ·rfl
    | some dd =>
     simp only [XA]
     by_cases ht:t=dd
     ·subst ht
      rw [oE]
      unfold JB
      rw [qF D him (by rw [hbind,hd])]
      simp only [mE hil,if_true,hvi]
     ·rw [oH _ _ ht]
      unfold JB
      split
      ·rename_i j hj
       have hne:j≠i:=fun e=>by have:=(BB hj).2; rw [e,hbind,hd] at this; exact ht (Option.some.inj this).symm
       rw [getD_set_ne false (Ne.symm hne),hval j hne]
      ·rfl
   rw [hframe]
   refine ih _ w' r' (by simpa using hs) ?_ (BH D hcl hi) ?_ (hCR w w' hC h3) ?_
   ·rw [Array.toList_setIfInBounds]
    have:=oJ listed.toList i (by
     have:listed[i]=false:=by simpa [hil] using hun'
     simp [hil,this])
    omega
   ·intro j hj
    rw [getD_set_ne false (by omega)]; exact hm j hj
   ·intro j T hj hx
    by_cases hji:j=i
    ·subst hji
     have h:=(hT j T hj).2 r r' u w' (fun k hk ha=>(hr' k (fun e=>by
      have:=(D.up j k hin (by have:=D.hm; omega) ha).1; omega)).symm) (h1 T hj)
     rw [hri]; exact h
    ·rw [getD_set_ne false (fun e=>hji e.symm)] at hx
     have h:=(hT j T hj).1 r (r j) w w' hC h3 (hF j T hj hx)
     have h:=(hT j T hj).2 r r' (r j) w' (fun k hk ha=>(hr' k (fun ek=>by
      subst ek
      have:=hcl j hx k hin ha
      rw [hun'] at this; cases this)).symm) h
     rw [hr' j hji]; exact h
theorem GB {id:Nat} {l:List Oper} {w:World} (K:List (Option yJ)) (mask:List Nat) (C:World→Prop) (R:World→World→Prop) (hmix:P.follows .mixedOrders=true) (hB:kH l.toArray mask K.length=true)
  (hC:C { w with drawn:=w.drawn+1 }) (hCR:∀ w w',C w→R w w'→C w')
  (hT:∀ (i:Nat) (T:yJ),K[i]?=some (some T)→(∀ r u w w',C w→R w w'→T r u w→T r u w')∧∀ r r' u w,(∀ j,j<K.length→fC mask i j=true→r j=r' j)→T r u w→T r' u w)
  (h:Walk P n l.toArray C R mask K (fun ρ'=>∀ r w',C w'→fP K r w'→W P n l.toArray Q (l.drop K.length) (ρ' r) w') 0 K l fun _=>ρ) :
  (Code.region id l.toArray true).wp P Q (St n ρ) w:=by
 have D:=DrawOk.of hB
 obtain ⟨e,_,h2,_,h4⟩:=Walk.out (ops:=l.toArray) (ρ:=ρ) K l 0 (fun _=>ρ) (fun _=>undef) (fun j=>by simp) (fun j=>by simp) (fun r=>rfl) h
 simp only [Nat.zero_add] at h2 h4
 refine wp_region_any hmix ?_
 have hrep:∀ j,(Array.replicate l.toArray.size false).getD j false=false:=fun j=>by
  simp only [Array.getD_eq_getD_getElem?,Array.getElem?_replicate]
  split<;>rfl
 have h:=any_fam (Q:=Q) (ρ:=ρ) (C:=C) D rfl e hCR hT (fun j o hj ho=>h2 j o (Nat.zero_le _) hj ho) (fun r w' hC' hF=>(h4 r w' hC' hF).out)
  l.toArray.size (Array.replicate l.toArray.size false) { w with drawn:=w.drawn+1 } (fun _=>undef) (by simp) (by simp) (fun j hj=>by rw [hrep] at hj; cases hj) (fun j _=>hrep j) hC (fun j T _ hj=>by rw [hrep] at hj; cases hj)
 have hf:St n (JB l.toArray K.length ρ (yC K e fun _=>undef) (Array.replicate l.toArray.size false))=St n ρ:=OG fun t _=>by
  unfold JB
  split
  ·rw [hrep]; simp
  ·rfl
 rw [hf] at h
 exact h
end
end Go.Proofs.YtljlkhobfdofhaaGreatDoor.Vc
namespace Go.Proofs.YtljlkhobfdofhaaGreatDoor.Vc
open Go
section
variable {P:Program} {n:Nat} {ops:Array Oper} {Q:Exit→Act→World→Prop} {mask:List Nat} {ρ:EA} {m:Nat}
def ObI (P:Program) (n:Nat) (ops:Array Oper) (I:(Nat→Bool)→EA→World→Prop) (mask:List Nat) (ρ:EA) (j:Nat) (o:Oper):Prop :=
 ∀ L r w,L j=false→(∀ k,k<j→fC mask j k=true→L k=true)→I L r w→Gives P n ops (pB ops ρ r j) o w fun u w'=>I (fun k=>k == j || L k) (fun k=>if k=j then u else r k) w'
def WalkI (P:Program) (n:Nat) (ops:Array Oper) (I:(Nat→Bool)→EA→World→Prop) (mask:List Nat) (Fin:(EA→EA)→Prop):Nat→Nat→List Oper→(EA→EA)→Prop
 | _,0,_,ρ=>Fin ρ
 | i,k+1,o::l,ρ=>(∀ L r w,L i=false→(∀ k,k<i→fC mask i k=true→L k=true)→I L r w→Gives P n ops (ρ r) o w fun u w'=>I (fun k=>k == i || L k) (fun k=>if k=i then u else r k) w') ∧
   WalkI P n ops I mask Fin (i+1) k l fun r=>XA (ρ r) o.dst (r i)
 | _,_+1,[],_=>False
theorem WalkI.out {I:(Nat→Bool)→EA→World→Prop} {Fin:(EA→EA)→Prop}:∀ (k:Nat) (l:List Oper) (i:Nat) (ρ':EA→EA),(∀ j:Nat,l[j]?=ops[i+j]?)→(∀ r,ρ' r=pB ops ρ r i)→WalkI P n ops I mask Fin i k l ρ' →
  (∀ (j:Nat) (o:Oper),i≤j→j<i+k→ops[j]?=some o→ObI P n ops I mask ρ j o)∧Fin fun r=>pB ops ρ r (i+k)
 | 0,l,i,ρ',hl,hρ,h=>by
  refine ⟨fun j o h1 h2=>by omega,?_⟩
  have:(fun r=>pB ops ρ r (i+0))=ρ':=by funext r; rw [hρ r]; rfl
  rw [this]
  cases l<;>exact h
 | k+1,[],i,ρ',hl,hρ,h=>h.elim
 | k+1,o::l,i,ρ',hl,hρ,h=>by
  have hoi:ops[i]?=some o:=by simpa using (hl 0).symm
  have hl':∀ j:Nat,l[j]?=ops[i+1+j]?:=fun j=>by have:=hl (j+1); simpa [Nat.add_assoc,Nat.add_comm 1 j] using this
  obtain ⟨h1,h2⟩:=h
  obtain ⟨h3,h4⟩:=WalkI.out k l (i+1) (fun r=>XA (ρ' r) o.dst (r i)) hl' (fun r=>by
   simp only [pB,hoi,Option.bind_some]
   rw [hρ r]) h2
  refine ⟨fun j o' hj1 hj2 hoj=>?_,by simpa [Nat.add_assoc,Nat.add_comm 1] using h4⟩
  rcases Nat.eq_or_lt_of_le hj1 with rfl | hlt
  ·rw [hoi] at hoj; cases hoj
   intro L r w hL hA hI
   have:=h1 L r w hL hA hI
   rwa [hρ r] at this
  ·exact h3 j o' (by omega) (by omega) hoj
theorem bP (D:DrawOk ops mask m) (I:(Nat→Bool)→EA→World→Prop)
  (hob:∀ (j:Nat) (o:Oper),j<m→ops[j]?=some o→ObI P n ops I mask ρ j o)
  (hfin:∀ L r w',(∀ j,j<m→L j=true)→I L r w'→wpList P ops Q (ops.toList.drop m) (St n (pB ops ρ r m)) w') :
  ∀ (fuel:Nat) (listed:Array Bool) (w:World) (r:EA),listed.size=ops.size→listed.toList.count false=fuel→dH ops mask listed →
   (∀ j,m≤j→listed.getD j false=false)→I (fun j=>listed.getD j false) r w →
   wpAny P .any ops Q fuel listed (St n (JB ops m ρ r listed)) w:=by
 have hsel:=Region.noSelect_spec D.nosel
 intro fuel
 induction fuel with
 | zero =>
  intro listed w r hs hcnt hcl hm hI
  -- all are listed: then there is nothing behind the first ones
  have hall:∀ j,j<ops.size→listed.getD j false=true:=by
   intro j hj
   cases hx:listed.getD j false with
   | true=>rfl
   | false =>
    have:false∈listed.toList:=by
     have hj':j<listed.size:=by omega
     have:listed[j]=false:=by simpa [hj'] using hx
     rw [← this]; simp
    have:=List.count_pos_iff.2 this
    omega
  have hmn:m=ops.size:=by
   have h1:=D.hm
   rcases Nat.eq_or_lt_of_le h1 with h | h
   ·exact h
   ·have:=hall m h; rw [hm m (Nat.le_refl _)] at this; cases this
  have hfr:St n (JB ops m ρ r listed)=St n (pB ops ρ r m):=OG fun t _=>by
   rw [sC D ρ _ t m (Nat.le_refl _)]
   unfold JB
   split
   ·rename_i j hj
    have:=(BB hj).1
    rw [if_pos (hall j (by omega)),if_pos this]
   ·rfl
  rw [hfr]
  have h:=hfin _ r w (fun j hj=>hall j (by omega)) hI
  have:ops.toList.drop m=[]:=by rw [List.drop_eq_nil_iff]; simp; omega
  rw [this] at h
  refine ⟨?_,h⟩
  cases hr:Region.ready .any ops listed with
  | nil=>rfl
  | cons i _ =>
   have hi:i∈Region.ready .any ops listed:=by rw [hr]; simp
   obtain ⟨h1,h2,_⟩:=rD D hcl hi
   rw [KE (by omega),hall i h1] at h2; cases h2
 | succ fuel ih =>
  intro listed w r hs hcnt hcl hm hI
  by_cases hpre:∀ j,j<m→listed.getD j false=true
  ·-- all the first ones are there: the rest, in the order of the text
   have hfr:St n (JB ops m ρ r listed)=St n (pB ops ρ r m):=OG fun t _=>by
    rw [sC D ρ _ t m (Nat.le_refl _)]
    unfold JB
    split
    ·rename_i j hj
     have:=(BB hj).1
     rw [if_pos (hpre j this),if_pos this]
    ·rfl
   rw [hfr]
   have h:=hfin _ r w hpre hI
   have hlen:(ops.toList.drop m).length=fuel+1:=by
    have hl:listed.toList=List.replicate m true++List.replicate (ops.size-m) false:=by
     have hm':=D.hm
     apply List.ext_getElem?
     intro j
     rcases Nat.lt_or_ge j m with h1 | h1
     ·rw [List.getElem?_append_left (by simpa using h1)]
      have:=hpre j h1
      have hj':j<listed.size:=by omega
      simp [hj',h1] at this ⊢; exact this
     ·rw [List.getElem?_append_right (by simpa using h1)]
      rcases Nat.lt_or_ge j ops.size with h2 | h2
      ·have:=hm j h1
       have hj':j<listed.size:=by omega
       have h3:j-m<ops.size-m:=by omega
       simp [hj',h3] at this ⊢; exact this
      ·rw [List.getElem?_eq_none (by simp; omega),List.getElem?_eq_none (by simp; omega)]
    rw [hl] at hcnt
    simp [List.count_append,List.count_replicate] at hcnt
    simp; omega
   rw [← hlen]
   exact qL D _ m listed _ w (Nat.le_refl _) (fun j=>by simp) hs hcl (fun j hj=>⟨fun hx=>Nat.lt_of_not_le fun h1=>(by rw [hm j h1] at hx; cases hx),hpre j⟩) h
  ·-- one of the first ones comes next
   have only:∀ i,i∈Region.ready .any ops listed→i<m:=by
    intro i hi
    obtain ⟨h1,_,h3⟩:=rD D hcl hi
    rcases Nat.lt_or_ge i m with h | h
    ·exact h
    ·exact absurd (fun j hj=>h3 j (by have:=D.hm; omega) (D.tail i j h h1 (by omega))) hpre
   have some':∃ i,i∈Region.ready .any ops listed:=by
    have hex:∃ j,j<m∧listed.getD j false=false:=by
     rcases Classical.em (∃ j,j<m∧listed.getD j false=false) with h | h
     ·exact h
     ·exact absurd (fun j hj=>by
       cases hx:listed.getD j false with
       | true=>rfl
       | false=>exact absurd ⟨j,hj,hx⟩ h) hpre
    -- the least one
    have least:∀ j,j<m→listed.getD j false=false→∃ i,i<m∧listed.getD i false=false∧∀ k,k<i→listed.getD k false=true:=by
     intro j
     induction j using Nat.strongRecOn with
     | _ j ihj =>
      intro h1 h2
      rcases Classical.em (∃ k,k<j∧listed.getD k false=false) with ⟨k,hk,hk'⟩ | h
      ·exact ihj k hk (by omega) hk'
      ·exact ⟨j,h1,h2,fun k hk=>by
        cases hx:listed.getD k false with
        | true=>rfl
        | false=>exact absurd ⟨k,hk,hx⟩ h⟩
    obtain ⟨j,h1,h2⟩:=hex
    obtain ⟨i,h3,h4,h5⟩:=least j h1 h2
    have hi:i<ops.size:=by have:=D.hm; omega
    refine ⟨i,mem_ready.2 ⟨by rw [KE (by omega)]; exact h4,ops[i],Array.getElem?_eq_getElem hi,fun e he hb=>h5 e.on (D.edges i _ (Array.getElem?_eq_getElem hi) e he hb)⟩⟩
   refine ⟨fun h0=>(by obtain ⟨i,hi⟩:=some'; rw [h0] at hi; cases hi),fun i hi=>?_⟩
   have him:=only i hi
   obtain ⟨hin,hun,hanc⟩:=rD D hcl hi
   have hun':listed.getD i false=false:=by rw [← KE (by omega)]; exact hun
   have hoi:ops[i]?=some ops[i]:=Array.getElem?_eq_getElem hin
   have hil:i<listed.size:=by omega
   have hg:=hob i _ him hoi _ r w hun' (fun k hk ha=>hanc k (by omega) ha) hI
   have hg':Gives P n ops (JB ops m ρ r listed) ops[i] w fun u w'=>I (fun k=>k == i || listed.getD k false) (fun k=>if k=i then u else r k) w':=by
    refine hg.congr (fun cs b=>hsel i _ cs b hoi) fun t ht=>?_
    rw [sC D ρ _ t i (by omega)]
    unfold JB
    split
    ·rename_i j hj
     rcases D.reads i _ him hoi t ht j hj with rfl | ⟨h1,h2⟩ | ⟨h1,h2⟩
     ·rw [if_neg (by omega),if_neg (by rw [hun']; simp)]
     ·rw [if_pos h1,if_pos (hanc j (by omega) h2)]
     ·rw [if_neg (by omega)]
      rw [if_neg]
      intro hx
      have:=hcl j hx i hin h2
      rw [hun'] at this; cases this
    ·rfl
   refine hg'.wpOp hoi fun u w' h1=>?_
   -- the values behind this operation
   let r':EA:=fun j=>if j=i then u else r j
   have hr':∀ j,j≠i→r' j=r j:=fun j hj=>if_neg hj
   have hri:r' i=u:=if_pos rfl
   have hframe:St n (XA (JB ops m ρ r listed) (ops[i]).dst u)=St n (JB ops m ρ r' (listed.setIfInBounds i true)):=by
    refine OG fun t _=>?_
    have hbind:(ops[i]?).bind (·.dst)=(ops[i]).dst:=by rw [hoi]; rfl
    cases hd:(ops[i]).dst with
    | none =>
     simp only [XA]
     unfold JB
     split
     ·rename_i j hj
      have hne:j≠i:=fun e=>by have:=(BB hj).2; rw [e,hbind,hd] at this; cases this
      rw [getD_set_ne false (Ne.symm hne),hr' j hne]
     ·rfl
    | some dd =>
     simp only [XA]
     by_cases ht:t=dd
     ·subst ht
      rw [oE]
      unfold JB
      rw [qF D him (by rw [hbind,hd])]
      simp only [mE hil,if_true,hri]
     ·rw [oH _ _ ht]
      unfold JB
      split
      ·rename_i j hj
       have hne:j≠i:=fun e=>by have:=(BB hj).2; rw [e,hbind,hd] at this; exact ht (Option.some.inj this).symm
       rw [getD_set_ne false (Ne.symm hne),hr' j hne]
      ·rfl
   rw [hframe]
   refine ih _ w' r' (by simpa using hs) ?_ (BH D hcl hi) ?_ ?_
   ·rw [Array.toList_setIfInBounds]
    have:=oJ listed.toList i (by
     have:listed[i]=false:=by simpa [hil] using hun'
     simp [hil,this])
    omega
   ·intro j hj
    rw [getD_set_ne false (by omega)]; exact hm j hj
   ·have e:(fun j=>(listed.setIfInBounds i true).getD j false)=fun k=>k == i || listed.getD k false:=by
     funext k
     by_cases hk:k=i
     ·subst hk; rw [mE hil]; simp
     ·rw [getD_set_ne false (fun e=>hk e.symm)]; simp [hk]
    rw [e]; exact h1
end
end Go.Proofs.YtljlkhobfdofhaaGreatDoor.Vc
namespace Go.Proofs.YtljlkhobfdofhaaGreatDoor.Vc
open Go
abbrev tQ (R:Value→World→Prop):Ending→World→Prop:=fun e w'=>∃ v,e=.returned v∧R v w'
theorem LB {m:Nat} {mask:List Nat} {K:List (Option yJ)} {C:World→Prop} {R:World→World→Prop} (h:(K.all fun x=>x.isNone)=true) :
  ∀ (i:Nat) (T:yJ),K[i]?=some (some T)→(∀ r u w w',C w→R w w'→T r u w→T r u w')∧∀ r r' u w,(∀ j,j<m→fC mask i j=true→r j=r' j)→T r u w→T r' u w:=by
 intro i T hi
 have:=List.all_eq_true.1 h _ (List.mem_of_getElem? hi)
 cases this
section
variable {α:Type} {E:Enc α}
theorem f1 (hE:E.s=1) (a:α):E.f a=[(E.f a).getD 0 undef]:=by
 have:=E.len a
 rw [hE] at this
 match h:E.f a,this with
 | [x],_=>rfl
theorem cel1 (hE:E.s=1) (l:List α):xA E l=l.map fun a=>(E.f a).getD 0 undef:=by
 induction l with
 | nil=>rfl
 | cons a l ih=>rw [yE,ih,f1 hE a]; rfl
theorem eH (hE:E.s=1) (l:List α) (j:Nat) (a:α):sD (xA E l).toArray j (E.val a).cells.toList=(xA E (l.set j a)).toArray:=by
 have h1:=f1 hE a
 rw [show (E.val a).cells.toList=E.f a from rfl,h1]
 simp only [sD,List.setIfInBounds_toArray]
 rw [cel1 hE,cel1 hE,List.map_set]
theorem kD {l m:List α} (h:l.length=m.length):sD (xA E l).toArray 0 (Value.agg (xA E m).toArray).cells.toList=(xA E m).toArray:=by
 have:=CB [] (xA E l) (xA E m) [] (by rw [qA,qA,h])
 simpa [Value.cells] using this
theorem IB {l:List α} {k:Nat} (h:l.length*E.s=k):(Value.agg (xA E l).toArray).cells.size=k:=by
 show (xA E l).toArray.size=k
 rw [List.size_toArray,qA,h]
theorem jC (l:List α):∀ u∈(Value.agg (xA E l).toArray).cells.toList,u.oneCell'=true:=by
 intro u hu
 simp only [Value.cells,xA,List.mem_flatMap] at hu
 obtain ⟨a,_,ha⟩:=hu
 exact E.one a u ha
theorem LEq {l:List α} {k:Nat} (h:(xA E l).length=k):(xA E l).toArray.extract 0 (0+k)=(xA E l).toArray:=by
 subst h; simp
theorem bG (l:List α) (off k:Nat) (hE:E.s=1):(xA E l).toArray.extract off (off+k)=(xA E ((l.drop off).take k)).toArray:=by
 rw [cel1 hE,cel1 hE]
 simp only [List.extract_toArray,List.map_take,List.map_drop]
 congr 1
 simp [List.extract,Nat.add_sub_cancel_left]
theorem rB {l:List α} {j:Nat} {d:α} (h:j<l.length):l[j]?=some (l.getD j d):=by simp [h]
end
section
variable {P:Program} {n:Nat} {ρ:EA} {w:World} {d:Option Nat} {t T:TypeId} {pos:String} {after:Array Edge} {g:Option (Nat × Bool)} {x:Operand} {b:Nat} {X:TypeId} {fr:Nat × Nat}
theorem cA {f:FuncId} {as:List Operand} {ats:Array TypeId} {vs:LV} (hf:rA P f=true) (ha:as.map (ev n ρ)=vs) :
  Enters P n ρ ⟨d,.call ⟨.value (.func f),as.toArray,ats⟩,t,pos,after,g⟩ w f vs.toArray:=Enters.call hf (by simp [ha])
theorem nV {α:Type} {E:Enc α} {l:List α} {j m:Nat} {a:α} {e:TypeId} {kk:IntKind} {i:Int} {y:Operand} (hE:E.s=1) (hu:P.underlying T=some (.array m e)) (h1:QA P e=true) (hz:ZB P e=some 1)
  (hx:ev n ρ x=.agg (xA E l).toArray) (hy:ev n ρ y=.int kk i) (hi:i=(j:Int)) (hj:j<m) (ha:l[j]?=some a) (hv:∀ a,(E.val a).cells=#[E.val a]) :
  Runs P n ρ ⟨d,.index T x y,t,pos,after,g⟩ w (E.val a) w :=
 QN hu h1 hz hx hy hi hj (by
  have:=YG (E:=E) l j 0 a ha (by omega)
  rw [hE] at this
  simp only [List.getElem?_toArray]
  rw [show j*1=j*1+0 from rfl,this]
  simp [Enc.f,hv])
theorem fV {m z l h l' h' off:Nat} {kl kh:IntKind} {a b':Int} {lo hi:Operand} (ha:UD P T=some (m,z)) (hx:ev n ρ x=.pointer (some ⟨b,off,none⟩)) (hl:ev n ρ lo=.int kl a) (hh:ev n ρ hi=.int kh b')
  (el:a=(l:Int)) (eh:b'=(h:Int)) (h1:l≤h) (h2:h≤m) (h3:l<m) (e1:off+l*z=l') (e2:h-l=h') :
  Runs P n ρ ⟨d,.slice T x (some lo) (some hi) none,t,pos,after,g⟩ w (.slice (some ⟨b,l',none⟩) h' (m-l)) w:=by
 subst el eh e1 e2
 unfold UD at ha
 split at ha
 ·rename_i m' e hu
  simp only [Option.map_eq_some_iff,Prod.mk.injEq] at ha
  obtain ⟨z',hz,rfl,rfl⟩:=ha
  have c1:(0:Int)≤(h:Int)∧(h:Int)≤(m':Int):=by omega
  have c2:(0:Int)≤(l:Int)∧(l:Int)≤(h:Int):=by omega
  have b1:(Instr.sliceBounds false m' m' (some (.int kl l)) (some (.int kh h)) none).run P w=.ok (l,h,m') w:=by
   simp [Instr.sliceBounds,Instr.sliceBound,asIntOf,c1,c2,h2,h1]
  simp only [Runs,execOp,hx,hl,hh,Option.map_some,Option.map_none,Instr.sliceAt,Sem.run_bind,run_underlying hu,Result.andThen_ok,Instr.sureAddr,Sem.run_pure,b1,MC hz,Addr.add_lit]
  rw [if_neg (by omega)]
 ·cases ha
theorem rV {m z len cap:Nat} {a:Addr} (ha:UD P T=some (m,z)) (hx:ev n ρ x=.slice (some a) len cap) (h:m≤len) :
  Runs P n ρ ⟨d,.sliceToArrayPointer T x,t,pos,after,g⟩ w (.pointer (some a)) w:=by
 unfold UD at ha
 split at ha
 ·rename_i m' e hu
  simp only [Option.map_eq_some_iff,Prod.mk.injEq] at ha
  obtain ⟨z',hz,rfl,rfl⟩:=ha
  have:¬ len<m':=by omega
  simp [Runs,execOp,hx,Instr.arrayAt,run_underlying hu,this]
 ·cases ha
theorem fE {α:Type} {E:Enc α} {l:List α} {j:Nat} {a:α} (hF:pD P T E) (h:w.heap[b]?=some (.cells (xA E l).toArray X fr)) (hj:l[j]?=some a) (hE:E.s=1)
  (hx:ev n ρ x=.pointer (some ⟨b,j,none⟩)):Runs P n ρ ⟨d,.load T x,t,pos,after,g⟩ w (E.val a) w :=
 kV hF h hx fun i hi=>by
  have:=YG (E:=E) l j i a hj hi
  rw [hE,Nat.mul_one] at this
  simpa using this
end
theorem put0 {α:Type} {E:Enc α} {l m:List α} (h:m.length≤l.length):sD (xA E l).toArray 0 (Value.agg (xA E m).toArray).cells.toList=(xA E (m++l.drop m.length)).toArray:=by
 have e:xA E l=[]++xA E (l.take m.length)++xA E (l.drop m.length):=by rw [List.nil_append,← dB,List.take_append_drop]
 have:=CB [] (xA E (l.take m.length)) (xA E m) (xA E (l.drop m.length)) (by rw [qA,qA,List.length_take,Nat.min_eq_left h])
 rw [e]
 simpa [Value.cells,dB] using this
theorem relOne {m:Nat} {mask:List Nat} {K:List (Option yJ)} {C:World→Prop} {R:World→World→Prop} (i₀:Nat) (T₀:yJ) (h0:K[i₀]?=some (some T₀)) (h:((K.set i₀ none).all fun x=>x.isNone)=true)
  (h1:∀ r u w w',C w→R w w'→T₀ r u w→T₀ r u w') (h2:∀ r r' u w,(∀ j,j<m→fC mask i₀ j=true→r j=r' j)→T₀ r u w→T₀ r' u w) :
  ∀ (i:Nat) (T:yJ),K[i]?=some (some T)→(∀ r u w w',C w→R w w'→T r u w→T r u w')∧∀ r r' u w,(∀ j,j<m→fC mask i j=true→r j=r' j)→T r u w→T r' u w:=by
 intro i T hi
 by_cases e:i₀=i
 ·subst e; rw [h0] at hi; cases hi; exact ⟨h1,h2⟩
 ·have hi':(K.set i₀ none)[i]?=some (some T):=by rw [List.getElem?_set_ne e]; exact hi
  have:=List.all_eq_true.1 h _ (List.mem_of_getElem? hi')
  cases this
def FI (w₀:World) (o:Obj):yJ:=fun _ u w'=>∃ b,u=.pointer (some ⟨b,0,none⟩)∧w₀.heap.size≤b∧w'.heap[b]?=some o
theorem HJ {w₀:World} {o:Obj} {C:World→Prop}:∀ r u w w',C w→Ext w w'→FI w₀ o r u w→FI w₀ o r u w' :=
 fun _ _ _ _ _ h ⟨b,h1,h2,h3⟩=>⟨b,h1,h2,h.get h3⟩
theorem qQ {P:Program} {n:Nat} {ops:Array Oper} {ρ:EA} {w₀ w':World} {d:Option Nat} {t T:TypeId} {pos:String} {after:Array Edge} {z:Value} {o:Obj} {r:EA}
  (hz:YB P T=some z) (hc:Obj.cells z.cells T (0,0)=o) (hC:Ext w₀ w') :
  Gives P n ops ρ ⟨d,.alloc T,t,pos,after,none⟩ w' fun u w''=>FI w₀ o r u w''∧Ext w' w'':=by
 subst hc
 exact Gives.run rfl (Runs.alloc hz) ⟨⟨_,rfl,hC.size,PB _ _⟩,Ext.alloc _ _⟩
def vW (T a:Nat):Oper:=⟨none,.load T (.tmp a),0, "", #[],none⟩
def vL (P:Program) (n:Nat) (ρ:EA) (w:World):List ResultVar→LV→Prop
 | [],[]=>True
 | .tmp t::rs,v::vs=>(Nat.blt t n=true∧ρ t=v)∧vL P n ρ w rs vs
 | .cell a T::rs,v::vs=>Runs P n ρ (vW T a) w v w∧vL P n ρ w rs vs
 | _,_=>False
def CK:LV→Value
 | [v]=>v
 | vs=>.tuple vs.toArray
section
variable {P:Program} {n:Nat} {ρ:EA} {w:World}
theorem vM:∀ (rs:List ResultVar) (vs:LV),vL P n ρ w rs vs →
  (rs.mapM (fun (x:ResultVar)=>match x with
   | .tmp t=>(pure ((St n ρ).tmps.getD t undef):Sem Value)
   | .cell a t=>do loadVar t (← asAddr ((St n ρ).tmps.getD a undef)))).run P w=.ok vs w
 | [],[],_=>rfl
 | .tmp t::rs,v::vs,h=>by
  simp only [List.mapM_cons,Sem.run_bind,Sem.run_pure,Result.andThen_ok,vM rs vs h.2,II h.1.1,h.1.2]
 | .cell a T::rs,v::vs,h=>by
  have h1:=h.1
  have e:(St n ρ).tmps.getD a undef=ev n ρ (.tmp a):=by
   have:=congrFun (nE n ρ) (.tmp a)
   exact this
  simp only [Runs,vW,execOp,Instr.loadAt,Sem.run_bind] at h1
  have h2:((asAddr (ev n ρ (.tmp a))).run P w).andThen (fun ad w'=>(loadVar T ad).run P w')=.ok v w:=by
   cases hv:ev n ρ (.tmp a) with
   | pointer p =>
    cases p with
    | none=>rw [hv] at h1; simp [Instr.sureAddr] at h1
    | some ad =>
     rw [hv] at h1
     simp only [Instr.sureAddr,Sem.run_pure,Result.andThen_ok] at h1
     simp only [asAddr,Sem.run_pure,Result.andThen_ok]
     cases hr:(loadVar T ad).run P w with
     | ok x w'=>rw [hr] at h1; simp only [Result.andThen_ok] at h1; cases h1; rfl
     | halt x w'=>rw [hr] at h1; cases h1
   | _=>rw [hv] at h1; simp [Instr.sureAddr] at h1
  simp only [List.mapM_cons,Sem.run_bind,e,h2,Result.andThen_ok,vM rs vs h.2,Sem.run_pure]
 | [],_::_,h=>h.elim
 | .tmp _::_,[],h=>h.elim
 | .cell _ _::_,[],h=>h.elim
theorem uJ {fn:Func} {rs:List ResultVar} {vs:LV} (hr:fn.results=rs.toArray) (h:vL P n ρ w rs vs):(results fn (St n ρ).tmps).run P w=.ok (CK vs) w:=by
 have hm:=vM rs vs h
 have e:(results fn (St n ρ).tmps).run P w=((rs.mapM (fun (x:ResultVar)=>match x with
   | .tmp t=>(pure ((St n ρ).tmps.getD t undef):Sem Value)
   | .cell a t=>do loadVar t (← asAddr ((St n ρ).tmps.getD a undef)))).run P w).andThen fun l w'=>.ok (CK l) w':=by
  unfold results
  rw [hr,Array.mapM_eq_mapM_toList]
  simp only [Sem.run_bind,Sem.run_map]
  generalize (List.mapM _ _:Sem (LV)).run P w=r
  cases r with
  | halt x w'=>rfl
  | ok l w' =>
   simp only [Result.andThen_ok,Sem.run_pure]
   match l with
   | []=>rfl
   | [v]=>rfl
   | _::_::_=>simp [CK]
 rw [e,hm]; rfl
variable {fn:Func} {R:Ending→World→Prop} {rs:List ResultVar} {vs:LV}
theorem zP (hr:fn.results=rs.toArray) (h:vL P n ρ w rs vs) (hR:R (.returned (CK vs)) w):bodyPost P fn R .ret (St n ρ) w :=
 bodyPost_ret (uJ hr h) rfl hR
theorem endG (hr:fn.results=rs.toArray) (h:vL P n ρ w rs vs) (hR:R (.returned (CK vs)) w):bodyPost P fn R .normal (St n ρ) w :=
 bodyPost_end (uJ hr h) rfl hR
end
end Go.Proofs.YtljlkhobfdofhaaGreatDoor.Vc
