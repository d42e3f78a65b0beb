/- What the claim has need of: RvA, VcChain, VcPoset, VcPosE, VcTab, VcJoin, VcGv, VcPart, VcMoP, AesRefSpec, AesPlain, AesRefTab, AesRefPlain, TopW, VcOpen, VcOpenS. -/
import Derived.Test.YtljlkhobfdofhaaGreatDoorWv3
import Derived.Laws.IdiomStrings
import Derived.Laws.AppendOwn
import Derived.ProofKit
import Derived.OpenShut
import Derived.ShutString
import Derived.ChangeOld
import Derived.Deep.Slices
import Derived.SizedLaws
set_option linter.unusedVariables false
set_option maxHeartbeats 4000000
namespace Go.Proofs.YtljlkhobfdofhaaGreatDoor.Rv
open Go Vc
inductive D
 | d0 | d1 | d2 | d3
 deriving DecidableEq
structure N (α:Type) where
 f0:α
 f1:α
 f2:α
 f3:α
namespace N
variable {α R:Type}
noncomputable def get (d:D):N α→α:=D.rec f0 f1 f2 f3 d
noncomputable def s0 (n:N α) (v:α) (k:N α→R):R:=N.rec (fun a b c d=>k ⟨v,b,c,d⟩) n
noncomputable def s1 (n:N α) (v:α) (k:N α→R):R:=N.rec (fun a b c d=>k ⟨a,v,c,d⟩) n
noncomputable def s2 (n:N α) (v:α) (k:N α→R):R:=N.rec (fun a b c d=>k ⟨a,b,v,d⟩) n
noncomputable def s3 (n:N α) (v:α) (k:N α→R):R:=N.rec (fun a b c d=>k ⟨a,b,c,v⟩) n
noncomputable def RI (d:D):N α→α→(N α→R)→R:=D.rec s0 s1 s2 s3 d
noncomputable def set (d:D) (n:N α) (v:α):N α:=RI d n v fun n=>n
theorem VH (d:D) (n:N α) (v:α) (k:N α→R):RI d n v k=k (set d n v):=by cases d<;>rfl
theorem vI (d e:D) (n:N α) (v:α):get e (set d n v)=if e=d then v else get e n:=by cases d<;>cases e<;>rfl
def all (v:α):N α:=⟨v,v,v,v⟩
theorem get_all (d:D) (v:α):get d (all v)=v:=by cases d<;>rfl
end N
def dig (k:Nat):D:=match k with
 | 0=>.d0
 | 1=>.d1
 | 2=>.d2
 | _=>.d3
theorem cK (i j:Nat) (hi:i<4) (hj:j<4) (h:dig i=dig j):i=j:=by
 have key:∀ i:Fin 4,∀ j:Fin 4,dig i.val=dig j.val→i=j:=by decide
 exact congrArg Fin.val (key ⟨i,hi⟩ ⟨j,hj⟩ h)
structure P4 where
 a:D
 b:D
 c:D
 d:D
 deriving DecidableEq
structure Pa where
 a:P4
 b:P4
 deriving DecidableEq
abbrev T4 (α:Type):=N (N (N (N α)))
abbrev T8 (α:Type):=T4 (T4 (Option α))
def RN (t:Nat):P4:=⟨dig (Nat.div t 64),dig (Nat.mod (Nat.div t 16) 4),dig (Nat.mod (Nat.div t 4) 4),dig (Nat.mod t 4)⟩
theorem TQ (i j:Nat) (hi:i<256) (hj:j<256) (h:RN i=RN j):i=j:=by
 simp only [RN,P4.mk.injEq] at h
 have h1:=cK (i / 64) (j / 64) (by omega) (by omega) h.1
 have h2:=cK (i / 16 % 4) (j / 16 % 4) (by omega) (by omega) h.2.1
 have h3:=cK (i / 4 % 4) (j / 4 % 4) (by omega) (by omega) h.2.2.1
 have h4:=cK (i % 4) (j % 4) (by omega) (by omega) h.2.2.2
 omega
section
variable {α R:Type}
noncomputable def pG (p:P4) (F:T4 α):α:=N.get p.d (N.get p.c (N.get p.b (N.get p.a F)))
noncomputable def LN (p:P4) (F:T4 α) (v:α) (k:T4 α→R):R:=N.RI p.d (N.get p.c (N.get p.b (N.get p.a F))) v fun n=>N.RI p.c (N.get p.b (N.get p.a F)) n fun n=>N.RI p.b (N.get p.a F) n fun n=>N.RI p.a F n k
noncomputable def GP (p:P4) (F:T4 α) (v:α):T4 α:=N.set p.a F (N.set p.b (N.get p.a F) (N.set p.c (N.get p.b (N.get p.a F)) (N.set p.d (N.get p.c (N.get p.b (N.get p.a F))) v)))
theorem tM (p:P4) (F:T4 α) (v:α) (k:T4 α→R):LN p F v k=k (GP p F v):=by simp only [LN,GP,N.VH]
theorem YE (p q:P4) (F:T4 α) (v:α):pG q (GP p F v)=if q=p then v else pG q F:=by
 obtain ⟨a,b,c,d⟩:=p
 obtain ⟨a',b',c',d'⟩:=q
 simp only [pG,GP,N.vI,P4.mk.injEq]
 by_cases h1:a'=a
 ·subst h1
  by_cases h2:b'=b
  ·subst h2
   by_cases h3:c'=c
   ·subst h3
    by_cases h4:d'=d
    ·subst h4; simp [N.vI]
    ·simp [N.vI,h4]
   ·simp [N.vI,h3]
  ·simp [N.vI,h2]
 ·simp [h1]
noncomputable def get (p:Pa) (A:T8 α):Option α:=pG p.b (pG p.a A)
noncomputable def RI (p:Pa) (A:T8 α) (v:Option α) (k:T8 α→R):R:=LN p.b (pG p.a A) v fun n=>LN p.a A n k
noncomputable def put (p:Pa) (A:T8 α) (v:Option α):T8 α:=GP p.a A (GP p.b (pG p.a A) v)
theorem VH (p:Pa) (A:T8 α) (v:Option α) (k:T8 α→R):RI p A v k=k (put p A v):=by simp only [RI,put,tM]
theorem zB (p q:Pa) (A:T8 α) (v:Option α):get q (put p A v)=if q=p then v else get q A:=by
 obtain ⟨a,b⟩:=p
 obtain ⟨c,d⟩:=q
 simp only [get,put,YE,Pa.mk.injEq]
 by_cases h1:c=a
 ·subst h1
  by_cases h2:d=b
  ·subst h2; simp [YE]
  ·simp [YE,h2]
 ·simp [h1]
def a4 (v:α):T4 α:=N.all (N.all (N.all (N.all v)))
theorem PW (p:P4) (v:α):pG p (a4 v)=v:=by simp [pG,a4,N.get_all]
def e4:T4 (Option α):=a4 none
def e8:T8 α:=a4 e4
theorem CG (p:Pa):get p (e8:T8 α)=none:=by simp [get,e8,e4,PW]
end
inductive AV where
 | pv (v:Value)
 | int (k:IntKind) (x:Int)
 | bool (b:Bool)
 | str (l:List UInt8)
 | ptr (id:Pa) (i:Nat) (off:Nat)
 | sl (id:Pa) (o:Nat) (n:Nat) (z:Nat)
 | e0
 | lst (z:Nat) (l:List (List AV))
 | fp (c:List AV)
 | iface (t:TypeId) (v:AV)
 | agg (l:List AV)
 | tup (l:List AV)
 | fn (f:FuncId) (c:List AV)
 | map (id:Pa)
 | un
inductive AO where
 | cells (z:Nat) (g:List (List AV))
 | mp (l:List (Value × AV))
 | dead
abbrev Fr:=T4 (Option AV)
structure Me where
 t:T8 AO
 nx:Pa
noncomputable def AV.pv? (v:AV):Option (Value):=AV.rec (motive_1:=fun _=>Option (Value)) (motive_2:=fun _=>Unit) (motive_3:=fun _=>Unit) (fun v=>some v) (fun _ _=>none) (fun _=>none) (fun _=>none) (fun _ _ _=>none) (fun _ _ _ _=>none) none (fun _ _ _=>none) (fun _ _=>none) (fun _ _ _=>none) (fun _ _=>none) (fun _ _=>none) (fun _ _ _=>none) (fun _=>none) none () (fun _ _ _ _=>()) () (fun _ _ _ _=>()) v
noncomputable def AV.int? (v:AV):Option (IntKind × Int):=AV.rec (motive_1:=fun _=>Option (IntKind × Int)) (motive_2:=fun _=>Unit) (motive_3:=fun _=>Unit) (fun _=>none) (fun k x=>some (k,x)) (fun _=>none) (fun _=>none) (fun _ _ _=>none) (fun _ _ _ _=>none) none (fun _ _ _=>none) (fun _ _=>none) (fun _ _ _=>none) (fun _ _=>none) (fun _ _=>none) (fun _ _ _=>none) (fun _=>none) none () (fun _ _ _ _=>()) () (fun _ _ _ _=>()) v
noncomputable def AV.bool? (v:AV):Option (Bool):=AV.rec (motive_1:=fun _=>Option (Bool)) (motive_2:=fun _=>Unit) (motive_3:=fun _=>Unit) (fun _=>none) (fun _ _=>none) (fun b=>some b) (fun _=>none) (fun _ _ _=>none) (fun _ _ _ _=>none) none (fun _ _ _=>none) (fun _ _=>none) (fun _ _ _=>none) (fun _ _=>none) (fun _ _=>none) (fun _ _ _=>none) (fun _=>none) none () (fun _ _ _ _=>()) () (fun _ _ _ _=>()) v
noncomputable def AV.str? (v:AV):Option (List UInt8):=AV.rec (motive_1:=fun _=>Option (List UInt8)) (motive_2:=fun _=>Unit) (motive_3:=fun _=>Unit) (fun _=>none) (fun _ _=>none) (fun _=>none) (fun l=>some l) (fun _ _ _=>none) (fun _ _ _ _=>none) none (fun _ _ _=>none) (fun _ _=>none) (fun _ _ _=>none) (fun _ _=>none) (fun _ _=>none) (fun _ _ _=>none) (fun _=>none) none () (fun _ _ _ _=>()) () (fun _ _ _ _=>()) v
noncomputable def AV.ptr? (v:AV):Option (Pa × Nat × Nat):=AV.rec (motive_1:=fun _=>Option (Pa × Nat × Nat)) (motive_2:=fun _=>Unit) (motive_3:=fun _=>Unit) (fun _=>none) (fun _ _=>none) (fun _=>none) (fun _=>none) (fun id i off=>some (id,i,off)) (fun _ _ _ _=>none) none (fun _ _ _=>none) (fun _ _=>none) (fun _ _ _=>none) (fun _ _=>none) (fun _ _=>none) (fun _ _ _=>none) (fun _=>none) none () (fun _ _ _ _=>()) () (fun _ _ _ _=>()) v
noncomputable def AV.sl? (v:AV):Option (Pa × Nat × Nat × Nat):=AV.rec (motive_1:=fun _=>Option (Pa × Nat × Nat × Nat)) (motive_2:=fun _=>Unit) (motive_3:=fun _=>Unit) (fun _=>none) (fun _ _=>none) (fun _=>none) (fun _=>none) (fun _ _ _=>none) (fun id o n z=>some (id,o,n,z)) none (fun _ _ _=>none) (fun _ _=>none) (fun _ _ _=>none) (fun _ _=>none) (fun _ _=>none) (fun _ _ _=>none) (fun _=>none) none () (fun _ _ _ _=>()) () (fun _ _ _ _=>()) v
noncomputable def AV.lst? (v:AV):Option (Nat × List (List AV)):=AV.rec (motive_1:=fun _=>Option (Nat × List (List AV))) (motive_2:=fun _=>Unit) (motive_3:=fun _=>Unit) (fun _=>none) (fun _ _=>none) (fun _=>none) (fun _=>none) (fun _ _ _=>none) (fun _ _ _ _=>none) none (fun z l _=>some (z,l)) (fun _ _=>none) (fun _ _ _=>none) (fun _ _=>none) (fun _ _=>none) (fun _ _ _=>none) (fun _=>none) none () (fun _ _ _ _=>()) () (fun _ _ _ _=>()) v
noncomputable def AV.fp? (v:AV):Option (List AV):=AV.rec (motive_1:=fun _=>Option (List AV)) (motive_2:=fun _=>Unit) (motive_3:=fun _=>Unit) (fun _=>none) (fun _ _=>none) (fun _=>none) (fun _=>none) (fun _ _ _=>none) (fun _ _ _ _=>none) none (fun _ _ _=>none) (fun c _=>some c) (fun _ _ _=>none) (fun _ _=>none) (fun _ _=>none) (fun _ _ _=>none) (fun _=>none) none () (fun _ _ _ _=>()) () (fun _ _ _ _=>()) v
noncomputable def AV.iface? (v:AV):Option (TypeId × AV):=AV.rec (motive_1:=fun _=>Option (TypeId × AV)) (motive_2:=fun _=>Unit) (motive_3:=fun _=>Unit) (fun _=>none) (fun _ _=>none) (fun _=>none) (fun _=>none) (fun _ _ _=>none) (fun _ _ _ _=>none) none (fun _ _ _=>none) (fun _ _=>none) (fun t v _=>some (t,v)) (fun _ _=>none) (fun _ _=>none) (fun _ _ _=>none) (fun _=>none) none () (fun _ _ _ _=>()) () (fun _ _ _ _=>()) v
noncomputable def AV.agg? (v:AV):Option (List AV):=AV.rec (motive_1:=fun _=>Option (List AV)) (motive_2:=fun _=>Unit) (motive_3:=fun _=>Unit) (fun _=>none) (fun _ _=>none) (fun _=>none) (fun _=>none) (fun _ _ _=>none) (fun _ _ _ _=>none) none (fun _ _ _=>none) (fun _ _=>none) (fun _ _ _=>none) (fun l _=>some l) (fun _ _=>none) (fun _ _ _=>none) (fun _=>none) none () (fun _ _ _ _=>()) () (fun _ _ _ _=>()) v
noncomputable def AV.tup? (v:AV):Option (List AV):=AV.rec (motive_1:=fun _=>Option (List AV)) (motive_2:=fun _=>Unit) (motive_3:=fun _=>Unit) (fun _=>none) (fun _ _=>none) (fun _=>none) (fun _=>none) (fun _ _ _=>none) (fun _ _ _ _=>none) none (fun _ _ _=>none) (fun _ _=>none) (fun _ _ _=>none) (fun _ _=>none) (fun l _=>some l) (fun _ _ _=>none) (fun _=>none) none () (fun _ _ _ _=>()) () (fun _ _ _ _=>()) v
noncomputable def AV.fn? (v:AV):Option (FuncId × List AV):=AV.rec (motive_1:=fun _=>Option (FuncId × List AV)) (motive_2:=fun _=>Unit) (motive_3:=fun _=>Unit) (fun _=>none) (fun _ _=>none) (fun _=>none) (fun _=>none) (fun _ _ _=>none) (fun _ _ _ _=>none) none (fun _ _ _=>none) (fun _ _=>none) (fun _ _ _=>none) (fun _ _=>none) (fun _ _=>none) (fun f c _=>some (f,c)) (fun _=>none) none () (fun _ _ _ _=>()) () (fun _ _ _ _=>()) v
noncomputable def AV.map? (v:AV):Option (Pa):=AV.rec (motive_1:=fun _=>Option (Pa)) (motive_2:=fun _=>Unit) (motive_3:=fun _=>Unit) (fun _=>none) (fun _ _=>none) (fun _=>none) (fun _=>none) (fun _ _ _=>none) (fun _ _ _ _=>none) none (fun _ _ _=>none) (fun _ _=>none) (fun _ _ _=>none) (fun _ _=>none) (fun _ _=>none) (fun _ _ _=>none) (fun id=>some id) none () (fun _ _ _ _=>()) () (fun _ _ _ _=>()) v
inductive Tag
 | tpv | tint | tbool | tstr | tptr | tsl | te0 | tlst | tfp | tiface | tagg | ttup | tfn | tmap | tun
noncomputable def AV.tag (v:AV):Tag:=AV.rec (motive_1:=fun _=>Tag) (motive_2:=fun _=>Unit) (motive_3:=fun _=>Unit) (fun _=>.tpv) (fun _ _=>.tint) (fun _=>.tbool) (fun _=>.tstr) (fun _ _ _=>.tptr) (fun _ _ _ _=>.tsl) .te0 (fun _ _ _=>.tlst) (fun _ _=>.tfp) (fun _ _ _=>.tiface) (fun _ _=>.tagg) (fun _ _=>.ttup) (fun _ _ _=>.tfn) (fun _=>.tmap) .tun () (fun _ _ _ _=>()) () (fun _ _ _ _=>()) v
noncomputable def AV.cells (v:AV):Option (List AV):=AV.rec (motive_1:=fun _=>Option (List AV)) (motive_2:=fun _=>Unit) (motive_3:=fun _=>Unit) (fun v=>some [.pv v]) (fun k x=>some [.int k x]) (fun b=>some [.bool b]) (fun l=>some [.str l]) (fun id i off=>some [.ptr id i off]) (fun id o n z=>some [.sl id o n z]) (some [.e0]) (fun z l _=>some [.lst z l]) (fun c _=>some [.fp c]) (fun t v _=>some [.iface t v]) (fun l _=>some l) (fun _ _=>none) (fun f c _=>some [.fn f c]) (fun id=>some [.map id]) none () (fun _ _ _ _=>()) () (fun _ _ _ _=>()) v
section
variable {v:AV}
theorem AV.pv_eq {x:Value} (h:v.pv?=some x):v=.pv x:=by cases v<;>first | (cases h; rfl) | cases h
theorem AV.int_eq {x:IntKind × Int} (h:v.int?=some x):v=.int x.1 x.2:=by cases v<;>first | (cases h; rfl) | cases h
theorem AV.bool_eq {x:Bool} (h:v.bool?=some x):v=.bool x:=by cases v<;>first | (cases h; rfl) | cases h
theorem AV.str_eq {x:List UInt8} (h:v.str?=some x):v=.str x:=by cases v<;>first | (cases h; rfl) | cases h
theorem AV.ptr_eq {x:Pa × Nat × Nat} (h:v.ptr?=some x):v=.ptr x.1 x.2.1 x.2.2:=by cases v<;>first | (cases h; rfl) | cases h
theorem AV.sl_eq {x:Pa × Nat × Nat × Nat} (h:v.sl?=some x):v=.sl x.1 x.2.1 x.2.2.1 x.2.2.2:=by cases v<;>first | (cases h; rfl) | cases h
theorem AV.fp_eq {x:List AV} (h:v.fp?=some x):v=.fp x:=by cases v<;>first | (cases h; rfl) | cases h
theorem AV.iface_eq {x:TypeId × AV} (h:v.iface?=some x):v=.iface x.1 x.2:=by cases v<;>first | (cases h; rfl) | cases h
theorem AV.agg_eq {x:List AV} (h:v.agg?=some x):v=.agg x:=by cases v<;>first | (cases h; rfl) | cases h
theorem AV.tup_eq {x:List AV} (h:v.tup?=some x):v=.tup x:=by cases v<;>first | (cases h; rfl) | cases h
theorem AV.fn_eq {x:FuncId × List AV} (h:v.fn?=some x):v=.fn x.1 x.2:=by cases v<;>first | (cases h; rfl) | cases h
theorem AV.map_eq {x:Pa} (h:v.map?=some x):v=.map x:=by cases v<;>first | (cases h; rfl) | cases h
end
end Go.Proofs.YtljlkhobfdofhaaGreatDoor.Rv
namespace Go.Proofs.YtljlkhobfdofhaaGreatDoor.Vc
open Go
def tF:Value→Nat→Value
 | .tuple vs,i=>vs.getD i undef
 | _,_=>undef
section
variable {P:Program} {n:Nat} {ops:Array Oper} {Q:Exit→Act→World→Prop} {mask:List Nat} {ρ:EA} {m:Nat} {es:List Nat} {Φ:Nat→LV→World→Prop}
def xD (es:List Nat) (e:Nat→EA→Value) (r:EA) (j:Nat):Value:=if es.contains j then r j else e j r
theorem XF (e₁ e₂:Nat→EA→Value) (r:EA):∀ k:Nat,(∀ j,j<k→e₁ j=e₂ j)→pB ops ρ (xD es e₁ r) k=pB ops ρ (xD es e₂ r) k
 | 0,_=>rfl
 | k+1,h=>by
  simp only [pB]
  rw [XF e₁ e₂ r k fun j hj=>h j (by omega)]
  simp only [xD,h k (by omega)]
end
end Go.Proofs.YtljlkhobfdofhaaGreatDoor.Vc
namespace Go.Proofs.YtljlkhobfdofhaaGreatDoor.Vc
open Go
def WalkP (P:Program) (n:Nat) (ops:Array Oper) (es:List Nat) (Φ:List Bool→LV→World→Prop) (mask:List Nat) (Fin:(EA→EA)→Prop):Nat→Nat→List Oper→(EA→EA)→Prop
 | _,0,_,ρ=>Fin ρ
 | i,k+1,o::l,ρ =>
  (∃ p,es[p]?=some i∧(∀ (L:Nat→Bool) (r:EA) (w:World),L i=false→(∀ e∈es,fC mask i e=true→L e=true)→(∀ e∈es,fC mask e i=true→L e=false)→Φ (es.map L) (es.map r) w →
    Gives P n ops (ρ r) o w fun u w'=>Φ ((es.map L).set p true) ((es.map r).set p u) w') ∧
   WalkP P n ops es Φ mask Fin (i+1) k l fun r=>XA (ρ r) o.dst (r i)) ∨
  (es.contains i=false∧∃ v:EA→Value,(∀ r r':EA,(∀ e∈es,fC mask i e=true→r e=r' e)→v r=v r') ∧
   (∀ (L:Nat→Bool) (r:EA) (w:World),(∀ e∈es,fC mask i e=true→L e=true)→(∀ e∈es,fC mask e i=true→L e=false)→Φ (es.map L) (es.map r) w→Gives P n ops (ρ r) o w fun u w'=>u=v r∧w'=w) ∧
   WalkP P n ops es Φ mask Fin (i+1) k l fun r=>XA (ρ r) o.dst (v r))
 | _,_+1,[],_=>False
section
variable {P:Program} {n:Nat} {ops:Array Oper} {Q:Exit→Act→World→Prop} {mask:List Nat} {ρ:EA} {m:Nat} {es:List Nat} {Φ:List Bool→LV→World→Prop}
def ObP (P:Program) (n:Nat) (ops:Array Oper) (es:List Nat) (Φ:List Bool→LV→World→Prop) (mask:List Nat) (ρ:EA) (e:Nat→EA→Value) (j:Nat) (o:Oper):Prop :=
 (∃ p,es[p]?=some j∧∀ (L:Nat→Bool) (r:EA) (w:World),L j=false→(∀ x∈es,fC mask j x=true→L x=true)→(∀ x∈es,fC mask x j=true→L x=false)→Φ (es.map L) (es.map r) w →
  Gives P n ops (pB ops ρ (xD es e r) j) o w fun u w'=>Φ ((es.map L).set p true) ((es.map r).set p u) w') ∨
 (es.contains j=false∧(∀ r r':EA,(∀ x∈es,fC mask j x=true→r x=r' x)→e j r=e j r') ∧
  ∀ (L:Nat→Bool) (r:EA) (w:World),(∀ x∈es,fC mask j x=true→L x=true)→(∀ x∈es,fC mask x j=true→L x=false)→Φ (es.map L) (es.map r) w→Gives P n ops (pB ops ρ (xD es e r) j) o w fun u w'=>u=e j r∧w'=w)
theorem WalkP.out {Fin:(EA→EA)→Prop}:∀ (k:Nat) (l:List Oper) (i:Nat) (ρ':EA→EA) (e:Nat→EA→Value),(∀ j:Nat,l[j]?=ops[i+j]?)→(∀ r,ρ' r=pB ops ρ (xD es e r) i)→WalkP P n ops es Φ mask Fin i k l ρ' →
  ∃ e':Nat→EA→Value,(∀ j,j<i→e' j=e j)∧(∀ (j:Nat) (o:Oper),i≤j→j<i+k→ops[j]?=some o→ObP P n ops es Φ mask ρ e' j o)∧Fin fun r=>pB ops ρ (xD es e' r) (i+k)
 | 0,l,i,ρ',e,hl,hρ,h=>by
  refine ⟨e,fun _ _=>rfl,fun j o h1 h2=>by omega,?_⟩
  have:(fun r=>pB ops ρ (xD es e r) (i+0))=ρ':=by funext r; rw [hρ r]; rfl
  rw [this]
  cases l<;>exact h
 | k+1,[],i,ρ',e,hl,hρ,h=>h.elim
 | k+1,o::l,i,ρ',e,hl,hρ,h=>by
  have hoi:ops[i]?=some o:=by simpa using (hl 0).symm
  have hl':∀ j:Nat,l[j]?=ops[i+1+j]?:=fun j=>by have:=hl (j+1); simpa [Nat.add_assoc,Nat.add_comm 1 j] using this
  rcases h with ⟨p,hp,h1,h2⟩ | ⟨hne,v,hv,h1,h2⟩
  ·have hc:es.contains i=true:=by simpa using List.mem_of_getElem? hp
   obtain ⟨e',h3,h4,h5⟩:=WalkP.out k l (i+1) (fun r=>XA (ρ' r) o.dst (r i)) e hl' (fun r=>by
    simp only [pB,hoi,Option.bind_some]
    rw [hρ r]
    have:xD es e r i=r i:=by unfold xD; rw [if_pos hc]
    rw [this]) h2
   refine ⟨e',fun j hj=>h3 j (by omega),?_,by simpa [Nat.add_assoc,Nat.add_comm 1] using h5⟩
   intro j o' hj1 hj2 hoj
   rcases Nat.eq_or_lt_of_le hj1 with rfl | hlt
   ·rw [hoi] at hoj; cases hoj
    refine .inl ⟨p,hp,fun L r w a1 a2 a3 hF=>?_⟩
    have:=h1 L r w a1 a2 a3 hF
    rwa [hρ r,XF e e' r i fun j hj=>(h3 j (by omega)).symm] at this
   ·exact h4 j o' (by omega) (by omega) hoj
  ·let e₁:Nat→EA→Value:=fun j=>if j=i then v else e j
   have hbe:∀ j,j<i→e₁ j=e j:=fun j hj=>if_neg (by omega)
   have hi:e₁ i=v:=if_pos rfl
   obtain ⟨e',h3,h4,h5⟩:=WalkP.out k l (i+1) (fun r=>XA (ρ' r) o.dst (v r)) e₁ hl' (fun r=>by
    simp only [pB,hoi,Option.bind_some]
    rw [hρ r,XF e₁ e r i hbe]
    have:xD es e₁ r i=v r:=by unfold xD; rw [if_neg (by rw [hne]; decide),hi]
    rw [this]) h2
   refine ⟨e',fun j hj=>(h3 j (by omega)).trans (hbe j hj),?_,by simpa [Nat.add_assoc,Nat.add_comm 1] using h5⟩
   intro j o' hj1 hj2 hoj
   rcases Nat.eq_or_lt_of_le hj1 with rfl | hlt
   ·rw [hoi] at hoj; cases hoj
    have hei:e' i=v:=(h3 i (by omega)).trans hi
    refine .inr ⟨hne,fun r r' hr=>by rw [hei]; exact hv r r' hr,fun L r w a1 a2 hF=>?_⟩
    have:=h1 L r w a1 a2 hF
    rw [hρ r,XF e e' r i fun j hj=>((h3 j (by omega)).trans (hbe j hj)).symm] at this
    rwa [hei]
   ·exact h4 j o' (by omega) (by omega) hoj
theorem WalkP.eff {Fin:(EA→EA)→Prop} {i k:Nat} {o:Oper} {l:List Oper} {ρ:EA→EA} (p:Nat) (hp:es[p]?=some i) (h1:∀ (L:Nat→Bool) (r:EA) (w:World),L i=false→(∀ e∈es,fC mask i e=true→L e=true)→(∀ e∈es,fC mask e i=true→L e=false)→Φ (es.map L) (es.map r) w →
    Gives P n ops (ρ r) o w fun u w'=>Φ ((es.map L).set p true) ((es.map r).set p u) w')
  (h2:WalkP P n ops es Φ mask Fin (i+1) k l fun r=>XA (ρ r) o.dst (r i)):WalkP P n ops es Φ mask Fin i (k+1) (o::l) ρ:=.inl ⟨p,hp,h1,h2⟩
theorem WalkP.look {Fin:(EA→EA)→Prop} {i k:Nat} {o:Oper} {l:List Oper} {ρ:EA→EA} (hne:es.contains i=false) (v:EA→Value) (hv:∀ r r':EA,(∀ e∈es,fC mask i e=true→r e=r' e)→v r=v r')
  (h1:∀ (L:Nat→Bool) (r:EA) (w:World),(∀ e∈es,fC mask i e=true→L e=true)→(∀ e∈es,fC mask e i=true→L e=false)→Φ (es.map L) (es.map r) w→Gives P n ops (ρ r) o w fun u w'=>u=v r∧w'=w)
  (h2:WalkP P n ops es Φ mask Fin (i+1) k l fun r=>XA (ρ r) o.dst (v r)):WalkP P n ops es Φ mask Fin i (k+1) (o::l) ρ:=.inr ⟨hne,v,hv,h1,h2⟩
theorem WalkP.nil {Fin:(EA→EA)→Prop} {i:Nat} {l:List Oper} {ρ:EA→EA} (h:Fin ρ):WalkP P n ops es Φ mask Fin i 0 l ρ:=by cases l<;>exact h
structure InvP (m:Nat) (es:List Nat) (Φ:List Bool→LV→World→Prop) (mask:List Nat) (e:Nat→EA→Value) (L:Nat→Bool) (r:EA) (w:World):Prop where
 closed:∀ j k,j<m→k<m→L j=true→fC mask j k=true→L k=true
 vals:∀ j,j<m→es.contains j=false→L j=true→r j=e j r
 stage:Φ (es.map L) (es.map r) w
theorem map_set {α:Type}:∀ {es:List Nat} {p i:Nat} (f:Nat→α) (u:α),es[p]?=some i→(∀ (q:Nat),es[q]?=some i→q=p)→es.map (fun k=>if k=i then u else f k)=(es.map f).set p u
 | [],p,i,f,u,h,_=>by simp at h
 | x::es,0,i,f,u,h,hd=>by
  simp at h; subst h
  simp only [List.map_cons,if_true,List.set_cons_zero,List.cons.injEq,true_and]
  refine List.map_congr_left fun y hy=>if_neg fun e=>?_
  obtain ⟨q,hq⟩:=List.getElem?_of_mem hy
  have:=hd (q+1) (by simpa [e] using hq)
  omega
 | x::es,p+1,i,f,u,h,hd=>by
  have hne:x≠i:=fun e=>by have:=hd 0 (by simp [e]); omega
  simp only [List.map_cons,if_neg hne,List.set_cons_succ]
  rw [map_set f u (by simpa using h) fun q hq=>by have:=hd (q+1) (by simpa using hq); omega]
def SN (m:Nat) (es:List Nat):Bool:=(es.all fun e=>decide (e<m)) && (List.range es.length).all fun p'=>(List.range p').all fun p=>es.getD p' 0 != es.getD p 0
theorem drawP {id m:Nat} {l:List Oper} {w:World} (mask:List Nat) (es:List Nat) (Φ:List Bool→LV→World→Prop) (hmix:P.follows .mixedOrders=true) (hB:kH l.toArray mask m=true) (hch:SN m es=true)
  (h0:Φ (es.map fun _=>false) (es.map fun _=>undef) { w with drawn:=w.drawn+1 })
  (h:WalkP P n l.toArray es Φ mask (fun ρ'=>∀ r w',Φ (es.map fun _=>true) (es.map r) w'→W P n l.toArray Q (l.drop m) (ρ' r) w') 0 m l fun _=>ρ) :
  (Code.region id l.toArray true).wp P Q (St n ρ) w:=by
 have D:=DrawOk.of hB
 obtain ⟨e,_,hob,hfin⟩:=WalkP.out (ops:=l.toArray) (ρ:=ρ) m l 0 (fun _=>ρ) (fun _ _=>undef) (fun j=>by simp) (fun r=>rfl) h
 simp only [Nat.zero_add] at hob hfin
 simp only [SN,Bool.and_eq_true] at hch
 have hlm:∀ (p x:Nat),es[p]?=some x→x<m:=fun p x hp=>by
  have:=List.all_eq_true.1 hch.1 x (List.mem_of_getElem? hp); simpa using this
 have hsz:∀ (p x:Nat),es[p]?=some x→x<l.toArray.size:=fun p x hp=>Nat.lt_of_lt_of_le (hlm p x hp) D.hm
 have hdis:∀ (p p' x:Nat),es[p]?=some x→es[p']?=some x→p=p':=fun p p' x hp hp'=>by
  have key:∀ (q q':Nat),q<q'→es[q]?=some x→es[q']?=some x→False:=fun q q' hlt hq hq'=>by
   have h1:=List.all_eq_true.1 (List.all_eq_true.1 hch.2 q' (List.mem_range.2 (List.getElem?_eq_some_iff.1 hq').1)) q (List.mem_range.2 hlt)
   simp [List.getD_eq_getElem?_getD,hq,hq'] at h1
  rcases Nat.lt_trichotomy p p' with h | h | h
  ·exact (key p p' h hp hp').elim
  ·exact h
  ·exact (key p' p h hp' hp).elim
 have hmem:∀ x∈es,x<m∧x<l.toArray.size:=fun x hx=>by
  obtain ⟨p,hp⟩:=List.getElem?_of_mem hx
  exact ⟨hlm p x hp,hsz p x hp⟩
 refine wp_region_any hmix ?_
 have hrep:∀ j,(Array.replicate l.toArray.size false).getD j false=false:=fun j=>by
  simp only [Array.getD_eq_getD_getElem?,Array.getElem?_replicate]
  split<;>rfl
 have hOb:∀ (j:Nat) (o:Oper),j<m→l.toArray[j]?=some o→ObI P n l.toArray (InvP m es Φ mask e) mask ρ j o:=by
  intro j o hj ho L r w hL hA hI
  have hoj:j<l.toArray.size:=(Array.getElem?_eq_some_iff.1 ho).1
  have hsel:=Region.noSelect_spec D.nosel
  have hcong:∀ {S},Gives P n l.toArray (pB l.toArray ρ (xD es e r) j) o w S→Gives P n l.toArray (pB l.toArray ρ r j) o w S:=by
   intro S hg
   refine hg.congr (fun cs b=>hsel j _ cs b ho) fun t ht=>?_
   rw [sC D ρ _ t j (by omega),sC D ρ _ t j (by omega)]
   split
   ·rename_i j' hj'
    by_cases hlt:j'<j
    ·rw [if_pos hlt,if_pos hlt]
     rcases D.reads j _ hj ho t ht j' hj' with rfl | ⟨_,h2⟩ | ⟨h1,_⟩
     ·omega
     ·by_cases hc:es.contains j'=true
      ·simp only [xD,hc,if_true]
      ·have hc':es.contains j'=false:=by simpa using hc
       rw [hI.vals j' (by omega) hc' (hA j' hlt h2)]
       simp only [xD,hc',Bool.false_eq_true,if_false]
     ·omega
    ·rw [if_neg hlt,if_neg hlt]
   ·rfl
  have hup:∀ x∈es,fC mask j x=true→L x=true:=fun x hx ha=>hA x (D.up j x hoj (hmem x hx).2 ha).1 ha
  have hdn:∀ x∈es,fC mask x j=true→L x=false:=fun x hx ha=>by
   cases h:L x with
   | false=>rfl
   | true=>have:=hI.closed x j (hmem x hx).1 hj h ha; rw [hL] at this; cases this
  rcases hob j o (Nat.zero_le _) hj ho with ⟨p,hp,h1⟩ | ⟨hne,hv,h1⟩
  ·-- one that touches memory
   refine (hcong (h1 L r w hL hup hdn hI.stage)).mono fun u w' hF=>?_
   have hcj:es.contains j=true:=by simpa using List.mem_of_getElem? hp
   refine ⟨?_,?_,?_⟩
   ·intro j1 k h1 h2 h3 ha
    simp only [Bool.or_eq_true,beq_iff_eq] at h3 ⊢
    rcases h3 with rfl | h3
    ·exact .inr (hA k (D.up j1 k hoj (by have:=D.hm; omega) ha).1 ha)
    ·exact .inr (hI.closed j1 k h1 h2 h3 ha)
   ·intro j1 h2 hc h3
    have hne:j1≠j:=fun e=>by rw [e,hcj] at hc; cases hc
    simp only [Bool.or_eq_true,beq_iff_eq,hne,false_or] at h3
    simp only [hne,if_false]
    rw [hI.vals j1 h2 hc h3]
    rcases hob j1 _ (Nat.zero_le _) h2 (Array.getElem?_eq_getElem (by have:=D.hm; omega)) with ⟨q1,hq1,_⟩ | ⟨_,hv1,_⟩
    ·have:es.contains j1=true:=by simpa using List.mem_of_getElem? hq1
     rw [this] at hc; cases hc
    ·refine hv1 _ _ fun x hx ha=>?_
     have hxj:x≠j:=fun ex=>by
      subst ex
      have:=hI.closed j1 x h2 hj h3 ha
      rw [hL] at this; cases this
     simp [hxj]
   ·have e1:(es.map fun k=>k == j || L k)=(es.map L).set p true:=by
     rw [← map_set L true hp fun q hq=>hdis q p j hq hp]
     refine List.map_congr_left fun k _=>?_
     by_cases hk:k=j<;>simp [hk]
    rw [e1,map_set r u hp fun q hq=>hdis q p j hq hp]
    exact hF
  ·-- one that only looks
   refine (hcong (h1 L r w hup hdn hI.stage)).mono fun u w' ⟨hu,hw⟩=>?_
   subst hu hw
   have hxj:∀ x∈es,x≠j:=fun x hx ex=>by
    subst ex
    have:es.contains x=true:=by simpa using hx
    rw [this] at hne; cases hne
   refine ⟨?_,?_,?_⟩
   ·intro j1 k h1 h2 h3 ha
    simp only [Bool.or_eq_true,beq_iff_eq] at h3 ⊢
    rcases h3 with rfl | h3
    ·exact .inr (hA k (D.up j1 k hoj (by have:=D.hm; omega) ha).1 ha)
    ·exact .inr (hI.closed j1 k h1 h2 h3 ha)
   ·intro j1 h2 hc h3
    have hagree:∀ x∈es,r x=(fun k=>if k=j then e j r else r k) x:=fun x hx=>by simp [hxj x hx]
    rcases hob j1 _ (Nat.zero_le _) h2 (Array.getElem?_eq_getElem (by have:=D.hm; omega)) with ⟨q1,hq1,_⟩ | ⟨_,hv1,_⟩
    ·have:es.contains j1=true:=by simpa using List.mem_of_getElem? hq1
     rw [this] at hc; cases hc
    ·rw [← hv1 r _ fun x hx _=>hagree x hx]
     by_cases h4:j1=j
     ·subst h4; simp
     ·simp only [Bool.or_eq_true,beq_iff_eq,h4,false_or] at h3
      simp only [h4,if_false]
      exact hI.vals j1 h2 hc h3
   ·have e1:(es.map fun k=>k == j || L k)=es.map L:=List.map_congr_left fun x hx=>by simp [hxj x hx]
    have e2:(es.map fun k=>if k=j then e j r else r k)=es.map r:=List.map_congr_left fun x hx=>by simp [hxj x hx]
    rw [e1,e2]; exact hI.stage
 have hFin:∀ L r w',(∀ j,j<m→L j=true)→InvP m es Φ mask e L r w'→wpList P l.toArray Q (l.toArray.toList.drop m) (St n (pB l.toArray ρ r m)) w':=by
  intro L r w' hL hI
  have hΦ:=hI.stage
  rw [show es.map L=es.map fun _=>true from List.map_congr_left fun x hx=>hL x (hmem x hx).1] at hΦ
  have hf:St n (pB l.toArray ρ r m)=St n (pB l.toArray ρ (xD es e r) m):=OG fun t _=>by
   rw [sC D ρ _ t m (Nat.le_refl _),sC D ρ _ t m (Nat.le_refl _)]
   split
   ·rename_i j hj
    have hjm:=(BB hj).1
    rw [if_pos hjm,if_pos hjm]
    by_cases hc:es.contains j=true
    ·simp only [xD,hc,if_true]
    ·have hc':es.contains j=false:=by simpa using hc
     rw [hI.vals j hjm hc' (hL j hjm)]
     simp only [xD,hc',Bool.false_eq_true,if_false]
   ·rfl
  rw [hf]
  exact (hfin r w' hΦ).out
 have h:=bP (Q:=Q) (ρ:=ρ) D (InvP m es Φ mask e) hOb hFin
  l.toArray.size (Array.replicate l.toArray.size false) { w with drawn:=w.drawn+1 } (fun _=>undef) (by simp) (by simp) (fun j hj=>by rw [hrep] at hj; cases hj) (fun j _=>hrep j)
  (by
   rw [show (fun j=>(Array.replicate l.toArray.size false).getD j false)=fun _=>false from funext hrep]
   exact ⟨fun _ _ _ _ h=>(by cases h),fun _ _ _ h=>(by cases h),h0⟩)
 have hf:St n (JB l.toArray m ρ (fun _=>undef) (Array.replicate l.toArray.size false))=St n ρ:=OG fun t _=>by
  unfold JB
  split
  ·rw [hrep]; simp
  ·rfl
 rw [hf] at h
 exact h
end
end Go.Proofs.YtljlkhobfdofhaaGreatDoor.Vc
namespace Go.Proofs.YtljlkhobfdofhaaGreatDoor.Vc
open Go
def WalkE (P:Program) (n:Nat) (ops:Array Oper) (es:List Nat) (Φ:List Bool→LV→World→Prop) (mask:List Nat) (Fin:(EA→EA)→Prop):Nat→Nat→List Oper→(EA→EA)→Prop
 | _,0,_,ρ=>Fin ρ
 | i,k+1,o::l,ρ =>
  (∃ p,es[p]?=some i∧(∀ (L:Nat→Bool) (r:EA) (w0 w:World),L i=false→(∀ e∈es,fC mask i e=true→L e=true)→(∀ e∈es,fC mask e i=true→L e=false)→Φ (es.map L) (es.map r) w0→Ext w0 w →
    Gives P n ops (ρ r) o w fun u w'=>Φ ((es.map L).set p true) ((es.map r).set p u) w') ∧
   WalkE P n ops es Φ mask Fin (i+1) k l fun r=>XA (ρ r) o.dst (r i)) ∨
  (es.contains i=false∧∃ v:EA→Value,(∀ r r':EA,(∀ e∈es,fC mask i e=true→r e=r' e)→v r=v r') ∧
   (∀ (L:Nat→Bool) (r:EA) (w0 w:World),(∀ e∈es,fC mask i e=true→L e=true)→(∀ e∈es,fC mask e i=true→L e=false)→Φ (es.map L) (es.map r) w0→Ext w0 w→Gives P n ops (ρ r) o w fun u w'=>u=v r∧Ext w w') ∧
   WalkE P n ops es Φ mask Fin (i+1) k l fun r=>XA (ρ r) o.dst (v r))
 | _,_+1,[],_=>False
section
variable {P:Program} {n:Nat} {ops:Array Oper} {Q:Exit→Act→World→Prop} {mask:List Nat} {ρ:EA} {m:Nat} {es:List Nat} {Φ:List Bool→LV→World→Prop}
def ObE (P:Program) (n:Nat) (ops:Array Oper) (es:List Nat) (Φ:List Bool→LV→World→Prop) (mask:List Nat) (ρ:EA) (e:Nat→EA→Value) (j:Nat) (o:Oper):Prop :=
 (∃ p,es[p]?=some j∧∀ (L:Nat→Bool) (r:EA) (w0 w:World),L j=false→(∀ x∈es,fC mask j x=true→L x=true)→(∀ x∈es,fC mask x j=true→L x=false)→Φ (es.map L) (es.map r) w0→Ext w0 w →
  Gives P n ops (pB ops ρ (xD es e r) j) o w fun u w'=>Φ ((es.map L).set p true) ((es.map r).set p u) w') ∨
 (es.contains j=false∧(∀ r r':EA,(∀ x∈es,fC mask j x=true→r x=r' x)→e j r=e j r') ∧
  ∀ (L:Nat→Bool) (r:EA) (w0 w:World),(∀ x∈es,fC mask j x=true→L x=true)→(∀ x∈es,fC mask x j=true→L x=false)→Φ (es.map L) (es.map r) w0→Ext w0 w→Gives P n ops (pB ops ρ (xD es e r) j) o w fun u w'=>u=e j r∧Ext w w')
theorem WalkE.out {Fin:(EA→EA)→Prop}:∀ (k:Nat) (l:List Oper) (i:Nat) (ρ':EA→EA) (e:Nat→EA→Value),(∀ j:Nat,l[j]?=ops[i+j]?)→(∀ r,ρ' r=pB ops ρ (xD es e r) i)→WalkE P n ops es Φ mask Fin i k l ρ' →
  ∃ e':Nat→EA→Value,(∀ j,j<i→e' j=e j)∧(∀ (j:Nat) (o:Oper),i≤j→j<i+k→ops[j]?=some o→ObE P n ops es Φ mask ρ e' j o)∧Fin fun r=>pB ops ρ (xD es e' r) (i+k)
 | 0,l,i,ρ',e,hl,hρ,h=>by
  refine ⟨e,fun _ _=>rfl,fun j o h1 h2=>by omega,?_⟩
  have:(fun r=>pB ops ρ (xD es e r) (i+0))=ρ':=by funext r; rw [hρ r]; rfl
  rw [this]
  cases l<;>exact h
 | k+1,[],i,ρ',e,hl,hρ,h=>h.elim
 | k+1,o::l,i,ρ',e,hl,hρ,h=>by
  have hoi:ops[i]?=some o:=by simpa using (hl 0).symm
  have hl':∀ j:Nat,l[j]?=ops[i+1+j]?:=fun j=>by have:=hl (j+1); simpa [Nat.add_assoc,Nat.add_comm 1 j] using this
  rcases h with ⟨p,hp,h1,h2⟩ | ⟨hne,v,hv,h1,h2⟩
  ·have hc:es.contains i=true:=by simpa using List.mem_of_getElem? hp
   obtain ⟨e',h3,h4,h5⟩:=WalkE.out k l (i+1) (fun r=>XA (ρ' r) o.dst (r i)) e hl' (fun r=>by
    simp only [pB,hoi,Option.bind_some]
    rw [hρ r]
    have:xD es e r i=r i:=by unfold xD; rw [if_pos hc]
    rw [this]) h2
   refine ⟨e',fun j hj=>h3 j (by omega),?_,by simpa [Nat.add_assoc,Nat.add_comm 1] using h5⟩
   intro j o' hj1 hj2 hoj
   rcases Nat.eq_or_lt_of_le hj1 with rfl | hlt
   ·rw [hoi] at hoj; cases hoj
    refine .inl ⟨p,hp,fun L r w0 w a1 a2 a3 hF hE0=>?_⟩
    have:=h1 L r w0 w a1 a2 a3 hF hE0
    rwa [hρ r,XF e e' r i fun j hj=>(h3 j (by omega)).symm] at this
   ·exact h4 j o' (by omega) (by omega) hoj
  ·let e₁:Nat→EA→Value:=fun j=>if j=i then v else e j
   have hbe:∀ j,j<i→e₁ j=e j:=fun j hj=>if_neg (by omega)
   have hi:e₁ i=v:=if_pos rfl
   obtain ⟨e',h3,h4,h5⟩:=WalkE.out k l (i+1) (fun r=>XA (ρ' r) o.dst (v r)) e₁ hl' (fun r=>by
    simp only [pB,hoi,Option.bind_some]
    rw [hρ r,XF e₁ e r i hbe]
    have:xD es e₁ r i=v r:=by unfold xD; rw [if_neg (by rw [hne]; decide),hi]
    rw [this]) h2
   refine ⟨e',fun j hj=>(h3 j (by omega)).trans (hbe j hj),?_,by simpa [Nat.add_assoc,Nat.add_comm 1] using h5⟩
   intro j o' hj1 hj2 hoj
   rcases Nat.eq_or_lt_of_le hj1 with rfl | hlt
   ·rw [hoi] at hoj; cases hoj
    have hei:e' i=v:=(h3 i (by omega)).trans hi
    refine .inr ⟨hne,fun r r' hr=>by rw [hei]; exact hv r r' hr,fun L r w0 w a1 a2 hF hE0=>?_⟩
    have:=h1 L r w0 w a1 a2 hF hE0
    rw [hρ r,XF e e' r i fun j hj=>((h3 j (by omega)).trans (hbe j hj)).symm] at this
    rwa [hei]
   ·exact h4 j o' (by omega) (by omega) hoj
theorem WalkE.eff {Fin:(EA→EA)→Prop} {i k:Nat} {o:Oper} {l:List Oper} {ρ:EA→EA} (p:Nat) (hp:es[p]?=some i) (h1:∀ (L:Nat→Bool) (r:EA) (w0 w:World),L i=false→(∀ e∈es,fC mask i e=true→L e=true)→(∀ e∈es,fC mask e i=true→L e=false)→Φ (es.map L) (es.map r) w0→Ext w0 w →
    Gives P n ops (ρ r) o w fun u w'=>Φ ((es.map L).set p true) ((es.map r).set p u) w')
  (h2:WalkE P n ops es Φ mask Fin (i+1) k l fun r=>XA (ρ r) o.dst (r i)):WalkE P n ops es Φ mask Fin i (k+1) (o::l) ρ:=.inl ⟨p,hp,h1,h2⟩
theorem WalkE.call {Fin:(EA→EA)→Prop} {i k:Nat} {o:Oper} {l:List Oper} {ρ:EA→EA} (hne:es.contains i=false) (v:EA→Value) (hv:∀ r r':EA,(∀ e∈es,fC mask i e=true→r e=r' e)→v r=v r')
  (h1:∀ (L:Nat→Bool) (r:EA) (w0 w:World),(∀ e∈es,fC mask i e=true→L e=true)→(∀ e∈es,fC mask e i=true→L e=false)→Φ (es.map L) (es.map r) w0→Ext w0 w→Gives P n ops (ρ r) o w fun u w'=>u=v r∧Ext w w')
  (h2:WalkE P n ops es Φ mask Fin (i+1) k l fun r=>XA (ρ r) o.dst (v r)):WalkE P n ops es Φ mask Fin i (k+1) (o::l) ρ:=.inr ⟨hne,v,hv,h1,h2⟩
theorem WalkE.look {Fin:(EA→EA)→Prop} {i k:Nat} {o:Oper} {l:List Oper} {ρ:EA→EA} (hne:es.contains i=false) (v:EA→Value) (hv:∀ r r':EA,(∀ e∈es,fC mask i e=true→r e=r' e)→v r=v r')
  (h1:∀ (L:Nat→Bool) (r:EA) (w0 w:World),(∀ e∈es,fC mask i e=true→L e=true)→(∀ e∈es,fC mask e i=true→L e=false)→Φ (es.map L) (es.map r) w0→Ext w0 w→Gives P n ops (ρ r) o w fun u w'=>u=v r∧w'=w)
  (h2:WalkE P n ops es Φ mask Fin (i+1) k l fun r=>XA (ρ r) o.dst (v r)):WalkE P n ops es Φ mask Fin i (k+1) (o::l) ρ :=
 WalkE.call hne v hv (fun L r w0 w a1 a2 hF hE=>(h1 L r w0 w a1 a2 hF hE).mono fun u w' ⟨e1,e2⟩=>⟨e1,by rw [e2]; exact Chg.refl _ _⟩) h2
theorem WalkE.nil {Fin:(EA→EA)→Prop} {i:Nat} {l:List Oper} {ρ:EA→EA} (h:Fin ρ):WalkE P n ops es Φ mask Fin i 0 l ρ:=by cases l<;>exact h
structure InvE (m:Nat) (es:List Nat) (Φ:List Bool→LV→World→Prop) (mask:List Nat) (e:Nat→EA→Value) (L:Nat→Bool) (r:EA) (w:World):Prop where
 closed:∀ j k,j<m→k<m→L j=true→fC mask j k=true→L k=true
 vals:∀ j,j<m→es.contains j=false→L j=true→r j=e j r
 stage:∃ w0,Φ (es.map L) (es.map r) w0∧Ext w0 w
theorem drawE {id m:Nat} {l:List Oper} {w:World} (mask:List Nat) (es:List Nat) (Φ:List Bool→LV→World→Prop) (hmix:P.follows .mixedOrders=true) (hB:kH l.toArray mask m=true) (hch:SN m es=true)
  (h0:Φ (es.map fun _=>false) (es.map fun _=>undef) { w with drawn:=w.drawn+1 })
  (h:WalkE P n l.toArray es Φ mask (fun ρ'=>∀ r w0 w',Φ (es.map fun _=>true) (es.map r) w0→Ext w0 w'→W P n l.toArray Q (l.drop m) (ρ' r) w') 0 m l fun _=>ρ) :
  (Code.region id l.toArray true).wp P Q (St n ρ) w:=by
 have D:=DrawOk.of hB
 obtain ⟨e,_,hob,hfin⟩:=WalkE.out (ops:=l.toArray) (ρ:=ρ) m l 0 (fun _=>ρ) (fun _ _=>undef) (fun j=>by simp) (fun r=>rfl) h
 simp only [Nat.zero_add] at hob hfin
 simp only [SN,Bool.and_eq_true] at hch
 have hlm:∀ (p x:Nat),es[p]?=some x→x<m:=fun p x hp=>by
  have:=List.all_eq_true.1 hch.1 x (List.mem_of_getElem? hp); simpa using this
 have hsz:∀ (p x:Nat),es[p]?=some x→x<l.toArray.size:=fun p x hp=>Nat.lt_of_lt_of_le (hlm p x hp) D.hm
 have hdis:∀ (p p' x:Nat),es[p]?=some x→es[p']?=some x→p=p':=fun p p' x hp hp'=>by
  have key:∀ (q q':Nat),q<q'→es[q]?=some x→es[q']?=some x→False:=fun q q' hlt hq hq'=>by
   have h1:=List.all_eq_true.1 (List.all_eq_true.1 hch.2 q' (List.mem_range.2 (List.getElem?_eq_some_iff.1 hq').1)) q (List.mem_range.2 hlt)
   simp [List.getD_eq_getElem?_getD,hq,hq'] at h1
  rcases Nat.lt_trichotomy p p' with h | h | h
  ·exact (key p p' h hp hp').elim
  ·exact h
  ·exact (key p' p h hp' hp).elim
 have hmem:∀ x∈es,x<m∧x<l.toArray.size:=fun x hx=>by
  obtain ⟨p,hp⟩:=List.getElem?_of_mem hx
  exact ⟨hlm p x hp,hsz p x hp⟩
 refine wp_region_any hmix ?_
 have hrep:∀ j,(Array.replicate l.toArray.size false).getD j false=false:=fun j=>by
  simp only [Array.getD_eq_getD_getElem?,Array.getElem?_replicate]
  split<;>rfl
 have hOb:∀ (j:Nat) (o:Oper),j<m→l.toArray[j]?=some o→ObI P n l.toArray (InvE m es Φ mask e) mask ρ j o:=by
  intro j o hj ho L r w hL hA hI
  have hoj:j<l.toArray.size:=(Array.getElem?_eq_some_iff.1 ho).1
  have hsel:=Region.noSelect_spec D.nosel
  have hcong:∀ {S},Gives P n l.toArray (pB l.toArray ρ (xD es e r) j) o w S→Gives P n l.toArray (pB l.toArray ρ r j) o w S:=by
   intro S hg
   refine hg.congr (fun cs b=>hsel j _ cs b ho) fun t ht=>?_
   rw [sC D ρ _ t j (by omega),sC D ρ _ t j (by omega)]
   split
   ·rename_i j' hj'
    by_cases hlt:j'<j
    ·rw [if_pos hlt,if_pos hlt]
     rcases D.reads j _ hj ho t ht j' hj' with rfl | ⟨_,h2⟩ | ⟨h1,_⟩
     ·omega
     ·by_cases hc:es.contains j'=true
      ·simp only [xD,hc,if_true]
      ·have hc':es.contains j'=false:=by simpa using hc
       rw [hI.vals j' (by omega) hc' (hA j' hlt h2)]
       simp only [xD,hc',Bool.false_eq_true,if_false]
     ·omega
    ·rw [if_neg hlt,if_neg hlt]
   ·rfl
  have hup:∀ x∈es,fC mask j x=true→L x=true:=fun x hx ha=>hA x (D.up j x hoj (hmem x hx).2 ha).1 ha
  have hdn:∀ x∈es,fC mask x j=true→L x=false:=fun x hx ha=>by
   cases h:L x with
   | false=>rfl
   | true=>have:=hI.closed x j (hmem x hx).1 hj h ha; rw [hL] at this; cases this
  rcases hob j o (Nat.zero_le _) hj ho with ⟨p,hp,h1⟩ | ⟨hne,hv,h1⟩
  ·-- one that touches memory
   obtain ⟨w0,hF0,hE0⟩:=hI.stage
   refine (hcong (h1 L r w0 w hL hup hdn hF0 hE0)).mono fun u w' hF=>?_
   have hcj:es.contains j=true:=by simpa using List.mem_of_getElem? hp
   refine ⟨?_,?_,?_⟩
   ·intro j1 k h1 h2 h3 ha
    simp only [Bool.or_eq_true,beq_iff_eq] at h3 ⊢
    rcases h3 with rfl | h3
    ·exact .inr (hA k (D.up j1 k hoj (by have:=D.hm; omega) ha).1 ha)
    ·exact .inr (hI.closed j1 k h1 h2 h3 ha)
   ·intro j1 h2 hc h3
    have hne:j1≠j:=fun e=>by rw [e,hcj] at hc; cases hc
    simp only [Bool.or_eq_true,beq_iff_eq,hne,false_or] at h3
    simp only [hne,if_false]
    rw [hI.vals j1 h2 hc h3]
    rcases hob j1 _ (Nat.zero_le _) h2 (Array.getElem?_eq_getElem (by have:=D.hm; omega)) with ⟨q1,hq1,_⟩ | ⟨_,hv1,_⟩
    ·have:es.contains j1=true:=by simpa using List.mem_of_getElem? hq1
     rw [this] at hc; cases hc
    ·refine hv1 _ _ fun x hx ha=>?_
     have hxj:x≠j:=fun ex=>by
      subst ex
      have:=hI.closed j1 x h2 hj h3 ha
      rw [hL] at this; cases this
     simp [hxj]
   ·have e1:(es.map fun k=>k == j || L k)=(es.map L).set p true:=by
     rw [← map_set L true hp fun q hq=>hdis q p j hq hp]
     refine List.map_congr_left fun k _=>?_
     by_cases hk:k=j<;>simp [hk]
    rw [e1,map_set r u hp fun q hq=>hdis q p j hq hp]
    exact ⟨w',hF,Chg.refl _ _⟩
  ·-- one that only looks
   obtain ⟨w0,hF0,hE0⟩:=hI.stage
   refine (hcong (h1 L r w0 w hup hdn hF0 hE0)).mono fun u w' ⟨hu,hw⟩=>?_
   subst hu
   have hxj:∀ x∈es,x≠j:=fun x hx ex=>by
    subst ex
    have:es.contains x=true:=by simpa using hx
    rw [this] at hne; cases hne
   refine ⟨?_,?_,?_⟩
   ·intro j1 k h1 h2 h3 ha
    simp only [Bool.or_eq_true,beq_iff_eq] at h3 ⊢
    rcases h3 with rfl | h3
    ·exact .inr (hA k (D.up j1 k hoj (by have:=D.hm; omega) ha).1 ha)
    ·exact .inr (hI.closed j1 k h1 h2 h3 ha)
   ·intro j1 h2 hc h3
    have hagree:∀ x∈es,r x=(fun k=>if k=j then e j r else r k) x:=fun x hx=>by simp [hxj x hx]
    rcases hob j1 _ (Nat.zero_le _) h2 (Array.getElem?_eq_getElem (by have:=D.hm; omega)) with ⟨q1,hq1,_⟩ | ⟨_,hv1,_⟩
    ·have:es.contains j1=true:=by simpa using List.mem_of_getElem? hq1
     rw [this] at hc; cases hc
    ·rw [← hv1 r _ fun x hx _=>hagree x hx]
     by_cases h4:j1=j
     ·subst h4; simp
     ·simp only [Bool.or_eq_true,beq_iff_eq,h4,false_or] at h3
      simp only [h4,if_false]
      exact hI.vals j1 h2 hc h3
   ·have e1:(es.map fun k=>k == j || L k)=es.map L:=List.map_congr_left fun x hx=>by simp [hxj x hx]
    have e2:(es.map fun k=>if k=j then e j r else r k)=es.map r:=List.map_congr_left fun x hx=>by simp [hxj x hx]
    rw [e1,e2]; exact ⟨w0,hF0,hE0.trans hw⟩
 have hFin:∀ L r w',(∀ j,j<m→L j=true)→InvE m es Φ mask e L r w'→wpList P l.toArray Q (l.toArray.toList.drop m) (St n (pB l.toArray ρ r m)) w':=by
  intro L r w' hL hI
  obtain ⟨w0,hΦ,hE0⟩:=hI.stage
  rw [show es.map L=es.map fun _=>true from List.map_congr_left fun x hx=>hL x (hmem x hx).1] at hΦ
  have hf:St n (pB l.toArray ρ r m)=St n (pB l.toArray ρ (xD es e r) m):=OG fun t _=>by
   rw [sC D ρ _ t m (Nat.le_refl _),sC D ρ _ t m (Nat.le_refl _)]
   split
   ·rename_i j hj
    have hjm:=(BB hj).1
    rw [if_pos hjm,if_pos hjm]
    by_cases hc:es.contains j=true
    ·simp only [xD,hc,if_true]
    ·have hc':es.contains j=false:=by simpa using hc
     rw [hI.vals j hjm hc' (hL j hjm)]
     simp only [xD,hc',Bool.false_eq_true,if_false]
   ·rfl
  rw [hf]
  exact (hfin r w0 w' hΦ hE0).out
 have h:=bP (Q:=Q) (ρ:=ρ) D (InvE m es Φ mask e) hOb hFin
  l.toArray.size (Array.replicate l.toArray.size false) { w with drawn:=w.drawn+1 } (fun _=>undef) (by simp) (by simp) (fun j hj=>by rw [hrep] at hj; cases hj) (fun j _=>hrep j)
  (by
   rw [show (fun j=>(Array.replicate l.toArray.size false).getD j false)=fun _=>false from funext hrep]
   exact ⟨fun _ _ _ _ h=>(by cases h),fun _ _ _ h=>(by cases h),⟨_,h0,Chg.refl _ _⟩⟩)
 have hf:St n (JB l.toArray m ρ (fun _=>undef) (Array.replicate l.toArray.size false))=St n ρ:=OG fun t _=>by
  unfold JB
  split
  ·rw [hrep]; simp
  ·rfl
 rw [hf] at h
 exact h
end
end Go.Proofs.YtljlkhobfdofhaaGreatDoor.Vc
namespace Go.Proofs.YtljlkhobfdofhaaGreatDoor.Vc
open Go
abbrev PD:=List (List Bool × (LV→World→Prop))
abbrev wL (b0:Bool) (f:Value→World→Prop):List Bool × (LV→World→Prop):=([b0],fun vs w=>match vs with | [x0]=>f x0 w | _=>False)
abbrev JF (b0 b1:Bool) (f:Value→Value→World→Prop):List Bool × (LV→World→Prop):=([b0,b1],fun vs w=>match vs with | [x0,x1]=>f x0 x1 w | _=>False)
abbrev IC (b0 b1 b2:Bool) (f:Value→Value→Value→World→Prop):List Bool × (LV→World→Prop):=([b0,b1,b2],fun vs w=>match vs with | [x0,x1,x2]=>f x0 x1 x2 w | _=>False)
abbrev EH (b0 b1 b2 b3:Bool) (f:Value→Value→Value→Value→World→Prop):List Bool × (LV→World→Prop):=([b0,b1,b2,b3],fun vs w=>match vs with | [x0,x1,x2,x3]=>f x0 x1 x2 x3 w | _=>False)
abbrev mY (b0 b1 b2 b3 b4:Bool) (f:Value→Value→Value→Value→Value→World→Prop):List Bool × (LV→World→Prop):=([b0,b1,b2,b3,b4],fun vs w=>match vs with | [x0,x1,x2,x3,x4]=>f x0 x1 x2 x3 x4 w | _=>False)
abbrev lY (b0 b1 b2 b3 b4 b5:Bool) (f:Value→Value→Value→Value→Value→Value→World→Prop):List Bool × (LV→World→Prop):=([b0,b1,b2,b3,b4,b5],fun vs w=>match vs with | [x0,x1,x2,x3,x4,x5]=>f x0 x1 x2 x3 x4 x5 w | _=>False)
abbrev zt7 (b0 b1 b2 b3 b4 b5 b6:Bool) (f:Value→Value→Value→Value→Value→Value→Value→World→Prop):List Bool × (LV→World→Prop):=([b0,b1,b2,b3,b4,b5,b6],fun vs w=>match vs with | [x0,x1,x2,x3,x4,x5,x6]=>f x0 x1 x2 x3 x4 x5 x6 w | _=>False)
def rM:PD→List Bool→LV→World→Prop
 | [],_=>fun _ _=>False
 | (D,f)::t,bs=>if D=bs then f else rM t bs
def AllT (c:List Bool→Bool) (g:List Bool→(LV→World→Prop)→Prop):PD→Prop
 | []=>True
 | (D,f)::t=>bif c D then g D f∧AllT c g t else AllT c g t
theorem AllT.at {c:List Bool→Bool} {g:List Bool→(LV→World→Prop)→Prop} {bs:List Bool} {vs:LV} {w:World}:∀ {t:PD},AllT c g t→c bs=true→rM t bs vs w→∃ f,g bs f∧f vs w
 | [],_,_,h=>h.elim
 | (D,f)::t,ha,hc,h=>by
  unfold rM at h
  by_cases e:D=bs
  ·subst e
   rw [if_pos rfl] at h
   unfold AllT at ha
   rw [hc] at ha
   exact ⟨f,ha.1,h⟩
  ·rw [if_neg e] at h
   unfold AllT at ha
   cases hD:c D
   ·rw [hD] at ha; exact AllT.at ha hc h
   ·rw [hD] at ha; exact AllT.at ha.2 hc h
def qO (mask es:List Nat) (i:Nat) (D:List Bool):Bool :=
 (List.range es.length).all fun q=>(!(fC mask i (es.getD q 0)) || D.getD q false) && (!(fC mask (es.getD q 0) i) || !(D.getD q false))
def effB (mask es:List Nat) (i p:Nat) (D:List Bool):Bool:=!(D.getD p false) && qO mask es i D
section
variable {P:Program} {n:Nat} {ops:Array Oper} {Q:Exit→Act→World→Prop} {mask:List Nat} {ρ:EA} {m:Nat} {es:List Nat} {K:World→Prop} {tab:PD}
def PhiT (K:World→Prop) (tab:PD) (bs:List Bool) (vs:LV) (w:World):Prop:=K w∧rM tab bs vs w
theorem pO {i:Nat} {L:Nat→Bool} (h1:∀ e∈es,fC mask i e=true→L e=true) (h2:∀ e∈es,fC mask e i=true→L e=false):qO mask es i (es.map L)=true:=by
 unfold qO
 rw [List.all_eq_true]
 intro q hq
 have hq':q<es.length:=List.mem_range.1 hq
 have e1:es.getD q 0=es[q]:=by simp [hq']
 have e2:(es.map L).getD q false=L es[q]:=by simp [hq']
 have hm:es[q]∈es:=List.getElem_mem hq'
 rw [e1,e2,Bool.and_eq_true]
 constructor
 ·cases ha:fC mask i es[q]
  ·rfl
  ·rw [h1 _ hm ha]; rfl
 ·cases ha:fC mask es[q] i
  ·rfl
  ·rw [h2 _ hm ha]; rfl
abbrev WalkT (P:Program) (n:Nat) (ops:Array Oper) (es:List Nat) (K:World→Prop) (tab:PD) (mask:List Nat) (Fin:(EA→EA)→Prop) (i k:Nat) (l:List Oper) (ρ:EA→EA):Prop:=WalkE P n ops es (PhiT K tab) mask Fin i k l ρ
theorem WalkT.look {Fin:(EA→EA)→Prop} {i k:Nat} {o:Oper} {l:List Oper} {ρ:EA→EA} (hx:∀ w w',K w→Ext w w'→K w') (v:Value) (h1:∀ r w,K w→Runs P n (ρ r) o w v w)
  (h2:WalkT P n ops es K tab mask Fin (i+1) k l fun r=>XA (ρ r) o.dst v) (hg:o.guard=none:=by rfl) (hne:es.contains i=false:=by rfl):WalkT P n ops es K tab mask Fin i (k+1) (o::l) ρ :=
 WalkE.look hne (fun _=>v) (fun _ _ _=>rfl) (fun _ r w0 w _ _ hF hE=>Gives.run hg (h1 r w (hx w0 w hF.1 hE)) ⟨rfl,rfl⟩) h2
theorem WalkT.lookW {Fin:(EA→EA)→Prop} {i k:Nat} {o:Oper} {l:List Oper} {ρ:EA→EA} (hx:∀ w w',K w→Ext w w'→K w') (v:Value) (h1:∀ r w,K w→Gives P n ops (ρ r) o w fun u w'=>u=v∧Ext w w')
  (h2:WalkT P n ops es K tab mask Fin (i+1) k l fun r=>XA (ρ r) o.dst v) (hne:es.contains i=false:=by rfl):WalkT P n ops es K tab mask Fin i (k+1) (o::l) ρ :=
 WalkE.call hne (fun _=>v) (fun _ _ _=>rfl) (fun _ r w0 w _ _ hF hE=>h1 r w (hx w0 w hF.1 hE)) h2
theorem aA {Fin:(EA→EA)→Prop} {i k:Nat} {o:Oper} {l:List Oper} {ρ:EA→EA} (v:EA→Value) (hv:∀ r r':EA,(∀ e∈es,fC mask i e=true→r e=r' e)→v r=v r')
  (h1:AllT (qO mask es i) (fun _ f=>∀ r w0 w,f (es.map r) w0→Ext w0 w→Gives P n ops (ρ r) o w fun u w'=>u=v r∧Ext w w') tab)
  (h2:WalkT P n ops es K tab mask Fin (i+1) k l fun r=>XA (ρ r) o.dst (v r)) (hne:es.contains i=false:=by rfl):WalkT P n ops es K tab mask Fin i (k+1) (o::l) ρ :=
 WalkE.call hne v hv (fun L r w0 w a1 a2 hF hE=>by
  obtain ⟨f,hg,hf⟩:=AllT.at h1 (pO a1 a2) hF.2
  exact hg r w0 w hf hE) h2
theorem bA {Fin:(EA→EA)→Prop} {i k:Nat} {o:Oper} {l:List Oper} {ρ:EA→EA} (v:EA→Value) (hv:∀ r r':EA,(∀ e∈es,fC mask i e=true→r e=r' e)→v r=v r')
  (h1:∀ r w,Runs P n (ρ r) o w (v r) w)
  (h2:WalkT P n ops es K tab mask Fin (i+1) k l fun r=>XA (ρ r) o.dst (v r)) (hg:o.guard=none:=by rfl) (hne:es.contains i=false:=by rfl):WalkT P n ops es K tab mask Fin i (k+1) (o::l) ρ :=
 WalkE.look hne v hv (fun _ r _ w _ _ _ _=>Gives.run hg (h1 r w) ⟨rfl,rfl⟩) h2
theorem WalkT.eff {Fin:(EA→EA)→Prop} {i k:Nat} {o:Oper} {l:List Oper} {ρ:EA→EA} (hcm:AllT (fun _=>true) (fun _ f=>∀ r w,f (es.map r) w→K w) tab) (p:Nat)
  (h1:AllT (effB mask es i p) (fun D f=>∀ r w0 w,f (es.map r) w0→Ext w0 w→Gives P n ops (ρ r) o w fun u w'=>rM tab (D.set p true) ((es.map r).set p u) w') tab)
  (h2:WalkT P n ops es K tab mask Fin (i+1) k l fun r=>XA (ρ r) o.dst (r i)) (hp:es[p]?=some i:=by rfl) (hn:es.Nodup:=by decide):WalkT P n ops es K tab mask Fin i (k+1) (o::l) ρ :=
 have hd:∀ q,es[q]?=some i→q=p:=fun q hq=>by
  obtain ⟨q1,q2⟩:=List.getElem?_eq_some_iff.1 hq
  obtain ⟨p1,p2⟩:=List.getElem?_eq_some_iff.1 hp
  rcases Nat.lt_trichotomy q p with h | h | h
  ·exact absurd (q2.trans p2.symm) (List.pairwise_iff_getElem.1 hn q p q1 p1 h)
  ·exact h
  ·exact absurd (p2.trans q2.symm) (List.pairwise_iff_getElem.1 hn p q p1 q1 h)
 WalkE.eff p hp (fun L r w0 w aL a1 a2 hF hE=>by
  have hpl:p<es.length:=(List.getElem?_eq_some_iff.1 hp).1
  have hgp:(es.map L).getD p false=false:=by
   have:=(List.getElem?_eq_some_iff.1 hp).2
   simp [hpl,this,aL]
  obtain ⟨f,hg,hf⟩:=AllT.at h1 (show effB mask es i p (es.map L)=true by unfold effB; rw [hgp,pO a1 a2]; rfl) hF.2
  refine (hg r w0 w hf hE).mono fun u w' h=>⟨?_,h⟩
  have e:(es.map r).set p u=es.map (fun k=>if k=i then u else r k):=(map_set r u hp hd).symm
  rw [e] at h
  obtain ⟨f',hg',hf'⟩:=AllT.at hcm rfl h
  exact hg' _ _ hf') h2
theorem WalkT.nil {Fin:(EA→EA)→Prop} {i:Nat} {l:List Oper} {ρ:EA→EA} (h:Fin ρ):WalkT P n ops es K tab mask Fin i 0 l ρ:=WalkE.nil h
theorem WalkE.finMono {Φ:List Bool→LV→World→Prop} {Fin Fin':(EA→EA)→Prop} (hm:∀ ρ,Fin ρ→Fin' ρ):∀ (k i:Nat) (l:List Oper) (ρ:EA→EA),WalkE P n ops es Φ mask Fin i k l ρ→WalkE P n ops es Φ mask Fin' i k l ρ
 | 0,i,l,ρ,h=>by cases l<;>exact hm _ h
 | k+1,i,[],ρ,h=>h.elim
 | k+1,i,o::l,ρ,h=>by
  rcases h with ⟨p,hp,h1,h2⟩ | ⟨hne,v,hv,h1,h2⟩
  ·exact .inl ⟨p,hp,h1,WalkE.finMono hm k (i+1) l _ h2⟩
  ·exact .inr ⟨hne,v,hv,h1,WalkE.finMono hm k (i+1) l _ h2⟩
theorem drawT {id m:Nat} {l:List Oper} {w:World} (mask es:List Nat) (K:World→Prop) (tab:PD) (hmix:P.follows .mixedOrders=true)
  (h0:∀ w',Ext w w'→rM tab (es.map fun _=>false) (es.map fun _=>undef) w')
  (hcm:AllT (fun _=>true) (fun _ f=>∀ r w,f (es.map r) w→K w) tab)
  (h:WalkT P n l.toArray es K tab mask (fun ρ'=>∀ r w0 w',rM tab (es.map fun _=>true) (es.map r) w0→Ext w0 w'→W P n l.toArray Q (l.drop m) (ρ' r) w') 0 m l fun _=>ρ)
  (hB:kH l.toArray mask m=true:=by kernel_rfl) (hch:SN m es=true:=by kernel_rfl):(Code.region id l.toArray true).wp P Q (St n ρ) w :=
 drawE mask es (PhiT K tab) hmix hB hch (by
  have h1:=h0 _ (Ext.drew w)
  refine ⟨?_,h1⟩
  have e:(es.map fun _=>undef)=es.map (fun _:Nat=>undef):=rfl
  obtain ⟨f,hg,hf⟩:=AllT.at hcm rfl h1
  exact hg _ _ hf)
  (WalkE.finMono (fun ρ' hf r w0 w' hF hE=>hf r w0 w' hF.2 hE) _ _ _ _ h)
end
section
variable {P:Program} {n:Nat} {ops:Array Oper} {Q:Exit→Act→World→Prop} {mask:List Nat} {ρ:EA} {es:List Nat} {tab:PD} {M:Nat→Prop} {w₀:World} {C:List RW} {Fin:(EA→EA)→Prop} {i k:Nat} {o:Oper} {l:List Oper} {ρ':EA→EA}
abbrev HI (P:Program) (n:Nat) (ops:Array Oper) (es:List Nat) (M:Nat→Prop) (w₀:World) (C:List RW) (tab:PD) (mask:List Nat) (Fin:(EA→EA)→Prop) (i k:Nat) (l:List Oper) (ρ:EA→EA):Prop:=WalkT P n ops es (fun w=>Hp M w₀ w C) tab mask Fin i k l ρ
theorem Hp.lft {w:World} {T:List RW} (H:Hp M w₀ w (C++T)):Hp M w₀ w C:=by
 have e:∀ (i:Nat) (p:RW),C[i]?=some p→(C++T)[i]?=some p:=fun i p h=>by
  rw [List.getElem?_append_left (List.getElem?_eq_some_iff.1 h).1]; exact h
 exact ⟨H.chg,fun p hp=>H.own p (List.mem_append_left _ hp),fun i j p q b hi hj=>H.apart i j p q b (e i p hi) (e j q hj),fun p hp=>H.has p (List.mem_append_left _ hp)⟩
theorem JC (v:Value) (h1:∀ r w,Hp M w₀ w C→Runs P n (ρ' r) o w v w) (h2:HI P n ops es M w₀ C tab mask Fin (i+1) k l fun r=>XA (ρ' r) o.dst v) (hg:o.guard=none:=by rfl) (hne:es.contains i=false:=by rfl):HI P n ops es M w₀ C tab mask Fin i (k+1) (o::l) ρ' :=
 WalkT.look (fun _ _ h e=>h.ext e) v h1 h2 hg hne
theorem GH (v:Value) (h1:∀ r w,Hp M w₀ w C→Gives P n ops (ρ' r) o w fun u w'=>u=v∧Ext w w') (h2:HI P n ops es M w₀ C tab mask Fin (i+1) k l fun r=>XA (ρ' r) o.dst v) (hne:es.contains i=false:=by rfl):HI P n ops es M w₀ C tab mask Fin i (k+1) (o::l) ρ' :=
 WalkT.lookW (fun _ _ h e=>h.ext e) v h1 h2 hne
theorem mB {id m:Nat} {w:World} (mask es:List Nat) (C:List RW) (tab:PD) (hmix:P.follows .mixedOrders=true)
  (h0:∀ w',Ext w w'→rM tab (es.map fun _=>false) (es.map fun _=>undef) w') (hcm:AllT (fun _=>true) (fun _ f=>∀ r w,f (es.map r) w→Hp M w₀ w C) tab)
  (h:AllT (fun _=>true) (fun _ f=>∀ r w,f (es.map r) w→Hp M w₀ w C) tab→HI P n l.toArray es M w₀ C tab mask (fun ρ'=>∀ r w0 w',rM tab (es.map fun _=>true) (es.map r) w0→Ext w0 w'→W P n l.toArray Q (l.drop m) (ρ' r) w') 0 m l fun _=>ρ)
  (hB:kH l.toArray mask m=true:=by kernel_rfl) (hch:SN m es=true:=by kernel_rfl):(Code.region id l.toArray true).wp P Q (St n ρ) w :=
 drawT mask es (fun w=>Hp M w₀ w C) tab hmix h0 hcm (h hcm) hB hch
end
theorem A_ {a b:Prop} (h1:a) (h2:b):a∧b:=⟨h1,h2⟩
theorem E_ {α:Type} {p:α→Prop} (x:α) (h:p x):∃ x,p x:=⟨x,h⟩
end Go.Proofs.YtljlkhobfdofhaaGreatDoor.Vc
namespace Go.Proofs.YtljlkhobfdofhaaGreatDoor.Vc
open Go
theorem uM {σ:Type} (slots:σ→List (Nat × Value)) (J:σ→World→Prop) {P:Program} {n:Nat} {ρ:EA} {w:World} {Q:Exit→Act→World→Prop} {x y:Code}
  (hy:∀ s ρ w,J s w→y.wp P Q (St n (SI ρ (slots s))) w)
  (hx:(∀ s ρ w,eP ρ (slots s)→J s w→y.wp P Q (St n ρ) w)→x.wp P (Exit.then (y.wp P Q) Q) (St n ρ) w):(Code.seq x y).wp P Q (St n ρ) w :=
 xG (hx fun s ρ w hk hJ=>by
  have h:=hy s ρ w hJ
  rwa [JE hk] at h)
theorem Hp.pick {M:Nat→Prop} {w₀ w:World} {L:List RW} (H:Hp M w₀ w L) (m:Nat) (idx:List Nat) (hn:idx.Nodup) (hm:∀ i∈idx,i<m):Hp M w₀ w (idx.filterMap (fun i=>L[i]?)++L.drop m):=by
 have hin:∀ p∈idx.filterMap (fun i=>L[i]?)++L.drop m,p∈L:=fun p hp=>by
  rcases List.mem_append.1 hp with h | h
  ·obtain ⟨i,_,hi⟩:=List.mem_filterMap.1 h
   exact List.mem_of_getElem? hi
  ·exact List.mem_of_mem_drop h
 refine ⟨H.chg,fun p hp=>H.own p (hin p hp),QC.2 (List.pairwise_append.2 ⟨?_,?_,?_⟩),fun p hp=>H.has p (hin p hp)⟩
 ·refine List.pairwise_filterMap.2 (List.Pairwise.imp (fun {a a'} hne p hp q hq b hb hc=>?_) hn)
  exact hne (H.apart a a' p q b hp hq hb hc)
 ·exact (QC.1 H.apart).sublist (List.drop_sublist m L)
 ·intro p hp q hq b hb hc
  obtain ⟨i,hi,hpi⟩:=List.mem_filterMap.1 hp
  obtain ⟨j,hj⟩:=List.mem_iff_getElem?.1 hq
  rw [List.getElem?_drop] at hj
  have h1:=H.apart i (m+j) p q b hpi hj hb hc
  have h2:=hm i hi
  omega
def nx:Code→Code
 | .seq _ y=>y
 | c=>c
def hd:Code→Code
 | .seq x _=>x
 | c=>c
section
variable {P:Program} {n:Nat} {ρ:EA} {w w₀:World} {Q:Exit→Act→World→Prop} {ops:Array Oper} {Q':Act→World→Prop} {M:Nat→Prop} {L:List RW} {S D e T T':TypeId} {d:Option Nat} {x y:Operand} {t:TypeId} {pos:String} {after:Array Edge} {rest:List Oper} {l:List (BitVec 8)} {g:Option (Nat × Bool)}
end
end Go.Proofs.YtljlkhobfdofhaaGreatDoor.Vc
namespace Go.Proofs.YtljlkhobfdofhaaGreatDoor.Vc
open Go
def gv:Bool→Value→Value
 | true,v=>v
 | false,_=>undef
theorem uE {B:Bool} {v:Value} (h:B=true):gv B v=v:=by subst h; rfl
section
variable {P:Program} {n:Nat} {ops:Array Oper} {Q:Exit→Act→World→Prop} {rest:List Oper} {ρ:EA} {w:World} {d:Option Nat} {t:TypeId} {pos:String} {after:Array Edge} {g:Option (Nat × Bool)} {x y z:Operand} {j d':Nat} {B c:Bool} {op:Op}
theorem NH {want:Bool} (hj:(ops[j]?).bind (·.dst)=some d') (hd:Nat.blt d' n=true) (hb:ρ d'=undef):Region.wanted ⟨d,op,t,pos,after,some (j,want)⟩ (yielded ops (St n ρ).tmps)=false:=by
 have hd':d'<n:=by simpa [Nat.blt_eq] using hd
 have hy:yielded ops (St n ρ).tmps j=none:=by
  simp only [yielded,hj,Option.bind_some]
  simp [St,hd',hb,undef]
 show (yielded ops (St n ρ).tmps j == some want)=false
 rw [hy]; rfl
theorem BA (hj:(ops[j]?).bind (·.dst)=some d') (hd:Nat.blt d' n=true) (hb:ρ d'=gv B (.bool c)):Region.wanted ⟨d,op,t,pos,after,some (j,true)⟩ (yielded ops (St n ρ).tmps)=(B && c):=by
 cases B
 ·exact NH hj hd hb
 ·rw [oA hj hd hb]; cases c<;>rfl
theorem gC (hj:(ops[j]?).bind (·.dst)=some d') (hd:Nat.blt d' n=true) (hb:ρ d'=gv B (.bool c)):Region.wanted ⟨d,op,t,pos,after,some (j,false)⟩ (yielded ops (St n ρ).tmps)=(B && !c):=by
 cases B
 ·exact NH hj hd hb
 ·rw [oA hj hd hb]; cases c<;>rfl
theorem VA {o:Oper} {v:Value} (hw:Region.wanted o (yielded ops (St n ρ).tmps)=B) (h:B=true→Runs P n ρ o w v w) (hK:W P n ops Q rest (XA ρ o.dst (gv B v)) w):W P n ops Q (o::rest) ρ w:=by
 cases B
 ·exact uB hw hK
 ·exact ZA hw (h rfl) hK
theorem caGv {o:Oper} {f:FuncId} {as:Array Value} {v:Value} (hw:Region.wanted o (yielded ops (St n ρ).tmps)=B) (hr:B=true→Enters P n ρ o w f as) (hc:B=true→Calls P f as w (tQ fun u w'=>u=v∧Ext w w'))
  (hK:∀ w',Ext w w'→W P n ops Q rest (XA ρ o.dst (gv B v)) w'):W P n ops Q (o::rest) ρ w:=by
 cases B
 ·exact uB hw (hK w (Chg.refl _ _))
 ·exact ZO hw (hr rfl) (hc rfl) fun u w' ⟨h1,h2⟩=>by subst h1; exact hK w' h2
theorem OB {e:Bool} (hB:B=true) (hc:ev n ρ x=gv B (.bool c)) (hx:ev n ρ y=gv (B && c) (.bool e)) (hy:ev n ρ z=.bool false):Runs P n ρ ⟨d,.pick x y z,t,pos,after,g⟩ w (.bool (c && e)) w:=by
 subst hB
 cases c
 ·exact gD hc hy
 ·exact fD hc hx
theorem sF {e:Bool} (hB:B=true) (hc:ev n ρ x=gv B (.bool c)) (hx:ev n ρ y=.bool true) (hy:ev n ρ z=gv (B && !c) (.bool e)):Runs P n ρ ⟨d,.pick x y z,t,pos,after,g⟩ w (.bool (c || e)) w:=by
 subst hB
 cases c
 ·exact gD hc hy
 ·exact fD hc hx
theorem IS {e S:TypeId} {zz m c h q:Nat} {hi mx:Operand} {a:Option Addr} {kh km:IntKind} {i u:Int} {gd:Option (Nat × Bool)} (hT:qD P S=some (e,zz)) (hx:ev n ρ x=.slice a m c)
  (hh:ev n ρ hi=.int kh i) (hq:ev n ρ mx=.int km u) (ej:i=(h:Int)) (eq:u=(q:Int)) (h2:h≤q) (h3:q≤c) :
  Runs P n ρ ⟨d,.slice S x none (some hi) (some mx),t,pos,after,gd⟩ w (.slice (if q=0 then a else LD a (0*zz)) h q) w:=by
 subst ej eq
 unfold qD at hT
 split at hT
 ·rename_i e' hu
  simp only [Option.map_eq_some_iff,Prod.mk.injEq] at hT
  obtain ⟨z',hz,rfl,rfl⟩:=hT
  have c0:(0:Int)≤(q:Int)∧(q:Int)≤(c:Int):=by omega
  have c1:(0:Int)≤(h:Int)∧(h:Int)≤(q:Int):=by omega
  have b1:(Instr.sliceBounds true m c none (some (.int kh h)) (some (.int km q))).run P w=.ok (0,h,q) w:=by
   simp [Instr.sliceBounds,Instr.sliceBound,asIntOf,c0,c1,h2]
  simp only [Runs,execOp,hx,hh,hq,Option.map_some,Option.map_none,Instr.sliceAt,Instr.slice,Sem.run_bind,run_underlying hu,Result.andThen_ok,Sem.run_pure,b1,MC hz,LD,Nat.sub_zero]
 ·cases hT
end
end Go.Proofs.YtljlkhobfdofhaaGreatDoor.Vc
namespace Go.Proofs.YtljlkhobfdofhaaGreatDoor.Vc
open Go
section
variable {α:Type} {E:Enc α} {P:Program} {n:Nat} {ops:Array Oper} {Q:Exit→Act→World→Prop} {rest:List Oper} {ρ:EA} {w w₀ u:World} {d:Option Nat} {t S T:TypeId} {pos:String} {after:Array Edge} {x y:Operand} {M:Nat→Prop} {L:List RW} {k c:Nat} {l:List α} {g:Option (Nat × Bool)}
theorem JS {ad:Option Addr} {k k' m z j:Nat} {kk:IntKind} {i:Int} (ha:UD P T=some (m,z)) (hR:Rd E w ad l) (hl:0<l.length) (hx:ev n ρ x=.pointer (LD ad k)) (hy:ev n ρ y=.int kk i) (hi:i=(j:Int)) (hj:j<m) (hk:k+j*z=k') :
  Runs P n ρ ⟨d,.indexAddr T x y,t,pos,after,g⟩ w (.pointer (LD ad k')) w:=by
 subst hk
 rcases hR with h | ⟨b,off,cs,X,fr,rfl,_,_⟩
 ·rw [h] at hl; simp at hl
 ·refine (LA (b:=b) (off:=off+k) ha (by rw [hx]; simp [LD,Addr.add_lit]) hy hi hj rfl).as ?_
  simp [LD,Addr.add_lit,Nat.add_assoc]
theorem BX (l:List α) (j o:Nat) (a b:α) (v:Value) (h:l[j]?=some a) (ho:o<E.s) (hb:E.f b=(E.f a).set o v) (post:LV) :
  sD (xA E l++post).toArray (j*E.s+o) [v]=(xA E (l.set j b)++post).toArray:=by
 have hj:j<l.length:=(List.getElem?_eq_some_iff.1 h).1
 have e1:l=l.take j++a::l.drop (j+1):=by
  have:=(List.getElem?_eq_some_iff.1 h).2
  rw [← this,List.getElem_cons_drop,List.take_append_drop]
 have e2:l.set j b=l.take j++b::l.drop (j+1):=by
  rw [List.set_eq_take_append_cons_drop,if_pos hj]
 have ho':o<(E.f a).length:=by rw [E.len]; exact ho
 have e4:E.f a=(E.f a).take o++[(E.f a)[o]]++(E.f a).drop (o+1):=by
  rw [List.append_assoc,List.singleton_append,List.getElem_cons_drop,List.take_append_drop]
 have e5:E.f b=(E.f a).take o++[v]++(E.f a).drop (o+1):=by
  rw [hb,List.set_eq_take_append_cons_drop,if_pos ho',List.append_assoc,List.singleton_append]
 have c1:xA E l=xA E (l.take j)++(E.f a++xA E (l.drop (j+1))):=by
  conv=>lhs; rw [e1]
  rw [dB,yE]
 have c2:xA E (l.set j b)=xA E (l.take j)++(E.f b++xA E (l.drop (j+1))):=by
  rw [e2,dB,yE]
 have hl:j*E.s+o=(xA E (l.take j)++(E.f a).take o).length:=by
  rw [List.length_append,qA,List.length_take,List.length_take,Nat.min_eq_left (by omega),Nat.min_eq_left (by omega)]
 rw [hl,c1,c2,e5]
 have e3:xA E (l.take j)++(E.f a++xA E (l.drop (j+1)))++post=(xA E (l.take j)++(E.f a).take o)++[(E.f a)[o]]++((E.f a).drop (o+1)++(xA E (l.drop (j+1))++post)):=by
  conv=>lhs; rw [e4]
  simp only [List.append_assoc]
 rw [e3,CB _ [(E.f a)[o]] [v] _ rfl]
 simp only [List.append_assoc]
theorem kL {key:Option Nat} {sp:LV} {j q o:Nat} {a b:α} {v:Value} (H:Hp M w₀ w L) (hk:L[k]?=some (key,wA E T l sp)) (hS:Sl E key l c sp) (hx:ev n ρ x=.pointer (LD (CA key) q)) (hq:q=j*E.s+o) (hy:ev n ρ y=v) (h2:ZB P S=some 1) (hv:v.cells=#[v]) (ho1:v.oneCell'=true) (ho:o<E.s) (hb:E.f b=(E.f a).set o v) (hj:l[j]?=some a)
  (h:∀ w',Sl E key (l.set j b) c sp→Hp M w₀ w' (L.set k (key,wA E T (l.set j b) sp))→W P n ops Q rest ρ w') :
  W P n ops Q (⟨none,.store S x y,t,pos,after,none⟩::rest) ρ w:=by
 subst hq
 have hl:=(List.getElem?_eq_some_iff.1 hj).1
 obtain ⟨g,rfl⟩:=hS.some (by omega)
 refine GA (k:=k) (b:=g) (off:=j*E.s+o) (v:=v) (cs':=(xA E (l.set j b)++sp).toArray) H hk (by rw [hx]; simp [LD,CA,Addr.add_lit]) hy h2 (by rw [hv]; rfl) (by rw [hv]; intro u hu; simp at hu; subst hu; exact ho1) ?_ ?_ ?_
 ·rw [List.size_toArray,List.length_append,qA]
  have:=Nat.mul_le_mul_right E.s (show j+1≤l.length by omega)
  rw [Nat.add_mul,Nat.one_mul] at this; omega
 ·rw [hv]; exact BX l j o a b v hj ho hb sp
 ·intro w' H' _
  exact h w' ⟨by simpa using hS.len,hS.max,fun h=>by cases h⟩ H'
end
end Go.Proofs.YtljlkhobfdofhaaGreatDoor.Vc
namespace Go.Proofs.YtljlkhobfdofhaaGreatDoor.Vc
open Go
section
variable {α:Type} {E:Enc α} {P:Program} {n:Nat} {ops:Array Oper} {Q:Exit→Act→World→Prop} {rest:List Oper} {ρ:EA} {w w₀ u:World} {d:Option Nat} {t S T:TypeId} {pos:String} {after:Array Edge} {x y:Operand} {M:Nat→Prop} {L:List RW} {k c:Nat} {l:List α}
theorem AX (l:List α) (j o:Nat) (a b:α) (vs:LV) (h:l[j]?=some a) (hb:E.f b=(E.f a).take o++vs++(E.f a).drop (o+vs.length)) (ho:o+vs.length≤E.s) (post:LV) :
  sD (xA E l++post).toArray (j*E.s+o) vs=(xA E (l.set j b)++post).toArray:=by
 have hj:j<l.length:=(List.getElem?_eq_some_iff.1 h).1
 have e1:l=l.take j++a::l.drop (j+1):=by
  have:=(List.getElem?_eq_some_iff.1 h).2
  rw [← this,List.getElem_cons_drop,List.take_append_drop]
 have e2:l.set j b=l.take j++b::l.drop (j+1):=by
  rw [List.set_eq_take_append_cons_drop,if_pos hj]
 have hl:(E.f a).length=E.s:=E.len a
 have e4:E.f a=(E.f a).take o++((E.f a).drop o).take vs.length++(E.f a).drop (o+vs.length):=by
  rw [List.append_assoc,← List.drop_drop,List.take_append_drop,List.take_append_drop]
 have c1:xA E l=xA E (l.take j)++(E.f a++xA E (l.drop (j+1))):=by
  conv=>lhs; rw [e1]
  rw [dB,yE]
 have c2:xA E (l.set j b)=xA E (l.take j)++(E.f b++xA E (l.drop (j+1))):=by
  rw [e2,dB,yE]
 have hlen:j*E.s+o=(xA E (l.take j)++(E.f a).take o).length:=by
  rw [List.length_append,qA,List.length_take,List.length_take,Nat.min_eq_left (by omega),Nat.min_eq_left (by omega)]
 rw [hlen,c1,c2,hb]
 have e3:xA E (l.take j)++(E.f a++xA E (l.drop (j+1)))++post=(xA E (l.take j)++(E.f a).take o)++((E.f a).drop o).take vs.length++((E.f a).drop (o+vs.length)++(xA E (l.drop (j+1))++post)):=by
  conv=>lhs; rw [e4]
  simp only [List.append_assoc]
 rw [e3,CB _ (((E.f a).drop o).take vs.length) vs _ (by rw [List.length_take,List.length_drop]; omega)]
 simp only [List.append_assoc]
theorem VO {key:Option Nat} {sp:LV} {j q o m:Nat} {a b:α} {v:Value} {vs:LV} (H:Hp M w₀ w L) (hk:L[k]?=some (key,wA E T l sp)) (hS:Sl E key l c sp) (hx:ev n ρ x=.pointer (LD (CA key) q)) (hq:q=j*E.s+o) (hy:ev n ρ y=v) (h2:ZB P S=some m) (hv:v.cells=vs.toArray) (hm:vs.length=m) (ho1:∀ u∈vs,u.oneCell'=true) (ho:o+vs.length≤E.s) (hb:E.f b=(E.f a).take o++vs++(E.f a).drop (o+vs.length)) (hj:l[j]?=some a)
  (h:∀ w',Sl E key (l.set j b) c sp→Hp M w₀ w' (L.set k (key,wA E T (l.set j b) sp))→W P n ops Q rest ρ w') :
  W P n ops Q (⟨none,.store S x y,t,pos,after,none⟩::rest) ρ w:=by
 subst hq hm
 have hl:=(List.getElem?_eq_some_iff.1 hj).1
 obtain ⟨g,rfl⟩:=hS.some (by omega)
 refine GA (k:=k) (b:=g) (off:=j*E.s+o) (v:=v) (cs':=(xA E (l.set j b)++sp).toArray) H hk (by rw [hx]; simp [LD,CA,Addr.add_lit]) hy h2 (by rw [hv]; simp) (by rw [hv]; simpa using ho1) ?_ ?_ ?_
 ·rw [List.size_toArray,List.length_append,qA]
  have:=Nat.mul_le_mul_right E.s (show j+1≤l.length by omega)
  rw [Nat.add_mul,Nat.one_mul] at this; omega
 ·rw [hv]; exact AX l j o a b vs hj hb ho sp
 ·intro w' H' _
  exact h w' ⟨by simpa using hS.len,hS.max,fun h=>by cases h⟩ H'
end
end Go.Proofs.YtljlkhobfdofhaaGreatDoor.Vc
namespace Go.Proofs.YtljlkhobfdofhaaGreatDoor.AesSpec
def invS (a:By):Nat→By
 | 0=>1#8
 | k+1=>gm (invS a k) a
def sS (y:By):Nat→By × By
 | 0=>(99#8,y)
 | k+1=>((sS y k).1^^^(sS y k).2,(sS y k).2*2#8+(sS y k).2 / 128#8)
def sR (a:By):By:=(sS (invS a 254) 5).1
end Go.Proofs.YtljlkhobfdofhaaGreatDoor.AesSpec
namespace Go.Proofs.YtljlkhobfdofhaaGreatDoor.AesSpec
theorem YK {l:List By} {i j:Nat} {v d:By} (h:i<l.length):(l.set i v).getD j d=if i=j then v else l.getD j d:=by
 rw [List.getD_eq_getElem?_getD,List.getElem?_set,List.getD_eq_getElem?_getD]
 by_cases e:i=j
 ·subst e; simp [h]
 ·simp [e]
theorem getD_set_ne {l:List By} {i j:Nat} {v d:By} (h:i≠j):(l.set i v).getD j d=l.getD j d:=by
 rw [List.getD_eq_getElem?_getD,List.getElem?_set_ne h,List.getD_eq_getElem?_getD]
theorem xt_add:∀ a b:By,xt (a^^^b)=xt a^^^xt b:=by decide +kernel
def DF (c:By × By × By × By):By × By × By × By :=
 (c.1^^^((((c.1^^^c.2.1)^^^c.2.2.1)^^^c.2.2.2)^^^xt (c.1^^^c.2.1)),c.2.1^^^((((c.1^^^c.2.1)^^^c.2.2.1)^^^c.2.2.2)^^^xt (c.2.1^^^c.2.2.1)),c.2.2.1^^^((((c.1^^^c.2.1)^^^c.2.2.1)^^^c.2.2.2)^^^xt (c.2.2.1^^^c.2.2.2)),c.2.2.2^^^((((c.1^^^c.2.1)^^^c.2.2.1)^^^c.2.2.2)^^^xt (c.2.2.2^^^c.1)))
end Go.Proofs.YtljlkhobfdofhaaGreatDoor.AesSpec
namespace Go.Proofs.YtljlkhobfdofhaaGreatDoor.AesSpec
theorem gm_two:∀ p:By,gm p 2#8=xt p:=by decide +kernel
theorem OW:∀ p:By,gm p 3#8=xt p^^^p:=by decide +kernel
end Go.Proofs.YtljlkhobfdofhaaGreatDoor.AesSpec
namespace Go.Proofs.YtljlkhobfdofhaaGreatDoor.AesSpec
theorem nC (a b c d:By):a^^^((((a^^^b)^^^c)^^^d)^^^xt (a^^^b))=((gm a 2#8^^^gm b 3#8)^^^c)^^^d:=by
 rw [gm_two,OW,xt_add]
 have:∀ (a b c d x y:By),a^^^((((a^^^b)^^^c)^^^d)^^^(x^^^y))=((x^^^(y^^^b))^^^c)^^^d:=fun a b c d x y=>by
  have e:a^^^((((a^^^b)^^^c)^^^d)^^^(x^^^y))=(a^^^a)^^^(((x^^^(y^^^b))^^^c)^^^d):=by ac_rfl
  rw [e,BitVec.xor_self,BitVec.zero_xor]
 exact this ..
end Go.Proofs.YtljlkhobfdofhaaGreatDoor.AesSpec
namespace Go.Proofs.YtljlkhobfdofhaaGreatDoor.Vc
open Go
section
variable {P:Program} {n:Nat} {ρ:EA} {w:World} {d:Option Nat} {t T T':TypeId} {pos:String} {after:Array Edge} {x y:Operand} {g:Option (Nat × Bool)} {a b:ByteArray}
theorem r_cat (hx:ev n ρ x=.string a) (hy:ev n ρ y=.string b) (hl:a.size+b.size≤1000000):Runs P n ρ ⟨d,.binOp .add T x y T',t,pos,after,g⟩ w (.string (a++b)) w:=by
 have hl':¬ ((a.size+b.size:Nat):Int) > IntKind.i64.max:=by
  show ¬ (((a.size+b.size:Nat):Int) > 9223372036854775807)
  omega
 have h:(binOp .add T (.string a) (.string b)).run P w=.ok (.string (a++b)) w:=by
  simp only [binOp,Op.stringOp,if_neg hl',Sem.run_pure]
 have hg:eqGuard .add T x y (.string a) (.string b)=pure ():=by simp [eqGuard]
 simp [Runs,execOp,hx,hy,hg,h]
end
end Go.Proofs.YtljlkhobfdofhaaGreatDoor.Vc
namespace Go.Proofs.YtljlkhobfdofhaaGreatDoor.Vc
open Go Go.ChangeShapes Go.WideShapes Go.ChangeAt Go.RowKit
def kY {α:Type} (P:Program) (e:TypeId) (E:Enc α) (Q:α→Prop):Prop :=
 P.cellsOf e=E.s∧∀ (H:Type) (enc:TypeId × Value→H) (w:World) (base:Nat) (spare:Nat→Bool) (held:Bool) (fuel:Nat) (cs:LV) (x:DataW H × List MemPlace),
  DataW.trod enc P w base spare held fuel e cs=some x→∃ a,cs=E.f a∧Q a
def Fit64 (n:Int):Prop:=-9223372036854775808≤n∧n≤9223372036854775807
section
variable {P:Program} {e t:TypeId}
theorem xZ (h:P.underlying e=some (.int .u64)) (hc:P.cellsOf e=1):kY P e E64 fun _=>True:=by
 refine ⟨hc,fun H enc w base spare held fuel cs x hx=>?_⟩
 obtain ⟨n,rfl,_,hw⟩:=DataW.trod_int h hx
 have:=bounds_u64 hw
 refine ⟨BitVec.ofInt 64 n,?_,trivial⟩
 show _=[u64 _]
 rw [u64,BitVec.toNat_ofInt]; congr 2; omega
theorem opensI (h:P.underlying e=some (.int .i64)) (hc:P.cellsOf e=1):kY P e EI Fit64:=by
 refine ⟨hc,fun H enc w base spare held fuel cs x hx=>?_⟩
 obtain ⟨n,rfl,_,hw⟩:=DataW.trod_int h hx
 exact ⟨n,rfl,bounds_i64 hw⟩
theorem WN {α:Type} {E:Enc α} {Q:α→Prop} {H:Type} {enc:TypeId × Value→H} {w:World} {base:Nat} {spare:Nat→Bool} {held:Bool} {v:Value} {d:DataW H} {ps:List MemPlace}
  (hE:kY P e E Q) (hv:v.cells.toList=[v]) (hf:∀ a,E.f a=[E.val a]) (h:DataW.Trod enc P w base spare held e v d ps):∃ a,v=E.val a∧Q a:=by
 obtain ⟨fuel,h⟩:=h
 rw [hv] at h
 obtain ⟨a,h1,h2⟩:=hE.2 _ _ _ _ _ _ _ _ _ h
 rw [hf] at h1
 exact ⟨a,(List.cons.inj h1).1,h2⟩
section
variable {H:Type} {enc:TypeId × Value→H} {w:World} {base:Nat} {spare:Nat→Bool} {held:Bool} {r:Reach} {b0:Nat} {v:Value} {d:DataW H} {ps:List MemPlace}
theorem open_u64 (h:P.underlying e=some (.int .u64)) (hc:P.cellsOf e=1) (hv:Value.okWide P w r b0 e v) (hd:DataW.Trod enc P w base spare held e v d ps):∃ a:BitVec 64,v=u64 a:=by
 obtain ⟨n,rfl⟩:=okWide_int h hv
 obtain ⟨a,h1,_⟩:=WN (xZ h hc) rfl (fun _=>rfl) hd
 exact ⟨a,h1⟩
theorem open_i64 (h:P.underlying e=some (.int .i64)) (hc:P.cellsOf e=1) (hv:Value.okWide P w r b0 e v) (hd:DataW.Trod enc P w base spare held e v d ps):∃ a:Int,v=i64 a∧Fit64 a:=by
 obtain ⟨n,rfl⟩:=okWide_int h hv
 exact WN (opensI h hc) rfl (fun _=>rfl) hd
theorem gH {W W':World} (hl:laidOutB P=true) (hb:Below W.heap.size W W'):∀ (ts:List TypeId) (vs:LV) (ds:List (DataW H)) (ps:List MemPlace),
  (∀ t∈ts,P.readableRec t=true∧t<P.types.size)→DataW.TrodAll enc P W 0 (fun _=>true) true ts vs ds ps→DataW.TrodAll enc P W' 0 (fun b=>decide (b<W.heap.size)) true ts vs ds ps
 | [],vs,ds,ps,_,h=>by cases vs<;>cases ds<;>simp_all [DataW.TrodAll]
 | t::ts,vs,ds,ps,hr,h=>by
  obtain ⟨v,vs',d,ds',p,q,rfl,rfl,rfl,h1,h2⟩:=trodAll_cons h
  have lt:∀ x∈p,x.block<W.heap.size:=by obtain ⟨m,hm⟩:=h1; exact DataW.trod_lt m _ _ _ hm
  exact trodAll_cons_mk (Below.trod hl (hr t (by simp)).1 (hr t (by simp)).2 h1 hb lt) (gH hl hb ts vs' ds' q (fun x hx=>hr x (by simp [hx])) h2)
theorem law_end {fn:Func} {s:ChangeSpec} {W W':World} {args:Array Value} {ds gs:List (DataW H)} {before:List MemPlace} {tb:TypeId}
  (hl:laidOutB P=true) (hr0:(fn.params.toList.all fun t=>P.readableRec t && decide (t<P.types.size))=true) (hres:fn.resultTypes.toList=[tb]) (hsz:fn.resultTypes.size=1) (htb:P.underlying tb=some .bool) (hv:s.vars=[])
  (hW:DataW.Whole enc P fn.params.toList s.vars false W args.toList ds gs before) (h1:(s.fn H (ds++gs)).results=[.lit (.bool true)]) (h2:(s.fn H (ds++gs)).args=ds) (h3:(s.fn H (ds++gs)).vars=[])
  (hb:Below W.heap.size W W'):s.post enc P fn false true false false W args (.bool true) W':=by
 have hr:∀ t∈fn.params.toList,P.readableRec t=true∧t<P.types.size:=fun t ht=>by
  have:=List.all_eq_true.1 hr0 t ht
  simpa using this
 have hW':=hW
 obtain ⟨p,q,hA,hV,rfl,hfz,hnd⟩:=hW
 refine ⟨ds,gs,_,[],p,[],hW',?_,?_,?_,hb.frame _,fun h=>by cases h⟩
 ·rw [hres,hsz,h1]
  exact trodAll_mk1 (shut_bool htb _)
 ·rw [h2]
  exact gH hl hb _ _ _ _ hr hA
 ·rw [h3,hv]; rfl
end
end
end Go.Proofs.YtljlkhobfdofhaaGreatDoor.Vc
namespace Go.Proofs.YtljlkhobfdofhaaGreatDoor.Vc
open Go Go.ChangeShapes Go.WideShapes Go.ChangeAt Go.RowKit Go.Deep
theorem cell_some {w:World} {b off:Nat} {v:Value} (h:w.cell? ⟨b,off,none⟩=some v):∃ cs T fr,w.heap[b]?=some (.cells cs T fr)∧cs[off]?=some v:=by
 unfold World.cell? at h
 split at h
 ·rename_i cs T fr hc
  exact ⟨cs,T,fr,hc,h⟩
 ·cases h
section
variable {P:Program} {t e:TypeId} {α:Type} {E:Enc α} {Q:α→Prop} {H:Type} {enc:TypeId × Value→H} {w:World} {base:Nat} {held:Bool} {r:Reach} {b0:Nat} {v:Value} {d:DataW H} {ps:List MemPlace}
end
end Go.Proofs.YtljlkhobfdofhaaGreatDoor.Vc
