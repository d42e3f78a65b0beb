/- What the claim has need of: RvW, RvX, RvY, RvZ, RwA, RwB, RwC, RwD, RwE, RwF, RwG. -/
import Derived.Test.YtljlkhobfdofhaaGreatDoorWv7
set_option linter.unusedVariables false
set_option maxHeartbeats 16000000
set_option maxRecDepth 20000
namespace Go.Proofs.YtljlkhobfdofhaaGreatDoor.Rv
open Go Vc
attribute [local irreducible] pg
section
variable {I J:Itp} {w w':World} {A A':eF} {id:Pa} {a:AO} {k:Bk}
theorem lv_lt (H:MRel I w A) {b:Nat} (h:lv I A b):b<w.heap.size:=by
 obtain ⟨i,c,k,h1,h2,h3,rfl⟩:=h
 exact H.lt h1 h2 h3
theorem MRel.pub (H:MRel I w A) (hid:get id A=none) (hb:¬ lv I A k.b) (hK:I.K k.b=none) (ho:OR I.K I.β w k a) (hd:a≠.dead) :
  MRel ⟨bind I.β id k,I.K⟩ w (put id A (some a))∧∀ b,lv ⟨bind I.β id k,I.K⟩ (put id A (some a)) b→lv I A b∨b=k.b:=by
 have hn:=H.dom _ hid
 have hle:Mle I.β (bind I.β id k):=gK hn
 refine ⟨⟨H.kept,?_,?_,?_,H.gl⟩,?_⟩
 ·intro i hi
  rw [zB] at hi
  by_cases e:i=id
  ·rw [if_pos e] at hi; cases hi
  ·rw [if_neg e] at hi; show bind I.β id k i=none; rw [kC e]; exact H.dom _ hi
 ·intro i c hi hc
  rw [zB] at hi
  by_cases e:i=id
  ·rw [if_pos e] at hi; cases hi; subst e
   exact ⟨k,bind_self,hK,ho.up (Kle.refl _) hle⟩
  ·rw [if_neg e] at hi
   obtain ⟨k',h1,h2,h3⟩:=H.own _ _ hi hc
   exact ⟨k',hle _ _ h1,h2,h3.up (Kle.refl _) hle⟩
 ·intro i j c d ki kj hi hc hj hd' bi bj e
  rw [zB] at hi hj
  by_cases e1:i=id<;>by_cases e2:j=id
  ·rw [e1,e2]
  ·rw [if_neg e2] at hj
   subst e1
   have bi':some k=some ki:=by rw [← bi]; exact bind_self.symm
   cases bi'
   have bj':I.β j=some kj:=by rw [← bj]; exact (kC e2).symm
   exact (hb ⟨j,d,kj,hj,hd',bj',e.symm⟩).elim
  ·rw [if_neg e1] at hi
   subst e2
   have bj':some k=some kj:=by rw [← bj]; exact bind_self.symm
   cases bj'
   have bi':I.β i=some ki:=by rw [← bi]; exact (kC e1).symm
   exact (hb ⟨i,c,ki,hi,hc,bi',e⟩).elim
  ·rw [if_neg e1] at hi; rw [if_neg e2] at hj
   exact H.inj _ _ _ _ _ _ hi hc hj hd' (by rw [← bi]; exact (kC e1).symm) (by rw [← bj]; exact (kC e2).symm) e
 ·rintro b ⟨i,c,k',h1,h2,h3,h4⟩
  rw [zB] at h1
  by_cases e:i=id
  ·subst e
   have h3':some k=some k':=by rw [← h3]; exact bind_self.symm
   cases h3'; exact .inr h4.symm
  ·rw [if_neg e] at h1
   exact .inl ⟨i,c,k',h1,h2,by rw [← h3]; exact (kC e).symm,h4⟩
end
def Pt (o:Oper) (v:AV) (E E':En):Prop:=E'.m=E.m∧∀ t,t<256→fF t E'=if o.dst=some t then some v else fF t E
def Flo (n:Nat) (o:Oper) (E:En) (A:eF) (v:AV) (A':eF):Prop:=∃ id a,get id A=none∧A'=put id A (some a)∧a≠.dead∧∀ (I:Itp) (w:World) (ρ:EA),HO I.K I.β n E ρ o.op.operands.toList →
 ∃ u w' k,Runs pg n ρ o w u w'∧Ext w w'∧w.heap.size≤k.b∧(∀ β,OR I.K β w' k a)∧∀ β:Mp,β id=some k→IV I.K v β u
structure Tx (n m:Nat) (ops:Array Oper) (ms cs:List Nat) (ix:Nat→Nat) (adm:Nat→Nat→Bool):Prop where
 hn:n≤256
 hm:m=ops.size
 D:DrawOk ops ms m
 ok:∀ (i:Nat) (o:Oper),ops[i]?=some o→QV n o=true
 c3:∀ i,i<m→3≤cs.getD i 0→∀ p,p<i→2≤cs.getD p 0→fC ms i p=true
 c1:∀ i,i<m→cs.getD i 0<2→∀ q,q<m→2≤cs.getD q 0→fC ms i q=true→∀ p,p<q→2≤cs.getD p 0→fC ms i p=true
 c2:∀ (i:Nat),i<m→cs.getD i 0=2→∀ o:Oper,ops[i]?=some o→∀ t∈o.looksAt ops,∀ j,iD ops m t=some j→cs.getD j 0≠2
 ix0:ix 0=0
 ix1:∀ i,i<m→ix (i+1)=ix i+(if 2≤cs.getD i 0 then 1 else 0)
 adm:∀ i s,i<m→(∀ p,p<m→2≤cs.getD p 0→fC ms i p=true→ix p<s)→(∀ p,p<m→2≤cs.getD p 0→fC ms p i=true→s≤ix p)→adm i s=true
structure Dat (n m:Nat) (ops:Array Oper) (cs:List Nat) (ix:Nat→Nat) (adm:Nat→Nat→Bool) (v:Nat→AV) (Es:Nat→En) (A:Nat→eF) (off:Nat→Bool):Prop where
 pt:∀ (i:Nat) (o:Oper),i<m→ops[i]?=some o→Pt o (v i) (Es i) (Es (i+1))
 on:∀ (i:Nat) (o:Oper),i<m→ops[i]?=some o→off i=false→(∀ p,o.guard=some p→GE (Es i) ops p=some true)∧(2≤cs.getD i 0→Eff o (Es i) (A (ix i)) (v i) (A (ix i+1))) ∧
  (cs.getD i 0=2→Flo n o (Es i) (A (ix i)) (v i) (A (ix i+1)))∧(cs.getD i 0<2→∀ s,s≤ix m→adm i s=true→Eff o (Es i) (A s) (v i) (A s))
 of:∀ (i:Nat) (o:Oper),i<m→ops[i]?=some o→off i=true→(∃ p,o.guard=some p∧GE (Es i) ops p=some false)∧v i=.un∧(2≤cs.getD i 0→A (ix i+1)=A (ix i))
section
variable {n m:Nat} {ops:Array Oper} {ms cs:List Nat} {ix:Nat→Nat} {adm:Nat→Nat→Bool} {v:Nat→AV} {Es:Nat→En} {A:Nat→eF} {off:Nat→Bool}
theorem Tx.mono (T:Tx n m ops ms cs ix adm):∀ j i,i≤j→j≤m→ix i≤ix j:=by
 intro j
 induction j with
 | zero=>intro i h _; rw [Nat.le_zero.1 h]; exact Nat.le_refl _
 | succ j ih =>
  intro i h hj
  rcases Nat.lt_or_ge i (j+1) with h1 | h1
  ·have h2:=ih i (by omega) (by omega)
   have h3:=T.ix1 j (by omega)
   split at h3<;>omega
  ·rw [show i=j+1 by omega]; exact Nat.le_refl _
theorem Tx.lt (T:Tx n m ops ms cs ix adm) {i j:Nat} (h:i<j) (hj:j≤m) (hc:2≤cs.getD i 0):ix i<ix j:=by
 have h1:=T.mono j (i+1) (by omega) hj
 have h2:=T.ix1 i (by omega)
 rw [if_pos hc] at h2
 omega
theorem Tx.inj (T:Tx n m ops ms cs ix adm) {i j:Nat} (hi:i<m) (hj:j<m) (ci:2≤cs.getD i 0) (cj:2≤cs.getD j 0) (h:ix i=ix j):i=j:=by
 rcases Nat.lt_trichotomy i j with h1 | h1 | h1
 ·have:=T.lt h1 (by omega) ci; omega
 ·exact h1
 ·have:=T.lt h1 (by omega) cj; omega
theorem Tx.find (T:Tx n m ops ms cs ix adm):∀ j,j≤m→∀ s,s<ix j→∃ e,e<j∧2≤cs.getD e 0∧ix e=s:=by
 intro j
 induction j with
 | zero=>intro _ s h; rw [T.ix0] at h; omega
 | succ j ih =>
  intro hj s hs
  have h1:=T.ix1 j (by omega)
  rcases Nat.lt_or_ge s (ix j) with h2 | h2
  ·obtain ⟨e,h3,h4⟩:=ih (by omega) s h2
   exact ⟨e,by omega,h4⟩
  ·split at h1
   ·rename_i hc; exact ⟨j,by omega,hc,by omega⟩
   ·omega
end
end Go.Proofs.YtljlkhobfdofhaaGreatDoor.Rv
namespace Go.Proofs.YtljlkhobfdofhaaGreatDoor.Rv
open Go Vc
attribute [local irreducible] pg
structure HB (w₀:World) (A:Nat→eF) (s x:Nat) (v:AV) (I:Itp) (w:World) (k:Bk) (u:Value) (id:Pa) (a:AO):Prop where
 non:get id (A x)=none
 put:A (x+1)=put id (A x) (some a)
 dd:a≠.dead
 new:w₀.heap.size≤k.b
 kn:I.K k.b=none
 nl:¬ lv I (A s) k.b
 or:∀ β,OR I.K β w k a
 iv:∀ β:Mp,β id=some k→IV I.K v β u
structure Psi (m:Nat) (ms cs:List Nat) (ix:Nat→Nat) (v:Nat→AV) (A:Nat→eF) (off:Nat→Bool) (I₀:Itp) (w₀:World) (L:Nat→Bool) (r:Nat→Value) (w:World) (s:Nat) (I:Itp) (kb:Nat→Bk):Prop where
 cl:∀ x y,x<m→y<m→L y=true→fC ms y x=true→L x=true
 pre:∀ p,p<m→2≤cs.getD p 0→ix p<s→L p=true
 le:s≤ix m
 stp:Stp I₀ w₀ (A 0) I w (A s)
 rel:MRel I w (A s)
 val:∀ j,j<m→L j=true→(2≤cs.getD j 0→ix j<s)→IV I.K (v j) I.β (r j)
 hid:∀ h,h<m→L h=true→2≤cs.getD h 0→s≤ix h→(off h=false→∃ id a,HB w₀ A s (ix h) (v h) I w (kb h) (r h) id a)∧(off h=true→r h=undef)
 dis:∀ h g,h<m→L h=true→2≤cs.getD h 0→s≤ix h→off h=false→g<m→L g=true→2≤cs.getD g 0→s≤ix g→off g=false→h≠g→(kb h).b≠(kb g).b
def Stop (m:Nat) (cs:List Nat) (ix:Nat→Nat) (L:Nat→Bool) (s:Nat):Prop:=∀ p,p<m→2≤cs.getD p 0→ix p=s→L p=false
section
variable {n m:Nat} {ops:Array Oper} {ms cs:List Nat} {ix:Nat→Nat} {adm:Nat→Nat→Bool} {v:Nat→AV} {Es:Nat→En} {A:Nat→eF} {off:Nat→Bool} {I₀ I J:Itp} {w₀ w w':World} {L:Nat→Bool} {r:Nat→Value} {s s':Nat} {kb:Nat→Bk}
theorem HB.lt {x:Nat} {u:Value} {k:Bk} {v:AV} {id:Pa} {a:AO} (H:HB w₀ A s x v I w k u id a):k.b<w.heap.size:=(H.or I.β).lt H.dd
theorem HB.stp {x:Nat} {u:Value} {k:Bk} {v:AV} {id:Pa} {a:AO} (H:HB w₀ A s x v I w k u id a) (h:Stp I w (A s) J w' (A s')):HB w₀ A s' x v J w' k u id a:=by
 have hlt:=H.lt
 exact ⟨H.non,H.put,H.dd,H.new,(h.kp _ hlt).trans H.kn,fun hl=>H.nl (h.lvs _ hlt hl),fun β=>((H.or β).of fun o ho=>h.chg.blk _ _ H.nl ho).up h.k (Mle.refl _),fun β hb=>IV.up h.k v (Mle.refl _) u (H.iv β hb)⟩
theorem Psi.pub1 (T:Tx n m ops ms cs ix adm) (D:Dat n m ops cs ix adm v Es A off) (P:Psi m ms cs ix v A off I₀ w₀ L r w s I kb) {p:Nat} (hp:p<m) (hc:2≤cs.getD p 0) (hx:ix p=s) (hL:L p=true) :
  ∃ J,Psi m ms cs ix v A off I₀ w₀ L r w (s+1) J kb:=by
 obtain ⟨o,ho⟩:∃ o,ops[p]?=some o:=⟨ops[p]'(by rw [← T.hm]; exact hp),by simp⟩
 have hlt:s+1≤ix m:=by have:=T.lt hp (Nat.le_refl m) hc; omega
 obtain ⟨h1,h2⟩:=P.hid p hp hL hc (by omega)
 have hpre:∀ q,q<m→2≤cs.getD q 0→ix q<s+1→L q=true:=fun q hq cq hxq=>by
  rcases Nat.lt_or_ge (ix q) s with h | h
  ·exact P.pre q hq cq h
  ·rw [T.inj hq hp cq hc (by omega)]; exact hL
 cases hoff:off p with
 | true =>
  obtain ⟨_,hv,hA⟩:=D.of p o hp ho hoff
  have hA:=hA hc
  rw [hx] at hA
  have hu:=h2 hoff
  refine ⟨I,P.cl,hpre,hlt,by rw [hA]; exact P.stp,by rw [hA]; exact P.rel,?_,?_,?_⟩
  ·intro j hj hLj hxj
   by_cases e:j=p
   ·rw [e,hv,hu]; exact xU
   ·refine P.val j hj hLj fun cj=>?_
    have:=hxj cj
    rcases Nat.lt_or_ge (ix j) s with h | h
    ·exact h
    ·exact (e (T.inj hj hp cj hc (by omega))).elim
  ·intro h hh hLh ch hs
   obtain ⟨g1,g2⟩:=P.hid h hh hLh ch (by omega)
   refine ⟨fun hoff'=>?_,g2⟩
   obtain ⟨id,a,g⟩:=g1 hoff'
   exact ⟨id,a,g.non,g.put,g.dd,g.new,g.kn,by rw [hA]; exact g.nl,g.or,g.iv⟩
  ·intro h g a1 a2 a3 a4 a5 b1 b2 b3 b4 b5 hne
   exact P.dis h g a1 a2 a3 (by omega) a5 b1 b2 b3 (by omega) b5 hne
 | false =>
  obtain ⟨id,a,H⟩:=h1 hoff
  have hA:=H.put
  have hnon:=H.non
  rw [hx] at hA hnon
  have hle:Mle I.β (bind I.β id (kb p)):=gK (P.rel.dom _ hnon)
  obtain ⟨g1,g2⟩:=P.rel.pub hnon H.nl H.kn (H.or _) H.dd
  refine ⟨⟨bind I.β id (kb p),I.K⟩,P.cl,hpre,hlt,?_,by rw [hA]; exact g1,?_,?_,?_⟩
  ·refine ⟨fun i x hi=>hle _ _ (P.stp.m i x hi),P.stp.k,P.stp.chg,P.stp.kp,fun b hb hl=>?_⟩
   rw [hA] at hl
   rcases g2 b hl with h | h
   ·exact P.stp.lvs b hb h
   ·have:=H.new; omega
  ·intro j hj hLj hxj
   by_cases e:j=p
   ·rw [e]; exact H.iv _ bind_self
   ·refine IV.up (Kle.refl _) _ hle _ (P.val j hj hLj fun cj=>?_)
    have:=hxj cj
    rcases Nat.lt_or_ge (ix j) s with h | h
    ·exact h
    ·exact (e (T.inj hj hp cj hc (by omega))).elim
  ·intro h hh hLh ch hs
   obtain ⟨f1,f2⟩:=P.hid h hh hLh ch (by omega)
   refine ⟨fun hoff'=>?_,f2⟩
   obtain ⟨id',a',g⟩:=f1 hoff'
   refine ⟨id',a',g.non,g.put,g.dd,g.new,g.kn,?_,g.or,g.iv⟩
   rw [hA]
   intro hl
   rcases g2 _ hl with h' | h'
   ·exact g.nl h'
   ·exact P.dis h p hh hLh ch (by omega) hoff' hp hL hc (by omega) hoff (fun e=>by subst e; omega) h'
  ·intro h g a1 a2 a3 a4 a5 b1 b2 b3 b4 b5 hne
   exact P.dis h g a1 a2 a3 (by omega) a5 b1 b2 b3 (by omega) b5 hne
theorem Psi.pub (T:Tx n m ops ms cs ix adm) (D:Dat n m ops cs ix adm v Es A off):∀ (d s:Nat) (I:Itp),ix m-s=d→Psi m ms cs ix v A off I₀ w₀ L r w s I kb→∃ s' J,Psi m ms cs ix v A off I₀ w₀ L r w s' J kb∧Stop m cs ix L s':=by
 intro d
 induction d with
 | zero =>
  intro s I hd P
  refine ⟨s,I,P,fun p hp hc hx=>?_⟩
  have:=T.lt hp (Nat.le_refl m) hc
  have:=P.le
  omega
 | succ d ih =>
  intro s I hd P
  obtain ⟨p,hp,hc,hx⟩:=T.find m (Nat.le_refl m) s (by omega)
  cases hL:L p with
  | false=>exact ⟨s,I,P,fun q hq cq hxq=>by rw [T.inj hq hp cq hc (by omega)]; exact hL⟩
  | true =>
   obtain ⟨J,P'⟩:=P.pub1 T D hp hc hx hL
   exact ih (s+1) J (by omega) P'
end
end Go.Proofs.YtljlkhobfdofhaaGreatDoor.Rv
namespace Go.Proofs.YtljlkhobfdofhaaGreatDoor.Rv
open Go Vc
attribute [local irreducible] pg
def xK (i:Nat) (L:Nat→Bool):Nat→Bool:=fun x=>if x=i then true else L x
def oP (i:Nat) (u:Value) (r:Nat→Value):Nat→Value:=fun x=>if x=i then u else r x
section
variable {n m:Nat} {ops:Array Oper} {ms cs:List Nat} {ix:Nat→Nat} {adm:Nat→Nat→Bool} {v:Nat→AV} {Es:Nat→En} {A:Nat→eF} {off:Nat→Bool} {I₀ I J:Itp} {w₀ w w':World} {L:Nat→Bool} {r:Nat→Value} {s s' i:Nat} {kb:Nat→Bk} {o:Oper} {u:Value} {ρ:EA} {E:En}
theorem IL:xK i L i=true:=if_pos rfl
theorem VC {x:Nat} (h:x≠i):xK i L x=L x:=if_neg h
theorem WH {x:Nat} (h:L x=true):xK i L x=true:=by
 by_cases e:x=i
 ·rw [e]; exact IL
 ·rw [VC e]; exact h
theorem UG:oP i u r i=u:=if_pos rfl
theorem VG {x:Nat} (h:x≠i):oP i u r x=r x:=if_neg h
theorem hQ (hcl:∀ x y,x<m→y<m→L y=true→fC ms y x=true→L x=true) (ha:∀ x,x<m→fC ms i x=true→L x=true):∀ x y,x<m→y<m→xK i L y=true→fC ms y x=true→xK i L x=true:=by
 intro x y hx hy hL hA
 by_cases e:y=i
 ·subst e; exact WH (ha x hx hA)
 ·rw [VC e] at hL; exact WH (hcl x y hx hy hL hA)
theorem Psi.look (P:Psi m ms cs ix v A off I₀ w₀ L r w s I kb) (hi:i<m) (ha:∀ x,x<m→fC ms i x=true→L x=true) (hL:L i=false) (hS:Stp I w (A s) J w' (A s)) (hM:MRel J w' (A s))
  (h1:cs.getD i 0<2→IV J.K (v i) J.β u) (h2:2≤cs.getD i 0→off i=true∧u=undef):Psi m ms cs ix v A off I₀ w₀ (xK i L) (oP i u r) w' s J kb:=by
 have hne:∀ j,L j=true→j≠i:=fun j hj e=>by subst e; rw [hL] at hj; cases hj
 refine ⟨hQ P.cl ha,fun p hp hc hx=>WH (P.pre p hp hc hx),P.le,P.stp.trans hS,hM,?_,?_,?_⟩
 ·intro j hj hLj hx
  by_cases e:j=i
  ·subst e
   rw [UG]
   rcases Nat.lt_or_ge (cs.getD j 0) 2 with hc | hc
   ·exact h1 hc
   ·have:=P.pre j hj hc (hx hc); rw [hL] at this; cases this
  ·rw [VC e] at hLj; rw [VG e]
   exact IV.stp hS (P.val j hj hLj hx)
 ·intro h hh hLh hc hs
  by_cases e:h=i
  ·subst e
   obtain ⟨g1,g2⟩:=h2 hc
   exact ⟨fun hf=>(by rw [g1] at hf; cases hf),fun _=>by rw [UG]; exact g2⟩
  ·rw [VC e] at hLh; rw [VG e]
   obtain ⟨g1,g2⟩:=P.hid h hh hLh hc hs
   refine ⟨fun hf=>?_,g2⟩
   obtain ⟨id,a,g⟩:=g1 hf
   exact ⟨id,a,g.stp hS⟩
 ·intro h g a1 a2 a3 a4 a5 b1 b2 b3 b4 b5 hn
  have e1:h≠i:=fun e=>by subst e; rw [(h2 a3).1] at a5; cases a5
  have e2:g≠i:=fun e=>by subst e; rw [(h2 b3).1] at b5; cases b5
  rw [VC e1] at a2; rw [VC e2] at b2
  exact P.dis h g a1 a2 a3 a4 a5 b1 b2 b3 b4 b5 hn
theorem Psi.eff (T:Tx n m ops ms cs ix adm) (P:Psi m ms cs ix v A off I₀ w₀ L r w s I kb) (hi:i<m) (ha:∀ x,x<m→fC ms i x=true→L x=true) (hL:L i=false) (hc:2≤cs.getD i 0) (hx:ix i=s)
  (hS:Stp I w (A s) J w' (A (s+1))) (hM:MRel J w' (A (s+1))) (h1:IV J.K (v i) J.β u):Psi m ms cs ix v A off I₀ w₀ (xK i L) (oP i u r) w' (s+1) J kb:=by
 have hlt:=T.lt hi (Nat.le_refl m) hc
 refine ⟨hQ P.cl ha,?_,by omega,P.stp.trans hS,hM,?_,?_,?_⟩
 ·intro p hp cp hxp
  rcases Nat.lt_or_ge (ix p) s with h | h
  ·exact WH (P.pre p hp cp h)
  ·rw [T.inj hp hi cp hc (by omega)]; exact IL
 ·intro j hj hLj hxj
  by_cases e:j=i
  ·subst e; rw [UG]; exact h1
  ·rw [VC e] at hLj; rw [VG e]
   refine IV.stp hS (P.val j hj hLj fun cj=>?_)
   have:=hxj cj
   rcases Nat.lt_or_ge (ix j) s with h | h
   ·exact h
   ·exact (e (T.inj hj hi cj hc (by omega))).elim
 ·intro h hh hLh ch hs
  have e:h≠i:=fun e=>by subst e; omega
  rw [VC e] at hLh; rw [VG e]
  obtain ⟨g1,g2⟩:=P.hid h hh hLh ch (by omega)
  refine ⟨fun hf=>?_,g2⟩
  obtain ⟨id,a,g⟩:=g1 hf
  exact ⟨id,a,g.stp hS⟩
 ·intro h g a1 a2 a3 a4 a5 b1 b2 b3 b4 b5 hn
  have e1:h≠i:=fun e=>by subst e; omega
  have e2:g≠i:=fun e=>by subst e; omega
  rw [VC e1] at a2; rw [VC e2] at b2
  exact P.dis h g a1 a2 a3 (by omega) a5 b1 b2 b3 (by omega) b5 hn
theorem Psi.flo (P:Psi m ms cs ix v A off I₀ w₀ L r w s I kb) (hi:i<m) (ha:∀ x,x<m→fC ms i x=true→L x=true) (hL:L i=false) (hc:2≤cs.getD i 0) (hoff:off i=false)
  (hE:Ext w w') {k:Bk} {id:Pa} {a:AO} (non:get id (A (ix i))=none) (put':A (ix i+1)=put id (A (ix i)) (some a)) (dd:a≠.dead) (hk:w.heap.size≤k.b) (hor:∀ β,OR I.K β w' k a)
  (hiv:∀ β:Mp,β id=some k→IV I.K (v i) β u):Psi m ms cs ix v A off I₀ w₀ (xK i L) (oP i u r) w' s I (fun x=>if x=i then k else kb x):=by
 have hS:Stp I w (A s) I w' (A s):=Stp.ext hE
 have hM:MRel I w' (A s):=P.rel.ext hE
 have hsz:=P.stp.chg.size
 refine ⟨hQ P.cl ha,fun p hp hc hx=>WH (P.pre p hp hc hx),P.le,P.stp.trans hS,hM,?_,?_,?_⟩
 ·intro j hj hLj hx
  by_cases e:j=i
  ·subst e
   have:=P.pre j hj hc (hx hc); rw [hL] at this; cases this
  ·rw [VC e] at hLj; rw [VG e]
   exact P.val j hj hLj hx
 ·intro h hh hLh ch hs
  by_cases e:h=i
  ·subst e
   refine ⟨fun _=>⟨id,a,non,put',dd,?_,?_,?_,?_,?_⟩,fun hf=>by rw [hoff] at hf; cases hf⟩
   ·rw [if_pos rfl]; omega
   ·rw [if_pos rfl]
    cases hK:I.K k.b with
    | none=>rfl
    | some o=>have:=xB (P.rel.kept _ _ hK); omega
   ·rw [if_pos rfl]
    intro hl
    have:=lv_lt P.rel hl
    omega
   ·rw [if_pos rfl]; exact hor
   ·rw [if_pos rfl,UG]; exact hiv
  ·rw [VC e] at hLh; rw [VG e,if_neg e]
   obtain ⟨g1,g2⟩:=P.hid h hh hLh ch hs
   refine ⟨fun hf=>?_,g2⟩
   obtain ⟨id,a,g⟩:=g1 hf
   exact ⟨id,a,g.stp hS⟩
 ·intro h g a1 a2 a3 a4 a5 b1 b2 b3 b4 b5 hn
  have key:∀ x,x<m→xK i L x=true→2≤cs.getD x 0→s≤ix x→off x=false→x≠i→(kb x).b<w.heap.size:=fun x q1 q2 q3 q4 q5 q6=>by
   rw [VC q6] at q2
   obtain ⟨id,a,g⟩:=(P.hid x q1 q2 q3 q4).1 q5
   exact g.lt
  show (if h=i then k else kb h).b≠(if g=i then k else kb g).b
  by_cases e1:h=i<;>by_cases e2:g=i
  ·exact (hn (e1.trans e2.symm)).elim
  ·rw [if_pos e1,if_neg e2]; have:=key g b1 b2 b3 b4 b5 e2; omega
  ·rw [if_neg e1,if_pos e2]; have:=key h a1 a2 a3 a4 a5 e1; omega
  ·rw [if_neg e1,if_neg e2]
   rw [VC e1] at a2; rw [VC e2] at b2
   exact P.dis h g a1 a2 a3 a4 a5 b1 b2 b3 b4 b5 hn
theorem Psi.vis3 (T:Tx n m ops ms cs ix adm) (P:Psi m ms cs ix v A off I₀ w₀ L r w s I kb) (hS:Stop m cs ix L s) {j:Nat} (hj:j<m) (hL:∀ x,x<m→fC ms j x=true→L x=true) (hc:3≤cs.getD j 0):∀ q,q≤j→2≤cs.getD q 0→q=j∨ix q<s:=by
 intro q hq cq
 rcases Nat.lt_or_ge (ix q) s with h | h
 ·exact .inr h
 ·have:=T.lt (show q<m by omega) (Nat.le_refl m) cq
  obtain ⟨e,h1,h2,h3⟩:=T.find m (Nat.le_refl m) s (by omega)
  have hLe:=hS e h1 h2 h3
  have heq:e≤q:=by
   rcases Nat.lt_or_ge q e with h' | h'
   ·have:=T.lt h' (by omega) cq; omega
   ·exact h'
  rcases Nat.lt_or_ge e j with h4 | h4
  ·have:=hL e h1 (T.c3 j hj hc e h4 h2)
   rw [hLe] at this; cases this
  ·exact .inl (by omega)
end
end Go.Proofs.YtljlkhobfdofhaaGreatDoor.Rv
namespace Go.Proofs.YtljlkhobfdofhaaGreatDoor.Rv
open Go Vc
attribute [local irreducible] pg
section
variable {n m:Nat} {ops:Array Oper} {ms cs:List Nat} {ix:Nat→Nat} {adm:Nat→Nat→Bool} {v:Nat→AV} {Es:Nat→En} {A:Nat→eF} {off:Nat→Bool} {I₀ I J:Itp} {w₀ w w':World} {L:Nat→Bool} {r:Nat→Value} {s s' i:Nat} {kb:Nat→Bk} {o:Oper} {u:Value} {ρ:EA} {E:En}
theorem Psi.vis2 (T:Tx n m ops ms cs ix adm) (hS:Stop m cs ix L s) (hi:i<m) (ha:∀ x,x<m→fC ms i x=true→L x=true) (hc:cs.getD i 0<2) {q:Nat} (hq:q<m) (cq:2≤cs.getD q 0) (hA:fC ms i q=true):ix q<s:=by
 rcases Nat.lt_or_ge (ix q) s with h | h
 ·exact h
 ·have:=T.lt hq (Nat.le_refl m) cq
  obtain ⟨e,h1,h2,h3⟩:=T.find m (Nat.le_refl m) s (by omega)
  have hLe:=hS e h1 h2 h3
  have hLq:=ha q hq hA
  rcases Nat.lt_or_ge e q with h4 | h4
  ·have:=ha e h1 (T.c1 i hi hc q hq cq hA e h4 h2)
   rw [hLe] at this; cases this
  ·rcases Nat.lt_or_ge q e with h5 | h5
   ·have:=T.lt h5 (by omega) cq; omega
   ·rw [show e=q by omega,hLq] at hLe; cases hLe
theorem Psi.done3 (T:Tx n m ops ms cs ix adm) (P:Psi m ms cs ix v A off I₀ w₀ L r w s I kb) (hS:Stop m cs ix L s) {j:Nat} (hj:j<m) (hL:L j=true) (hc:3≤cs.getD j 0):ix j<s:=by
 rcases Nat.lt_or_ge (ix j) s with h | h
 ·exact h
 ·have:=T.lt hj (Nat.le_refl m) (by omega:2≤cs.getD j 0)
  obtain ⟨e,h1,h2,h3⟩:=T.find m (Nat.le_refl m) s (by omega)
  have hLe:=hS e h1 h2 h3
  rcases Nat.lt_or_ge e j with h4 | h4
  ·have:=P.cl e j h1 hj hL (T.c3 j hj hc e h4 h2)
   rw [hLe] at this; cases this
  ·rcases Nat.lt_or_ge j e with h5 | h5
   ·have:=T.lt h5 (by omega) (by omega:2≤cs.getD j 0); omega
   ·rw [show e=j by omega,hL] at hLe; cases hLe
theorem YL {x:Nat} (h:Operand.tmp x∈o.op.operands.toList):x∈o.looksAt ops:=by
 unfold Oper.looksAt
 exact List.mem_append_left _ (List.mem_filterMap.2 ⟨_,h,rfl⟩)
theorem jJ {p:Nat × Bool} {t:Nat} (hg:o.guard=some p) (h:(ops[p.1]?).bind (·.dst)=some t):t∈o.looksAt ops:=by
 obtain ⟨a,b⟩:=p
 unfold Oper.looksAt
 rw [hg]
 refine List.mem_append_right _ ?_
 show t∈((ops[a]?).bind (·.dst)).toList
 rw [show (ops[a]?).bind (·.dst)=some t from h]; simp
theorem HO.look (hok:QV n o=true) (H:∀ t∈o.looksAt ops,∀ a,fF t E=some a→IV I.K a I.β (ρ t)):HO I.K I.β n E ρ o.op.operands.toList:=by
 intro x hx a ha
 have hn:=(VE hok).1 x hx
 cases x with
 | tmp t =>
  have ht:Nat.blt t n=true:=hn
  have:=H t (YL hx) a ha
  show IV I.K a I.β (bif Nat.blt t n then ρ t else undef)
  rw [ht]; exact this
 | const c=>exact JM ha
 | global q=>cases ha
 | func f =>
  cases ha
  simp only [IV,IVt]
  exact ⟨[],rfl,rfl⟩
theorem Psi.step (T:Tx n m ops ms cs ix adm) (D:Dat n m ops cs ix adm v Es A off) (P:Psi m ms cs ix v A off I₀ w₀ L r w s I kb) (hS:Stop m cs ix L s) (hi:i<m) (ho:ops[i]?=some o) (hL:L i=false)
  (ha:∀ x,x<m→fC ms i x=true→L x=true) (hd:∀ x,x<m→fC ms x i=true→L x=false)
  (hF:∀ t,t<n→(∃ j,j<i∧(ops[j]?).bind (·.dst)=some t∧fF t (Es i)=some (v j)∧ρ t=r j)∨(∀ a,fF t (Es i)=some a→IV I.K a I.β (ρ t))) :
  Gives pg n ops ρ o w fun u w'=>∃ s' J kb',Psi m ms cs ix v A off I₀ w₀ (xK i L) (oP i u r) w' s' J kb':=by
 have hok:=T.ok i o ho
 have hn:=T.hn
 have hge:2≤cs.getD i 0→s≤ix i:=fun hc=>by
  rcases Nat.lt_or_ge (ix i) s with h | h
  ·have:=P.pre i hi hc h; rw [hL] at this; cases this
  ·exact h
 have hgd:∀ p,o.guard=some p→∀ t,(ops[p.1]?).bind (·.dst)=some t→t<n:=fun p hg t ht=>by
  obtain ⟨o',h1,h2⟩:=Option.bind_eq_some_iff.1 ht
  exact (VE (T.ok _ _ h1)).2 t h2
 have hlook:∀ t∈o.looksAt ops,∀ a,fF t (Es i)=some a→IV I.K a I.β (ρ t):=by
  intro t ht a hat
  have htn:t<n:=by
   unfold Oper.looksAt at ht
   rcases List.mem_append.1 ht with h | h
   ·obtain ⟨x,h1,h2⟩:=List.mem_filterMap.1 h
    cases x with
    | tmp q=>cases h2; exact GJ ((VE hok).1 _ h1)
    | const c=>cases h2
    | global q=>cases h2
    | func f=>cases h2
   ·cases hg:o.guard with
    | none=>rw [hg] at h; cases h
    | some p =>
     obtain ⟨p1,p2⟩:=p
     rw [hg] at h
     exact hgd _ hg t (by simpa using h)
  rcases hF t htn with ⟨j,h1,h2,h3,h4⟩ | h
  ·rw [h3] at hat; cases hat
   have hw:=qF T.D (by omega) h2
   have hA:fC ms i j=true:=by
    rcases T.D.reads i o hi ho t ht j hw with e | ⟨_,e⟩ | ⟨e,_⟩
    ·omega
    ·exact e
    ·omega
   have hLj:=ha j (by omega) hA
   rw [h4]
   refine P.val j (by omega) hLj fun cj=>?_
   rcases Nat.lt_or_ge (cs.getD i 0) 2 with hc | hc
   ·exact Psi.vis2 T hS hi ha hc (by omega) cj hA
   ·rcases Nat.lt_or_ge (cs.getD i 0) 3 with hc3 | hc3
    ·have:=T.c2 i hi (by omega) o ho t ht j hw
     exact P.done3 T hS (by omega) hLj (by omega)
    ·rcases P.vis3 T hS hi ha hc3 j (by omega) cj with e | e
     ·omega
     ·exact e
  ·exact h a hat
 have hHO:HO I.K I.β n (Es i) ρ o.op.operands.toList:=HO.look (ops:=ops) hok hlook
 cases hoff:off i with
 | true =>
  obtain ⟨⟨p,hg,hw⟩,hv,_⟩:=D.of i o hi ho hoff
  refine Gives.off (oK hg (hgd p hg) (fun t ht a hat=>hlook t (jJ hg ht) a hat) hw) ⟨s,I,kb,?_⟩
  exact P.look hi ha hL Stp.refl P.rel (fun _=>by rw [hv]; exact xU) fun _=>⟨hoff,rfl⟩
 | false =>
  obtain ⟨h1,h2,h3,h4⟩:=D.on i o hi ho hoff
  have hw:Region.wanted o (yielded ops (St n ρ).tmps)=true:=by
   cases hg:o.guard with
   | none=>exact KB hg _ _
   | some p=>exact oK hg (hgd p hg) (fun t ht a hat=>hlook t (jJ hg ht) a hat) (h1 p hg)
  refine .inl ⟨hw,?_⟩
  rcases Nat.lt_or_ge (cs.getD i 0) 2 with hc | hc
  ·have hadm:adm i s=true:=T.adm i s hi (fun p hp cp hA=>Psi.vis2 T hS hi ha hc hp cp hA) fun p hp cp hA=>by
    rcases Nat.lt_or_ge (ix p) s with h | h
    ·have:=P.pre p hp cp h; rw [hd p hp hA] at this; cases this
    ·exact h
   exact (h4 hc s P.le hadm I w n ρ hHO P.rel).mono fun u w' ⟨J,g1,g2,g3⟩=>⟨s,J,kb,P.look hi ha hL g1 g3 (fun _=>g2) fun hc'=>by omega⟩
  ·rcases Nat.lt_or_ge (cs.getD i 0) 3 with hc3 | hc3
   ·obtain ⟨id,a,e1,e2,e3,e4⟩:=h3 (by omega)
    obtain ⟨u,w',k,g1,g2,g3,g4,g5⟩:=e4 I w ρ hHO
    rw [show (execOp (ev n ρ) o).run pg w=_ from g1]
    exact ⟨s,I,_,P.flo hi ha hL hc hoff g2 e1 e2 e3 g3 g4 g5⟩
   ·have hx:ix i=s:=by
     have:=hge hc
     rcases Nat.lt_or_ge s (ix i) with h | h
     ·obtain ⟨e,q1,q2,q3⟩:=T.find i (by omega) s h
      have:=ha e (by omega) (T.c3 i hi hc3 e q1 q2)
      rw [hS e (by omega) q2 q3] at this; cases this
     ·omega
    have he:=h2 hc
    rw [hx] at he
    exact (he I w n ρ hHO P.rel).mono fun u w' ⟨J,g1,g2,g3⟩=>⟨s+1,J,kb,P.eff T hi ha hL hc hx g1 g3 g2⟩
end
end Go.Proofs.YtljlkhobfdofhaaGreatDoor.Rv
namespace Go.Proofs.YtljlkhobfdofhaaGreatDoor.Rv
open Go Vc
attribute [local irreducible] pg
section
variable {n m:Nat} {ops:Array Oper} {ms cs:List Nat} {ix:Nat→Nat} {adm:Nat→Nat→Bool} {v:Nat→AV} {Es:Nat→En} {A:Nat→eF} {off:Nat→Bool} {I I₀ J:Itp} {w₀ w w':World} {ρ:EA} {Q:Exit→Act→World→Prop}
theorem YC {α:Type} (f:Nat→α) (d:α) {x:Nat} (h:x<m):((List.range m).map f).getD x d=f x:=by
 rw [List.getD_eq_getElem?_getD,List.getElem?_map,List.getElem?_range h]; rfl
theorem YK {α:Type} (l:List α) (i:Nat) (a d:α) (hi:i<l.length) (x:Nat):(l.set i a).getD x d=if x=i then a else l.getD x d:=by
 rw [List.getD_eq_getElem?_getD,List.getD_eq_getElem?_getD,List.getElem?_set]
 by_cases e:i=x
 ·subst e; simp [hi]
 ·rw [if_neg e,if_neg (Ne.symm e)]
theorem HP (m:Nat):SN m (List.range m)=true:=by
 simp only [SN,Bool.and_eq_true,List.all_eq_true,List.mem_range,decide_eq_true_eq,List.length_range]
 refine ⟨fun x h=>h,fun x hx y hy=>?_⟩
 have h1:(List.range m).getD x 0=x:=by rw [List.getD_eq_getElem?_getD,List.getElem?_range hx]; rfl
 have h2:(List.range m).getD y 0=y:=by rw [List.getD_eq_getElem?_getD,List.getElem?_range (by omega)]; rfl
 rw [h1,h2]
 simp; omega
def Phi (m:Nat) (ms cs:List Nat) (ix:Nat→Nat) (v:Nat→AV) (A:Nat→eF) (off:Nat→Bool) (I₀:Itp) (w₀:World) (bs:List Bool) (vs:LV) (w:World):Prop :=
 ∃ s I kb,Psi m ms cs ix v A off I₀ w₀ (fun x=>bs.getD x false) (fun x=>vs.getD x undef) w s I kb∧Stop m cs ix (fun x=>bs.getD x false) s
def FrI (n:Nat) (ops:Array Oper) (v:Nat→AV) (Es:Nat→En) (ρ:EA) (i:Nat) (ρ':EA→EA):Prop :=
 ∀ r t,t<n→(∃ j,j<i∧(ops[j]?).bind (·.dst)=some t∧fF t (Es i)=some (v j)∧ρ' r t=r j)∨(fF t (Es i)=fF t (Es 0)∧ρ' r t=ρ t)
theorem FrI.next (T:Tx n m ops ms cs ix adm) (D:Dat n m ops cs ix adm v Es A off) {i:Nat} {o:Oper} {ρ':EA→EA} (hi:i<m) (ho:ops[i]?=some o) (H:FrI n ops v Es ρ i ρ'):FrI n ops v Es ρ (i+1) fun r=>XA (ρ' r) o.dst (r i):=by
 intro r t ht
 have hp:=(D.pt i o hi ho).2 t (Nat.lt_of_lt_of_le ht T.hn)
 by_cases e:o.dst=some t
 ·rw [if_pos e] at hp
  refine .inl ⟨i,by omega,by rw [ho]; exact e,hp,?_⟩
  rw [e]; exact oE _ _ _
 ·rw [if_neg e] at hp
  have hu:XA (ρ' r) o.dst (r i) t=ρ' r t:=by
   cases hd:o.dst with
   | none=>rfl
   | some d=>exact oH _ _ fun e2=>e (by rw [hd,e2])
  show (∃ j,j<i+1∧(ops[j]?).bind (·.dst)=some t∧fF t (Es (i+1))=some (v j)∧XA (ρ' r) o.dst (r i) t=r j)∨(fF t (Es (i+1))=fF t (Es 0)∧XA (ρ' r) o.dst (r i) t=ρ t)
  rw [hp,hu]
  rcases H r t ht with ⟨j,h1,h2⟩ | h
  ·exact .inl ⟨j,by omega,h2⟩
  ·exact .inr h
theorem walk (T:Tx n m ops ms cs ix adm) (D:Dat n m ops cs ix adm v Es A off) (H:ER I₀ n (Es 0) ρ) {Fin:(EA→EA)→Prop} (hFin:∀ ρ',FrI n ops v Es ρ m ρ'→Fin ρ'):∀ (k i:Nat) (l:List Oper) (ρ':EA→EA),i+k=m→l=ops.toList.drop i→FrI n ops v Es ρ i ρ' →
  WalkP pg n ops (List.range m) (Phi m ms cs ix v A off I₀ w₀) ms Fin i k l ρ':=by
 intro k
 induction k with
 | zero =>
  intro i l ρ' hi hl hF
  have:i=m:=by omega
  subst this
  cases l<;>exact hFin ρ' hF
 | succ k ih =>
  intro i l ρ' hi hl hF
  have him:i<m:=by omega
  have his:i<ops.size:=by rw [← T.hm]; exact him
  have ho:ops[i]?=some ops[i]:=by simp [his]
  have hl':l=ops[i]::ops.toList.drop (i+1):=by
   rw [hl,List.drop_eq_getElem_cons (by simpa using his)]; simp
  rw [hl']
  refine .inl ⟨i,List.getElem?_range him,?_,ih (i+1) _ _ (by omega) rfl (hF.next T D him ho)⟩
  rintro L r w h1 h2 h3 ⟨s,I,kb,P,hS⟩
  have hg:=P.step T D hS (ρ:=ρ' r) him ho (by rw [YC _ _ him]; exact h1) (fun x hx hA=>by rw [YC _ _ hx]; exact h2 x (List.mem_range.2 hx) hA) (fun x hx hA=>by rw [YC _ _ hx]; exact h3 x (List.mem_range.2 hx) hA) fun t ht=>by
   rcases hF r t ht with ⟨j,g1,g2,g3,g4⟩ | ⟨g1,g2⟩
   ·exact .inl ⟨j,g1,g2,g3,by rw [YC _ _ (by omega)]; exact g4⟩
   ·refine .inr fun a ha=>?_
    rw [g2]; rw [g1] at ha
    exact H.up P.stp t ht a ha
  refine hg.mono fun u w' ⟨s',J,kb',P'⟩=>?_
  obtain ⟨s'',J',P'',hS'⟩:=P'.pub T D _ _ _ rfl
  have e1:(fun x=>(((List.range m).map L).set i true).getD x false)=xK i fun x=>((List.range m).map L).getD x false:=by
   funext x; exact YK _ _ _ _ (by simpa using him) x
  have e2:(fun x=>(((List.range m).map r).set i u).getD x undef)=oP i u fun x=>((List.range m).map r).getD x undef:=by
   funext x; exact YK _ _ _ _ (by simpa using him) x
  refine ⟨s'',J',kb',?_,?_⟩
  ·rw [e1,e2]; exact P''
  ·rw [e1]; exact hS'
theorem drawn {id:Nat} (hmix:pg.follows .mixedOrders=true) (hB:kH ops ms m=true) (T:Tx n m ops ms cs ix adm) (D:Dat n m ops cs ix adm v Es A off) (H:ER I n (Es 0) ρ) (HM:MRel I w (A 0))
  (hK:∀ J ρ' w',Stp I w (A 0) J w' (A (ix m))→ER J n (Es m) ρ'→MRel J w' (A (ix m))→Q .normal (St n ρ') w'):(Code.region id ops true).wp pg Q (St n ρ) w:=by
 have hops:ops=ops.toList.toArray:=by simp
 rw [hops]
 have hE:Ext w { w with drawn:=w.drawn+1 }:=⟨fun b o _ hb=>hb,Nat.le_refl _,rfl,rfl,rfl⟩
 refine drawP (m:=m) ms (List.range m) (Phi m ms cs ix v A off I w) hmix (by rw [← hops]; exact hB) (HP m) ?_ ?_
 ·refine ⟨0,I,fun _=>⟨0,0,0,0⟩,⟨?_,?_,Nat.zero_le _,Stp.ext hE,HM.ext hE,?_,?_,?_⟩,?_⟩
  ·intro x y hx hy h; rw [YC _ _ hy] at h; cases h
  ·intro p hp hc h; omega
  ·intro j hj h; rw [YC _ _ hj] at h; cases h
  ·intro j hj h; rw [YC _ _ hj] at h; cases h
  ·intro h g a1 a2; rw [YC _ _ a1] at a2; cases a2
  ·intro p hp hc hx; exact YC _ _ hp
 ·rw [← hops]
  refine walk T D H (fun ρ' hF r w' hΦ=>?_) m 0 _ _ (by omega) rfl fun r t ht=>.inr ⟨rfl,rfl⟩
  obtain ⟨s,J,kb,P,hS⟩:=hΦ
  have hs:s=ix m:=by
   have:=P.le
   rcases Nat.lt_or_ge s (ix m) with h | h
   ·obtain ⟨e,h1,h2,h3⟩:=T.find m (Nat.le_refl m) s h
    have:=hS e h1 h2 h3
    have this:((List.range m).map fun _=>true).getD e false=false:=this
    rw [YC _ _ h1] at this; cases this
   ·omega
  subst hs
  have hd:ops.toList.drop m=[]:=by rw [T.hm]; simp
  rw [hd]
  refine mH (hK J (ρ' r) w' P.stp (fun t ht a hat=>?_) P.rel)
  rcases hF r t ht with ⟨j,h1,h2,h3,h4⟩ | ⟨h1,h2⟩
  ·rw [h3] at hat; cases hat
   have:=P.val j h1 (by rw [YC _ _ h1]) fun cj=>T.lt h1 (Nat.le_refl m) cj
   rw [YC _ _ h1] at this
   rw [h4]; exact this
  ·rw [h2]; rw [h1] at hat
   exact H.up P.stp t ht a hat
end
end Go.Proofs.YtljlkhobfdofhaaGreatDoor.Rv
namespace Go.Proofs.YtljlkhobfdofhaaGreatDoor.Rv
open Go Vc
attribute [local irreducible] pg
section
variable {n:Nat} {ops:Array Oper} {ms cs:List Nat}
theorem cls_le (o:Op):SC o≤3:=by
 unfold SC
 split<;>first | omega | (split<;>omega)
theorem lE {a b:Nat}:Nat.ble a b=true↔a≤b:=⟨Nat.le_of_ble_eq_true,Nat.ble_eq_true_of_le⟩
theorem blt_of {a b:Nat}:Nat.blt a b=true↔a<b:=⟨GJ,fun h=>Nat.ble_eq_true_of_le h⟩
theorem xI {p:Nat}:p∈iL cs↔p<cs.length∧2≤cs.getD p 0:=by
 unfold iL
 rw [List.mem_filter,List.mem_range,lE]
theorem yO:ZF cs 0=0:=by unfold ZF; rw [List.take_zero]; rfl
theorem zO {i:Nat} (h:i<cs.length):ZF cs (i+1)=ZF cs i+if 2≤cs.getD i 0 then 1 else 0:=by
 unfold ZF
 have e:cs.getD i 0=cs[i]:=by rw [List.getD_eq_getElem?_getD,List.getElem?_eq_getElem h]; rfl
 rw [List.take_add_one,List.getElem?_eq_getElem h,List.filter_append,List.length_append,e]
 show _+(List.filter _ [cs[i]]).length=_
 cases hb:Nat.ble 2 cs[i] with
 | true=>rw [List.filter_cons_of_pos hb,if_pos (lE.1 hb)]; rfl
 | false=>rw [List.filter_cons_of_neg (by rw [hb]; decide),if_neg fun h'=>by rw [lE.2 h'] at hb; cases hb]; rfl
theorem EF:(DB ops).length=ops.size:=by unfold DB; simp
theorem eK {i:Nat} {o:Oper} (h:ops[i]?=some o):(DB ops).getD i 0=SC o.op:=by
 unfold DB
 rw [List.getD_eq_getElem?_getD,List.getElem?_map,Array.getElem?_toList,h]; rfl
theorem clsD_le (i:Nat):(DB ops).getD i 0≤3:=by
 cases h:ops[i]? with
 | none => 
  unfold DB
  rw [List.getD_eq_getElem?_getD,List.getElem?_map,Array.getElem?_toList,h]; decide
 | some o=>rw [eK h]; exact cls_le _
theorem admD_of {i s:Nat} (h1:∀ p,p<cs.length→2≤cs.getD p 0→fC ms i p=true→ZF cs p<s) (h2:∀ p,p<cs.length→2≤cs.getD p 0→fC ms p i=true→s≤ZF cs p):UX ms cs i s=true:=by
 unfold UX
 refine List.all_eq_true.2 fun p hp=>?_
 obtain ⟨g1,g2⟩:=xI.1 hp
 simp only [Bool.and_eq_true,Bool.or_eq_true,Bool.not_eq_true']
 refine ⟨?_,?_⟩
 ·cases hA:fC ms i p with
  | false=>exact .inl rfl
  | true=>exact .inr (blt_of.2 (h1 p g1 g2 hA))
 ·cases hA:fC ms p i with
  | false=>exact .inl rfl
  | true=>exact .inr (lE.2 (h2 p g1 g2 hA))
theorem lN (h:jQ ops ms cs=true):kH ops ms ops.size=true∧∀ i,i<cs.length→(match cs.getD i 0 with
 | 2=>match ops[i]? with
  | some o=>(o.looksAt ops).all fun t=>match iD ops ops.size t with
   | some j=>!Nat.beq (cs.getD j 0) 2
   | none=>true
  | none=>false
 | 3=>(iL cs).all fun p=>Nat.ble i p || fC ms i p
 | _=>((iL cs).all fun q=>!fC ms i q || (iL cs).all fun p=>Nat.ble q p || fC ms i p) && ((PI ms cs i).isEmpty || match ops[i]? with
  | some o=>(o.looksAt ops).all fun t=>match iD ops ops.size t with
   | some j=>Nat.blt j i
   | none=>true
  | none=>false))=true:=by
 unfold jQ at h
 rw [Bool.and_eq_true] at h
 exact ⟨h.1,fun i hi=>List.all_eq_true.1 h.2 i (List.mem_range.2 hi)⟩
theorem kM (h:jQ ops ms cs=true) {i:Nat} (hi:i<cs.length) (hc:cs.getD i 0<2):((iL cs).all fun q=>!fC ms i q || (iL cs).all fun p=>Nat.ble q p || fC ms i p)=true∧((PI ms cs i).isEmpty || match ops[i]? with
  | some o=>(o.looksAt ops).all fun t=>match iD ops ops.size t with
   | some j=>Nat.blt j i
   | none=>true
  | none=>false)=true:=by
 have:=(lN h).2 i hi
 rw [← Bool.and_eq_true]
 have e:cs.getD i 0=0∨cs.getD i 0=1:=by omega
 rcases e with e | e<;>rw [e] at this<;>exact this
theorem Tx.of (hn:n≤256) (hok:BJ n ops.toList=true) (h:jQ ops ms (DB ops)=true):Tx n ops.size ops ms (DB ops) (ZF (DB ops)) (UX ms (DB ops)):=by
 obtain ⟨hB,hc⟩:=lN h
 have hlen:(DB ops).length=ops.size:=EF
 refine ⟨hn,rfl,DrawOk.of hB,?_,?_,?_,?_,yO,fun i hi=>zO (by rw [hlen]; exact hi),fun i s hi h1 h2=>admD_of (by rw [hlen]; exact h1) (by rw [hlen]; exact h2)⟩
 ·intro i o ho
  exact NK hok o (by have:=Array.mem_of_getElem? ho; simpa using this)
 ·intro i hi h3 p hp cp
  have h3':(DB ops).getD i 0=3:=by have:=clsD_le (ops:=ops) i; omega
  have:=hc i (by rw [hlen]; exact hi)
  rw [h3'] at this
  have:=List.all_eq_true.1 this p (xI.2 ⟨by omega,cp⟩)
  rw [Bool.or_eq_true] at this
  rcases this with h | h
  ·have:=lE.1 h; omega
  ·exact h
 ·intro i hi h2 q hq cq hA p hp cp
  have this:=kM h (by rw [hlen]; exact hi) h2
  have:=List.all_eq_true.1 this.1 q (xI.2 ⟨by omega,cq⟩)
  rw [Bool.or_eq_true,Bool.not_eq_true'] at this
  rcases this with h | h
  ·rw [hA] at h; cases h
  ·have:=List.all_eq_true.1 h p (xI.2 ⟨by omega,cp⟩)
   rw [Bool.or_eq_true] at this
   rcases this with h | h
   ·have:=lE.1 h; omega
   ·exact h
 ·intro i hi h2 o ho t ht j hw e
  have:=hc i (by rw [hlen]; exact hi)
  rw [h2] at this
  have this:(match ops[i]? with
   | some o=>(o.looksAt ops).all fun t=>match iD ops ops.size t with
    | some j=>!Nat.beq ((DB ops).getD j 0) 2
    | none=>true
   | none=>false)=true:=this
  rw [ho] at this
  have:=List.all_eq_true.1 this t ht
  rw [hw] at this
  have this:(!Nat.beq ((DB ops).getD j 0) 2)=true:=this
  rw [e] at this
  cases this
end
end Go.Proofs.YtljlkhobfdofhaaGreatDoor.Rv
namespace Go.Proofs.YtljlkhobfdofhaaGreatDoor.Rv
open Go Vc
attribute [local irreducible] pg
section
variable {o:Oper} {E:En} {A:eF} {M:Me} {v:AV} {k:Kn} {r:Rs} {d:Option Nat} {t T S:TypeId} {pos:String} {after:Array Edge} {g:Option (Nat × Bool)} {x y z:Operand} {call:Cl} {n:Nat}
def Lk (op:Op) (call:Cl) (E:En) (M:Me) (v:AV):Prop:=∀ k,cD op call E M k=k v M
theorem Lk.eff (hC:CS call) (h:Lk o.op call E M v):Eff o E M.t v M.t:=by
 obtain ⟨v',M',h1,h2⟩:=JP (d:=o.dst) (t:=o.type) (pos:=o.pos) (after:=o.after) (g:=o.guard) (k:=fun v M=>some (v,M)) (r:=(v,M)) hC (h _)
 cases h1
 exact h2
theorem JN {op:Op} (hc:SC op=0) (h:cD op call E M k=some r):∃ v,∀ M',Lk op call E M' v:=by
 cases op with
 | move x =>
  obtain ⟨v,h1,h⟩:=gA (show UL x call E M k=some r from h)
  exact ⟨v,fun M' k'=>by show mA (zD x E) _=_; rw [h1]; rfl⟩
 | assign x =>
  obtain ⟨v,h1,h⟩:=gA (show UL x call E M k=some r from h)
  exact ⟨v,fun M' k'=>by show mA (zD x E) _=_; rw [h1]; rfl⟩
 | pick c a b =>
  obtain ⟨u,h1,h⟩:=gA (show aO c a b call E M k=some r from h)
  obtain ⟨q,h2,h⟩:=gA h
  obtain ⟨v,h3,h⟩:=gA h
  exact ⟨v,fun M' k'=>by show aO c a b call E M' k'=_; simp only [aO,h1,h2,h3,mA]⟩
 | build T ps =>
  obtain ⟨z,h1,h⟩:=gA (show PK T ps call E M k=some r from h)
  obtain ⟨pl,h2,h⟩:=gA h
  obtain ⟨l,h3,h⟩:=gA h
  exact ⟨_,fun M' k'=>by show PK T ps call E M' k'=_; simp only [PK,h1,h2,h3,mA]; rfl⟩
 | nilCheck x =>
  obtain ⟨v,h1,h⟩:=gA (show TV x call E M k=some r from h)
  obtain ⟨b,h2,h⟩:=gA h
  cases b with
  | true=>cases h
  | false=>exact ⟨v,fun M' k'=>by show TV x call E M' k'=_; simp only [TV,h1,h2,mA]; rfl⟩
 | binOp op T x y T' =>
  obtain ⟨a,h1,h⟩:=gA (show ZV op T x y call E M k=some r from h)
  obtain ⟨b,h2,h⟩:=gA h
  obtain ⟨v,h3,h⟩:=gA h
  exact ⟨v,fun M' k'=>by show ZV op T x y call E M' k'=_; simp only [ZV,h1,h2,h3,mA]⟩
 | unOp op T x =>
  obtain ⟨a,h1,h⟩:=gA (show oUn op x call E M k=some r from h)
  obtain ⟨v,h2,h⟩:=gA h
  exact ⟨v,fun M' k'=>by show oUn op x call E M' k'=_; simp only [oUn,h1,h2,mA]⟩
 | convert S T x =>
  have h:kI S T x call E M k=some r:=h
  have hO:∀ c,cO x c call E M k=some r→∃ v,∀ M' k',cO x c call E M' k'=k' v M':=fun c h=>by
   obtain ⟨a,h1,h⟩:=gA h
   obtain ⟨v,h2,h⟩:=gA h
   exact ⟨v,fun M' k'=>by simp only [cO,h1,h2,mA]⟩
  have hB:SS x call E M k=some r→∃ v,∀ M' k',SS x call E M' k'=k' v M':=fun h=>by
   obtain ⟨a,h1,h⟩:=gA h
   obtain ⟨l,h2,h⟩:=gA h
   exact ⟨.lst 1 (l.map fun b=>[AV.int .u8 (.ofNat b.toNat)]),fun M' k'=>by simp only [SS,h1,h2,mA,aG]⟩
  have e:∀ M' k',cD (.convert S T x) call E M' k'=kI S T x call E M' k':=fun _ _=>rfl
  have key:∃ v,∀ M' k',kI S T x call E M' k'=k' v M':=by
   unfold kI at h ⊢
   cases hc:dG S T with
   | b=>rw [hc] at h; exact hB h
   | i q=>rw [hc] at h; exact hO _ h
   | s=>rw [hc] at h; exact hO _ h
   | x=>rw [hc] at h; exact hO _ h
  obtain ⟨v,hv⟩:=key
  exact ⟨v,fun M' k'=>hv M' k'⟩
 | makeInterface T x =>
  obtain ⟨a,h1,h⟩:=gA (show UV T x call E M k=some r from h)
  obtain ⟨h2,h⟩:=DE h
  obtain ⟨u,h3,h⟩:=gA h
  exact ⟨.iface T a,fun M' k'=>by show UV T x call E M' k'=_; simp only [UV,h1,h2,h3,mA,KA]⟩
 | makeFunc f q c =>
  have h:KA q.isEmpty (RS f c) OK call E M k=some r:=h
  cases hq:q.isEmpty with
  | false=>rw [hq] at h; cases h
  | true =>
   rw [hq,tC] at h
   cases f with
   | func f =>
    obtain ⟨l,h1,h⟩:=gA (show (mA (evL E c.toList) fun l=>k (.fn f l) M)=some r from h)
    refine ⟨.fn f l,fun M' k'=>?_⟩
    show KA q.isEmpty (RS (.func f) c) OK call E M' k'=_
    rw [hq,tC]
    show (mA (evL E c.toList) fun l=>k' (.fn f l) M')=_
    rw [h1]; rfl
   | _=>cases h
 | fieldAddr S x f =>
  obtain ⟨a,h1,h⟩:=gA (show XV S x f call E M k=some r from h)
  obtain ⟨v,h2,h⟩:=gA h
  exact ⟨v,fun M' k'=>by show XV S x f call E M' k'=_; simp only [XV,h1,h2,mA]⟩
 | field S x f =>
  obtain ⟨a,h1,h⟩:=gA (show WV S x f call E M k=some r from h)
  obtain ⟨l,h2,h⟩:=gA h
  obtain ⟨p,h3,h⟩:=gA h
  obtain ⟨v,h4,h⟩:=gA h
  exact ⟨v,fun M' k'=>by show WV S x f call E M' k'=_; simp only [WV,h1,h2,h3,h4,mA]⟩
 | indexAddr T x y =>
  obtain ⟨a,h1,h⟩:=gA (show VV T x y call E M k=some r from h)
  obtain ⟨l,h2,h⟩:=gA h
  obtain ⟨p,h3,h⟩:=gA h
  obtain ⟨v,h4,h⟩:=gA h
  exact ⟨v,fun M' k'=>by show VV T x y call E M' k'=_; simp only [VV,h1,h2,h3,h4,mA]⟩
 | index T x y =>
  obtain ⟨a,h1,h⟩:=gA (show oIx T x y call E M k=some r from h)
  obtain ⟨l,h2,h⟩:=gA h
  obtain ⟨p,h3,h⟩:=gA h
  obtain ⟨v,h4,h⟩:=gA h
  exact ⟨v,fun M' k'=>by show oIx T x y call E M' k'=_; simp only [oIx,h1,h2,h3,h4,mA]⟩
 | typeAssert x S T ok =>
  obtain ⟨a,h1,h⟩:=gA (show RV x T ok call E M k=some r from h)
  obtain ⟨p,h2,h⟩:=gA h
  obtain ⟨h3,h⟩:=DE h
  obtain ⟨u,h4,h⟩:=gA h
  obtain ⟨h5,h⟩:=AA h
  exact ⟨_,fun M' k'=>by show RV x T ok call E M' k'=_; simp only [RV,h1,h2,h3,h4,h5,mA,KA]; rfl⟩
 | extract x i =>
  obtain ⟨a,h1,h⟩:=gA (show YV x i call E M k=some r from h)
  obtain ⟨l,h2,h⟩:=gA h
  obtain ⟨v,h3,h⟩:=gA h
  exact ⟨v,fun M' k'=>by show YV x i call E M' k'=_; simp only [YV,h1,h2,h3,mA]⟩
 | call c =>
  exfalso
  unfold SC at hc
  revert hc
  show (match c.callee with | .builtin .len | .builtin .max | .builtin .min=>1 | _=>3)=0→False
  split<;>intro hc<;>cases hc
 | _=>cases hc
end
end Go.Proofs.YtljlkhobfdofhaaGreatDoor.Rv
namespace Go.Proofs.YtljlkhobfdofhaaGreatDoor.Rv
open Go Vc
attribute [local irreducible] pg
section
variable {o:Oper} {E:En} {A:eF} {M:Me} {v:AV} {k:Kn} {r:Rs} {d:Option Nat} {t T S:TypeId} {pos:String} {after:Array Edge} {g:Option (Nat × Bool)} {x y z:Operand} {call:Cl} {n:Nat}
theorem two_ok {f:Int→Int→Int} (h:aP f x y call E M k=some r):∃ v,∀ k',aP f x y call E M k'=k' v M:=by
 obtain ⟨a,h1,h⟩:=gA h
 obtain ⟨b,h2,h⟩:=gA h
 obtain ⟨p,h3,h⟩:=gA h
 obtain ⟨q,h4,h⟩:=gA h
 obtain ⟨h5,h⟩:=AA h
 obtain ⟨h6,h⟩:=AA h
 exact ⟨_,fun k'=>by simp only [aP,h1,h2,h3,h4,h5,h6,mA,KA]; rfl⟩
theorem len_ok (h:FX x T call E M k=some r):∃ v,∀ k',FX x T call E M k'=k' v M:=by
 obtain ⟨a,h1,h⟩:=gA h
 obtain ⟨m,h2,h⟩:=gA h
 exact ⟨_,fun k'=>by simp only [FX,h1,h2,mA]; rfl⟩
theorem KQ {op:Op} (hc:SC op=1) (h:cD op call E M k=some r):∃ v,Lk op call E M v:=by
 cases op with
 | load T x =>
  obtain ⟨a,h1,h⟩:=gA (show bO T x call E M k=some r from h)
  obtain ⟨v,h2,h⟩:=gA h
  exact ⟨v,fun k'=>by show bO T x call E M k'=_; simp only [bO,h1,h2,mA]⟩
 | slice T x lo hi mx =>
  cases mx with
  | some q=>cases h
  | none =>
   obtain ⟨a,h1,h⟩:=gA (show (mA (zD x E) fun v=>mA (CV E 0 lo) fun l=>mA (Option.rec (VM T M.t v) (fun y=>mA (zD y E) PR) hi) fun h=>mA (slc v T l h) fun v=>k v M)=some r from h)
   obtain ⟨l,h2,h⟩:=gA h
   obtain ⟨m,h3,h⟩:=gA h
   obtain ⟨v,h4,h⟩:=gA h
   refine ⟨v,fun k'=>?_⟩
   show (mA (zD x E) fun v=>mA (CV E 0 lo) fun l=>mA (Option.rec (VM T M.t v) (fun y=>mA (zD y E) PR) hi) fun h=>mA (slc v T l h) fun v=>k' v M)=_
   rw [h1]
   show (mA (CV E 0 lo) fun l=>mA (Option.rec (VM T M.t a) (fun y=>mA (zD y E) PR) hi) fun h=>mA (slc a T l h) fun v=>k' v M)=_
   rw [h2]
   show (mA (Option.rec (VM T M.t a) (fun y=>mA (zD y E) PR) hi) fun h=>mA (slc a T l h) fun v=>k' v M)=_
   rw [h3]
   show (mA (slc a T l m) fun v=>k' v M)=_
   rw [h4]; rfl
 | lookup T x y ok =>
  obtain ⟨a,h1,h⟩:=gA (show PP T x y ok call E M k=some r from h)
  obtain ⟨b,h2,h⟩:=gA h
  obtain ⟨id,h3,h⟩:=gA h
  obtain ⟨l,h4,h⟩:=gA h
  obtain ⟨key,h5,h⟩:=gA h
  obtain ⟨e,h6,h⟩:=gA h
  obtain ⟨h7,h⟩:=AA h
  obtain ⟨q,h8,h⟩:=gA h
  cases q with
  | none =>
   obtain ⟨v,h9,h⟩:=gA (show (mA (zerV e.1) fun v=>k (okV ok v false) M)=some r from h)
   exact ⟨_,fun k'=>by show PP T x y ok call E M k'=_; simp only [PP,h1,h2,h3,h4,h5,h6,h7,h8,h9,mA,KA]; rfl⟩
  | some v=>exact ⟨_,fun k'=>by show PP T x y ok call E M k'=_; simp only [PP,h1,h2,h3,h4,h5,h6,h7,h8,mA,KA]; rfl⟩
 | call c =>
  obtain ⟨ce,xs,ts⟩:=c
  cases ce with
  | value f=>cases hc
  | invoke x m=>cases hc
  | builtin b =>
   have e:∀ k',cD (.call ⟨.builtin b,xs,ts⟩) call E M k'=US b xs.toList ts.toList call E M k':=fun _=>rfl
   have h:US b xs.toList ts.toList call E M k=some r:=h
   have key:∃ v,∀ k',US b xs.toList ts.toList call E M k'=k' v M:=by
    cases b<;>first | (cases hc; done) | skip
    ·generalize xs.toList=l at h ⊢
     generalize ts.toList=q at h ⊢
     match l,q with
     | [x],[T]=>exact len_ok (call:=call) h
     | [],_=>cases h
     | _::_::_,_=>cases h
     | [x],[]=>cases h
     | [x],_::_::_=>cases h
    all_goals
     generalize xs.toList=l at h ⊢
     generalize ts.toList=q at h ⊢
     match l,q with
     | [x,y],[T,T']=>exact two_ok (call:=call) h
     | [],_=>cases h
     | [_],_=>cases h
     | _::_::_::_,_=>cases h
     | [x,y],[]=>cases h
     | [x,y],[_]=>cases h
     | [x,y],_::_::_::_=>cases h
   obtain ⟨v,hv⟩:=key
   exact ⟨v,fun k'=>(e k').trans (hv k')⟩
 | convert S T x=>cases hc
 | _=>cases hc
theorem look_ok {op:Op} (hc:SC op<2) (h:cD op call E M k=some r):∃ v,Lk op call E M v:=by
 rcases Nat.lt_or_ge (SC op) 1 with h1 | h1
 ·obtain ⟨v,hv⟩:=JN (show SC op=0 by omega) h
  exact ⟨v,hv M⟩
 ·exact KQ (show SC op=1 by omega) h
theorem MM {a:AO} {f:Pa→AV} (h:gJ M a k f=some r) (hd:a≠.dead)
  (H:∀ (I:Itp) (w:World) (n:Nat) (ρ:EA),HO I.K I.β n E ρ o.op.operands.toList→∃ u w' bk,Runs pg n ρ o w u w'∧Ext w w'∧w.heap.size≤bk.b∧(∀ β,OR I.K β w' bk a)∧∀ β:Mp,β M.nx=some bk→IV I.K (f M.nx) β u) :
  ∃ v M',k v M'=some r∧Eff o E M.t v M'.t∧∀ n,Flo n o E M.t v M'.t:=by
 obtain ⟨h1,M',h2,h3⟩:=SJ h
 refine ⟨f M.nx,M',h3,fun I w n ρ hO HA=>?_,fun n=>⟨M.nx,a,h1,h2,hd,fun I w ρ hO=>H I w n ρ hO⟩⟩
 obtain ⟨u,w',bk,e1,e2,e3,e4,e5⟩:=H I w n ρ hO
 obtain ⟨g1,g2⟩:=HA.new h1 e3 e2 (e4 _) hd
 rw [show (execOp (ev n ρ) o).run pg w=_ from e1,h2]
 exact ⟨_,g1,e5 _ bind_self,g2⟩
theorem flo_ok (hc:SC o.op=2) (h:cD o.op call E M k=some r):∃ v M',k v M'=some r∧Eff o E M.t v M'.t∧∀ n,Flo n o E M.t v M'.t:=by
 obtain ⟨d,op,t,pos,after,g⟩:=o
 cases op with
 | alloc T =>
  obtain ⟨l,h1,h⟩:=gA (show QP T call E M k=some r from h)
  rw [lB] at h
  refine MM h (by intro e; cases e) fun I w n ρ hO=>?_
  obtain ⟨zv,h5,_⟩:=QG (K:=I.K) (β:=I.β) h1
  refine ⟨_,_,⟨w.heap.size,0,l.length,0⟩,Runs.alloc h5,Ext.alloc _ _,Nat.le_refl _,fun β=>?_,fun β hb=>?_⟩
  ·obtain ⟨zv',h5',h6⟩:=QG (K:=I.K) (β:=β) h1
   rw [h5] at h5'; cases h5'
   exact dJ h6 (by simpa using PB w (.cells zv.cells T))
  ·simp only [IV]; exact ⟨_,hb,by simp⟩
 | makeMap T q =>
  cases q with
  | some q=>cases h
  | none =>
   have h:gJ M (.mp []) k .map=some r:=h
   refine MM h (by intro e; cases e) fun I w n ρ hO=>?_
   refine ⟨.map (some w.heap.size),w.alloc (.map #[] 0),⟨w.heap.size,0,0,0⟩,?_,Ext.alloc _ _,Nat.le_refl _,fun β=>⟨[],0,PB _ _,rfl⟩,fun β hb=>?_⟩
   ·simp [Runs,execOp,Instr.makeMap]
   ·simp only [IV]; exact ⟨_,hb,rfl⟩
 | makeSlice T x y =>
  obtain ⟨p,h1,h⟩:=gA (show oMkS T x y call E M k=some r from h)
  obtain ⟨a,h2,h⟩:=gA h
  obtain ⟨m,h3,h⟩:=gA h
  obtain ⟨b,h4,h⟩:=gA h
  obtain ⟨m',h5,h⟩:=gA h
  obtain ⟨h6,h⟩:=AA h
  obtain ⟨h7,h⟩:=AA h
  rw [aG] at h
  have em:=KC h6
  obtain ⟨e,zv,f1,f2,f3,f4,f5,f6⟩:=LJ h1
  obtain ⟨k1,ea⟩:=MG h3
  obtain ⟨k2,eb⟩:=MG h5
  rw [← em] at eb
  obtain ⟨h8,h9⟩:=AA (b:=Nat.ble m 1000000) (x:=some true) (r:=true) (by
   unfold zM at h7
   cases hb:Nat.ble m 1000000
   ·rw [hb] at h7; cases h7
   ·rfl)
  have h10:p.2.1≤1000000:=by
   unfold zM at h7
   rw [h8,tC] at h7
   exact Nat.le_of_ble_eq_true h7
  have h11:m≤1000000:=Nat.le_of_ble_eq_true h8
  have hz:zv.cells.size=p.1:=by
   have:=(f4 (fun _=>none) RP).len
   simp at this; omega
  refine MM h (by intro e; cases e) fun I w n ρ hO=>?_
  have hx:=hO x (by simp [Op.operands]) _ h2
  have hy:=hO y (by simp [Op.operands]) _ h4
  rw [ea] at hx
  rw [eb] at hy
  simp only [IV] at hx hy
  have hr:=dI (d:=d) (t:=t) (pos:=pos) (after:=after) (g:=g) (w:=w) f6 hz f1 f3 f2 hx hy (by
   have:m*(p.2.1+1)≤1000000*1000001:=Nat.mul_le_mul h11 (by omega)
   omega)
  refine ⟨_,_,⟨w.heap.size,0,p.1,m⟩,hr,Ext.alloc _ _,Nat.le_refl _,fun β=>⟨rfl,fun q hq=>by rw [(List.mem_replicate.1 hq).2]; exact f5,[],_,[],e,(by simpa using PB w (.cells (List.replicate m zv.cells.toList).flatten.toArray e)),rfl,IVss.rep (f4 I.K β) m,?_⟩,fun β hb=>?_⟩
  ·rw [AM]; simp [hz]
  ·simp only [IV]; exact ⟨_,hb,by simp,by simp,rfl⟩
 | call c =>
  exfalso
  unfold SC at hc
  revert hc
  show (match c.callee with | .builtin .len | .builtin .max | .builtin .min=>1 | _=>3)=2→False
  split<;>intro hc<;>cases hc
 | _=>cases hc
end
end Go.Proofs.YtljlkhobfdofhaaGreatDoor.Rv
namespace Go.Proofs.YtljlkhobfdofhaaGreatDoor.Rv
open Go Vc
attribute [local irreducible] pg
section
variable {o:Oper} {E:En} {M:Me} {r:Rs} {call:Cl} {n d:Nat} {ops:Array Oper} {S:List Me} {ms cs:List Nat}
theorem jK {a b:Rv.D} (h:qN a b=true):a=b:=by cases a<;>cases b<;>first | rfl | cases h
theorem NR {a b:P4} (h:DT a b=true):a=b:=by
 obtain ⟨a1,a2,a3,a4⟩:=a
 obtain ⟨b1,b2,b3,b4⟩:=b
 unfold DT at h
 cases h1:qN a1 b1 with
 | false=>simp only [h1] at h; cases h
 | true =>
  cases h2:qN a2 b2 with
  | false=>simp only [h1,h2] at h; cases h
  | true =>
   cases h3:qN a3 b3 with
   | false=>simp only [h1,h2,h3] at h; cases h
   | true =>
    cases h4:qN a4 b4 with
    | false=>simp only [h1,h2,h3,h4] at h; cases h
    | true=>rw [jK h1,jK h2,jK h3,jK h4]
theorem eD {a b:Bool} (h:KA a b false=true):a=true∧b=true:=by
 cases a
 ·cases h
 ·exact ⟨rfl,h⟩
theorem pN {a b:Pa} (h:beqP a b=true):a=b:=by
 obtain ⟨a1,a2⟩:=a
 obtain ⟨b1,b2⟩:=b
 obtain ⟨h1,h2⟩:=eD (show KA (DT a1 b1) (DT a2 b2) false=true from h)
 rw [NR h1,NR h2]
theorem beqU_ok {a b:Value} (h:beqU a b=true):a=b:=by
 unfold beqU at h
 split at h<;>first | rfl | cases h
theorem rN {a b:AV} (h:BT a b=true):a=b:=by
 unfold BT at h
 split at h
 ·rw [beqU_ok h]
 ·obtain ⟨h1,h2⟩:=eD h
  rw [oF] at h2
  rw [YF h1,of_decide_eq_true h2]
 ·rename_i x y
  cases x<;>cases y<;>first | rfl | cases h
 ·rw [iK] at h; rw [eq_of_beq h]
 ·obtain ⟨h1,h2⟩:=eD h
  obtain ⟨h2,h3⟩:=eD h2
  rw [pN h1,KC h2,KC h3]
 ·obtain ⟨h1,h2⟩:=eD h
  obtain ⟨h2,h3⟩:=eD h2
  obtain ⟨h3,h4⟩:=eD h3
  rw [pN h1,KC h2,KC h3,KC h4]
 ·rfl
 ·rw [pN h]
 ·cases h
theorem pL:∀ {a b:List AV},MR a b=true→a=b
 | [],[],_=>rfl
 | [],_::_,h=>by cases h
 | _::_,[],h=>by cases h
 | x::a,y::b,h=>by
  obtain ⟨h1,h2⟩:=eD (show KA (BT x y) (MR a b) false=true from h)
  rw [rN h1,pL h2]
theorem beqV_ok {a b:AV} (h:beqV a b=true):a=b:=by
 unfold beqV at h
 split at h
 ·rw [pL h]
 ·rw [pL h]
 ·obtain ⟨h1,h2⟩:=eD h
  rw [KC h1,rN h2]
 ·exact rN h
theorem zQ (hc:SC o.op<2):∀ (l:List Nat) (k:Option Rs),CU o d call E S l k=some r→k=some r∧∀ s∈l,∃ M u,S[s]?=some M∧fF d E=some u∧Lk o.op call E M u:=by
 intro l
 induction l with
 | nil=>intro k h; exact ⟨h,fun s hs=>by cases hs⟩
 | cons s l ih =>
  intro k h
  have h:(mA (LM S s) fun M=>cD o.op call E M fun v _=>mA (fF d E) fun u=>KA (beqV v u) (CU o d call E S l k) none)=some r:=h
  obtain ⟨M,h1,h⟩:=gA h
  obtain ⟨v,hv⟩:=look_ok hc h
  rw [hv] at h
  obtain ⟨u,h2,h⟩:=gA h
  obtain ⟨h3,h⟩:=AA h
  obtain ⟨h4,h5⟩:=ih k h
  rw [mF] at h1
  refine ⟨h4,fun x hx=>?_⟩
  rcases List.mem_cons.1 hx with rfl | hx
  ·exact ⟨M,u,h1,h2,by rw [← beqV_ok h3]; exact hv⟩
  ·exact h5 x hx
theorem zZ (hc:SC o.op<2) {l:List Nat} {k:Option Rs} (h:AZ ops o call E S l k=some r):k=some r∧∃ d,o.dst=some d∧((∀ p,o.guard=some p→GE E ops p=some true)→∀ s∈l,∃ M u,S[s]?=some M∧fF d E=some u∧Lk o.op call E M u):=by
 unfold AZ at h
 cases hd:o.dst with
 | none=>rw [hd] at h; cases h
 | some d =>
  rw [hd] at h
  cases hg:o.guard with
  | none =>
   rw [hg] at h
   obtain ⟨h1,h2⟩:=zQ (d:=d) hc l k h
   exact ⟨h1,d,rfl,fun _=>h2⟩
  | some p =>
   rw [hg] at h
   obtain ⟨b,hb,h⟩:=gA (show (mA (GE E ops p) fun b=>KA b (CU o d call E S l k) k)=some r from h)
   cases b with
   | false=>exact ⟨h,d,rfl,fun hp=>by have:=hp p rfl; rw [hb] at this; cases this⟩
   | true =>
    obtain ⟨h1,h2⟩:=zQ (d:=d) hc l k h
    exact ⟨h1,d,rfl,fun _=>h2⟩
theorem agnD_ok:∀ (L:List (Oper × List Nat)) (k:Option Rs),(∀ p∈L,SC p.1.op<2)→agnD ops call E S L k=some r→k=some r∧∀ p∈L,∃ d,p.1.dst=some d∧((∀ q,p.1.guard=some q→GE E ops q=some true)→∀ s∈p.2,∃ M u,S[s]?=some M∧fF d E=some u∧Lk p.1.op call E M u):=by
 intro L
 induction L with
 | nil=>intro k _ h; exact ⟨h,fun p hp=>by cases hp⟩
 | cons p L ih =>
  intro k hL h
  have h:AZ ops p.1 call E S p.2 (agnD ops call E S L k)=some r:=h
  obtain ⟨h1,h2⟩:=zZ (hL p (List.mem_cons_self ..)) h
  obtain ⟨h3,h4⟩:=ih k (fun q hq=>hL q (List.mem_cons_of_mem _ hq)) h1
  refine ⟨h3,fun q hq=>?_⟩
  rcases List.mem_cons.1 hq with rfl | hq
  ·exact h2
  ·exact h4 q hq
theorem KS {i:Nat} (hi:ops[i]?=some o) (hs:∀ s,s∈PI ms (DB ops) i→True) {s:Nat} (h:s∈PI ms (DB ops) i):(o,(PI ms (DB ops) i).map fun s=>Nat.sub (ZF (DB ops) (DB ops).length) s)∈GK ops ms (DB ops):=by
 unfold GK
 refine List.mem_filterMap.2 ⟨(i,o),?_,?_⟩
 ·refine List.mem_iff_getElem?.2 ⟨i,?_⟩
  have hlt:i<ops.size:=(Array.getElem?_eq_some_iff.1 hi).1
  rw [List.getElem?_zip_eq_some]
  exact ⟨List.getElem?_range (by rw [EF]; exact hlt),by rw [Array.getElem?_toList]; exact hi⟩
 ·cases hl:PI ms (DB ops) i with
  | nil=>rw [hl] at h; cases h
  | cons a l=>rfl
theorem LS {p:Oper × List Nat} (h:p∈GK ops ms (DB ops)):SC p.1.op<2:=by
 unfold GK at h
 obtain ⟨⟨i,o⟩,h1,h2⟩:=List.mem_filterMap.1 h
 obtain ⟨j,hj⟩:=List.mem_iff_getElem?.1 h1
 rw [List.getElem?_zip_eq_some] at hj
 obtain ⟨e1,e2⟩:=hj
 have hij:i=j:=by
  rw [List.getElem?_eq_some_iff] at e1
  obtain ⟨_,e1⟩:=e1
  simpa using e1.symm
 subst hij
 rw [Array.getElem?_toList] at e2
 cases hl:PI ms (DB ops) i with
 | nil=>simp only [hl] at h2; cases h2
 | cons a l =>
  simp only [hl] at h2
  cases h2
  have ha:a∈PI ms (DB ops) i:=by rw [hl]; exact List.mem_cons_self ..
  unfold PI at ha
  have:=(List.mem_filter.1 ha).2
  rw [Bool.and_eq_true,Bool.and_eq_true] at this
  have h3:=KC this.1.1
  rw [eK e2] at h3
  have h4:SC o.op=1:=h3
  show SC o.op<2
  rw [h4]; decide
end
end Go.Proofs.YtljlkhobfdofhaaGreatDoor.Rv
namespace Go.Proofs.YtljlkhobfdofhaaGreatDoor.Rv
open Go Vc
attribute [local irreducible] pg
section
variable {o:Oper} {E:En} {M:Me} {r:Rs} {call:Cl} {n d:Nat} {ops:Array Oper} {S:List Me} {ms cs:List Nat}
def jY (ops:Array Oper) (call:Cl) (c:Nat) (o:Oper) (E:En) (M:Me) (v:AV) (M':Me) (off:Bool):Prop :=
 (off=false→(∀ p,o.guard=some p→GE E ops p=some true)∧(2≤c→Eff o E M.t v M'.t)∧(c=2→∀ n,Flo n o E M.t v M'.t)∧(c<2→M'=M∧Lk o.op call E M v)∧(c=0→∀ A,Lk o.op call E A v)) ∧
 (off=true→(∃ p,o.guard=some p∧GE E ops p=some false)∧v=.un∧M'=M)
theorem PJ {v:AV} {kk:En→Option Rs} (hn:n≤256) (hd:∀ x,o.dst=some x→x<n) (h:CL o.dst E v kk=some r):∃ E',kk E'=some r∧Pt o v E E':=by
 cases he:o.dst with
 | none =>
  rw [he] at h
  exact ⟨E,h,rfl,fun t _=>by rw [he]; simp⟩
 | some d =>
  rw [he] at h
  have hd':=hd d he
  obtain ⟨E',h1,h2,h3⟩:=SQ (Nat.lt_of_lt_of_le hd' hn) (show eH d E v kk=some r from h)
  refine ⟨E',h1,h2,fun t ht=>?_⟩
  rw [h3 t ht,he]
  by_cases e:t=d
  ·subst e; simp
  ·rw [if_neg e,if_neg fun e2=>e (Option.some.inj e2).symm]
theorem DQ (hC:CS call) (hn:n≤256) (hd:∀ x,o.dst=some x→x<n) {ih:Cd} {k:Ks} (hg:∀ p,o.guard=some p→GE E ops p=some true) (h:TU o ih call E M S k=some r) :
  ∃ v E' M',jY ops call (SC o.op) o E M v M' false∧Pt o v E E'∧ih call E' M' (if 2≤SC o.op then M'::S else S) k=some r:=by
 have hst:∀ {M':Me} {kk:List Me→Option Rs},zL o M' S kk=some r→kk (if 2≤SC o.op then M'::S else S)=some r:=fun {M' kk} h=>by
  unfold zL at h
  cases hb:Nat.ble 2 (SC o.op) with
  | true=>rw [hb] at h; rw [if_pos (lE.1 hb)]; exact h
  | false=>rw [hb] at h; rw [if_neg fun h'=>by rw [lE.2 h'] at hb; cases hb]; exact h
 rcases Nat.lt_or_ge (SC o.op) 2 with hc | hc
 ·obtain ⟨v,hv⟩:∃ v,Lk o.op call E M v∧(SC o.op=0→∀ A,Lk o.op call E A v):=by
   rcases Nat.lt_or_ge (SC o.op) 1 with h1 | h1
   ·obtain ⟨v,hv⟩:=JN (show SC o.op=0 by omega) h
    exact ⟨v,hv M,fun _=>hv⟩
   ·obtain ⟨v,hv⟩:=KQ (show SC o.op=1 by omega) h
    exact ⟨v,hv,fun e=>by omega⟩
  have h:cD o.op call E M (fun v M=>CL o.dst E v fun E=>zL o M S fun S=>ih call E M S k)=some r:=h
  rw [hv.1] at h
  obtain ⟨E',h1,h2⟩:=PJ hn hd h
  exact ⟨v,E',M,⟨fun _=>⟨hg,fun h=>by omega,fun h=>by omega,fun _=>⟨rfl,hv.1⟩,hv.2⟩,fun h=>by cases h⟩,h2,hst h1⟩
 ·rcases Nat.lt_or_ge (SC o.op) 3 with hc3 | hc3
  ·obtain ⟨v,M',h1,h2,h3⟩:=flo_ok (show SC o.op=2 by omega) h
   obtain ⟨E',h4,h5⟩:=PJ hn hd h1
   exact ⟨v,E',M',⟨fun _=>⟨hg,fun _=>h2,fun _=>h3,fun h=>by omega,fun h=>by omega⟩,fun h=>by cases h⟩,h5,hst h4⟩
  ·obtain ⟨v,M',h1,h2⟩:=JP (d:=o.dst) (t:=o.type) (pos:=o.pos) (after:=o.after) (g:=o.guard) hC (show cD o.op call E M (fun v M=>CL o.dst E v fun E=>zL o M S fun S=>ih call E M S k)=some r from h)
   obtain ⟨E',h4,h5⟩:=PJ hn hd h1
   exact ⟨v,E',M',⟨fun _=>⟨hg,fun _=>h2,fun h=>by omega,fun h=>by omega,fun h=>by omega⟩,fun h=>by cases h⟩,h5,hst h4⟩
theorem anyD_ok (hC:CS call) (hn:n≤256) (hd:∀ x,o.dst=some x→x<n) {ih:Cd} {k:Ks} (h:FT ops o ih call E M S k=some r) :
  ∃ v E' M' off,jY ops call (SC o.op) o E M v M' off∧Pt o v E E'∧ih call E' M' (if 2≤SC o.op then M'::S else S) k=some r:=by
 unfold FT at h
 cases hg:o.guard with
 | none =>
  rw [hg] at h
  obtain ⟨v,E',M',h1,h2⟩:=DQ (ops:=ops) hC hn hd (fun p hp=>by rw [hg] at hp; cases hp) h
  exact ⟨v,E',M',false,h1,h2⟩
 | some p =>
  rw [hg] at h
  obtain ⟨b,hb,h⟩:=gA (show grdD ops o ih p call E M S k=some r from h)
  cases b with
  | true =>
   obtain ⟨v,E',M',h1,h2⟩:=DQ (ops:=ops) hC hn hd (fun q hq=>by rw [hg] at hq; cases hq; exact hb) h
   exact ⟨v,E',M',false,h1,h2⟩
  | false =>
   obtain ⟨E',h4,h5⟩:=PJ (v:=.un) hn hd (show CL o.dst E .un (fun E=>zL o M S fun S=>ih call E M S k)=some r from h)
   refine ⟨.un,E',M,true,⟨fun h=>(by cases h),fun _=>⟨⟨p,hg,hb⟩,rfl,rfl⟩⟩,h5,?_⟩
   unfold zL at h4
   cases hb:Nat.ble 2 (SC o.op) with
   | true=>rw [hb] at h4; rw [if_pos (lE.1 hb)]; exact h4
   | false=>rw [hb] at h4; rw [if_neg fun h'=>by rw [lE.2 h'] at hb; cases hb]; exact h4
theorem TY (hC:CS call) (hn:n≤256) (hops:BJ n ops.toList=true) {k:Ks}:∀ (l:List Oper) (i:Nat) (E:En) (M:Me) (S:List Me) (r:Rs),i+l.length=ops.size→l=ops.toList.drop i→BL ops l call E M S k=some r →
  ∃ (v:Nat→AV) (Es:Nat→En) (Ms:Nat→Me) (off:Nat→Bool) (S':List Me),k (Es ops.size) (Ms ops.size) S'=some r∧Es i=E∧Ms i=M ∧
   (∀ j o,i≤j→j<ops.size→ops[j]?=some o→Pt o (v j) (Es j) (Es (j+1))∧jY ops call (SC o.op) o (Es j) (Ms j) (v j) (Ms (j+1)) (off j)) ∧
   (∃ pre,S'=pre++S∧pre.length+ZF (DB ops) i=ZF (DB ops) ops.size) ∧
   (S[0]?=some M→∀ j,i≤j→j≤ops.size→ZF (DB ops) j≤ZF (DB ops) ops.size∧S'[ZF (DB ops) ops.size-ZF (DB ops) j]?=some (Ms j)):=by
 intro l
 induction l with
 | nil =>
  intro i E M S r hi hl h
  have:i=ops.size:=by simpa using hi
  subst this
  refine ⟨fun _=>.un,fun _=>E,fun _=>M,fun _=>true,S,h,rfl,rfl,fun j o h1 h2=>by omega,⟨[],rfl,by simp⟩,fun hS j h1 h2=>?_⟩
  rw [show j=ops.size by omega]
  exact ⟨Nat.le_refl _,by rw [Nat.sub_self]; exact hS⟩
 | cons o l ih =>
  intro i E M S r hi hl h
  have hi':i<ops.size:=by simp at hi; omega
  have ho:ops[i]?=some o:=by
   have:ops.toList[i]?=(ops.toList.drop i)[0]?:=by rw [List.getElem?_drop]; rfl
   rw [← hl] at this
   simpa using this
  have hl':l=ops.toList.drop (i+1):=by
   have:l=(ops.toList.drop i).drop 1:=by rw [← hl]; rfl
   rw [this,List.drop_drop]
  have hok:=NK hops o (by have:=Array.mem_of_getElem? ho; simpa using this)
  have hx:=zO (cs:=DB ops) (i:=i) (by rw [EF]; exact hi')
  rw [eK ho] at hx
  obtain ⟨v0,E1,M1,off0,h1,h2,h3⟩:=anyD_ok (ops:=ops) (k:=k) hC hn (VE hok).2 (show FT ops o (BL ops l) call E M S k=some r from h)
  obtain ⟨v,Es,Ms,off,S',g1,g2,g3,g4,⟨pre,g5,g6⟩,g7⟩:=ih (i+1) E1 M1 _ r (by simp at hi; omega) hl' h3
  refine ⟨fun j=>if j=i then v0 else v j,fun j=>if j=i then E else Es j,fun j=>if j=i then M else Ms j,fun j=>if j=i then off0 else off j,S',?_,if_pos rfl,if_pos rfl,?_,?_,?_⟩
  ·dsimp only; rw [if_neg (by omega),if_neg (by omega)]; exact g1
  ·intro j o' hj1 hj2 hoj
   by_cases e:j=i
   ·subst e
    rw [ho] at hoj; cases hoj
    simp only [if_pos,if_neg (show ¬ j+1=j by omega)]
    rw [g2,g3]
    exact ⟨h2,h1⟩
   ·simp only [if_neg e,if_neg (show ¬ j+1=i by omega)]
    exact g4 j o' (by omega) hj2 hoj
  ·split at g5<;>rename_i hc
   ·rw [if_pos hc] at hx
    exact ⟨pre++[M1],by rw [g5]; simp,by simp; omega⟩
   ·rw [if_neg hc] at hx
    exact ⟨pre,g5,by omega⟩
  ·intro hS j hj1 hj2
   have hS1:(if 2≤SC o.op then M1::S else S)[0]?=some M1:=by
    split
    ·rfl
    ·rename_i hc
     have:M1=M:=by
      cases off0 with
      | false=>exact ((h1.1 rfl).2.2.2.1 (by omega)).1
      | true=>exact (h1.2 rfl).2.2
     rw [this]; exact hS
   by_cases e:j=i
   ·subst e
    have h0:=(g7 hS1 ops.size (by omega) (Nat.le_refl _)).1
    have hle:=(g7 hS1 (j+1) (Nat.le_refl _) (by omega)).1
    refine ⟨by split at hx<;>omega,?_⟩
    dsimp only
    rw [if_pos rfl,g5]
    split at g5<;>rename_i hc
    ·rw [if_pos hc] at hx ⊢
     rw [List.getElem?_append_right (by omega)]
     rw [show ZF (DB ops) ops.size-ZF (DB ops) j-pre.length=0+1 by omega]
     exact hS
    ·rw [if_neg hc] at hx ⊢
     rw [List.getElem?_append_right (by omega)]
     rw [show ZF (DB ops) ops.size-ZF (DB ops) j-pre.length=0 by omega]
     exact hS
   ·dsimp only
    rw [if_neg e]
    exact g7 hS1 j (by omega) hj2
end
end Go.Proofs.YtljlkhobfdofhaaGreatDoor.Rv
namespace Go.Proofs.YtljlkhobfdofhaaGreatDoor.Rv
open Go Vc
attribute [local irreducible] pg
section
variable {o:Oper} {E:En} {M:Me} {r:Rs} {call:Cl} {n d:Nat} {ops:Array Oper} {S:List Me} {ms cs:List Nat}
theorem VU (k:En→Me→Option Rs):∀ (l:List Oper) (E:En) (M:Me) (S:List Me),BL ops l call E M S (fun E M _=>k E M)=iI ops l call E M k:=by
 intro l
 induction l with
 | nil=>intro E M S; rfl
 | cons o l ih =>
  intro E M S
  have hst:∀ (E:En) (M:Me),(zL o M S fun S=>BL ops l call E M S fun E M _=>k E M)=iI ops l call E M k:=fun E M=>by
   unfold zL
   cases Nat.ble 2 (SC o.op)<;>exact ih _ _ _
  have hrun:TU o (BL ops l) call E M S (fun E M _=>k E M)=XN o (iI ops l) call E M k:=by
   unfold TU XN
   simp only [hst]
  have hoff:offD o (BL ops l) call E M S (fun E M _=>k E M)=FV o (iI ops l) call E M k:=by
   unfold offD FV
   simp only [hst]
  show FT ops o (BL ops l) call E M S (fun E M _=>k E M)=YN ops o (iI ops l) call E M k
  unfold FT YN
  cases o.guard with
  | none=>exact hrun
  | some p =>
   show grdD ops o (BL ops l) p call E M S (fun E M _=>k E M)=YQ ops o (iI ops l) p call E M k
   unfold grdD YQ
   rw [hrun,hoff]
def Dok (n:Nat) (ops:Array Oper) (E:En) (M:Me) (E':En) (M':Me):Prop:=∀ (id:Nat) (I:Itp) (w:World) (ρ:EA) (Q:Exit→Act→World→Prop),ER I n E ρ→MRel I w M.t →
 (∀ J ρ' w',Stp I w M.t J w' M'.t→ER J n E' ρ'→MRel J w' M'.t→Q .normal (St n ρ') w')→(Code.region id ops true).wp pg Q (St n ρ) w
theorem HO.eq {I:Itp} {ρ:EA} {E':En} {l:List Operand} (h:∀ t,Operand.tmp t∈l→fF t E'=fF t E) (H:HO I.K I.β n E ρ l):HO I.K I.β n E' ρ l:=by
 intro x hx a ha
 refine H x hx a ?_
 cases x with
 | tmp t=>exact (h t hx).symm.trans ha
 | const c=>exact ha
 | global q=>exact ha
 | func f=>exact ha
theorem Eff.eq {E':En} {A A':eF} {v:AV} (h:∀ t,Operand.tmp t∈o.op.operands.toList→fF t E'=fF t E) (H:Eff o E' A v A'):Eff o E A v A':=fun I w n ρ hO HA=>H I w n ρ (HO.eq h hO) HA
theorem drwK_ok (hmix:pg.follows .mixedOrders=true) (hC:CS call) (hn:n≤256) (hops:BJ n ops.toList=true) (hchk:jQ ops (wJ ops) (DB ops)=true) {k:En→Me→Option Rs} (h:drwK ops call E M k=some r) :
  ∃ E' M',k E' M'=some r∧E'.m=E.m∧Dok n ops E M E' M':=by
 obtain ⟨KK,h,hKK⟩:∃ KK:Ks,BL ops ops.toList call E M [M] KK=some r∧∀ E M S,KK E M S=some r→k E M=some r∧∀ p∈GK ops (wJ ops) (DB ops),∃ d,p.1.dst=some d∧((∀ q,p.1.guard=some q→GE E ops q=some true)→∀ s∈p.2,∃ M u,S[s]?=some M∧fF d E=some u∧Lk p.1.op call E M u):=by
  unfold drwK at h
  cases hp:GK ops (wJ ops) (DB ops) with
  | nil =>
   rw [hp] at h
   exact ⟨fun E M _=>k E M,by rw [VU]; exact h,fun E M S h=>⟨h,fun p hp=>by cases hp⟩⟩
  | cons p l =>
   rw [hp] at h
   refine ⟨_,h,fun E M S h=>?_⟩
   exact agnD_ok (p::l) (k E M) (fun q hq=>LS (by rw [hp]; exact hq)) h
 obtain ⟨v,Es,Ms,off,S',g1,g2,g3,g4,_,g7⟩:=TY hC hn hops ops.toList 0 E M [M] r (by simp) (by simp) h
 have g7:=g7 rfl
 obtain ⟨h1,hpl⟩:=hKK _ _ _ g1
 have hB:=(lN hchk).1
 have T:=Tx.of hn hops hchk
 have hA:∀ j,j≤ops.size→(S'.getD (ZF (DB ops) ops.size-ZF (DB ops) j) M).t=(Ms j).t:=fun j hj=>by
  rw [List.getD_eq_getElem?_getD,(g7 j (Nat.zero_le _) hj).2]; rfl
 have hcs:∀ {i:Nat} {o:Oper},ops[i]?=some o→(DB ops).getD i 0=SC o.op:=fun h=>eK h
 have hix:∀ {i:Nat},i<ops.size→2≤(DB ops).getD i 0→ZF (DB ops) i+1=ZF (DB ops) (i+1):=fun {i} hi hc=>by
  have:=T.ix1 i hi; rw [if_pos hc] at this; exact this.symm
 have hlate:∀ (t i:Nat),t<256→(∀ j,i≤j→j<ops.size→(ops[j]?).bind (·.dst)≠some t)→i≤ops.size→fF t (Es ops.size)=fF t (Es i):=by
  intro t i ht hno hi
  have key:∀ q j,i+q=j→j≤ops.size→fF t (Es j)=fF t (Es i):=by
   intro q
   induction q with
   | zero=>intro j e _; rw [show j=i by omega]
   | succ q ih =>
    intro j e hj
    have hlt:i+q<ops.size:=by omega
    have ho:ops[i+q]?=some ops[i+q]:=by simp [hlt]
    have:=(g4 (i+q) _ (Nat.zero_le _) hlt ho).1.2 t ht
    rw [if_neg fun e=>hno (i+q) (by omega) hlt (by rw [ho]; exact e),ih (i+q) rfl (by omega)] at this
    rw [show j=i+q+1 by omega]; exact this
  exact key (ops.size-i) ops.size (by omega) (Nat.le_refl _)
 have hm:∀ j,j≤ops.size→(Es j).m=E.m:=by
  intro j
  induction j with
  | zero=>intro _; rw [g2]
  | succ j ih =>
   intro hj
   have ho:ops[j]?=some ops[j]:=by simp [show j<ops.size by omega]
   rw [(g4 j _ (Nat.zero_le _) (by omega) ho).1.1,ih (by omega)]
 have D:Dat n ops.size ops (DB ops) (ZF (DB ops)) (UX (wJ ops) (DB ops)) v Es (fun s=>(S'.getD (ZF (DB ops) ops.size-s) M).t) off:=by
  refine ⟨fun i o hi ho=>(g4 i o (Nat.zero_le _) hi ho).1,?_,?_⟩
  ·intro i o hi ho hoff
   obtain ⟨r1,r2,r3,r4,r5⟩:=(g4 i o (Nat.zero_le _) hi ho).2.1 hoff
   rw [hcs ho]
   refine ⟨r1,fun hc=>?_,fun hc=>?_,fun hc s hs hadm=>?_⟩
   ·rw [hix hi (by rw [hcs ho]; exact hc),hA i (by omega),hA (i+1) hi]
    exact r2 hc
   ·rw [hix hi (by rw [hcs ho]; omega),hA i (by omega),hA (i+1) hi]
    exact r3 hc n
   ·obtain ⟨_,hlk⟩:=r4 hc
    rcases Nat.lt_or_ge (SC o.op) 1 with hc1 | hc1
    ·exact Lk.eff (M:=⟨(S'.getD (ZF (DB ops) ops.size-s) M).t,M.nx⟩) hC (r5 (by omega) _)
    ·by_cases hsi:s=ZF (DB ops) i
     ·subst hsi
      rw [hA i (by omega)]
      exact Lk.eff hC hlk
     ·have hmem:s∈PI (wJ ops) (DB ops) i:=by
       unfold PI
       refine List.mem_filter.2 ⟨List.mem_range.2 (by rw [EF]; omega),?_⟩
       rw [Bool.and_eq_true,Bool.and_eq_true]
       refine ⟨⟨?_,?_⟩,hadm⟩
       ·rw [hcs ho,show SC o.op=1 by omega]; rfl
       ·cases hb:Nat.beq s (ZF (DB ops) i) with
        | true=>exact (hsi (KC hb)).elim
        | false=>rfl
      have hlk2:=(kM hchk (i:=i) (by rw [EF]; exact hi) (by rw [hcs ho]; exact hc)).2
      rw [Bool.or_eq_true] at hlk2
      have hw:∀ t∈o.looksAt ops,∀ j,iD ops ops.size t=some j→j<i:=by
       rcases hlk2 with e | e
       ·rw [List.isEmpty_iff] at e; rw [e] at hmem; cases hmem
       ·rw [ho] at e
        intro t ht j hj
        have:=List.all_eq_true.1 e t ht
        rw [hj] at this
        exact GJ this
      have hev:∀ t,t<n→t∈o.looksAt ops→fF t (Es ops.size)=fF t (Es i):=fun t htn ht=>hlate t i (Nat.lt_of_lt_of_le htn hn) (fun j h1 h2 e=>by
       have:=hw t ht j (qF T.D h2 e); omega) (by omega)
      have hok:=T.ok i o ho
      have hop:∀ t,Operand.tmp t∈o.op.operands.toList→fF t (Es ops.size)=fF t (Es i):=fun t ht=>hev t (GJ ((VE hok).1 _ ht)) (YL ht)
      obtain ⟨d,q1,q2⟩:=hpl _ (KS ho (fun _ _=>trivial) hmem)
      have q1:o.dst=some d:=q1
      have hgd:∀ p,o.guard=some p→GE (Es ops.size) ops p=some true:=fun p hp=>by
       have e:=r1 p hp
       obtain ⟨t,e1,e2⟩:=gA e
       have htn:t<n:=by
        obtain ⟨o',a1,a2⟩:=Option.bind_eq_some_iff.1 e1
        exact (VE (T.ok _ _ a1)).2 t a2
       rw [← e]
       unfold GE
       rw [e1]
       show (mA (fF t (Es ops.size)) _)=mA (fF t (Es i)) _
       rw [hev t htn (jJ hp e1)]
      obtain ⟨M',u,q3,q4,q5⟩:=q2 hgd _ (List.mem_map.2 ⟨s,hmem,rfl⟩)
      have hdn:d<n:=(VE hok).2 d q1
      have hvd:fF d (Es ops.size)=some (v i):=by
       rw [hlate d (i+1) (Nat.lt_of_lt_of_le hdn hn) (fun j h1 h2 e=>T.D.dist i j hi h2 (by omega) d (by rw [ho]; exact q1) e) hi]
       have:=(g4 i o (Nat.zero_le _) hi ho).1.2 d (Nat.lt_of_lt_of_le hdn hn)
       rw [if_pos q1] at this; exact this
      rw [hvd] at q4; cases q4
      have q3:S'[ZF (DB ops) ops.size-s]?=some M':=by
       have e:ZF (DB ops) (DB ops).length=ZF (DB ops) ops.size:=by rw [EF]
       rw [← e]; exact q3
      rw [List.getD_eq_getElem?_getD,q3]
      exact Eff.eq hop (Lk.eff hC q5)
  ·intro i o hi ho hoff
   obtain ⟨r1,r2,r3⟩:=(g4 i o (Nat.zero_le _) hi ho).2.2 hoff
   refine ⟨r1,r2,fun hc=>?_⟩
   rw [hix hi hc,hA i (by omega),hA (i+1) hi,r3]
 refine ⟨Es ops.size,Ms ops.size,h1,hm _ (Nat.le_refl _),fun id I w ρ Q H HM hK=>?_⟩
 have e0:(S'.getD (ZF (DB ops) ops.size-0) M).t=M.t:=by
  have:=hA 0 (Nat.zero_le _)
  rw [yO,g3] at this; exact this
 have e1:(S'.getD (ZF (DB ops) ops.size-ZF (DB ops) ops.size) M).t=(Ms ops.size).t:=hA ops.size (Nat.le_refl _)
 exact drawn hmix hB T D (by rw [g2]; exact H) (by rw [e0]; exact HM) fun J ρ' w' a1 a2 a3=>hK J ρ' w' (by rw [e0,e1] at a1; exact a1) a2 (by rw [e1] at a3; exact a3)
end
end Go.Proofs.YtljlkhobfdofhaaGreatDoor.Rv
