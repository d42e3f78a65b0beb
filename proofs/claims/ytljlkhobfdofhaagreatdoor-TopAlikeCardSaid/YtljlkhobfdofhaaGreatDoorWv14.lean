/- What the claim has need of: RwR, RwS, RwT, RwU, RwV, Mi6, TapeW, Corr. -/
import Derived.Test.YtljlkhobfdofhaaGreatDoorWv13
set_option linter.unusedVariables false
set_option maxHeartbeats 16000000
set_option maxRecDepth 20000
namespace Go.Proofs.YtljlkhobfdofhaaGreatDoor.Rv
open Go Vc Mi Circ
attribute [local irreducible] pg
noncomputable def sumF (f:Mo→Nat) (l:List Mo):Nat:=List.rec 0 (fun o _ ih=>Nat.add (f o) ih) l
theorem xX (f:Mo→Nat) (ops:List Mo):∀ i,i≤ops.length→uA f ops i=sumF f (ops.take i):=by
 have app:∀ (l:List Mo) (o:Mo),sumF f (l++[o])=sumF f l+f o:=by
  intro l o
  induction l with
  | nil=>show f o+0=0+f o; omega
  | cons a l ih=>show f a+sumF f (l++[o])=f a+sumF f l+f o; rw [ih]; omega
 intro i
 induction i with
 | zero=>intro _; rfl
 | succ i ih =>
  intro h
  rw [uA,ih (by omega),List.take_add_one,List.getD_eq_getElem?_getD,List.getElem?_eq_getElem (by omega:i<ops.length)]
  exact (app _ _).symm
theorem WB (f:Mo→Nat) (ops:List Mo):uA f ops ops.length=sumF f ops:=by rw [xX f ops _ (Nat.le_refl _),List.take_length]
noncomputable def rJ (o:Mo):Bool:=decide (iG o)
noncomputable def anyB {α:Type} (p:α→Bool) (l:List α):Bool:=List.rec false (fun a _ ih=>KA (p a) true ih) l
theorem anyB_no {α:Type} {p:α→Bool} {l:List α} (h:anyB p l=false):∀ a∈l,p a=false:=by
 induction l with
 | nil=>intro a ha; cases ha
 | cons b l ih =>
  have h:KA (p b) true (anyB p l)=false:=h
  intro a ha
  cases hb:p b with
  | true=>rw [hb] at h; cases h
  | false =>
   rw [hb] at h
   rcases List.mem_cons.1 ha with rfl | ha
   ·exact hb
   ·exact ih h a ha
noncomputable def gaB (ops:List Mo) (outs i:Nat) (o:Mo):Bool :=
 (zA o 65536 65536).2 && (KA (rJ o) (decide (0≤o.k∧o.k<(outs:Int)) && SF (anyB (fun p=>rJ p && decide (p.k=o.k)) (ops.take i))) true) &&
 QD ops i o.a (zA o 65536 65536).1.a && QD ops i o.b (zA o 65536 65536).1.b &&
 decide (0<(KA (rJ o) (outs:Int) (zA o 65536 65536).1.k)∧0≤o.k∧o.k<(KA (rJ o) (outs:Int) (zA o 65536 65536).1.k)∨o.k=0) &&
 ((zA o 65536 65536).1.c || decide (o.c=0#64)) && ((zA o 65536 65536).1.p && decide (o.pt=0∨o.pt=1) || decide (o.pt=0))
noncomputable def gdL (ops:List Mo) (outs:Nat) (l:List Mo):Nat→Bool:=List.rec (fun _=>true) (fun o _ ih i=>KA (gaB ops outs i o) (ih (Nat.succ i)) false) l
noncomputable def goodB (ops:List Mo):Bool:=KA (Nat.ble (DC ops) 16384) (gdL ops (sumF GC ops) ops 0) false
theorem gdL_at {ops:List Mo} {outs:Nat}:∀ (l:List Mo) (i:Nat),gdL ops outs l i=true→∀ j,j<l.length→gaB ops outs (i+j) (l.getD j UA)=true:=by
 intro l
 induction l with
 | nil=>intro i _ j hj; simp at hj
 | cons o l ih =>
  intro i h j hj
  obtain ⟨h1,h2⟩:=eD (show KA (gaB ops outs i o) (gdL ops outs l (i+1)) false=true from h)
  cases j with
  | zero=>exact h1
  | succ j =>
   have:=ih (i+1) h2 j (by simpa using hj)
   rw [show i+1+j=i+(j+1) by omega] at this
   exact this
theorem NC {ops:List Mo} (h:goodB ops=true):Mi.Good ops 65536 65536:=by
 obtain ⟨h1,h2⟩:=eD (show KA (Nat.ble (DC ops) 16384) (gdL ops (sumF GC ops) ops 0) false=true from h)
 have h1:=lE.1 h1
 rw [lB] at h1
 refine ⟨by decide,by decide,by decide,by decide,h1,fun i hi=>?_⟩
 have h3:=gdL_at ops 0 h2 i hi
 rw [Nat.zero_add] at h3
 have ho:sumF GC ops=OA ops:=(WB GC ops).symm
 rw [ho] at h3
 unfold gaB at h3
 generalize hoo:ops.getD i UA=o at h3 ⊢
 simp only [Bool.and_eq_true,Bool.or_eq_true,decide_eq_true_eq] at h3
 obtain ⟨⟨⟨⟨⟨⟨a1,a2⟩,a3⟩,a4⟩,a5⟩,a6⟩,a7⟩:=h3
 refine ⟨a1,fun ht=>?_,OI.1 a3,OI.1 a4,?_,a6,a7⟩
 ·rw [show rJ o=true from decide_eq_true ht,tC] at a2
  simp only [Bool.and_eq_true,decide_eq_true_eq,jF,Bool.not_eq_true'] at a2
  obtain ⟨⟨b1,b2⟩,b3⟩:=a2
  refine ⟨b1,b2,fun j hj hjt e=>?_⟩
  have hjl:j<ops.length:=by omega
  have:=anyB_no b3 (ops.getD j UA) (by
   rw [List.getD_eq_getElem?_getD,List.getElem?_eq_getElem hjl]
   exact List.mem_take_iff_getElem.2 ⟨j,by omega,rfl⟩)
  rw [show rJ (ops.getD j UA)=true from decide_eq_true hjt,decide_eq_true e] at this
  cases this
 ·unfold yP
  by_cases ht:iG o
  ·rw [show rJ o=true from decide_eq_true ht] at a5
   rw [if_pos ht]; exact a5
  ·rw [show rJ o=false from decide_eq_false ht] at a5
   rw [if_neg ht]; exact a5
noncomputable def rdK (l:List Mo):List Int→List Int:=List.rec (fun acc=>acc) (fun o _ ih acc=>NG acc [gG acc o (zA o 65536 65536).1+(zA o 65536 65536).1.r] ih) l
theorem rdK_ok (ops:List Mo):∀ (l:List Mo) (i:Nat),ops.drop i=l→rdK l (SE ops i)=SE ops (i+l.length):=by
 intro l
 induction l with
 | nil=>intro i _; rfl
 | cons o l ih =>
  intro i h
  have hi:i<ops.length:=by
   rcases Nat.lt_or_ge i ops.length with h1 | h1
   ·exact h1
   ·rw [List.drop_of_length_le h1] at h; cases h
  rw [List.drop_eq_getElem_cons hi] at h
  injection h with e1 e2
  show NG (SE ops i) [_] (rdK l)=_
  rw [lF]
  have:=ih (i+1) e2
  rw [SE,List.getD_eq_getElem?_getD,List.getElem?_eq_getElem hi,Option.getD_some,e1] at this
  rw [this,List.length_cons,show i+1+l.length=i+(l.length+1) by omega]
theorem LQ (ops:List Mo):rdK ops []=SE ops ops.length:=by
 have:=rdK_ok ops ops 0 rfl
 rw [Nat.zero_add] at this
 exact this
noncomputable def mxK (l:List Int):Int→Int:=List.rec (fun m=>m) (fun r _ ih m=>ih (KA (sW m r) r m)) l
theorem mxK_ok (l:List Int):mxK l 0=dW l l.length:=by
 have step:∀ (i:Nat),i≤l.length→mxK (l.take i) 0=dW l i∧True:=fun i=>by
  have app:∀ (a:List Int) (r m:Int),mxK (a++[r]) m=max (mxK a m) r:=by
   intro a r
   induction a with
   | nil =>
    intro m
    show KA (sW m r) r m=max m r
    rw [WF]
    by_cases h:m<r
    ·rw [decide_eq_true h]; show r=_; omega
    ·rw [decide_eq_false h]; show m=_; omega
   | cons b a ih=>intro m; exact ih _
  induction i with
  | zero=>intro _; exact ⟨rfl,trivial⟩
  | succ i ih =>
   intro h
   rw [List.take_add_one,List.getElem?_eq_getElem (by omega:i<l.length)]
   refine ⟨?_,trivial⟩
   rw [show mxK (l.take i++(some l[i]).toList) 0=max (mxK (l.take i) 0) l[i] from app _ _ _,(ih (by omega)).1,dW,List.getD_eq_getElem?_getD,List.getElem?_eq_getElem (by omega:i<l.length)]
   rfl
 have:=(step l.length (Nat.le_refl _)).1
 rw [List.take_length] at this
 exact this
end Go.Proofs.YtljlkhobfdofhaaGreatDoor.Rv
namespace Go.Proofs.YtljlkhobfdofhaaGreatDoor.Rv
open Go Vc Mi Circ
def aF:List Gt→Nat
 | []=>0
 | g::l=>(if g.k=2 then 1 else 0)+aF l
theorem FE (l m:List Gt):aF (l++m)=aF l+aF m:=by
 induction l with
 | nil=>simp [aF]
 | cons g l ih=>simp [aF,ih]; omega
theorem ands_aF (gs:List Gt):∀ i,i≤gs.length→FB gs i=aF (gs.take i):=by
 intro i
 induction i with
 | zero=>intro _; rfl
 | succ i ih =>
  intro h
  rw [FB,List.take_add_one,FE,List.getD_eq_getElem?_getD,List.getElem?_eq_getElem (by omega:i<gs.length),← ih (by omega)]
  simp only [Option.getD_some,Option.toList_some,aF]
  split<;>omega
theorem TX (gs:List Gt):FB gs gs.length=aF gs:=by rw [ands_aF gs _ (Nat.le_refl _),List.take_length]
section
variable (n:Nat) (gs:List Gt)
theorem gY (a b c:Int):aF (JH n gs a b c)=aF gs+1:=by simp [JH,FE,aF]
theorem aF_xo (a b:List Int) (i:Nat):aF (eE n gs a b i).1=aF gs:=by
 induction i with
 | zero=>rfl
 | succ i ih=>rw [eE,FE,ih]; simp [aF]
theorem hY (a b c:Int):aF (kK n gs a b c)=aF gs:=by simp [kK,FE,aF]
theorem aF_ad (a b:List Int) (i:Nat) (h:i<63):aF (oB n gs a b i).1=aF gs+1+i:=by
 induction i with
 | zero=>simp [oB,FE,aF]
 | succ i ih=>rw [oB,if_pos h,gY,hY,ih (by omega)]; omega
theorem aF_le (a b:List Int) (i:Nat):aF (XC n gs a b i).1=aF gs+1+i:=by
 induction i with
 | zero=>simp [XC,FE,aF]
 | succ i ih=>rw [XC,gY,FE,ih]; simp [aF]; omega
theorem aF_pi (s:Int) (a b:List Int) (i:Nat):aF (BC n gs s a b i).1=aF gs+i:=by
 induction i with
 | zero=>rfl
 | succ i ih=>rw [BC]; simp only [FE,piP,ih]; simp [aF]; omega
theorem aF_re (m:Int) (x:List Int) (i:Nat):aF (kG n gs m x i).1=aF gs+i:=by
 induction i with
 | zero=>rfl
 | succ i ih=>rw [kG]; simp only [FE,ih]; simp [aF]; omega
theorem eY (a b:Nat) (x:Bool):aF (Circ.cD n gs a b x).1=aF gs+KA x 0 63:=by
 cases x with
 | true=>rw [Circ.cD,if_pos rfl,aF_xo]; rfl
 | false =>
  rw [Circ.cD,if_neg (by decide)]
  show aF (oB n gs (jB a 64) (jB b 64) (62+1)).1=_
  rw [oB,if_neg (by omega),hY,aF_ad _ _ _ _ 62 (by omega)]; rfl
theorem aF_ze:aF (ze gs)=aF gs:=by simp [ze,FE,aF]
end
noncomputable def andF (o:Mo):Nat:=KA (ST o.k 1) (Nat.add (KA (PC o.c 0) 0 63) 63) (Nat.add (KA (PC o.c 0) 0 63) (Nat.add (KA (PC o.c 1) 0 63) (KA (ST o.k 2) 64 128)))
theorem fY (x y:Bool):aF (kJ x y).1=KA x 0 63+KA y 0 63+64:=by
 unfold kJ ID
 rw [gY,FE,aF_le,aF_ze]
 unfold MP
 rw [eY,eY]
 simp [aF]
theorem andF_eq (o:Mo):sL o=andF o:=by
 unfold sL andF TA
 rw [TX,oF,oF]
 by_cases h1:o.k=1
 ·rw [if_pos h1,decide_eq_true h1,tC]
  unfold dT
  simp only [aF_re,FE,aF_ze,eY]
  simp [aF]
 ·rw [if_neg h1,decide_eq_false h1,BD]
  by_cases h2:o.k=2
  ·rw [if_pos h2,decide_eq_true h2,tC]
   unfold dR
   rw [fY,Nat.add_assoc]; rfl
  ·rw [if_neg h2,decide_eq_false h2,BD]
   unfold OT
   rw [aF_pi,fY,Nat.add_assoc,Nat.add_assoc]; rfl
noncomputable def fW0F (o:Mo):Nat:=fW 0 o+(if o.kd=17 then 2*(192*wB o+2*andF o) else 0)
theorem fW0F_eq:IH=fW0F:=by funext o; unfold IH fW0F; rw [andF_eq]
noncomputable def cI (n:Nat):AV:=.int .i64 (.ofNat n)
noncomputable def needA (ops:List Mo):AV:=.agg [cI (sumF fA ops),cI (sumF Mi.fB ops),cI (sumF fO ops),cI (sumF uG ops+if 0<sumF fG ops then 2 else 0),cI (sumF HG ops),.int .i64 (mxK (rdK ops []) 0),cI (sumF fW0F ops),cI (sumF xJ ops)]
noncomputable def rowM (a:AV) (M:Me):Option (List Mo):=mA (dC 6 M.t a) fun g=>mA (VL g) fun ops=>KA (goodB ops) (some ops) none
noncomputable def xRd (xs:List AV) (M:Me) (k:Kn):Option Rs:=match xs with
 | [a]=>mA (rowM a M) fun ops=>k (.lst 1 ((rdK ops []).map fun r=>[.int .i64 r])) M
 | _=>none
noncomputable def xNd (xs:List AV) (M:Me) (k:Kn):Option Rs:=match xs with
 | [a]=>mA (rowM a M) fun ops=>k (needA ops) M
 | _=>none
noncomputable def X1:Kw:=fun f xs M k=>KA (Nat.beq f 83) (some (xRd xs M k)) (KA (Nat.beq f 43) (some (xNd xs M k)) none)
theorem FQ {a:AV} {M:Me} {ops:List Mo} (h:rowM a M=some ops):Mi.Good ops 65536 65536∧∀ (I:Itp) (w:World) (u:Value),IV I.K a I.β u→MRel I w M.t→∃ ad c,u=.slice ad ops.length c∧Rd cH w ad ops:=by
 obtain ⟨g,h1,h⟩:=gA h
 obtain ⟨ops',h2,h⟩:=gA h
 obtain ⟨h3,h⟩:=AA h
 cases h
 exact ⟨NC h3,fun I w u hx HM=>iW h1 h2 hx HM⟩
theorem lst_int {l:List Int} {T:TypeId} {I:Itp} {w w':World} {v:Value} {A:eF} (h:SlRes EI T l w v w') (hE:Ext w w') (HM:MRel I w A):∃ J,Stp I w A J w' A∧IV J.K (.lst 1 (l.map fun r=>[.int .i64 r])) J.β v∧MRel J w' A:=by
 obtain ⟨key,c,sp,rfl,hS,hk⟩:=h
 have hI:∀ l:List Int,∀ K β,IVss K (l.map fun r=>[AV.int .i64 r]) β (xA EI l):=by
  intro l K β
  induction l with
  | nil=>simp [IVss,xA]
  | cons r l ih =>
   simp only [List.map_cons,IVss]
   refine ⟨[i64 r],xA EI l,rfl,?_,ih⟩
   simp only [IVs,IV]
   exact ⟨i64 r,[],rfl,rfl,rfl,rfl⟩
 have hz:∀ g∈l.map fun r=>[AV.int .i64 r],g.length=1:=by
  intro g hg
  obtain ⟨r,_,rfl⟩:=List.mem_map.1 hg
  rfl
 have hlen:(l.map fun r=>[AV.int .i64 r]).length=l.length:=List.length_map ..
 cases key with
 | none =>
  obtain ⟨e1,e2⟩:=hS.nil rfl
  refine ⟨I,Stp.ext hE,?_,HM.ext hE⟩
  simp only [IV]
  exact ⟨_,c,xA EI l,by rw [hlen],hI l _ _,hz,.inl (by rw [e1]; rfl)⟩
 | some b =>
  obtain ⟨h1,h2⟩:=hk b rfl
  obtain ⟨s1,s2⟩:=HM.keep h1 hE h2
  refine ⟨_,s1,?_,s2⟩
  simp only [IV]
  refine ⟨some ⟨b,0,none⟩,c,xA EI l,by rw [hlen]; rfl,hI l _ _,hz,.inr ⟨b,0,_,T,(0,0),rfl,if_pos rfl,fun i x hx=>?_⟩⟩
  rw [Nat.zero_add,List.getElem?_toArray,List.getElem?_append_left (List.getElem?_eq_some_iff.1 hx).1]
  exact hx
theorem wN {K:Kp} {β:Mp} {a:AV} {us:LV} (h:IVt K [a] β us):∃ u,us=[u]∧IV K a β u:=by
 simp only [IVt] at h
 obtain ⟨u,r,rfl,h1,rfl⟩:=h
 exact ⟨u,rfl,h1⟩
theorem has_rd:∃ fn c,pg.funcs[(83:Nat)]?=some fn∧fn.body=some c:=⟨_,_,(by kernel_rfl:pg.funcs[(83:Nat)]?=some Tryz.f83),rfl⟩
theorem has_nd:∃ fn c,pg.funcs[(43:Nat)]?=some fn∧fn.body=some c:=⟨_,_,(by kernel_rfl:pg.funcs[(43:Nat)]?=some Tryz.f43),rfl⟩
theorem tst_rd:tst fm 83=true:=by kernel_rfl
theorem tst_nd:tst fm 43=true:=by kernel_rfl
attribute [local irreducible] pg
theorem xRd_ok {xs:List AV} {M:Me} {k:Kn} {r:Rs} (h:xRd xs M k=some r):∃ v M',k v M'=some r∧XR 83 xs M v M':=by
 unfold xRd at h
 split at h
 ·rename_i a
  obtain ⟨ops,h1,h⟩:=gA h
  obtain ⟨hg,hr⟩:=FQ h1
  refine ⟨_,M,h,fun I w us hus HM=>?_⟩
  obtain ⟨u,rfl,hu⟩:=wN hus
  obtain ⟨ad,c,rfl,hR⟩:=hr I w u hu HM
  have hl:=hg.len
  refine (QL tst_rd has_rd (JL ops ad c w HM.glw hR (by omega) hg)).mono fun v w' ⟨h2,hE⟩=>?_
  rw [LQ]
  exact lst_int h2 hE HM
 ·cases h
theorem xNd_ok {xs:List AV} {M:Me} {k:Kn} {r:Rs} (h:xNd xs M k=some r):∃ v M',k v M'=some r∧XR 43 xs M v M':=by
 unfold xNd at h
 split at h
 ·rename_i a
  obtain ⟨ops,h1,h⟩:=gA h
  obtain ⟨hg,hr⟩:=FQ h1
  refine ⟨_,M,h,fun I w us hus HM=>?_⟩
  obtain ⟨u,rfl,hu⟩:=wN hus
  obtain ⟨ad,c,rfl,hR⟩:=hr I w u hu HM
  have hl:=hg.len
  refine (QL tst_nd has_nd (cR ops ad c w HM.glw hR (by omega) hg)).mono fun v w' ⟨h2,hE⟩=>⟨I,Stp.ext hE,?_,HM.ext hE⟩
  subst h2
  unfold needA
  simp only [IV]
  refine ⟨[i64 ((nA ops:Nat)),i64 ((nB ops:Nat)),i64 ((nO ops:Nat)),i64 ((nI ops:Nat)),i64 ((NM ops:Nat)),i64 (nR ops),i64 ((nW0 ops:Nat)),i64 ((nW1 ops:Nat))],rfl,?_⟩
  have e1:nA ops=sumF fA ops:=WB _ _
  have e2:nB ops=sumF Mi.fB ops:=WB _ _
  have e3:nO ops=sumF fO ops:=WB _ _
  have e4:nI ops=sumF uG ops+if 0<sumF fG ops then 2 else 0:=by unfold nI dlt; rw [WB,WB]
  have e5:NM ops=sumF HG ops:=WB _ _
  have e6:nR ops=mxK (rdK ops []) 0:=by unfold nR; rw [mxK_ok,LQ,GD]
  have e7:nW0 ops=sumF fW0F ops:=by unfold nW0; rw [WB,fW0F_eq]
  have e8:nW1 ops=sumF xJ ops:=WB _ _
  rw [e1,e2,e3,e4,e5,e6,e7,e8]
  simp only [IVs,IV,cI]
  refine ⟨_,_,rfl,rfl,rfl,_,_,rfl,rfl,rfl,_,_,rfl,rfl,rfl,_,_,rfl,rfl,rfl,_,_,rfl,rfl,rfl,_,_,rfl,rfl,rfl,_,_,rfl,rfl,rfl,_,_,rfl,rfl,rfl,rfl⟩
 ·cases h
theorem nG:XS X1:=by
 intro f xs M k q h r hq
 unfold X1 at h
 cases h1:Nat.beq f 83 with
 | true =>
  rw [h1,tC] at h; cases h
  rw [KC h1]; exact xRd_ok hq
 | false =>
  rw [h1,BD] at h
  cases h2:Nat.beq f 43 with
  | true =>
   rw [h2,tC] at h; cases h
   rw [KC h2]; exact xNd_ok hq
  | false=>rw [h2,BD] at h; cases h
end Go.Proofs.YtljlkhobfdofhaaGreatDoor.Rv
namespace Go.Proofs.YtljlkhobfdofhaaGreatDoor.Rv
open Go Vc
attribute [local irreducible] pg
noncomputable def EW (v:AV):Bool:=Tag.rec false true false false false false false false false false false false false false false v.tag
noncomputable def WK (l:List AV):Bool:=List.rec true (fun v _ ih=>KA (EW v) ih false) l
noncomputable def XI (z:Nat) (g:List (List AV)):Bool:=List.rec true (fun l _ ih=>KA (WK l) (KA (Nat.beq (DC l) z) ih false) false) g
theorem intB_ok {v:AV} (h:EW v=true):∃ k x,v=.int k x:=by cases v<;>first | exact ⟨_,_,rfl⟩ | cases h
section
variable {K K':Kp} {β β':Mp}
theorem CO:∀ {l:List AV} {us:LV},WK l=true→IVs K l β us→IVs K' l β' us
 | [],us,_,H=>by simpa only [IVs] using H
 | v::l,us,h,H=>by
  obtain ⟨h1,h2⟩:=eD (show KA (EW v) (WK l) false=true from h)
  obtain ⟨k,x,rfl⟩:=intB_ok h1
  simp only [IVs,IV] at H ⊢
  obtain ⟨u,r,h3,h4,h5,h6⟩:=H
  exact ⟨u,r,h3,h4,h5,CO h2 h6⟩
theorem EQ {z:Nat}:∀ {g:List (List AV)} {us:LV},XI z g=true→IVss K g β us→IVss K' g β' us
 | [],us,_,H=>by simpa only [IVss] using H
 | l::g,us,h,H=>by
  obtain ⟨h1,h2⟩:=eD (show KA (WK l) (KA (Nat.beq (DC l) z) (XI z g) false) false=true from h)
  obtain ⟨h3,h4⟩:=eD h2
  simp only [IVss] at H ⊢
  obtain ⟨a,r,h5,h6,h7⟩:=H
  exact ⟨a,r,h5,CO h1 h6,EQ h4 h7⟩
theorem UU {z:Nat}:∀ {g:List (List AV)},XI z g=true→∀ l∈g,l.length=z
 | [],_,l,hl=>by cases hl
 | a::g,h,l,hl=>by
  obtain ⟨h1,h2⟩:=eD (show KA (WK a) (KA (Nat.beq (DC a) z) (XI z g) false) false=true from h)
  obtain ⟨h3,h4⟩:=eD h2
  rcases List.mem_cons.1 hl with rfl | hl
  ·rw [← lB]; exact KC h3
  ·exact UU h4 l hl
end
theorem tW {K:Kp} {z:Nat} {g:List (List AV)} {us:LV} {ad:Option Addr} {c:Nat} {w:World} (hz:0<z) (hg:XI z g=true) {K1:Kp} {β1:Mp} (h:IVss K1 g β1 us) (hs:Src w ad us) (hK:∀ b q,ad=some ⟨b,q,none⟩→∀ o,w.heap[b]?=some o→K b=some o):IV K (.lst z g) RP (.slice ad g.length c):=by
 simp only [IV]
 refine ⟨ad,c,us,rfl,EQ hg h,UU hg,?_⟩
 cases hgg:g with
 | nil=>exact .inl rfl
 | cons l r =>
  right
  have hl:l.length=z:=UU hg l (by rw [hgg]; exact List.mem_cons_self ..)
  rw [hgg] at h
  simp only [IVss] at h
  obtain ⟨a,r',e1,h2,h3⟩:=h
  have ha:=h2.len
  cases a with
  | nil=>simp at ha; omega
  | cons x a =>
   rcases hs with e | ⟨b,q,e2,h6⟩
   ·rw [e] at e1; cases e1
   ·have h7:=h6 0 x (by rw [e1]; rfl)
    rw [HF] at h7
    have key:∃ cs X fr,w.heap[b]?=some (.cells cs X fr):=by
     unfold World.cell? at h7
     cases hb:w.heap[b]? with
     | none=>simp [hb] at h7
     | some ob =>
      cases ob with
      | cells cs X fr=>exact ⟨cs,X,fr,rfl⟩
      | _=>simp [hb] at h7
    obtain ⟨cs,X,fr,hb⟩:=key
    refine ⟨b,q,cs,X,fr,e2,hK b q e2 _ hb,fun i u hi=>?_⟩
    have h8:=h6 i u hi
    rw [KG hb] at h8
    exact h8
theorem GL {f:FuncId} {z:Nat} {g:List (List AV)} {v:AV} {M':Me} (hz:0<z) (hg:XI z g=true) (hC:XR f [.lst z g] M00 v M') {a:AV} {M:Me} (ha:dC z M.t a=some g) {I:Itp} {w:World} {us:LV} (hus:IVt I.K [a] I.β us) (HM:MRel I w M.t) :
  Out pg (fun u w'=>Ext w w'∧∃ J,IV J.K v J.β u∧MRel J w' M'.t∧∀ id k a,get id M'.t=some a→a≠.dead→J.β id=some k→w.heap.size≤k.b) ((callFunc f us.toArray).run pg w):=by
 obtain ⟨u,rfl,hu⟩:=wN hus
 obtain ⟨ad,c,us,rfl,h2,h3,h4⟩:=jE ha HM hu
 let K0:Kp:=fun i=>match ad with
  | some ⟨b,_,_⟩=>if i=b then w.heap[b]? else I.K i
  | none=>I.K i
 have hK0:Kle I.K K0:=fun i o hi=>by
  show (match ad with
   | some ⟨b,_,_⟩=>if i=b then w.heap[b]? else I.K i
   | none=>I.K i)=some o
  split
  ·split
   ·rename_i e; rw [← e]; exact HM.kept _ _ hi
   ·exact hi
  ·exact hi
 have hR:MRel ⟨RP,K0⟩ w M00.t:=by
  refine ⟨fun i o hi=>?_,fun _ _=>rfl,fun id a h=>?_,fun i j a c ki kj h=>?_,HM.gl.up hK0⟩
  ·have hi:(match ad with
    | some ⟨b,_,_⟩=>if i=b then w.heap[b]? else I.K i
    | none=>I.K i)=some o:=hi
   split at hi
   ·split at hi
    ·rename_i e; rw [e]; exact hi
    ·exact HM.kept _ _ hi
   ·exact HM.kept _ _ hi
  ·have h:get id (e8:eF)=some a:=h
   rw [CG] at h; cases h
  ·have h:get i (e8:eF)=some a:=h
   rw [CG] at h; cases h
 have hI:IV K0 (.lst z g) RP (.slice ad g.length c):=tW hz hg h2 h4 fun b q e o ho=>by
  subst e
  show (if b=b then w.heap[b]? else I.K b)=some o
  rw [if_pos rfl]; exact ho
 refine (hC ⟨RP,K0⟩ w [.slice ad g.length c] (by simp only [IVt]; exact ⟨_,_,rfl,hI,rfl⟩) hR).mono fun u' w' ⟨J,hS,hv,hM⟩=>⟨?_,J,hv,hM,fun id k a hA hd hk=>?_⟩
 ·refine hS.chg.mono fun b hb=>?_
  obtain ⟨i,c,k,h1,_⟩:=hb
  have h1:get i (e8:eF)=some c:=h1
  rw [CG] at h1; cases h1
 ·rcases Nat.lt_or_ge k.b w.heap.size with hlt | hge
  ·obtain ⟨i,c,k',h1,_⟩:=hS.lvs k.b hlt ⟨id,a,k,hA,hd,hk,rfl⟩
   have h1:get i (e8:eF)=some c:=h1
   rw [CG] at h1; cases h1
  ·exact hge
theorem xO {id:Pa} {n z:Nat} {g:List (List AV)} {M' M:Me} {I J:Itp} {w w':World} {u:Value} (hz:0<z) (hg:XI z g=true) (hgr:dC z M'.t (.sl id 0 n z)=some g) (hv:IV J.K (.sl id 0 n z) J.β u) (hM:MRel J w' M'.t) (hn:∀ id k a,get id M'.t=some a→a≠.dead→J.β id=some k→w.heap.size≤k.b) (hE:Ext w w') (HM:MRel I w M.t) :
  ∃ L,Stp I w M.t L w' M.t∧IV L.K (.lst z g) L.β u∧MRel L w' M.t:=by
 obtain ⟨ad,c,us,rfl,h2,h3,h4⟩:=jE hgr hM hv
 obtain ⟨p,h5,h6⟩:=gA (show gpS z M'.t (.sl id 0 n z)=some g from hgr)
 cases h5
 obtain ⟨_,h6⟩:=AA h6
 obtain ⟨g0,h7,_⟩:=gA h6
 obtain ⟨z',h8⟩:=wH h7
 obtain ⟨k,hk,hKk,hor⟩:=hM.own _ _ h8 (by intro e; cases e)
 have hb:=hn _ _ _ h8 (by intro e; cases e) hk
 obtain ⟨_,_,pre,vs,ex,T,e3,_⟩:=hor
 obtain ⟨s1,s2⟩:=HM.keep hb hE e3
 refine ⟨_,s1,?_,s2⟩
 have hv':=hv
 simp only [IV] at hv'
 obtain ⟨k',hk',hv',_⟩:=hv'
 rw [hk] at hk'; cases hk'
 injection hv' with ea _ _
 have:=tW (K:=GI I.K k.b (.cells (pre++(vs++ex)).toArray T (0,0))) (c:=c) hz hg h2 h4 fun b q e o ho=>by
  rw [ea] at e
  cases e
  rw [e3] at ho
  cases ho
  show (if k.b=k.b then _ else _)=_
  rw [if_pos rfl]
 exact IV.up (Kle.refl _) (.lst z g) (fun _ _ h=>by cases h) _ this
theorem stage1 {f:FuncId} {z z' n:Nat} {g g':List (List AV)} {id:Pa} {M':Me} (hz:0<z) (hz':0<z') (hg:XI z g=true) (hg':XI z' g'=true) (hC:XR f [.lst z g] M00 (.sl id 0 n z') M') (hgr:dC z' M'.t (.sl id 0 n z')=some g') {a:AV} {M:Me} (ha:dC z M.t a=some g):XR f [a] M (.lst z' g') M:=fun I w us hus HM =>
 (GL hz hg hC ha hus HM).mono fun u w' ⟨hE,J,hv,hM,hn⟩=>xO hz' hg' hgr hv hM hn hE HM
theorem stage2 {f:FuncId} {z z' n:Nat} {g g':List (List AV)} {id:Pa} {M':Me} {k:IntKind} {x:Int} (hz:0<z) (hz':0<z') (hg:XI z g=true) (hg':XI z' g'=true) (hC:XR f [.lst z g] M00 (.tup [.sl id 0 n z',.int k x]) M') (hgr:dC z' M'.t (.sl id 0 n z')=some g') {a:AV} {M:Me} (ha:dC z M.t a=some g):XR f [a] M (.tup [.lst z' g',.int k x]) M:=fun I w us hus HM =>
 (GL hz hg hC ha hus HM).mono fun u w' ⟨hE,J,hv,hM,hn⟩=>by
  simp only [IV,IVt] at hv
  obtain ⟨_,rfl,u1,_,rfl,hv,u2,_,rfl,rfl,rfl⟩:=hv
  obtain ⟨L,a1,a2,a3⟩:=xO hz' hg' hgr (by simp only [IV]; exact hv) hM hn hE HM
  refine ⟨L,a1,?_,a3⟩
  simp only [IV,IVt] at a2 ⊢
  exact ⟨_,rfl,u1,_,rfl,a2,_,_,rfl,rfl,rfl⟩
end Go.Proofs.YtljlkhobfdofhaaGreatDoor.Rv
namespace Go.Proofs.YtljlkhobfdofhaaGreatDoor.Rv
open Go Vc Mi Ta
noncomputable def moA (o:Mo):List AV:=[.int .i64 o.kd,.int .i64 o.a,.int .i64 o.b,.int .i64 o.k,.int .u64 (.ofNat o.c.toNat),.int .i64 o.pt]
noncomputable def eqA (a b:AV):Bool:=match a,b with
 | .int k x,.int l y=>KA (Nat.beq (qR k) (qR l)) (ST x y) false
 | _,_=>false
noncomputable def eqL (a:List AV):List AV→Bool:=List.rec (fun m=>List.rec true (fun _ _ _=>false) m) (fun x _ ih m=>List.rec false (fun y m _=>KA (eqA x y) (ih m) false) m) a
noncomputable def eqR (a:List (List AV)):List (List AV)→Bool:=List.rec (fun m=>List.rec true (fun _ _ _=>false) m) (fun x _ ih m=>List.rec false (fun y m _=>KA (eqL x y) (ih m) false) m) a
theorem eqA_ok {a b:AV} (h:eqA a b=true):a=b∧EW a=true:=by
 unfold eqA at h
 split at h
 ·obtain ⟨h1,h2⟩:=eD h
  rw [oF] at h2
  exact ⟨by rw [YF h1,of_decide_eq_true h2],rfl⟩
 ·cases h
theorem qX:∀ {a b:List AV},eqL a b=true→a=b∧WK a=true
 | [],[],_=>⟨rfl,rfl⟩
 | [],_::_,h=>by cases h
 | _::_,[],h=>by cases h
 | x::a,y::b,h=>by
  obtain ⟨h1,h2⟩:=eD (show KA (eqA x y) (eqL a b) false=true from h)
  obtain ⟨e1,e2⟩:=eqA_ok h1
  obtain ⟨e3,e4⟩:=qX h2
  refine ⟨by rw [e1,e3],?_⟩
  show KA (EW x) (WK a) false=true
  rw [e2,e4]; rfl
theorem gL:∀ {a b:List (List AV)},eqR a b=true→a=b
 | [],[],_=>rfl
 | [],_::_,h=>by cases h
 | _::_,[],h=>by cases h
 | x::a,y::b,h=>by
  obtain ⟨h1,h2⟩:=eD (show KA (eqL x y) (eqR a b) false=true from h)
  rw [(qX h1).1,gL h2]
noncomputable def BE (l:List Mo):List (List AV):=l.map moA
noncomputable def UE (l:List Mo) (v:AV) (M:Me):Bool:=match v with
 | .tup [.agg (a::.int .i64 x::.int .i64 y::r),.pv .nilIface]=>KA (ST x 1) (KA (ST y 1) (KA (Nat.beq (DC r) 13) (Option.rec false (fun g=>eqR g (BE l)) (dC 6 M.t a)) false) false) false
 | _=>false
noncomputable def LI (b:Bool):Option Rs:=KA b (some (.un,M00)) none
noncomputable def xSo (l:List Mo) (xs:List AV) (M:Me) (k:Kn):Option Rs:=match xs with
 | [a]=>mA (dC 6 M.t a) fun g=>KA (eqR g (BE l)) (k (.lst 6 (BE (jA l))) M) none
 | _=>none
noncomputable def xSl (l:List Mo) (s:List (List AV)) (x:Int) (xs:List AV) (M:Me) (k:Kn):Option Rs:=match xs with
 | [a]=>mA (dC 6 M.t a) fun g=>KA (eqR g (BE (jA l))) (k (.tup [.lst 1 s,.int .i64 x]) M) none
 | _=>none
noncomputable def X2 (l:List Mo) (s:List (List AV)) (x:Int):Kw:=fun f xs M k=>KA (Nat.beq f 139) (some (xSo l xs M k)) (KA (Nat.beq f 74) (some (xSl l s x xs M k)) (X1 f xs M k))
noncomputable def tS (l:List Mo) (v:AV) (M:Me):Bool:=match v with
 | .sl id 0 n 6=>Option.rec false (fun g=>eqR g (BE (jA l))) (dC 6 M.t (.sl id 0 n 6))
 | _=>false
noncomputable def uS (v:AV) (M:Me):Bool:=match v with
 | .tup [.sl id 0 n 1,.int .i64 x]=>Option.rec false (fun g=>XI 1 g) (dC 1 M.t (.sl id 0 n 1))
 | _=>false
noncomputable def trueB (v:AV):Bool:=match v with
 | .bool b=>b
 | _=>false
end Go.Proofs.YtljlkhobfdofhaaGreatDoor.Rv
namespace Go.Proofs.YtljlkhobfdofhaaGreatDoor.Rv
open Go Vc Mi Ta
attribute [local irreducible] pg
theorem jP {b:Bool} {r:Rs} (h:LI b=some r):b=true:=by cases b<;>first | rfl | cases h
theorem BK (l:List Mo):XI 6 (BE l)=true:=by
 induction l with
 | nil=>rfl
 | cons o l ih=>exact ih
section
variable {l:List Mo} {s:List (List AV)} {x:Int}
theorem KJ (h:HC X1 100000 1000 139 [.lst 6 (BE l)] M00 (fun v M=>LI (tS l v M))=some (.un,M00)) {a:AV} {M:Me} (ha:dC 6 M.t a=some (BE l)):XR 139 [a] M (.lst 6 (BE (jA l))) M:=by
 obtain ⟨v,M',h1,h2⟩:=nL nG iY 1000 _ _ _ _ _ h
 have h1:=jP h1
 unfold tS at h1
 split at h1
 ·rename_i id n _
  cases hg:dC 6 M'.t (.sl id 0 n 6) with
  | none=>rw [hg] at h1; cases h1
  | some g =>
   rw [hg] at h1
   rw [gL h1] at hg
   exact stage1 (by decide) (by decide) (BK _) (BK _) h2 hg ha
 ·cases h1
theorem SH (h:HC X1 100000 1000 74 [.lst 6 (BE (jA l))] M00 (fun v M=>LI (uS v M))=some (.un,M00)):∃ s x,∀ (a:AV) (M:Me),dC 6 M.t a=some (BE (jA l))→XR 74 [a] M (.tup [.lst 1 s,.int .i64 x]) M:=by
 obtain ⟨v,M',h1,h2⟩:=nL nG iY 1000 _ _ _ _ _ h
 have h1:=jP h1
 unfold uS at h1
 split at h1
 ·rename_i id n x _
  cases hg:dC 1 M'.t (.sl id 0 n 1) with
  | none=>rw [hg] at h1; cases h1
  | some g =>
   rw [hg] at h1
   exact ⟨g,x,fun a M ha=>stage2 (by decide) (by decide) (BK _) h1 h2 hg ha⟩
 ·cases h1
theorem UR (h1:∀ (a:AV) (M:Me),dC 6 M.t a=some (BE l)→XR 139 [a] M (.lst 6 (BE (jA l))) M) (h2:∀ (a:AV) (M:Me),dC 6 M.t a=some (BE (jA l))→XR 74 [a] M (.tup [.lst 1 s,.int .i64 x]) M):XS (X2 l s x):=by
 intro f xs M k q h r hq
 unfold X2 at h
 cases e1:Nat.beq f 139 with
 | true =>
  rw [e1,tC] at h; cases h
  rw [KC e1]
  unfold xSo at hq
  split at hq
  ·obtain ⟨g,h3,hq⟩:=gA hq
   obtain ⟨h4,hq⟩:=AA hq
   rw [gL h4] at h3
   exact ⟨_,_,hq,h1 _ _ h3⟩
  ·cases hq
 | false =>
  rw [e1,BD] at h
  cases e2:Nat.beq f 74 with
  | true =>
   rw [e2,tC] at h; cases h
   rw [KC e2]
   unfold xSl at hq
   split at hq
   ·obtain ⟨g,h3,hq⟩:=gA hq
    obtain ⟨h4,hq⟩:=AA hq
    rw [gL h4] at h3
    exact ⟨_,_,hq,h2 _ _ h3⟩
   ·cases hq
  | false=>rw [e2,BD] at h; exact nG f xs M k q h r hq
end
theorem mo_moA (o:Mo):cT (moA o)=some o:=by
 obtain ⟨a,b,c,d,e,f⟩:=o
 have he:=e.isLt
 have h:Nat.blt e.toNat 18446744073709551616=true:=by rw [Nat.blt_eq]; omega
 show KA (Nat.blt e.toNat 18446744073709551616) (some (⟨a,b,c,d,BitVec.ofNat 64 e.toNat,f⟩:Mo)) none=_
 rw [h,tC]; simp
theorem jW (l:List Mo):VL (BE l)=some l:=by
 induction l with
 | nil=>rfl
 | cons o l ih =>
  show (mA (cT (moA o)) fun o=>mA (VL (BE l)) fun r=>some (o::r))=_
  rw [mo_moA,ih]; rfl
theorem MRel.start2 {w:World} (hG:Gl w):∃ K,MRel ⟨RP,K⟩ w (e8:eF)∧∀ b o,K b=some o→b=0:=by
 obtain ⟨cs,T,fr,h1,h2⟩:=hG
 refine ⟨fun b=>if b=0 then some (.cells cs T fr) else none,⟨fun b o h=>?_,fun id h=>rfl,fun id a h=>(by rw [CG] at h; cases h),fun i j a c ki kj h=>(by rw [CG] at h; cases h),cs,T,fr,(if_pos rfl:(if 0=0 then some (Obj.cells cs T fr) else none)=_),h2⟩,fun b o h=>by
  by_cases e:b=0
  ·exact e
  ·have h':(if b=0 then some (Obj.cells cs T fr) else none)=some o:=h
   rw [if_neg e] at h'; cases h'⟩
 have h:(if b=0 then some (.cells cs T fr) else none)=some o:=h
 split at h
 ·rename_i e; cases h; rw [e]; exact h1
 ·cases h
theorem FL {X:Kw} (hX:XS X) {f:FuncId} {xs:List AV} {us:LV} {B:AV→Me→Bool} (h:HC X 100000 1000 f xs M00 (fun v M=>LI (B v M))=some (.un,M00)) (hus:∀ K,IVt K xs RP us) (hb:∃ fn c,pg.funcs[f]?=some fn∧fn.body=some c) (ht:tst fm f=true) (w:World) (hG:Gl w) :
  Calls Tryz.prog f us.toArray w (tQ fun u w'=>Ext w w'∧∃ v M' J,B v M'=true∧IV J.K v J.β u∧MRel J w' M'.t∧(∀ id k a,get id M'.t=some a→a≠.dead→J.β id=some k→w.heap.size≤k.b)∧∀ b o,J.K b=some o→b<w.heap.size→b=0):=by
 obtain ⟨v,M',h1,h2⟩:=nL hX iY 1000 _ _ _ _ _ h
 obtain ⟨K,hM,hKg⟩:=MRel.start2 hG
 have h3:=h2 ⟨RP,K⟩ w us (hus K) hM
 obtain ⟨fn,c,hf,hb⟩:=hb
 have hng:=bR ht hf
 have hcf:(callFunc f us.toArray).run pg w=.ok (.enter f us.toArray) w:=by
  unfold callFunc
  show (match pg.funcs[f]? with
   | none=>stuck "call: no such function"
   | some fn=>_:Sem Next).run pg w=_
  rw [hf]
  simp only [hng,hb,Option.isNone_some]
  rfl
 rw [hcf] at h3
 have h3:Calls pg f us.toArray w fun e w''=>∃ v',e=.returned v'∧_:=h3
 rw [pg_eq] at h3
 refine Calls.mono h3 fun e w' ⟨u,he,J,hS,hv,hM'⟩=>⟨u,he,?_,v,M',J,jP h1,hv,hM',fun id k a hA hd hk=>?_,fun b o hb hlt=>hKg b o ((hS.kp b hlt).symm.trans hb)⟩
 ·refine hS.chg.mono fun b hb=>?_
  obtain ⟨i,c,k,h1,_⟩:=hb
  have h1:get i (e8:eF)=some c:=h1
  rw [CG] at h1; cases h1
 ·rcases Nat.lt_or_ge k.b w.heap.size with hlt | hge
  ·obtain ⟨i,c,k',h1,_⟩:=hS.lvs k.b hlt ⟨id,a,k,hA,hd,hk,rfl⟩
   have h1:get i (e8:eF)=some c:=h1
   rw [CG] at h1; cases h1
  ·exact hge
theorem prov {z:Nat} {A:eF} {a:AV} {g:List (List AV)} {J:Itp} {w:World} {n c:Nat} {b off:Nat} (h:dC z A a=some g) (hx:IV J.K a J.β (.slice (some ⟨b,off,none⟩) n c)) (hg:g≠[]) (hM:MRel J w A):(∃ id k ao,get id A=some ao∧ao≠.dead∧J.β id=some k∧k.b=b)∨∃ o,J.K b=some o:=by
 cases a with
 | pv p =>
  obtain ⟨h1,h2⟩:=AA (show KA (fJ (.pv p)) (some []) none=some g from h)
  cases h2; exact (hg rfl).elim
 | e0=>have h2:some []=some g:=h; cases h2; exact (hg rfl).elim
 | sl id o n z =>
  obtain ⟨p,h1,h2⟩:=gA (show gpS _ A (.sl id o n z)=some g from h)
  cases h1
  obtain ⟨_,h2⟩:=AA h2
  obtain ⟨g0,h4,_⟩:=gA h2
  obtain ⟨z',h5⟩:=wH h4
  simp only [IV] at hx
  obtain ⟨k,hk,hx,_⟩:=hx
  injection hx with e
  injection e with e
  injection e with e1
  exact .inl ⟨id,k,_,h5,(by intro e; cases e),hk,e1.symm⟩
 | lst z l =>
  obtain ⟨p,h1,h2⟩:=gA (show gpL _ A (.lst z l)=some g from h)
  cases h1
  obtain ⟨_,h2⟩:=AA h2
  cases h2
  simp only [IV] at hx
  obtain ⟨ad,c',us,h1,_,_,h4⟩:=hx
  injection h1 with e
  rcases h4 with h4 | ⟨b',q,cs,T,fr,e1,e2,_⟩
  ·exact (hg h4).elim
  ·rw [e1] at e
   injection e with e
   injection e with e3
   exact .inr ⟨_,e3 ▸ e2⟩
 | _=>cases h
theorem uV {l:List Mo} {v:AV} {M:Me} {J:Itp} {w₀ w w':World} {u:Value} (h:UE l v M=true) (hv:IV J.K v J.β u) (hM:MRel J w' M.t) (hl:l≠[]) (hG:Gl w₀) (h0:Ext w₀ w) (hE:Ext w w') (hn:∀ id k a,get id M.t=some a→a≠.dead→J.β id=some k→w.heap.size≤k.b) (hK:∀ b o,J.K b=some o→b<w.heap.size→b=0) :
  ∃ ad c key o r,u=.tuple #[.agg (.slice ad l.length c::i64 1::i64 1::r).toArray,.nilIface]∧r.length=13∧(∀ q∈r,q.oneCell'=true)∧Hp No w w' [(key,o)]∧∀ w2,Ext w₀ w2→(∀ b,key=some b→w2.heap[b]?=some o)→Rd cH w2 ad l:=by
 unfold UE at h
 split at h
 ·rename_i a x y r
  obtain ⟨h1,g1⟩:=eD h
  obtain ⟨h2,g2⟩:=eD g1
  obtain ⟨h3,g3⟩:=eD g2
  clear h g1 g2
  rw [oF] at h1 h2
  have e1:=of_decide_eq_true h1
  have e2:=of_decide_eq_true h2
  have e3:=KC h3
  rw [lB] at e3
  subst e1 e2
  cases hg:dC 6 M.t a with
  | none=>rw [hg] at g3; cases g3
  | some g =>
   rw [hg] at g3
   rw [gL g3] at hg
   simp only [IV,IVt,IVs] at hv
   obtain ⟨_,rfl,u1,_,rfl,⟨_,rfl,ua,_,rfl,ha,_,ux,_,rfl,rfl,_,uy,rr,rfl,rfl,_,hr⟩,u2,_,rfl,⟨rfl,_⟩,rfl⟩:=hv
   obtain ⟨ad,c,rfl,hR⟩:=iW hg (jW l) ha hM
   have hlen:rr.length=13:=by rw [hr.len,e3]
   rcases hR with hR | ⟨b,off,cs,X,fr,rfl,hb,hc⟩
   ·exact (hl hR).elim
   by_cases hlt:b<w.heap.size
   ·rcases prov hg ha (fun e=>hl (by simpa [BE] using e)) hM with ⟨id,k,ao,q1,q2,q3,q4⟩ | ⟨o,ho⟩
    ·have:=hn id k ao q1 q2 q3; omega
    ·have eg:=hK b o ho hlt
     have hg0:=hG.lt
     obtain ⟨o0,ho0⟩:∃ o0,w₀.heap[b]?=some o0:=⟨_,Array.getElem?_eq_getElem (by rw [eg]; exact hg0)⟩
     have:w'.heap[b]?=some o0:=hE.get (h0.get ho0)
     rw [hb] at this
     cases this
     exact ⟨_,c,none,.cells cs X fr,rr,rfl,hlen,hr.ones,((eA No w).ext hE).nil _,fun w2 h2 _=>.inr ⟨b,off,cs,X,fr,rfl,h2.get ho0,hc⟩⟩
   ·exact ⟨_,c,some b,.cells cs X fr,rr,rfl,hlen,hr.ones,(eA No w).add hE (fun b' e=>by cases e; exact ⟨by omega,hb⟩),fun w2 _ h3=>.inr ⟨b,off,cs,X,fr,rfl,h3 b rfl,hc⟩⟩
 ·cases h
end Go.Proofs.YtljlkhobfdofhaaGreatDoor.Rv
namespace Go.Proofs.YtljlkhobfdofhaaGreatDoor.Mi
open Go Vc Er Ek Circ
theorem HX:BI Tryz.prog 57=some 8:=by kernel_rfl
theorem GG:pD Tryz.prog 57 E64:=FG (by kernel_rfl) (by kernel_rfl)
theorem JU:ZB Tryz.prog 57=some 1:=by kernel_rfl
theorem FU:qD Tryz.prog 60=some (57,1):=by kernel_rfl
theorem WT:YB Tryz.prog 57=some (.int .u64 0):=by kernel_rfl
theorem IK (ops:List Mo) (oa:Option Addr) (oc:Nat) (sh:List (BitVec 64)) (ha:Option Addr) (hc n0 n1:Nat) (hn0:n0=ops.length) (hn1:n1=sh.length) (w:World) (hG:Gl w) (hO:Rd cH w oa ops) (hol:ops.length≤140737488355328) (hSh:Rd E64 w ha sh) (hsl:sh.length=ops.length) (hg:Good ops 65536 65536):Ca 20 [.slice oa n0 oc,.slice ha n1 hc] w fun v w'=>∃ (key:Option Nat) (c:Nat) (sp:LV) (a:Option Addr),v=.slice a (OA ops) (OA ops)∧Sl E64 key (QJ ops sh ops.length) c sp∧(∀ w2,Rd E64 w2 (CA key) (QJ ops sh ops.length)→Rd E64 w2 a (lD ops sh))∧Hp No w w' [(key,wA E64 57 (QJ ops sh ops.length) sp)]:=by
 subst hn0 hn1
 have hlen:=hg.len
 have H:=eA No w
 refine enter (n:=47) Tryz.func20 rfl rfl (vB rfl) ?_
 refine go 2 ?_
 refine cl (DH w) ?_
 rintro _ w1 ⟨rfl,k0⟩
 have H3:=H.ext k0
 refine cl (UF ops oa oc 65536 65536 ops.length (by rfl) w1 gE VD om hg) ?_
 rintro _ w4 ⟨rfl,l0⟩
 have H6:=H3.ext l0
 refine sq ((iF vF rfl rfl).as (v':=.bool false) (by rfl)) ?_
 refine go 5 ?_
 refine ZA (v:=.bool false) (w':=w4) (oA (d':=13) (b:=false) rfl rfl rfl) ((TE rfl rfl).as (v':=.bool false) (by exact bF (om))) ?_
 refine go 3 ?_
 refine rE (E:=E64) (m:=ops.length) (c:=ops.length) (z0:=0#64) H6 vF vF rfl vF rfl rfl vo vo om om fun b7 w9 m0 o0 G0=>?_
 refine go 5 ?_
 refine DA (σ:=Nat) (fun i=>[(0,.slice oa ops.length oc),(1,.slice ha sh.length hc),(5,sO (some b7) ops.length ops.length),(6,iN (uA GC ops i)),(23,.slice oa ops.length oc),(24,iN ops.length),(25,iN i)]) (fun i w'=>(i≤ops.length∧Sl E64 (some b7) (QJ ops sh i) ops.length (xA E64 (List.replicate (ops.length-ops.length) 0#64)))∧Hp No w w' [((some b7),wA E64 57 (QJ ops sh i) (xA E64 (List.replicate (ops.length-ops.length) 0#64)))]) (fun i=>ops.length-i) (0) ?_ ?_ ?_
 ·exact kp
 ·exact ⟨⟨Nat.zero_le _,m0⟩,o0⟩
 rintro i ρ H0 ⟨⟨hq,hSo⟩,HL⟩
 have hol2:=WQ ops sh i
 have hct:=QE wI ops i
 refine go 1 ?_
 refine lA (((i:Nat):Int)<(ops.length:Nat)) rfl (fun p0=>?_) (fun p0=>?_)
 ·refine go 4 ?_
  intro q0 I0 J0 K0 L0
  refine go 2 ?_
  intro r0 d0 M0
  obtain ⟨o,ho⟩:∃ q1,q1=ops.getD i UA:=⟨_,rfl⟩
  rw [← ho] at d0 ⊢
  refine go 1 ?_
  refine cl (qM o r0) ?_
  rintro _ N0 ⟨rfl,u0⟩
  have e0:=d0.ext u0
  refine go 0 ?_
  refine lA (iG o) rfl (fun a0=>?_) (fun a0=>?_)
  ·have hgo:=hg.at' i om
   rw [← ho] at hgo
   have hkt:=hgo.told a0
   have hou:=gI ops
   refine go 0 ?_
   have x0:=(e0.pk 2 [1,0])
   let b0:List RW:=[(rC q0 #[i64 (o.kd),i64 (o.a),i64 (o.b),i64 (o.k),u64 (o.c),i64 (o.pt)] 105)]
   let y0:PD:=[wL false fun _ w'=>Hp No w w' (((some b7),wA E64 57 (QJ ops sh i) (xA E64 (List.replicate (ops.length-ops.length) 0#64)))::b0),wL true fun _ w'=>Sl E64 (some b7) ((QJ ops sh i).set o.k.toNat (sh.getD i 0#64)) ops.length (xA E64 (List.replicate (ops.length-ops.length) 0#64))∧Hp No w w' (((some b7),wA E64 57 ((QJ ops sh i).set o.k.toNat (sh.getD i 0#64)) (xA E64 (List.replicate (ops.length-ops.length) 0#64)))::b0)]
   refine mB (m:=9) [0,0,2,0,0,24,56,127,255] [8] b0 y0 JA (fun _ e=>x0.ext e) zE (fun A0=>?_)
   refine gk 8 ?_
   refine WalkT.eff A0 0 ?_ ?_
   ·refine tA fun r w0 uw hF hE=>?_
    have O0:=hF.ext hE
    refine PE fun Q' hK=>?_
    refine go 1 ?_
    intro P0 B0 C0
    exact hK _ (fun _=>(A_ B0 C0))
   refine WalkT.nil fun r w0 Q0 hF hE=>?_
   obtain ⟨D0,c0⟩:=hF
   replace c0:=c0.ext hE
   dsimp only
   dsimp only [b0] at c0
   refine go 5 ?_
   have E0:(QJ ops sh i).set o.k.toNat (sh.getD i 0#64)=QJ ops sh (i+1):=by rw [QJ,← ho,if_pos a0]
   have f0:=D0
   have h0:=c0
   rw [E0] at f0 h0
   exact ⟨i+1,_,rfl,⟨rfl,rfl,rfl,congrArg i64 (by rw [uA,← ho,GC,if_pos a0]<;>omega),rfl,rfl,rfl,trivial⟩,⟨⟨om,f0⟩,(h0.dropk 1)⟩,vd⟩
  ·refine go 2 ?_
   have F0:QJ ops sh i=QJ ops sh (i+1):=by rw [QJ,← ho,if_neg a0]
   have i0:=hSo
   have j0:=e0
   rw [F0] at i0 j0
   exact ⟨i+1,_,rfl,⟨rfl,rfl,rfl,congrArg i64 (by rw [uA,← ho,GC,if_neg a0]<;>omega),rfl,rfl,rfl,trivial⟩,⟨⟨om,i0⟩,(j0.dropk 0)⟩,vd⟩
 ·have hie:i=ops.length:=by omega
  subst hie
  have hou:=gI ops
  rw [show uA GC ops ops.length=OA ops from rfl]
  refine go 3 ?_
  refine sq (IS (h:=(OA ops)) (q:=(OA ops)) vF rfl rfl rfl vo vo om om) ?_
  refine go 1 ?_
  exact ⟨_,rfl,(some b7),ops.length,(xA E64 (List.replicate (ops.length-ops.length) 0#64)),_,rfl,hSo,fun w2 hr=>Rd.sub hr 0 (OA ops) (m:=(OA ops)) (fun e=>by rw [e]; rfl),HL⟩
theorem GM (ops:List Mo) (oa:Option Addr) (oc:Nat) (sh:List (BitVec 64)) (ha:Option Addr) (hc n0 n1:Nat) (hn0:n0=ops.length) (hn1:n1=sh.length) (w:World) (hG:Gl w) (hO:Rd cH w oa ops) (hol:ops.length≤140737488355328) (hSh:Rd E64 w ha sh) (hsl:sh.length=ops.length) (hg:Good ops 65536 65536):Calls Tryz.prog 20 [.slice oa n0 oc,.slice ha n1 hc].toArray w (tQ fun v w'=>(∃ a,v=.slice a (OA ops) (OA ops)∧Rd E64 w' a (lD ops sh))∧Ext w w') :=
 (IK ops oa oc sh ha hc n0 n1 hn0 hn1 w hG hO hol hSh hsl hg).mono fun e w' ⟨v,he,key,c,sp,a,hv,hS,hr,HN⟩=>⟨v,he,⟨a,hv,hr _ (HN.rd (k:=0) rfl hS)⟩,HN.chg⟩
end Go.Proofs.YtljlkhobfdofhaaGreatDoor.Mi
namespace Go.Proofs.YtljlkhobfdofhaaGreatDoor.Er
open Go Vc
theorem uL:SA Tryz.prog 130=true:=by kernel_rfl
theorem sN:UD Tryz.prog 130=some (2,1):=by kernel_rfl
theorem HX:BI Tryz.prog 57=some 8:=by kernel_rfl
theorem GG:pD Tryz.prog 57 E64:=FG (by kernel_rfl) (by kernel_rfl)
theorem JA:Tryz.prog.follows .mixedOrders=true:=by kernel_rfl
theorem GV:QA Tryz.prog 60=true:=by kernel_rfl
theorem uK:ZB Tryz.prog 130=some 2:=by kernel_rfl
theorem siz3:ZB Tryz.prog 3=some 1:=by kernel_rfl
theorem FU:qD Tryz.prog 60=some (57,1):=by kernel_rfl
theorem und236:Tryz.prog.underlying 236=some (.pointer 456):=by kernel_rfl
theorem und60:Tryz.prog.underlying 60=some (.slice 57):=by kernel_rfl
theorem lK:YB Tryz.prog 130=some (.agg (List.replicate 2 (.int .u64 0)).toArray):=by kernel_rfl
theorem WT:YB Tryz.prog 57=some (.int .u64 0):=by kernel_rfl
theorem gQ (ws:List (BitVec 64)) (hroom:ws.length*8≤140737488355328) (a0:Option Addr) (n0 c0:Nat) (hn0:n0=ws.length) (w:World) (hW:Rd E64 w a0 ws):Ca 59 [.slice a0 n0 c0] w fun v w'=>SlRes E64 57 ws w v w'∧Ext w w':=by
 subst hn0
 have H:=eA No w
 refine enter (n:=8) Tryz.func59 rfl rfl (vB rfl) ?_
 refine go 2 ?_
 refine sq (kZ vF rfl rfl) ?_
 refine go 0 ?_
 refine FD (a0.isNone) rfl (fun c4=>?_) (fun c4=>?_)
 ·refine go 1 ?_
  obtain rfl:=LZ hW c4
  exact ⟨_,rfl,⟨none,0,[],rfl,Sl.none,fun _ h=>by cases h⟩,H.chg⟩
 ·refine go 0 ?_
  refine bS (E:=E64) (l:=[]) fun b1 w3 i0 H4 j0=>?_
  refine go 2 ?_
  intro k0 c7 l0 m0 e0 o0 f0
  have h0:([])++ws=ws:=by rw [List.nil_append]
  have d0:=e0
  have b0:=f0
  rw [h0] at d0 b0
  refine go 1 ?_
  exact ⟨_,rfl,b0.resN (k:=0) rfl d0 (Nat.zero_add _),b0.chg⟩
theorem XJ (ws:List (BitVec 64)) (hroom:ws.length*8≤140737488355328) (a0:Option Addr) (n0 c0:Nat) (hn0:n0=ws.length) (w:World) (hW:Rd E64 w a0 ws):Ca 45 [.slice a0 n0 c0] w fun v w'=>(∃ b key c sp,v=pT b∧Sl E64 key ws c sp∧Hp No w w' [(rC b #[sO key ws.length c,.pointer none,iN ws.length,iN 0] 238),(key,wA E64 57 ws sp)])∧Ext w w':=by
 subst hn0
 have H:=eA No w
 refine enter (n:=9) Tryz.func45 rfl rfl (vB rfl) ?_
 refine go 2 ?_
 refine cl (gQ ws om a0 ws.length c0 (by rfl) w VD) ?_
 rintro _ w1 ⟨⟨d0,c4,e0,rfl,f0,h0⟩,i0⟩
 rw [show ws.length=ws.length from rfl]
 have H9:=H.add i0 h0
 refine go 4 ?_
 intro j0 k0 l0 b0 m0
 refine go 1 ?_
 exact ⟨_,rfl,⟨j0,d0,c4,e0,rfl,f0,b0⟩,b0.chg⟩
theorem mR (b n u:Nat) (x0 x1:Value) (w:World) (hb:w.heap[b]?=some (.cells #[x0,x1,iN n,iN u] 238 (0,0))) (hu:u≤n) (hn:n≤140737488355328):Ca 87 [pT b] w fun v w'=>v=i64 ((n:Nat)-(u:Nat))∧Ext w w':=by
 have H:=eA No w
 refine enter (n:=12) Tryz.func87 rfl rfl (vB rfl) ?_
 refine go 1 ?_
 refine GB (K:=[none,none,none,none,none,none,none,none,none,none]) [0,1,3,7,0,16,48,112,255,511] (fun w'=>Ext w w') (fun w' w''=>Ext w' w'') JA (by kernel_rfl) (Ext.drew _) (fun _ _ h h'=>h.trans h') ?_ ?_
 ·exact LB (by decide)
 refine gk 10 ?_
 intro r24 c0 a0 hF
 have b0:=H.ext a0
 refine go 0 ?_
 exact ⟨_,rfl,rfl,b0.chg⟩
theorem lI (b c u:Nat) (a:Option Addr) (ws:List (BitVec 64)) (w:World) (hb:w.heap[b]?=some (.cells #[.slice a ws.length c,.pointer none,iN ws.length,iN u] 238 (0,0))) (hR:∀ w',Chg (·=b) w w'→Rd E64 w' a ws) (hlen:ws.length≤140737488355328) (hu:u<ws.length):Ca 91 [pT b] w fun v w'=>v=.tuple #[u64 (ws.getD u 0#64),.nilIface]∧Chg (·=b) w w'∧w'.heap[b]?=some (.cells #[.slice a ws.length c,.pointer none,iN ws.length,iN (u+1)] 238 (0,0)):=by
 have H:=Hp.start1 (M:=(·=b)) rfl hb
 refine enter (n:=50) Tryz.func91 rfl rfl (vB rfl) ?_
 refine go 2 ?_
 refine GB (K:=[none,none,none,none,none,none,none,none,none]) [0,1,3,7,0,16,48,112,255] (fun w'=>Ext w w') (fun w' w''=>Ext w' w'') JA (by kernel_rfl) (Ext.drew _) (fun _ _ h h'=>h.trans h') ?_ ?_
 ·exact LB (by decide)
 refine gk 9 ?_
 intro r22 d0 b0 hF
 have e0:=H.ext b0
 refine go 0 ?_
 refine lA (((ws.length:Nat):Int)≤(u:Nat)) rfl (fun c0=>?_) (fun c0=>?_)
 ·exfalso
  omega
 ·refine go 13 ?_
  intro f0 a0 h0
  refine go 4 ?_
  refine sq (dZ vF rfl rfl) ?_
  refine go 5 ?_
  refine sq (OF (E:=E64) (l:=ws) (j:=u) vF (hR _ a0.chg) rfl rfl vo (by rfl) om) (sq (lG (E:=E64) (l:=ws) (j:=u) (v:=ws.getD u 0#64) GG (hR _ a0.chg) rfl rfl (rB om)) ?_)
  refine go 2 ?_
  exact ⟨_,rfl,rfl,a0.chg,a0.get (k:=0) rfl⟩
theorem bM (b c u:Nat) (a:Option Addr) (ws:List (BitVec 64)) (w:World) (hb:w.heap[b]?=some (.cells #[.slice a ws.length c,.pointer none,iN ws.length,iN u] 238 (0,0))) (hR:∀ w',Chg (·=b) w w'→Rd E64 w' a ws) (hlen:ws.length≤140737488355328) (hu:u+2≤ws.length):Ca 90 [pT b] w fun v w'=>v=.tuple #[.agg (xA E64 [ws.getD u 0#64,ws.getD (u+1) 0#64]).toArray,.nilIface]∧Chg (·=b) w w'∧w'.heap[b]?=some (.cells #[.slice a ws.length c,.pointer none,iN ws.length,iN (u+2)] 238 (0,0)):=by
 have H:=Hp.start1 (M:=(·=b)) rfl hb
 refine enter (n:=31) Tryz.func90 rfl rfl (vB rfl) ?_
 refine go 1 ?_
 intro b1 w2 j0 H3 k0
 refine go 2 ?_
 refine cl (mR b ws.length u (.slice a ws.length c) (.pointer none) w2 IJ om om) ?_
 rintro _ w5 ⟨rfl,c0⟩
 have H7:=H3.ext c0
 refine go 1 ?_
 refine lA (((ws.length:Nat)-(u:Nat):Int)<(2:Int)) rfl (fun d0=>?_) (fun d0=>?_)
 ·exfalso
  omega
 ·refine go 1 ?_
  refine cl (lI b c u a ws w5 IJ (fun w' h=>hR w' (H7.chg.trans h)) om om) ?_
  rintro _ w8 ⟨rfl,e0,f0⟩
  have a0:=(H7.set (k:=1) rfl e0 f0).a2 rfl
  refine go 6 ?_
  refine cl (lI b c (u+1) a ws w8 IJ (fun w' h=>hR w' (a0.chg.trans h)) om om) ?_
  rintro _ l0 ⟨rfl,h0,i0⟩
  have m0:=(a0.set (k:=1) rfl h0 i0).a2 rfl
  refine go 9 ?_
  intro n0 b0 o0
  refine go 1 ?_
  exact ⟨_,rfl,rfl,b0.chg,b0.get (k:=1) rfl⟩
end Go.Proofs.YtljlkhobfdofhaaGreatDoor.Er
namespace Go.Proofs.YtljlkhobfdofhaaGreatDoor.Co
open Go Vc Er
theorem agg231:SA Tryz.prog 231=true:=by kernel_rfl
theorem BR:pD Tryz.prog 137 aD:=gX (by kernel_rfl) (by kernel_rfl)
theorem AR:pD Tryz.prog 235 UC:=ZP (by kernel_rfl) (by kernel_rfl)
theorem JA:Tryz.prog.follows .mixedOrders=true:=by kernel_rfl
theorem one138:QA Tryz.prog 138=true:=by kernel_rfl
theorem KU:ZB Tryz.prog 137=some 3:=by kernel_rfl
theorem siz138:ZB Tryz.prog 138=some 1:=by kernel_rfl
theorem siz231:ZB Tryz.prog 231=some 5:=by kernel_rfl
theorem JU:ZB Tryz.prog 57=some 1:=by kernel_rfl
theorem IU:qD Tryz.prog 138=some (235,5):=by kernel_rfl
theorem sli224:qD Tryz.prog 224=some (137,3):=by kernel_rfl
theorem bN (b:Nat) (key:Option Nat) (c:Nat) (sp:LV) (ws:List (BitVec 64)) (hSw:Sl E64 key ws c sp) (hlen:ws.length≤140737488355328) (u:Nat) (hu:u+5≤ws.length) (R:List RW) (w₀ w:World) (H:Hp No w₀ w ((rC b #[sO key ws.length c,.pointer none,iN ws.length,iN u] 238)::(key,wA E64 57 ws sp)::R)):Ca 88 [pT b] w fun v w'=>v=.agg (xA E64 [ws.getD u 0#64,ws.getD (u+1) 0#64,ws.getD (u+2) 0#64,ws.getD (u+3) 0#64,ws.getD (u+4) 0#64]).toArray∧Hp No w₀ w' ((rC b #[sO key ws.length c,.pointer none,iN ws.length,iN (u+5)] 238)::(key,wA E64 57 ws sp)::R):=by
 skip
 refine enter (n:=17) Tryz.func88 rfl rfl (vB rfl) ?_
 refine go 1 ?_
 intro b1 w2 h0 H3 i0
 refine go 1 ?_
 intro b5 w6 j0 H7 k0
 refine go 1 ?_
 refine DA (σ:=Nat) (fun q=>[(0,pT b),(2,pT b1),(3,pT b5),(5,iN q)]) (fun q w'=>q≤5∧Hp No w₀ w' ((rX b5 E64 (bL ws u q) 231)::(rX b1 E64 (List.replicate 5 0#64) 231)::(rC b #[sO key ws.length c,.pointer none,iN ws.length,iN (u+q)] 238)::(key,wA E64 57 ws sp)::R)) (fun q=>5-q) (0) ?_ ?_ ?_
 ·exact kp
 ·exact ⟨om,H7⟩
 rintro q ρ w9 ⟨hq,HL⟩
 refine go 1 ?_
 refine lA (((q:Nat):Int)<(5:Int)) rfl (fun c6=>?_) (fun c6=>?_)
 ·have c6:q<5:=by omega
  refine go 4 ?_
  refine cl (lI b c (u+q) (CA key) ws w9 IJ (ZM HL (i:=2) (j:=3) rfl rfl rfl hSw) om om) ?_
  rintro _ l0 ⟨rfl,b0,c0⟩
  have d0:=(HL.set (k:=2) rfl b0 c0).b4 rfl
  refine go 4 ?_
  refine GA (k:=0) (v:=u64 (ws.getD (u+q) 0#64)) (cs':=(xA E64 ((bL ws u q).set q (ws.getD (u+q) 0#64))).toArray) d0 rfl rfl rfl vF (by rfl) (by exact E64.one _) (by rw [List.size_toArray,qA]; show _≤_*1; rw [mJ]; omega) (by exact eH (E:=E64) rfl _ _ _) fun m0 e0 n0=>?_
  have a0:=e0.b4 rfl
  refine go 2 ?_
  rw [fX (ws:=ws) (u:=u) c6] at a0
  exact ⟨q+1,_,rfl,kp,⟨om,a0⟩,vd⟩
 ·obtain rfl:q=5:=by omega
  refine go 0 ?_
  refine sq ((kB (cs':=(xA E64 (bL ws u 5)).toArray) vF vF (HL.get (k:=0) rfl) (off:=0) rfl (by rw [List.size_toArray,qA,mJ]; exact Nat.le_refl _) (by exact LEq (by rw [qA,mJ]; rfl))).as (v':=.agg (xA E64 [ws.getD u 0#64,ws.getD (u+1) 0#64,ws.getD (u+2) 0#64,ws.getD (u+3) 0#64,ws.getD (u+4) 0#64]).toArray) (by rfl)) ?_
  refine go 1 ?_
  intro o0 f0 p0
  refine go 0 ?_
  exact ⟨_,rfl,rfl,((f0.dropk 1).dropk 0)⟩
theorem YS (b:Nat) (s:Sk) (hs:s.ok) (R:List RW) (w₀ w:World) (H:Hp No w₀ w (bB 137 235 230 b s++R)) (kd:Int) (hl:0<s.t.l.length):Ca 160 [pT b,i64 kd] w fun v w'=>v=.tuple #[.agg #[u64 ((s.t.l).getD 0 pC).a,u64 ((s.t.l).getD 0 pC).b,u64 ((s.t.l).getD 0 pC).c],.nilIface]∧∃ s':Sk,Hp No w₀ w' (bB 137 235 230 b s'++R)∧s'.ok∧s'.t.l=s.t.l.drop 1∧s'.b=s.b∧s'.o=s.o:=by
 have hct:=hs.t.cap
 have hcb:=hs.b.cap
 have hco:=hs.o.cap
 have H:=H.b4 rfl
 refine enter (n:=33) Tryz.func160 rfl rfl (vB rfl) ?_
 refine go 1 ?_
 intro b1 w2 b0 H3 c0
 refine go 2 ?_
 intro b5 w6 d0 H7 e0
 refine go 5 ?_
 refine sq ((RB rfl rfl).as (v':=.bool false) (by exact bF (om))) ?_
 refine go 5 ?_
 refine sq (((lG (E:=aD) (l:=s.t.l) (j:=0) (v:=(s.t.l).getD 0 pC) BR (H7.rdP (k:=3) rfl hs.t) rfl rfl (rB om)).as (v':=.agg #[u64 (((s.t.l).getD 0 pC).a),u64 (((s.t.l).getD 0 pC).b),u64 (((s.t.l).getD 0 pC).c)]) rfl).as (v':=.agg #[u64 ((s.t.l).getD 0 pC).a,u64 ((s.t.l).getD 0 pC).b,u64 ((s.t.l).getD 0 pC).c]) (by rfl)) ?_
 refine go 1 ?_
 intro b9 f0 h0 i0 j0
 refine go 1 ?_
 intro k0 l0 m0
 refine go 5 ?_
 refine sq ((qE (l:=1) (h:=s.t.l.length) vF rfl (.inl ⟨_,_,_,rfl,rfl,by first | rfl | omega | (simp; omega)⟩) (.inr ⟨rfl,rfl⟩) om om).as (v':=.slice (if s.t.c=1 then s.t.a else LD s.t.a (1*3)) (s.t.l.length-1) (s.t.c-1)) (by first | rfl | (congr 1; omega) | (simp; omega) | simp)) ?_
 refine go 3 ?_
 intro n0 o0 p0
 refine go 2 ?_
 intro q0 a0 r0
 refine go 1 ?_
 refine ⟨_,rfl,rfl,{ s with t:=s.t.cut aD },?_,⟨Cp.cut_ok hs.t om,hs.b,hs.o⟩,rfl,rfl,rfl⟩
 unfold bB Sk.ob
 dsimp only
 rw [Cp.cut_row (E:=aD) om]
 unfold Cp.cut
 dsimp only
 rw [List.length_drop]
 exact (((a0.dropk 2).dropk 1).dropk 0)
theorem nS (b:Nat) (s:Sk) (hs:s.ok) (R:List RW) (w₀ w:World) (H:Hp No w₀ w (bB 137 235 230 b s++R)) (hl:0<s.t.l.length):Ca 92 [pT b] w fun v w'=>v=.tuple #[.agg #[u64 ((s.t.l).getD 0 pC).a,u64 ((s.t.l).getD 0 pC).b,u64 ((s.t.l).getD 0 pC).c],.nilIface]∧∃ s':Sk,Hp No w₀ w' (bB 137 235 230 b s'++R)∧s'.ok∧s'.t.l=s.t.l.drop 1∧s'.b=s.b∧s'.o=s.o:=by
 have hct:=hs.t.cap
 have hcb:=hs.b.cap
 have hco:=hs.o.cap
 have H:=H.b4 rfl
 refine enter (n:=10) Tryz.func92 rfl rfl (vB rfl) ?_
 refine go 1 ?_
 intro b1 w2 h0 H3 i0
 refine go 4 ?_
 have H5:=(Hp.midQ (X:=[(rC b1 #[u64 0#64,u64 0#64,u64 0#64] 137)]) (A:=bB 137 235 230 b s) (Y:=R) H3).as (L':=bB 137 235 230 b s++([(rC b1 #[u64 0#64,u64 0#64,u64 0#64] 137)]++R)) rfl
 refine cl (YS b s hs ([(rC b1 #[u64 0#64,u64 0#64,u64 0#64] 137)]++R) w₀ w2 H5 (0:Int) hl) ?_
 rintro _ w6 ⟨rfl,s8,a0,b0,c0,d0,e0⟩
 have j0:=(Hp.midQ (X:=bB 137 235 230 b s8) (A:=[(rC b1 #[u64 0#64,u64 0#64,u64 0#64] 137)]) (Y:=R) a0).as (L':=(_::(bB 137 235 230 b s8++R))) rfl
 refine go 3 ?_
 intro k0 f0 l0
 refine go 1 ?_
 exact ⟨_,rfl,rfl,s8,(f0.dropk 0),b0,c0,d0,e0⟩
theorem WS (b:Nat) (s:Sk) (hs:s.ok) (R:List RW) (w₀ w:World) (H:Hp No w₀ w (bB 137 235 230 b s++R)) (kd:Int) (hl:0<s.b.l.length):Ca 160 [.pointer (some ⟨b,1,none⟩),i64 kd] w fun v w'=>v=.tuple #[.agg #[u64 ((s.b.l).getD 0 pC).a,u64 ((s.b.l).getD 0 pC).b,u64 ((s.b.l).getD 0 pC).c],.nilIface]∧∃ s':Sk,Hp No w₀ w' (bB 137 235 230 b s'++R)∧s'.ok∧s'.b.l=s.b.l.drop 1∧s'.t=s.t∧s'.o=s.o:=by
 have hct:=hs.t.cap
 have hcb:=hs.b.cap
 have hco:=hs.o.cap
 have H:=H.b4 rfl
 refine enter (n:=33) Tryz.func160 rfl rfl (vB rfl) ?_
 refine go 1 ?_
 intro b1 w2 b0 H3 c0
 refine go 2 ?_
 intro b5 w6 d0 H7 e0
 refine go 5 ?_
 refine sq ((RB rfl rfl).as (v':=.bool false) (by exact bF (om))) ?_
 refine go 5 ?_
 refine sq (((lG (E:=aD) (l:=s.b.l) (j:=0) (v:=(s.b.l).getD 0 pC) BR (H7.rdP (k:=4) rfl hs.b) rfl rfl (rB om)).as (v':=.agg #[u64 (((s.b.l).getD 0 pC).a),u64 (((s.b.l).getD 0 pC).b),u64 (((s.b.l).getD 0 pC).c)]) rfl).as (v':=.agg #[u64 ((s.b.l).getD 0 pC).a,u64 ((s.b.l).getD 0 pC).b,u64 ((s.b.l).getD 0 pC).c]) (by rfl)) ?_
 refine go 1 ?_
 intro b9 f0 h0 i0 j0
 refine go 1 ?_
 intro k0 l0 m0
 refine go 5 ?_
 refine sq ((qE (l:=1) (h:=s.b.l.length) vF rfl (.inl ⟨_,_,_,rfl,rfl,by first | rfl | omega | (simp; omega)⟩) (.inr ⟨rfl,rfl⟩) om om).as (v':=.slice (if s.b.c=1 then s.b.a else LD s.b.a (1*3)) (s.b.l.length-1) (s.b.c-1)) (by first | rfl | (congr 1; omega) | (simp; omega) | simp)) ?_
 refine go 3 ?_
 intro n0 o0 p0
 refine go 2 ?_
 intro q0 a0 r0
 refine go 1 ?_
 refine ⟨_,rfl,rfl,{ s with b:=s.b.cut aD },?_,⟨hs.t,Cp.cut_ok hs.b om,hs.o⟩,rfl,rfl,rfl⟩
 unfold bB Sk.ob
 dsimp only
 rw [Cp.cut_row (E:=aD) om]
 unfold Cp.cut
 dsimp only
 rw [List.length_drop]
 exact (((a0.dropk 2).dropk 1).dropk 0)
theorem mS (b:Nat) (s:Sk) (hs:s.ok) (R:List RW) (w₀ w:World) (H:Hp No w₀ w (bB 137 235 230 b s++R)) (hl:0<s.b.l.length):Ca 93 [pT b] w fun v w'=>v=.tuple #[.agg #[u64 ((s.b.l).getD 0 pC).a,u64 ((s.b.l).getD 0 pC).b,u64 ((s.b.l).getD 0 pC).c],.nilIface]∧∃ s':Sk,Hp No w₀ w' (bB 137 235 230 b s'++R)∧s'.ok∧s'.b.l=s.b.l.drop 1∧s'.t=s.t∧s'.o=s.o:=by
 have hct:=hs.t.cap
 have hcb:=hs.b.cap
 have hco:=hs.o.cap
 have H:=H.b4 rfl
 refine enter (n:=10) Tryz.func93 rfl rfl (vB rfl) ?_
 refine go 1 ?_
 intro b1 w2 h0 H3 i0
 refine go 4 ?_
 have H5:=(Hp.midQ (X:=[(rC b1 #[u64 0#64,u64 0#64,u64 0#64] 137)]) (A:=bB 137 235 230 b s) (Y:=R) H3).as (L':=bB 137 235 230 b s++([(rC b1 #[u64 0#64,u64 0#64,u64 0#64] 137)]++R)) rfl
 refine cl (WS b s hs ([(rC b1 #[u64 0#64,u64 0#64,u64 0#64] 137)]++R) w₀ w2 H5 (1:Int) hl) ?_
 rintro _ w6 ⟨rfl,s8,a0,b0,c0,d0,e0⟩
 have j0:=(Hp.midQ (X:=bB 137 235 230 b s8) (A:=[(rC b1 #[u64 0#64,u64 0#64,u64 0#64] 137)]) (Y:=R) a0).as (L':=(_::(bB 137 235 230 b s8++R))) rfl
 refine go 3 ?_
 intro k0 f0 l0
 refine go 1 ?_
 exact ⟨_,rfl,rfl,s8,(f0.dropk 0),b0,c0,d0,e0⟩
theorem VS (b:Nat) (s:Sk) (hs:s.ok) (R:List RW) (w₀ w:World) (H:Hp No w₀ w (bB 137 235 230 b s++R)) (kd:Int) (hl:0<s.o.l.length):Ca 235 [.pointer (some ⟨b,2,none⟩),i64 kd] w fun v w'=>v=.tuple #[.agg #[u64 (((s.o.l).getD 0 WA).p),u64 (((s.o.l).getD 0 WA).q),u64 (((s.o.l).getD 0 WA).r),u64 (((s.o.l).getD 0 WA).s),.bool (((s.o.l).getD 0 WA).ch)],.nilIface]∧∃ s':Sk,Hp No w₀ w' (bB 137 235 230 b s'++R)∧s'.ok∧s'.o.l=s.o.l.drop 1∧s'.t=s.t∧s'.b=s.b:=by
 have hct:=hs.t.cap
 have hcb:=hs.b.cap
 have hco:=hs.o.cap
 have H:=H.b4 rfl
 refine enter (n:=33) Tryz.func235 rfl rfl (vB rfl) ?_
 refine go 1 ?_
 intro b1 w2 b0 H3 c0
 refine go 2 ?_
 intro b5 w6 d0 H7 e0
 refine go 5 ?_
 refine sq ((RB rfl rfl).as (v':=.bool false) (by exact bF (om))) ?_
 refine go 5 ?_
 refine sq (((lG (E:=UC) (l:=s.o.l) (j:=0) (v:=(s.o.l).getD 0 WA) AR (H7.rdP (k:=5) rfl hs.o) rfl rfl (rB om)).as (v':=.agg #[u64 (((s.o.l).getD 0 WA).p),u64 (((s.o.l).getD 0 WA).q),u64 (((s.o.l).getD 0 WA).r),u64 (((s.o.l).getD 0 WA).s),.bool (((s.o.l).getD 0 WA).ch)]) rfl).as (v':=.agg #[u64 (((s.o.l).getD 0 WA).p),u64 (((s.o.l).getD 0 WA).q),u64 (((s.o.l).getD 0 WA).r),u64 (((s.o.l).getD 0 WA).s),.bool (((s.o.l).getD 0 WA).ch)]) (by rfl)) ?_
 refine go 1 ?_
 intro b9 f0 h0 i0 j0
 refine go 1 ?_
 intro k0 l0 m0
 refine go 5 ?_
 refine sq ((qE (l:=1) (h:=s.o.l.length) vF rfl (.inl ⟨_,_,_,rfl,rfl,by first | rfl | omega | (simp; omega)⟩) (.inr ⟨rfl,rfl⟩) om om).as (v':=.slice (if s.o.c=1 then s.o.a else LD s.o.a (1*5)) (s.o.l.length-1) (s.o.c-1)) (by first | rfl | (congr 1; omega) | (simp; omega) | simp)) ?_
 refine go 3 ?_
 intro n0 o0 p0
 refine go 2 ?_
 intro q0 a0 r0
 refine go 1 ?_
 refine ⟨_,rfl,rfl,{ s with o:=s.o.cut UC },?_,⟨hs.t,hs.b,Cp.cut_ok hs.o om⟩,rfl,rfl,rfl⟩
 unfold bB Sk.ob
 dsimp only
 rw [Cp.cut_row (E:=UC) om]
 unfold Cp.cut
 dsimp only
 rw [List.length_drop]
 exact (((a0.dropk 2).dropk 1).dropk 0)
theorem lS (b:Nat) (s:Sk) (hs:s.ok) (R:List RW) (w₀ w:World) (H:Hp No w₀ w (bB 137 235 230 b s++R)) (hl:0<s.o.l.length):Ca 161 [pT b] w fun v w'=>v=.tuple #[.agg #[u64 (((s.o.l).getD 0 WA).p),u64 (((s.o.l).getD 0 WA).q),u64 (((s.o.l).getD 0 WA).r),u64 (((s.o.l).getD 0 WA).s),.bool (((s.o.l).getD 0 WA).ch)],.nilIface]∧∃ s':Sk,Hp No w₀ w' (bB 137 235 230 b s'++R)∧s'.ok∧s'.o.l=s.o.l.drop 1∧s'.t=s.t∧s'.b=s.b:=by
 have hct:=hs.t.cap
 have hcb:=hs.b.cap
 have hco:=hs.o.cap
 have H:=H.b4 rfl
 refine enter (n:=10) Tryz.func161 rfl rfl (vB rfl) ?_
 refine go 1 ?_
 intro b1 w2 h0 H3 i0
 refine go 4 ?_
 have H5:=(Hp.midQ (X:=[(rC b1 #[u64 0#64,u64 0#64,u64 0#64,u64 0#64,.bool false] 235)]) (A:=bB 137 235 230 b s) (Y:=R) H3).as (L':=bB 137 235 230 b s++([(rC b1 #[u64 0#64,u64 0#64,u64 0#64,u64 0#64,.bool false] 235)]++R)) rfl
 refine cl (VS b s hs ([(rC b1 #[u64 0#64,u64 0#64,u64 0#64,u64 0#64,.bool false] 235)]++R) w₀ w2 H5 (2:Int) hl) ?_
 rintro _ w6 ⟨rfl,s8,a0,b0,c0,d0,e0⟩
 have j0:=(Hp.midQ (X:=bB 137 235 230 b s8) (A:=[(rC b1 #[u64 0#64,u64 0#64,u64 0#64,u64 0#64,.bool false] 235)]) (Y:=R) a0).as (L':=(_::(bB 137 235 230 b s8++R))) rfl
 refine go 3 ?_
 intro k0 f0 l0
 refine go 1 ?_
 exact ⟨_,rfl,rfl,s8,(f0.dropk 0),b0,c0,d0,e0⟩
end Go.Proofs.YtljlkhobfdofhaaGreatDoor.Co
