/- What the claim has need of: Mi2, Mi3, Mi4, Mi5, RwQ. -/
import Derived.Test.YtljlkhobfdofhaaGreatDoorWv12
set_option linter.unusedVariables false
set_option maxHeartbeats 16000000
set_option maxRecDepth 20000
namespace Go.Proofs.YtljlkhobfdofhaaGreatDoor.Mi
open Go Vc Er Ek Circ
theorem byt3:BI Tryz.prog 3=some 8:=by kernel_rfl
theorem call158:rA Tryz.prog 158=true:=by kernel_rfl
theorem bK:pD Tryz.prog 105 cH:=aQ (by kernel_rfl) (by kernel_rfl)
theorem eX:mC Tryz.prog 105 1=some (1,1,3):=by kernel_rfl
theorem dX:mC Tryz.prog 105 2=some (2,1,3):=by kernel_rfl
theorem fld329_0:mC Tryz.prog 329 0=some (0,1,327):=by kernel_rfl
theorem fld329_3:mC Tryz.prog 329 3=some (3,1,3):=by kernel_rfl
theorem fld329_4:mC Tryz.prog 329 4=some (4,1,4):=by kernel_rfl
theorem fld329_5:mC Tryz.prog 329 5=some (5,1,4):=by kernel_rfl
theorem one327:QA Tryz.prog 327=true:=by kernel_rfl
theorem one4:QA Tryz.prog 4=true:=by kernel_rfl
theorem siz3:ZB Tryz.prog 3=some 1:=by kernel_rfl
theorem sli31:qD Tryz.prog 31=some (105,6):=by kernel_rfl
theorem GU:qD Tryz.prog 33=some (3,1):=by kernel_rfl
theorem zer3:YB Tryz.prog 3=some (.int .i64 0):=by kernel_rfl
theorem SW (ops:List Mo) (oa:Option Addr) (oc:Nat) (e0 e1:Int) (w:World) (hG:Gl w) (hO:Rd cH w oa ops) (hol:ops.length≤16384):Ca 89 [.slice oa ops.length oc,.agg (xA EI [e0,e1]).toArray] w fun v w'=>(((∃ x,v=.tuple #[x,.nilIface])∧∀ j,j<ops.length→GoodAt ops e0 e1 j (ops.getD j UA))∨(∃ ev,v=.tuple #[RA,ev]∧Er w.heap.size w' 110 1 ev∧¬ ∀ j,j<ops.length→GoodAt ops e0 e1 j (ops.getD j UA)))∧Ext w w':=by
 have H:=eA No w
 refine enter (n:=150) Tryz.func89 rfl rfl (vB rfl) ?_
 refine go 1 ?_
 intro b1 w2 c1 H3 d1
 refine go 7 ?_
 refine DA (σ:=Nat) (fun i=>[(0,.slice oa ops.length oc),(3,pT b1),(4,RA),(5,.nilIface),(6,RA),(7,iN (uA GC ops i)),(15,.slice oa ops.length oc),(16,iN ops.length),(17,iN i)]) (fun i w'=>i≤ops.length∧Hp No w w' [(rX b1 EI ([e0,e1]) 32)]) (fun i=>ops.length-i) (0) ?_ ?_ ?_
 ·exact kp
 ·exact ⟨Nat.zero_le _,H3⟩
 rintro i ρ w5 ⟨hq,HL⟩
 have hct:=QE wI ops i
 refine go 1 ?_
 refine lA (((i:Nat):Int)<(ops.length:Nat)) rfl (fun x0=>?_) (fun x0=>?_)
 ·refine go 3 ?_
  intro b7 w8 g1 H9 h1
  refine go 1 ?_
  intro y0 A0 i1
  refine go 1 ?_
  refine cl (qM (ops.getD i UA) y0) ?_
  rintro _ j1 ⟨rfl,B0⟩
  have o0:=A0.ext B0
  refine go 0 ?_
  refine lA (iG (ops.getD i UA)) rfl (fun j0=>?_) (fun j0=>?_)
  ·refine go 5 ?_
   exact ⟨i+1,_,rfl,⟨rfl,rfl,rfl,rfl,rfl,congrArg i64 (by rw [uA,GC,if_pos j0]<;>omega),rfl,rfl,rfl,trivial⟩,⟨om,(o0.dropk 0)⟩,vd⟩
  ·refine go 2 ?_
   exact ⟨i+1,_,rfl,⟨rfl,rfl,rfl,rfl,rfl,congrArg i64 (by rw [uA,GC,if_neg j0]<;>omega),rfl,rfl,rfl,trivial⟩,⟨om,(o0.dropk 0)⟩,vd⟩
 ·have hie:i=ops.length:=by omega
  subst hie
  have hob:=QE wI ops ops.length
  rw [show uA GC ops ops.length=OA ops from rfl] at hob ⊢
  refine go 1 ?_
  refine rE (E:=EI) (m:=(OA ops)) (c:=(OA ops)) (z0:=0) HL vF vF rfl vF rfl rfl vo vo om om fun f0 k1 C0 D0 l1=>?_
  refine go 4 ?_
  have E0:=D0.nil (wA EI 327 [] [])
  refine go 0 ?_
  refine DA (σ:=Nat × Option Nat × Nat × LV × List Int) (fun (i,kf,cf,sf,sl)=>[(3,pT b1),(4,RA),(5,.nilIface),(6,sO kf i cf),(7,iN (OA ops)),(10,sO (some f0) (OA ops) (OA ops)),(28,.slice oa ops.length oc),(29,iN ops.length),(30,iN i)]) (fun (i,kf,cf,sf,sl) w'=>(i≤ops.length∧(∀ j,j<i→GoodAt ops e0 e1 j (ops.getD j UA))∧sl.length=OA ops∧JI ops sl i∧Sl EI kf (TD ops i) cf sf∧Sl EI (some f0) sl (OA ops) (xA EI (List.replicate ((OA ops)-(OA ops)) 0)))∧Hp No w w' [(kf,wA EI 327 (TD ops i) sf),((some f0),wA EI 3 sl (xA EI (List.replicate ((OA ops)-(OA ops)) 0))),(rX b1 EI ([e0,e1]) 32)]) (fun (i,kf,cf,sf,sl)=>ops.length-i) ((0,none,0,[],List.replicate (OA ops) 0)) ?_ ?_ ?_
  ·exact kp
  ·exact ⟨⟨Nat.zero_le _,fun j h=>absurd h (Nat.not_lt_zero _),List.length_replicate,yS _ _,Sl.none,C0⟩,E0⟩
  rintro ⟨i,kf,cf,sf,sl⟩ ρ m1 ⟨⟨hq2,hga,hsl,hsn,hSf,hSs⟩,F0⟩
  have hfl:=SD ops i
  refine go 1 ?_
  refine lA (((i:Nat):Int)<(ops.length:Nat)) rfl (fun G0=>?_) (fun G0=>?_)
  ·refine go 4 ?_
   intro a0 n1 o1 p1 r1
   let y1:Option Addr:=some ⟨a0,3,none⟩
   refine go 2 ?_
   intro H0 p0 t1
   obtain ⟨o,ho⟩:∃ q1,q1=ops.getD i UA:=⟨_,rfl⟩
   rw [← ho] at p0 ⊢
   refine go 2 ?_
   refine cl (yM o e0 e1 H0 gE) ?_
   rintro _ u1 ⟨rfl,I0⟩
   have w1:=p0.ext I0
   refine go 4 ?_
   intro c0 x1 z1 A1 B1
   refine go 1 ?_
   intro J0 q0 C1
   refine sAv ?_
   obtain ⟨r,hr⟩:∃ q1,q1=zA o e0 e1:=⟨_,rfl⟩
   rw [← hr] at q0 ⊢
   refine NI (uM (σ:=List Int × Int × Bool) (fun (sl2,rk,ob)=>[(3,pT b1),(4,RA),(5,.nilIface),(6,sO kf i cf),(7,iN (OA ops)),(10,sO (some f0) (OA ops) (OA ops)),(11,iN i),(12,pT a0),(13,pT c0),(14,.bool ob),(28,.slice oa ops.length oc),(29,iN ops.length),(30,iN i)]) (fun (sl2,rk,ob) w'=>(rk=yP ops o e0 e1∧(ob=true↔r.2=true∧(iG o→VR ops i o))∧sl2.length=OA ops∧(ob=true→JI ops sl2 (i+1))∧Sl EI (some f0) sl2 (OA ops) (xA EI (List.replicate ((OA ops)-(OA ops)) 0)))∧Hp No w w' [(kf,wA EI 327 (TD ops i) sf),((some f0),wA EI 3 sl2 (xA EI (List.replicate ((OA ops)-(OA ops)) 0))),(rX b1 EI ([e0,e1]) 32),(rC a0 #[i64 (o.kd),i64 (o.a),i64 (o.b),i64 (o.k),u64 (o.c),i64 (o.pt)] 105),(rC c0 #[i64 (r.1.a),i64 (r.1.b),i64 (r.1.m),i64 rk,.bool (r.1.c),.bool (r.1.p),i64 (r.1.r)] 329)]) ?_ (fun k0=>?_))
   ·rintro ⟨sl2,rk,ob⟩ ρ K0 ⟨⟨hrk,hob,hsl2,hsn2,hSs2⟩,l0⟩
    refine go 2 ?_
    refine VA (B:=ob) (v:=sO kf i cf) (BA (d':=71) (B:=true) rfl rfl rfl) (fun hB=>NA (v:=sO kf i cf) rfl) (VA (B:=ob) (v:=.pointer (some ⟨a0,1,none⟩)) (BA (d':=71) (B:=true) rfl rfl rfl) (fun hB=>vA (off':=1) vF (by decide) (b:=a0) (off:=0) rfl om) (VA (B:=ob) (v:=i64 (o.a)) (BA (d':=71) (B:=true) rfl rfl rfl) (fun hB=>by simp only [uE (v:=_) (h:=hB)]; exact FA (v:=i64 (o.a)) vF (l0.get (k:=3) rfl) (off:=1) rfl (by rfl)) (VA (B:=ob) (v:=pT c0) (BA (d':=71) (B:=true) rfl rfl rfl) (fun hB=>vA (off':=0) vF (by decide) (b:=c0) (off:=0) rfl om) (VA (B:=ob) (v:=i64 (r.1.a)) (BA (d':=71) (B:=true) rfl rfl rfl) (fun hB=>by simp only [uE (v:=_) (h:=hB)]; exact FA (v:=i64 (r.1.a)) vF (l0.get (k:=4) rfl) (off:=0) rfl (by rfl)) (caGv (B:=ob) (v:=.bool (QD ops i o.a r.1.a)) (BA (d':=71) (B:=true) rfl rfl rfl) (fun hB=>by simp only [uE (v:=_) (h:=hB)]; exact cA (vs:=[sO kf i cf,i64 (o.a),i64 (r.1.a)]) vF rfl) (fun hB=>by exact BN ops i o.a r.1.a (CA kf) cf K0 VD) fun L0 M0=>?_)))))
    have m0:=l0.ext M0
    refine sq (OB (B:=true) rfl rfl rfl rfl) ?_
    refine go 1 ?_
    refine VA (B:=((ob && QD ops i o.a r.1.a))) (v:=sO kf i cf) (BA (d':=79) (B:=true) rfl rfl rfl) (fun hB=>NA (v:=sO kf i cf) rfl) (VA (B:=((ob && QD ops i o.a r.1.a))) (v:=.pointer (some ⟨a0,2,none⟩)) (BA (d':=79) (B:=true) rfl rfl rfl) (fun hB=>vA (off':=2) vF (by decide) (b:=a0) (off:=0) rfl om) (VA (B:=((ob && QD ops i o.a r.1.a))) (v:=i64 (o.b)) (BA (d':=79) (B:=true) rfl rfl rfl) (fun hB=>by simp only [uE (v:=_) (h:=hB)]; exact FA (v:=i64 (o.b)) vF (m0.get (k:=3) rfl) (off:=2) rfl (by rfl)) (VA (B:=((ob && QD ops i o.a r.1.a))) (v:=.pointer (some ⟨c0,1,none⟩)) (BA (d':=79) (B:=true) rfl rfl rfl) (fun hB=>vA (off':=1) vF (by decide) (b:=c0) (off:=0) rfl om) (VA (B:=((ob && QD ops i o.a r.1.a))) (v:=i64 (r.1.b)) (BA (d':=79) (B:=true) rfl rfl rfl) (fun hB=>by simp only [uE (v:=_) (h:=hB)]; exact FA (v:=i64 (r.1.b)) vF (m0.get (k:=4) rfl) (off:=1) rfl (by rfl)) (caGv (B:=((ob && QD ops i o.a r.1.a))) (v:=.bool (QD ops i o.b r.1.b)) (BA (d':=79) (B:=true) rfl rfl rfl) (fun hB=>by simp only [uE (v:=_) (h:=hB)]; exact cA (vs:=[sO kf i cf,i64 (o.b),i64 (r.1.b)]) vF rfl) (fun hB=>by exact BN ops i o.b r.1.b (CA kf) cf L0 VD) fun N0 O0=>?_)))))
    have b0:=m0.ext O0
    refine sq (OB (B:=true) rfl rfl rfl rfl) ?_
    refine go 1 ?_
    obtain ⟨o3,ho3⟩:∃ q:Bool,q=((ob && QD ops i o.a r.1.a) && QD ops i o.b r.1.b):=⟨_,rfl⟩
    rw [← ho3]
    refine go 2 ?_
    refine VA (B:=o3) (v:=.pointer (some ⟨c0,3,none⟩)) (BA (d':=88) (B:=true) rfl rfl rfl) (fun hB=>vA (off':=3) vF (by decide) (b:=c0) (off:=0) rfl om) (VA (B:=o3) (v:=i64 rk) (BA (d':=88) (B:=true) rfl rfl rfl) (fun hB=>by simp only [uE (v:=_) (h:=hB)]; exact FA (v:=i64 rk) vF (b0.get (k:=4) rfl) (off:=3) rfl (by rfl)) (VA (B:=o3) (v:=.bool (decide ((0:Int)<rk))) (BA (d':=88) (B:=true) rfl rfl rfl) (fun hB=>by simp only [uE (v:=_) (h:=hB)]; exact iE rfl rfl) (VA (B:=o3) (v:=.bool (decide ((0:Int)<rk))) (BA (d':=88) (B:=true) rfl rfl rfl) (fun hB=>by simp only [uE (v:=_) (h:=hB)]; exact NA (v:=.bool (decide ((0:Int)<rk))) rfl) (VA (B:=(o3 && (decide ((0:Int)<rk)))) (v:=.pointer y1) (BA (d':=92) (B:=o3) rfl rfl rfl) (fun hB=>vA (off':=3) vF (by decide) (b:=a0) (off:=0) rfl om) (VA (B:=(o3 && (decide ((0:Int)<rk)))) (v:=i64 (o.k)) (BA (d':=92) (B:=o3) rfl rfl rfl) (fun hB=>by simp only [uE (v:=_) (h:=hB)]; exact FA (v:=i64 (o.k)) vF (b0.get (k:=3) rfl) (off:=3) rfl (by rfl)) (VA (B:=(o3 && (decide ((0:Int)<rk)))) (v:=.bool (decide ((0:Int)≤o.k))) (BA (d':=92) (B:=o3) rfl rfl rfl) (fun hB=>by simp only [uE (v:=_) (h:=hB)]; exact ZI rfl rfl) (VA (B:=o3) (v:=.bool ((decide ((0:Int)<rk) && decide ((0:Int)≤o.k)))) (BA (d':=88) (B:=true) rfl rfl rfl) (fun hB=>OB (B:=o3) hB rfl rfl rfl) (VA (B:=o3) (v:=.bool ((decide ((0:Int)<rk) && decide ((0:Int)≤o.k)))) (BA (d':=88) (B:=true) rfl rfl rfl) (fun hB=>by simp only [uE (v:=_) (h:=hB)]; exact NA (v:=.bool ((decide ((0:Int)<rk) && decide ((0:Int)≤o.k)))) rfl) (VA (B:=(o3 && ((decide ((0:Int)<rk) && decide ((0:Int)≤o.k))))) (v:=.pointer y1) (BA (d':=97) (B:=o3) rfl rfl rfl) (fun hB=>vA (off':=3) vF (by decide) (b:=a0) (off:=0) rfl om) (VA (B:=(o3 && ((decide ((0:Int)<rk) && decide ((0:Int)≤o.k))))) (v:=i64 (o.k)) (BA (d':=97) (B:=o3) rfl rfl rfl) (fun hB=>by simp only [uE (v:=_) (h:=hB)]; exact FA (v:=i64 (o.k)) vF (b0.get (k:=3) rfl) (off:=3) rfl (by rfl)) (VA (B:=(o3 && ((decide ((0:Int)<rk) && decide ((0:Int)≤o.k))))) (v:=.pointer (some ⟨c0,3,none⟩)) (BA (d':=97) (B:=o3) rfl rfl rfl) (fun hB=>vA (off':=3) vF (by decide) (b:=c0) (off:=0) rfl om) (VA (B:=(o3 && ((decide ((0:Int)<rk) && decide ((0:Int)≤o.k))))) (v:=i64 rk) (BA (d':=97) (B:=o3) rfl rfl rfl) (fun hB=>by simp only [uE (v:=_) (h:=hB)]; exact FA (v:=i64 rk) vF (b0.get (k:=4) rfl) (off:=3) rfl (by rfl)) (VA (B:=(o3 && ((decide ((0:Int)<rk) && decide ((0:Int)≤o.k))))) (v:=.bool (decide ((o.k:Int)<rk))) (BA (d':=97) (B:=o3) rfl rfl rfl) (fun hB=>by simp only [uE (v:=_) (h:=hB)]; exact bD rfl rfl) (VA (B:=o3) (v:=.bool (((decide ((0:Int)<rk) && decide ((0:Int)≤o.k)) && decide ((o.k:Int)<rk)))) (BA (d':=88) (B:=true) rfl rfl rfl) (fun hB=>OB (B:=o3) hB rfl rfl rfl) ?_))))))))))))))
    refine VA (B:=o3) (v:=.bool (((decide ((0:Int)<rk) && decide ((0:Int)≤o.k)) && decide ((o.k:Int)<rk)))) (BA (d':=88) (B:=true) rfl rfl rfl) (fun hB=>by simp only [uE (v:=_) (h:=hB)]; exact NA (v:=.bool (((decide ((0:Int)<rk) && decide ((0:Int)≤o.k)) && decide ((o.k:Int)<rk)))) rfl) (VA (B:=(o3 && (!((decide ((0:Int)<rk) && decide ((0:Int)≤o.k)) && decide ((o.k:Int)<rk))))) (v:=.pointer y1) (gC (d':=104) (B:=o3) rfl rfl rfl) (fun hB=>vA (off':=3) vF (by decide) (b:=a0) (off:=0) rfl om) (VA (B:=(o3 && (!((decide ((0:Int)<rk) && decide ((0:Int)≤o.k)) && decide ((o.k:Int)<rk))))) (v:=i64 (o.k)) (gC (d':=104) (B:=o3) rfl rfl rfl) (fun hB=>by simp only [uE (v:=_) (h:=hB)]; exact FA (v:=i64 (o.k)) vF (b0.get (k:=3) rfl) (off:=3) rfl (by rfl)) (VA (B:=(o3 && (!((decide ((0:Int)<rk) && decide ((0:Int)≤o.k)) && decide ((o.k:Int)<rk))))) (v:=.bool (decide ((o.k:Int)=(0:Int)))) (gC (d':=104) (B:=o3) rfl rfl rfl) (fun hB=>by simp only [uE (v:=_) (h:=hB)]; exact RB rfl rfl) (VA (B:=o3) (v:=.bool ((((decide ((0:Int)<rk) && decide ((0:Int)≤o.k)) && decide ((o.k:Int)<rk)) || decide ((o.k:Int)=(0:Int))))) (BA (d':=88) (B:=true) rfl rfl rfl) (fun hB=>sF (B:=o3) hB rfl rfl rfl) (sq (OB (B:=true) rfl rfl rfl rfl) ?_)))))
    refine go 1 ?_
    refine VA (B:=((o3 && (((decide ((0:Int)<rk) && decide ((0:Int)≤o.k)) && decide ((o.k:Int)<rk)) || decide ((o.k:Int)=(0:Int)))))) (v:=.pointer (some ⟨c0,4,none⟩)) (BA (d':=110) (B:=true) rfl rfl rfl) (fun hB=>vA (off':=4) vF (by decide) (b:=c0) (off:=0) rfl om) (VA (B:=((o3 && (((decide ((0:Int)<rk) && decide ((0:Int)≤o.k)) && decide ((o.k:Int)<rk)) || decide ((o.k:Int)=(0:Int)))))) (v:=.bool (r.1.c)) (BA (d':=110) (B:=true) rfl rfl rfl) (fun hB=>by simp only [uE (v:=_) (h:=hB)]; exact FA (v:=.bool (r.1.c)) vF (b0.get (k:=4) rfl) (off:=4) rfl (by rfl)) (VA (B:=((o3 && (((decide ((0:Int)<rk) && decide ((0:Int)≤o.k)) && decide ((o.k:Int)<rk)) || decide ((o.k:Int)=(0:Int)))))) (v:=.bool (r.1.c)) (BA (d':=110) (B:=true) rfl rfl rfl) (fun hB=>by simp only [uE (v:=_) (h:=hB)]; exact NA (v:=.bool (r.1.c)) rfl) (VA (B:=(((o3 && (((decide ((0:Int)<rk) && decide ((0:Int)≤o.k)) && decide ((o.k:Int)<rk)) || decide ((o.k:Int)=(0:Int))))) && (!r.1.c))) (v:=.pointer (some ⟨a0,4,none⟩)) (gC (d':=113) (B:=((o3 && (((decide ((0:Int)<rk) && decide ((0:Int)≤o.k)) && decide ((o.k:Int)<rk)) || decide ((o.k:Int)=(0:Int)))))) rfl rfl rfl) (fun hB=>vA (off':=4) vF (by decide) (b:=a0) (off:=0) rfl om) (VA (B:=(((o3 && (((decide ((0:Int)<rk) && decide ((0:Int)≤o.k)) && decide ((o.k:Int)<rk)) || decide ((o.k:Int)=(0:Int))))) && (!r.1.c))) (v:=u64 (o.c)) (gC (d':=113) (B:=((o3 && (((decide ((0:Int)<rk) && decide ((0:Int)≤o.k)) && decide ((o.k:Int)<rk)) || decide ((o.k:Int)=(0:Int)))))) rfl rfl rfl) (fun hB=>by simp only [uE (v:=_) (h:=hB)]; exact FA (v:=u64 (o.c)) vF (b0.get (k:=3) rfl) (off:=4) rfl (by rfl)) (VA (B:=(((o3 && (((decide ((0:Int)<rk) && decide ((0:Int)≤o.k)) && decide ((o.k:Int)<rk)) || decide ((o.k:Int)=(0:Int))))) && (!r.1.c))) (v:=.bool (decide (o.c=(0#64)))) (gC (d':=113) (B:=((o3 && (((decide ((0:Int)<rk) && decide ((0:Int)≤o.k)) && decide ((o.k:Int)<rk)) || decide ((o.k:Int)=(0:Int)))))) rfl rfl rfl) (fun hB=>by simp only [uE (v:=_) (h:=hB)]; exact NJ (a:=o.c) (b:=0#64) rfl rfl) (VA (B:=((o3 && (((decide ((0:Int)<rk) && decide ((0:Int)≤o.k)) && decide ((o.k:Int)<rk)) || decide ((o.k:Int)=(0:Int)))))) (v:=.bool ((r.1.c || decide (o.c=(0#64))))) (BA (d':=110) (B:=true) rfl rfl rfl) (fun hB=>sF (B:=((o3 && (((decide ((0:Int)<rk) && decide ((0:Int)≤o.k)) && decide ((o.k:Int)<rk)) || decide ((o.k:Int)=(0:Int)))))) hB rfl rfl rfl) (sq (OB (B:=true) rfl rfl rfl rfl) ?_)))))))
    refine go 1 ?_
    refine VA (B:=(((o3 && (((decide ((0:Int)<rk) && decide ((0:Int)≤o.k)) && decide ((o.k:Int)<rk)) || decide ((o.k:Int)=(0:Int)))) && (r.1.c || decide (o.c=(0#64)))))) (v:=.pointer (some ⟨c0,5,none⟩)) (BA (d':=119) (B:=true) rfl rfl rfl) (fun hB=>vA (off':=5) vF (by decide) (b:=c0) (off:=0) rfl om) (VA (B:=(((o3 && (((decide ((0:Int)<rk) && decide ((0:Int)≤o.k)) && decide ((o.k:Int)<rk)) || decide ((o.k:Int)=(0:Int)))) && (r.1.c || decide (o.c=(0#64)))))) (v:=.bool (r.1.p)) (BA (d':=119) (B:=true) rfl rfl rfl) (fun hB=>by simp only [uE (v:=_) (h:=hB)]; exact FA (v:=.bool (r.1.p)) vF (b0.get (k:=4) rfl) (off:=5) rfl (by rfl)) (VA (B:=(((o3 && (((decide ((0:Int)<rk) && decide ((0:Int)≤o.k)) && decide ((o.k:Int)<rk)) || decide ((o.k:Int)=(0:Int)))) && (r.1.c || decide (o.c=(0#64)))))) (v:=.bool (r.1.p)) (BA (d':=119) (B:=true) rfl rfl rfl) (fun hB=>by simp only [uE (v:=_) (h:=hB)]; exact NA (v:=.bool (r.1.p)) rfl) (VA (B:=((((o3 && (((decide ((0:Int)<rk) && decide ((0:Int)≤o.k)) && decide ((o.k:Int)<rk)) || decide ((o.k:Int)=(0:Int)))) && (r.1.c || decide (o.c=(0#64))))) && r.1.p)) (v:=.pointer (some ⟨a0,5,none⟩)) (BA (d':=122) (B:=(((o3 && (((decide ((0:Int)<rk) && decide ((0:Int)≤o.k)) && decide ((o.k:Int)<rk)) || decide ((o.k:Int)=(0:Int)))) && (r.1.c || decide (o.c=(0#64)))))) rfl rfl rfl) (fun hB=>vA (off':=5) vF (by decide) (b:=a0) (off:=0) rfl om) (VA (B:=((((o3 && (((decide ((0:Int)<rk) && decide ((0:Int)≤o.k)) && decide ((o.k:Int)<rk)) || decide ((o.k:Int)=(0:Int)))) && (r.1.c || decide (o.c=(0#64))))) && r.1.p)) (v:=i64 (o.pt)) (BA (d':=122) (B:=(((o3 && (((decide ((0:Int)<rk) && decide ((0:Int)≤o.k)) && decide ((o.k:Int)<rk)) || decide ((o.k:Int)=(0:Int)))) && (r.1.c || decide (o.c=(0#64)))))) rfl rfl rfl) (fun hB=>by simp only [uE (v:=_) (h:=hB)]; exact FA (v:=i64 (o.pt)) vF (b0.get (k:=3) rfl) (off:=5) rfl (by rfl)) (VA (B:=((((o3 && (((decide ((0:Int)<rk) && decide ((0:Int)≤o.k)) && decide ((o.k:Int)<rk)) || decide ((o.k:Int)=(0:Int)))) && (r.1.c || decide (o.c=(0#64))))) && r.1.p)) (v:=.bool (decide ((o.pt:Int)=(0:Int)))) (BA (d':=122) (B:=(((o3 && (((decide ((0:Int)<rk) && decide ((0:Int)≤o.k)) && decide ((o.k:Int)<rk)) || decide ((o.k:Int)=(0:Int)))) && (r.1.c || decide (o.c=(0#64)))))) rfl rfl rfl) (fun hB=>by simp only [uE (v:=_) (h:=hB)]; exact RB rfl rfl) (VA (B:=((((o3 && (((decide ((0:Int)<rk) && decide ((0:Int)≤o.k)) && decide ((o.k:Int)<rk)) || decide ((o.k:Int)=(0:Int)))) && (r.1.c || decide (o.c=(0#64))))) && r.1.p)) (v:=.bool (decide ((o.pt:Int)=(0:Int)))) (BA (d':=122) (B:=(((o3 && (((decide ((0:Int)<rk) && decide ((0:Int)≤o.k)) && decide ((o.k:Int)<rk)) || decide ((o.k:Int)=(0:Int)))) && (r.1.c || decide (o.c=(0#64)))))) rfl rfl rfl) (fun hB=>by simp only [uE (v:=_) (h:=hB)]; exact NA (v:=.bool (decide ((o.pt:Int)=(0:Int)))) rfl) (VA (B:=(((((o3 && (((decide ((0:Int)<rk) && decide ((0:Int)≤o.k)) && decide ((o.k:Int)<rk)) || decide ((o.k:Int)=(0:Int)))) && (r.1.c || decide (o.c=(0#64))))) && r.1.p) && (!(decide ((o.pt:Int)=(0:Int)))))) (v:=.pointer (some ⟨a0,5,none⟩)) (gC (d':=126) (B:=((((o3 && (((decide ((0:Int)<rk) && decide ((0:Int)≤o.k)) && decide ((o.k:Int)<rk)) || decide ((o.k:Int)=(0:Int)))) && (r.1.c || decide (o.c=(0#64))))) && r.1.p)) rfl rfl rfl) (fun hB=>vA (off':=5) vF (by decide) (b:=a0) (off:=0) rfl om) (VA (B:=(((((o3 && (((decide ((0:Int)<rk) && decide ((0:Int)≤o.k)) && decide ((o.k:Int)<rk)) || decide ((o.k:Int)=(0:Int)))) && (r.1.c || decide (o.c=(0#64))))) && r.1.p) && (!(decide ((o.pt:Int)=(0:Int)))))) (v:=i64 (o.pt)) (gC (d':=126) (B:=((((o3 && (((decide ((0:Int)<rk) && decide ((0:Int)≤o.k)) && decide ((o.k:Int)<rk)) || decide ((o.k:Int)=(0:Int)))) && (r.1.c || decide (o.c=(0#64))))) && r.1.p)) rfl rfl rfl) (fun hB=>by simp only [uE (v:=_) (h:=hB)]; exact FA (v:=i64 (o.pt)) vF (b0.get (k:=3) rfl) (off:=5) rfl (by rfl)) (VA (B:=(((((o3 && (((decide ((0:Int)<rk) && decide ((0:Int)≤o.k)) && decide ((o.k:Int)<rk)) || decide ((o.k:Int)=(0:Int)))) && (r.1.c || decide (o.c=(0#64))))) && r.1.p) && (!(decide ((o.pt:Int)=(0:Int)))))) (v:=.bool (decide ((o.pt:Int)=(1:Int)))) (gC (d':=126) (B:=((((o3 && (((decide ((0:Int)<rk) && decide ((0:Int)≤o.k)) && decide ((o.k:Int)<rk)) || decide ((o.k:Int)=(0:Int)))) && (r.1.c || decide (o.c=(0#64))))) && r.1.p)) rfl rfl rfl) (fun hB=>by simp only [uE (v:=_) (h:=hB)]; exact RB rfl rfl) (VA (B:=((((o3 && (((decide ((0:Int)<rk) && decide ((0:Int)≤o.k)) && decide ((o.k:Int)<rk)) || decide ((o.k:Int)=(0:Int)))) && (r.1.c || decide (o.c=(0#64))))) && r.1.p)) (v:=.bool ((decide ((o.pt:Int)=(0:Int)) || decide ((o.pt:Int)=(1:Int))))) (BA (d':=122) (B:=(((o3 && (((decide ((0:Int)<rk) && decide ((0:Int)≤o.k)) && decide ((o.k:Int)<rk)) || decide ((o.k:Int)=(0:Int)))) && (r.1.c || decide (o.c=(0#64)))))) rfl rfl rfl) (fun hB=>sF (B:=((((o3 && (((decide ((0:Int)<rk) && decide ((0:Int)≤o.k)) && decide ((o.k:Int)<rk)) || decide ((o.k:Int)=(0:Int)))) && (r.1.c || decide (o.c=(0#64))))) && r.1.p)) hB rfl rfl rfl) (VA (B:=(((o3 && (((decide ((0:Int)<rk) && decide ((0:Int)≤o.k)) && decide ((o.k:Int)<rk)) || decide ((o.k:Int)=(0:Int)))) && (r.1.c || decide (o.c=(0#64)))))) (v:=.bool ((r.1.p && (decide ((o.pt:Int)=(0:Int)) || decide ((o.pt:Int)=(1:Int)))))) (BA (d':=119) (B:=true) rfl rfl rfl) (fun hB=>OB (B:=(((o3 && (((decide ((0:Int)<rk) && decide ((0:Int)≤o.k)) && decide ((o.k:Int)<rk)) || decide ((o.k:Int)=(0:Int)))) && (r.1.c || decide (o.c=(0#64)))))) hB rfl rfl rfl) (VA (B:=(((o3 && (((decide ((0:Int)<rk) && decide ((0:Int)≤o.k)) && decide ((o.k:Int)<rk)) || decide ((o.k:Int)=(0:Int)))) && (r.1.c || decide (o.c=(0#64)))))) (v:=.bool ((r.1.p && (decide ((o.pt:Int)=(0:Int)) || decide ((o.pt:Int)=(1:Int)))))) (BA (d':=119) (B:=true) rfl rfl rfl) (fun hB=>by simp only [uE (v:=_) (h:=hB)]; exact NA (v:=.bool ((r.1.p && (decide ((o.pt:Int)=(0:Int)) || decide ((o.pt:Int)=(1:Int)))))) rfl) (VA (B:=((((o3 && (((decide ((0:Int)<rk) && decide ((0:Int)≤o.k)) && decide ((o.k:Int)<rk)) || decide ((o.k:Int)=(0:Int)))) && (r.1.c || decide (o.c=(0#64))))) && (!(r.1.p && (decide ((o.pt:Int)=(0:Int)) || decide ((o.pt:Int)=(1:Int))))))) (v:=.pointer (some ⟨a0,5,none⟩)) (gC (d':=132) (B:=(((o3 && (((decide ((0:Int)<rk) && decide ((0:Int)≤o.k)) && decide ((o.k:Int)<rk)) || decide ((o.k:Int)=(0:Int)))) && (r.1.c || decide (o.c=(0#64)))))) rfl rfl rfl) (fun hB=>vA (off':=5) vF (by decide) (b:=a0) (off:=0) rfl om) (VA (B:=((((o3 && (((decide ((0:Int)<rk) && decide ((0:Int)≤o.k)) && decide ((o.k:Int)<rk)) || decide ((o.k:Int)=(0:Int)))) && (r.1.c || decide (o.c=(0#64))))) && (!(r.1.p && (decide ((o.pt:Int)=(0:Int)) || decide ((o.pt:Int)=(1:Int))))))) (v:=i64 (o.pt)) (gC (d':=132) (B:=(((o3 && (((decide ((0:Int)<rk) && decide ((0:Int)≤o.k)) && decide ((o.k:Int)<rk)) || decide ((o.k:Int)=(0:Int)))) && (r.1.c || decide (o.c=(0#64)))))) rfl rfl rfl) (fun hB=>by simp only [uE (v:=_) (h:=hB)]; exact FA (v:=i64 (o.pt)) vF (b0.get (k:=3) rfl) (off:=5) rfl (by rfl)) ?_))))))))))))))
    refine VA (B:=((((o3 && (((decide ((0:Int)<rk) && decide ((0:Int)≤o.k)) && decide ((o.k:Int)<rk)) || decide ((o.k:Int)=(0:Int)))) && (r.1.c || decide (o.c=(0#64))))) && (!(r.1.p && (decide ((o.pt:Int)=(0:Int)) || decide ((o.pt:Int)=(1:Int))))))) (v:=.bool (decide ((o.pt:Int)=(0:Int)))) (gC (d':=132) (B:=(((o3 && (((decide ((0:Int)<rk) && decide ((0:Int)≤o.k)) && decide ((o.k:Int)<rk)) || decide ((o.k:Int)=(0:Int)))) && (r.1.c || decide (o.c=(0#64)))))) rfl rfl rfl) (fun hB=>by simp only [uE (v:=_) (h:=hB)]; exact RB rfl rfl) (VA (B:=(((o3 && (((decide ((0:Int)<rk) && decide ((0:Int)≤o.k)) && decide ((o.k:Int)<rk)) || decide ((o.k:Int)=(0:Int)))) && (r.1.c || decide (o.c=(0#64)))))) (v:=.bool (((r.1.p && (decide ((o.pt:Int)=(0:Int)) || decide ((o.pt:Int)=(1:Int)))) || decide ((o.pt:Int)=(0:Int))))) (BA (d':=119) (B:=true) rfl rfl rfl) (fun hB=>sF (B:=(((o3 && (((decide ((0:Int)<rk) && decide ((0:Int)≤o.k)) && decide ((o.k:Int)<rk)) || decide ((o.k:Int)=(0:Int)))) && (r.1.c || decide (o.c=(0#64)))))) hB rfl rfl rfl) (sq (OB (B:=true) rfl rfl rfl rfl) ?_))
    refine go 1 ?_
    obtain ⟨o4,ho4⟩:∃ q:Bool,q=(((o3 && (((decide ((0:Int)<rk) && decide ((0:Int)≤o.k)) && decide ((o.k:Int)<rk)) || decide ((o.k:Int)=(0:Int)))) && (r.1.c || decide (o.c=(0#64)))) && ((r.1.p && (decide ((o.pt:Int)=(0:Int)) || decide ((o.pt:Int)=(1:Int)))) || decide ((o.pt:Int)=(0:Int)))):=⟨_,rfl⟩
    rw [← ho4]
    rw [ho3] at ho4
    have hgb:o4=true↔GoodAt ops e0 e1 i o:=by rw [ho4]; exact NW hr hrk hob
    have hsn2:GoodAt ops e0 e1 i o→JI ops sl2 (i+1):=fun h=>hsn2 (hob.2 ⟨hr ▸ h.ok,h.told⟩)
    refine go 2 ?_
    refine FD (!o4) rfl (fun n0=>?_) (fun n0=>?_)
    ·have hgo2:o4=false:=by simpa using n0
     refine go 2 ?_
     have:=b0.lT 2
     have:=b0.lT 3
     have:=b0.lT 4
     refine cl (cB (110:Int) (i:Nat) ({data:=#[111,112]}) N0 gE) ?_
     rintro v53 D1 ⟨r0,P0⟩
     have Q0:=b0.ext P0
     obtain ⟨E1,F1,rfl⟩:=r0.iface
     refine go 2 ?_
     exact ⟨_,rfl,.inr ⟨_,rfl,r0.mono b0.chg.size,fun h=>absurd ((hgb.2 (by have h2:=h i om; rw [← ho] at h2; exact h2)).symm.trans hgo2) (by decide)⟩,Q0.chg⟩
    ·have hgo2:o4=true:=by simpa using n0
     have hgo:=hgb.1 hgo2
     refine go 3 ?_
     refine bS (E:=EI) (l:=[r.1.m]) fun G1 H1 I1 J1 K1=>?_
     refine aH ?_
     refine ⟨by exact (SD ops i).symm,by rfl,om,?_⟩
     intro R0 h0 S0 L1 T0 M1 U0
     have V0:(TD ops i)++([r.1.m])=TD ops (i+1):=by rw [TD,← ho,← rule_m o e0 e1,← hr]
     have u0:=T0
     have w0:=U0
     rw [V0] at u0 w0
     refine go 3 ?_
     exact ⟨(i+1,R0,h0,S0,sl2),_,rfl,kp,⟨⟨om,fun j hj=>if h:j<i then hga j h else by (rw [show j=i by omega,← ho]; exact hgo),hsl2,hsn2 (hgb.1 hgo2),u0,hSs2⟩,(((w0.dropk 5).dropk 4).dropk 0)⟩,vd⟩
   ·refine go 1 ?_
    refine cl (qM o J0) ?_
    rintro _ N1 ⟨rfl,W0⟩
    have X0:=q0.ext W0
    refine go 0 ?_
    refine lA (iG o) rfl (fun d0=>?_) (fun d0=>?_)
    ·refine go 3 ?_
     intro O1 i0 P1
     refine go 2 ?_
     refine VA (B:=r.2) (v:=.pointer y1) (BA (d':=46) (B:=true) rfl rfl rfl) (fun hB=>vA (off':=3) vF (by decide) (b:=a0) (off:=0) rfl om) (VA (B:=r.2) (v:=i64 (o.k)) (BA (d':=46) (B:=true) rfl rfl rfl) (fun hB=>by simp only [uE (v:=_) (h:=hB)]; exact FA (v:=i64 (o.k)) vF (i0.get (k:=1) rfl) (off:=3) rfl (by rfl)) (VA (B:=r.2) (v:=.bool (decide ((0:Int)≤o.k))) (BA (d':=46) (B:=true) rfl rfl rfl) (fun hB=>by simp only [uE (v:=_) (h:=hB)]; exact ZI rfl rfl) (sq (OB (B:=true) rfl rfl rfl rfl) ?_)))
     refine go 1 ?_
     refine VA (B:=((r.2 && decide ((0:Int)≤o.k)))) (v:=.pointer y1) (BA (d':=51) (B:=true) rfl rfl rfl) (fun hB=>vA (off':=3) vF (by decide) (b:=a0) (off:=0) rfl om) (VA (B:=((r.2 && decide ((0:Int)≤o.k)))) (v:=i64 (o.k)) (BA (d':=51) (B:=true) rfl rfl rfl) (fun hB=>by simp only [uE (v:=_) (h:=hB)]; exact FA (v:=i64 (o.k)) vF (i0.get (k:=1) rfl) (off:=3) rfl (by rfl)) (VA (B:=((r.2 && decide ((0:Int)≤o.k)))) (v:=iN (OA ops)) (BA (d':=51) (B:=true) rfl rfl rfl) (fun hB=>NA (v:=iN (OA ops)) rfl) (VA (B:=((r.2 && decide ((0:Int)≤o.k)))) (v:=.bool (decide ((o.k:Int)<((OA ops):Nat)))) (BA (d':=51) (B:=true) rfl rfl rfl) (fun hB=>by simp only [uE (v:=_) (h:=hB)]; exact bD rfl rfl) (sq (OB (B:=true) rfl rfl rfl rfl) ?_))))
     refine go 1 ?_
     refine VA (B:=(((r.2 && decide ((0:Int)≤o.k)) && decide ((o.k:Int)<((OA ops):Nat))))) (v:=sO (some f0) (OA ops) (OA ops)) (BA (d':=57) (B:=true) rfl rfl rfl) (fun hB=>NA (v:=sO (some f0) (OA ops) (OA ops)) rfl) (VA (B:=(((r.2 && decide ((0:Int)≤o.k)) && decide ((o.k:Int)<((OA ops):Nat))))) (v:=.pointer y1) (BA (d':=57) (B:=true) rfl rfl rfl) (fun hB=>vA (off':=3) vF (by decide) (b:=a0) (off:=0) rfl om) (VA (B:=(((r.2 && decide ((0:Int)≤o.k)) && decide ((o.k:Int)<((OA ops):Nat))))) (v:=i64 (o.k)) (BA (d':=57) (B:=true) rfl rfl rfl) (fun hB=>by simp only [uE (v:=_) (h:=hB)]; exact FA (v:=i64 (o.k)) vF (i0.get (k:=1) rfl) (off:=3) rfl (by rfl)) (VA (B:=(((r.2 && decide ((0:Int)≤o.k)) && decide ((o.k:Int)<((OA ops):Nat))))) (v:=.pointer (LD (CA (some f0)) (o.k.toNat*1))) (BA (d':=57) (B:=true) rfl rfl rfl) (fun hB=>by have hB2:=hB; simp only [Bool.and_eq_true,decide_eq_true_eq] at hB2; simp only [uE (v:=_) (h:=hB)]; exact OF (E:=EI) (l:=sl) (j:=o.k.toNat) vF (i0.rd (k:=3) rfl hSs) rfl rfl om (by exact hsl.symm) om) (VA (B:=(((r.2 && decide ((0:Int)≤o.k)) && decide ((o.k:Int)<((OA ops):Nat))))) (v:=i64 (sl.getD o.k.toNat 0)) (BA (d':=57) (B:=true) rfl rfl rfl) (fun hB=>by have hB2:=hB; simp only [Bool.and_eq_true,decide_eq_true_eq] at hB2; simp only [uE (v:=_) (h:=hB)]; exact lG (E:=EI) (l:=sl) (j:=o.k.toNat) (v:=sl.getD o.k.toNat 0) xE (i0.rd (k:=3) rfl hSs) rfl rfl (rB om)) (VA (B:=(((r.2 && decide ((0:Int)≤o.k)) && decide ((o.k:Int)<((OA ops):Nat))))) (v:=.bool (decide ((sl.getD o.k.toNat 0:Int)=(0:Int)))) (BA (d':=57) (B:=true) rfl rfl rfl) (fun hB=>by simp only [uE (v:=_) (h:=hB)]; exact RB rfl rfl) (sq (OB (B:=true) rfl rfl rfl rfl) ?_))))))
     refine go 2 ?_
     refine FD ((((r.2 && decide ((0:Int)≤o.k)) && decide ((o.k:Int)<((OA ops):Nat))) && decide ((sl.getD o.k.toNat 0:Int)=(0:Int)))) rfl (fun h0=>?_) (fun h0=>?_)
     ·have hkt:=((PH hsn d0).1 h0).2 d0
      unfold VR at hkt
      refine go 5 ?_
      intro Q1 Y0 Z0
      exact mH (AB (k0 (sl.set o.k.toNat (1:Int),((OA ops):Nat),(((r.2 && decide ((0:Int)≤o.k)) && decide ((o.k:Int)<((OA ops):Nat))) && decide ((sl.getD o.k.toNat 0:Int)=(0:Int)))) _ _ kp ⟨⟨by rw [yP,if_pos d0],PH hsn d0,by rw [List.length_set]; exact hsl,fun _=>by have h:=(PH hsn d0).1 h0; have h2:=h.2 d0; exact NU ho hsn hsl d0 ⟨h2.1,h2.2.1⟩,Y0⟩,(Z0.pk 5 [2,3,4,1,0])⟩))
     ·exact LF (AB (k0 (sl,((OA ops):Nat),(((r.2 && decide ((0:Int)≤o.k)) && decide ((o.k:Int)<((OA ops):Nat))) && decide ((sl.getD o.k.toNat 0:Int)=(0:Int)))) _ _ kp ⟨⟨by rw [yP,if_pos d0],PH hsn d0,hsl,fun h=>absurd (h0.symm.trans h) (by decide),hSs⟩,(i0.pk 5 [2,3,4,1,0])⟩))
    ·exact LF (AB (k0 (sl,r.1.k,r.2) _ _ kp ⟨⟨by rw [yP,if_neg d0,← hr],⟨fun h=>⟨h,fun t=>absurd t d0⟩,fun h=>h.1⟩,hsl,fun _=>zS ho hsn d0,hSs⟩,(X0.pk 5 [2,3,4,1,0])⟩))
  ·have hie:i=ops.length:=by omega
   refine go 3 ?_
   exact ⟨_,rfl,.inl ⟨⟨_,rfl⟩,fun j hj=>hga j om⟩,F0.chg⟩
end Go.Proofs.YtljlkhobfdofhaaGreatDoor.Mi
namespace Go.Proofs.YtljlkhobfdofhaaGreatDoor.Mi
open Go Vc Er Ek Circ
theorem und32:Tryz.prog.underlying 32=some (.array 2 3):=by kernel_rfl
theorem fT (ops:List Mo) (oa:Option Addr) (oc:Nat) (e0 e1:Int) (w:World) (hG:Gl w) (hO:Rd cH w oa ops) (hol:ops.length≤140737488355328):Ca 47 [.slice oa ops.length oc,.agg (xA EI [e0,e1]).toArray] w fun v w'=>((v=.nilIface∧Good ops e0 e1)∨(Er w.heap.size w' 110 1 v∧¬ Good ops e0 e1))∧Ext w w':=by
 have H:=eA No w
 refine enter (n:=37) Tryz.func47 rfl rfl (vB rfl) ?_
 refine go 1 ?_
 intro b1 w2 w0 H3 x0
 refine go 3 ?_
 refine DA (σ:=Nat) (fun q=>[(0,.slice oa ops.length oc),(3,pT b1),(4,.nilIface),(9,.agg (xA EI ([e0,e1])).toArray),(10,iN q)]) (fun q w'=>(q≤2∧∀ j,j<q→0≤[e0,e1].getD j 0∧[e0,e1].getD j 0≤65536)∧Hp No w w' [(rX b1 EI ([e0,e1]) 32)]) (fun q=>2-q) (0) ?_ ?_ ?_
 ·exact kp
 ·exact ⟨⟨Nat.zero_le _,fun j h=>absurd h (Nat.not_lt_zero _)⟩,H3⟩
 rintro q ρ w5 ⟨⟨hq,hqa⟩,HL⟩
 refine go 1 ?_
 refine lA (((q:Nat):Int)<(2:Int)) rfl (fun j0=>?_) (fun j0=>?_)
 ·refine go 0 ?_
  refine sq (nV (E:=EI) (l:=[e0,e1]) (j:=q) (a:=([e0,e1]).getD q 0) rfl vF vF vF rfl rfl vo om (by exact rB (by show q<2; omega)) (fun _=>rfl)) ?_
  refine go 4 ?_
  by_cases g7:(([e0,e1]).getD q 0:Int)<(0:Int)
  ·refine uB (oA (d':=15) (b:=true) rfl rfl (bT (g7))) (uB (oA (d':=15) (b:=true) rfl rfl (bT (g7))) (sq (fD (u:=.bool true) (bT (g7)) rfl) ?_))
   refine go 2 ?_
   have:=HL.lT 0
   refine cl (cB (110:Int) (([e0,e1]).getD q 0) ({data:=#[101,108,101,109,101,110,116,115]}) w5 gE) ?_
   rintro v10 w8 ⟨b0,k0⟩
   have m0:=HL.ext k0
   obtain ⟨y0,z0,rfl⟩:=b0.iface
   refine go 1 ?_
   exact ⟨_,rfl,.inr ⟨b0.mono HL.chg.size,fun h=>by
    have hgd:0≤[e0,e1].getD q 0∧[e0,e1].getD q 0≤65536:=by
     rcases (show q=0∨q=1 by omega) with rfl | rfl
     ·exact ⟨h.l0,h.h0⟩
     ·exact ⟨h.l1,h.h1⟩
    omega⟩,m0.chg⟩
  ·refine ZA (v:=i64 (([e0,e1]).getD q 0)) (w':=w5) (oA (d':=15) (b:=false) rfl rfl (bF (g7))) (NA (v:=i64 (([e0,e1]).getD q 0)) rfl) (ZA (v:=.bool (decide (((65536:Int):Int)<(([e0,e1]).getD q 0)))) (w':=w5) (oA (d':=15) (b:=false) rfl rfl (bF (g7))) (iE rfl rfl) (sq (gD (v:=.bool (decide (((65536:Int):Int)<(([e0,e1]).getD q 0)))) (bF (g7)) rfl) ?_))
   refine go 0 ?_
   refine lA (((65536:Int):Int)<(([e0,e1]).getD q 0)) rfl (fun n0=>?_) (fun n0=>?_)
   ·refine go 2 ?_
    have:=HL.lT 0
    refine cl (cB (110:Int) (([e0,e1]).getD q 0) ({data:=#[101,108,101,109,101,110,116,115]}) w5 gE) ?_
    rintro v18 A0 ⟨c0,o0⟩
    have p0:=HL.ext o0
    obtain ⟨B0,C0,rfl⟩:=c0.iface
    refine go 1 ?_
    exact ⟨_,rfl,.inr ⟨c0.mono HL.chg.size,fun h=>by
     have hgd:0≤[e0,e1].getD q 0∧[e0,e1].getD q 0≤65536:=by
      rcases (show q=0∨q=1 by omega) with rfl | rfl
      ·exact ⟨h.l0,h.h0⟩
      ·exact ⟨h.l1,h.h1⟩
     omega⟩,p0.chg⟩
   ·refine go 2 ?_
    exact ⟨q+1,_,rfl,kp,⟨⟨om,fun j hj=>if h:j<q then hqa j h else by (rw [show j=q by omega]; omega)⟩,HL⟩,vd⟩
 ·have hz0:0≤e0∧e0≤65536:=hqa 0 om
  have hz1:0≤e1∧e1≤65536:=hqa 1 om
  refine go 3 ?_
  refine lA (((16384:Int):Int)<(ops.length:Nat)) rfl (fun q0=>?_) (fun q0=>?_)
  ·refine go 3 ?_
   have:=HL.lT 0
   refine cl (cB (110:Int) (ops.length:Nat) ({data:=#[111,112,115]}) w5 gE) ?_
   rintro v26 D0 ⟨d0,r0⟩
   have u0:=HL.ext r0
   obtain ⟨E0,F0,rfl⟩:=d0.iface
   refine go 1 ?_
   exact ⟨_,rfl,.inr ⟨d0.mono HL.chg.size,fun h=>by have:=h.len; omega⟩,u0.chg⟩
  ·refine go 2 ?_
   have:=HL.lT 0
   refine cl (SW ops oa oc e0 e1 w5 gE VD om) ?_
   rintro _ G0 ⟨⟨⟨H0,rfl⟩,hga35⟩ | ⟨I0,rfl,f0,hbd38⟩,i0⟩
   ·have a0:=HL.ext i0
    refine go 7 ?_
    exact ⟨_,rfl,.inl ⟨rfl,⟨hz0.1,hz0.2,hz1.1,hz1.2,by omega,hga35⟩⟩,a0.chg⟩
   ·have a0:=HL.ext i0
    obtain ⟨J0,K0,rfl⟩:=f0.iface
    refine go 7 ?_
    exact ⟨_,rfl,.inr ⟨f0.mono HL.chg.size,fun h=>hbd38 h.at'⟩,a0.chg⟩
theorem UF (ops:List Mo) (oa:Option Addr) (oc:Nat) (e0 e1:Int) (mo:Nat) (hmo:mo=ops.length) (w:World) (hG:Gl w) (hO:Rd cH w oa ops) (hol:ops.length≤140737488355328) (hg:Good ops e0 e1):Ca 47 [.slice oa mo oc,.agg (xA EI [e0,e1]).toArray] w fun v w'=>v=.nilIface∧Ext w w':=by
 subst hmo
 refine (fT ops oa oc e0 e1 w hG hO hol).mono fun e w' ⟨v,he,h,hE⟩=>?_
 rcases h with ⟨h,_⟩ | ⟨_,h⟩
 ·exact ⟨v,he,h,hE⟩
 ·exact absurd hg h
end Go.Proofs.YtljlkhobfdofhaaGreatDoor.Mi
namespace Go.Proofs.YtljlkhobfdofhaaGreatDoor.Mi
open Go Vc Er Ek Circ
theorem JL (ops:List Mo) (oa:Option Addr) (oc:Nat) (w:World) (hG:Gl w) (hO:Rd cH w oa ops) (hol:ops.length≤140737488355328) (hg:Good ops 65536 65536):Ca 83 [.slice oa ops.length oc] w fun v w'=>SlRes EI 3 (SE ops ops.length) w v w'∧Ext w w':=by
 let x1:Array Value:=#[i64 0,i64 0,i64 0,i64 0,.bool false,.bool false,i64 0]
 have hlen:=hg.len
 have H:=eA No w
 refine enter (n:=52) Tryz.func83 rfl rfl (vB rfl) ?_
 refine go 2 ?_
 refine cl (DH w) ?_
 rintro _ w1 ⟨rfl,C0⟩
 have H3:=H.ext C0
 refine cl (UF ops oa oc 65536 65536 ops.length (by rfl) w1 gE VD om hg) ?_
 rintro _ w4 ⟨rfl,D0⟩
 have H6:=H3.ext D0
 refine sq ((iF vF rfl rfl).as (v':=.bool false) (by rfl)) ?_
 refine go 4 ?_
 have H7:=H6.nil (wA EI 3 [] [])
 refine go 0 ?_
 refine DA (σ:=Nat × Option Nat × Nat × LV) (fun (i,kf,cf,sf)=>[(2,RA),(3,sO kf i cf),(13,.slice oa ops.length oc),(14,iN ops.length),(15,iN i)]) (fun (i,kf,cf,sf) w'=>(i≤ops.length∧Sl EI kf (SE ops i) cf sf)∧Hp No w w' [(kf,wA EI 3 (SE ops i) sf)]) (fun (i,kf,cf,sf)=>ops.length-i) ((0,none,0,[])) ?_ ?_ ?_
 ·exact kp
 ·exact ⟨⟨Nat.zero_le _,Sl.none⟩,H7⟩
 rintro ⟨i,kf,cf,sf⟩ ρ w8 ⟨⟨hq,hSf⟩,HL⟩
 have hfl:=GD ops i
 have hrb0:=DK ops i
 refine go 1 ?_
 refine lA (((i:Nat):Int)<(ops.length:Nat)) rfl (fun E0=>?_) (fun E0=>?_)
 ·refine go 3 ?_
  intro F0 F1 G1 H1 I1
  refine go 1 ?_
  intro J1 m0 K1
  obtain ⟨o,ho⟩:∃ q1,q1=ops.getD i UA:=⟨_,rfl⟩
  rw [← ho] at m0 ⊢
  refine go 0 ?_
  let b0:List RW:=[(rC F0 #[i64 (o.kd),i64 (o.a),i64 (o.b),i64 (o.k),u64 (o.c),i64 (o.pt)] 105),(kf,wA EI 3 (SE ops i) sf)]
  let G0:PD:=[EH false false false false fun _ _ _ _ w'=>Hp No w w' b0,EH true false false false fun v1 _ _ _ w'=>v1=.agg (xA EI [65536,65536]).toArray∧Hp No w w' b0,EH true true false false fun v1 v2 _ _ w'=>v1=.agg (xA EI [65536,65536]).toArray∧v2=.tuple #[.agg #[i64 ((zA o 65536 65536).1.a),i64 ((zA o 65536 65536).1.b),i64 ((zA o 65536 65536).1.m),i64 ((zA o 65536 65536).1.k),.bool ((zA o 65536 65536).1.c),.bool ((zA o 65536 65536).1.p),i64 ((zA o 65536 65536).1.r)],.bool ((zA o 65536 65536).2)]∧Hp No w w' b0,EH false false true false fun _ _ v6 _ w'=>∃ d0,v6=pT d0∧Hp No w w' ((rC d0 x1 329)::b0),EH true false true false fun v1 _ v6 _ w'=>∃ e0,v1=.agg (xA EI [65536,65536]).toArray∧v6=pT e0∧Hp No w w' ((rC e0 x1 329)::b0),EH true true true false fun v1 v2 v6 _ w'=>∃ a0,v1=.agg (xA EI [65536,65536]).toArray∧v2=.tuple #[.agg #[i64 ((zA o 65536 65536).1.a),i64 ((zA o 65536 65536).1.b),i64 ((zA o 65536 65536).1.m),i64 ((zA o 65536 65536).1.k),.bool ((zA o 65536 65536).1.c),.bool ((zA o 65536 65536).1.p),i64 ((zA o 65536 65536).1.r)],.bool ((zA o 65536 65536).2)]∧v6=pT a0∧Hp No w w' ((rC a0 x1 329)::b0),EH true true true true fun v1 v2 v6 _ w'=>∃ a0,v1=.agg (xA EI [65536,65536]).toArray∧v2=.tuple #[.agg #[i64 ((zA o 65536 65536).1.a),i64 ((zA o 65536 65536).1.b),i64 ((zA o 65536 65536).1.m),i64 ((zA o 65536 65536).1.k),.bool ((zA o 65536 65536).1.c),.bool ((zA o 65536 65536).1.p),i64 ((zA o 65536 65536).1.r)],.bool ((zA o 65536 65536).2)]∧v6=pT a0∧Hp No w w' ((rC a0 #[i64 ((zA o 65536 65536).1.a),i64 ((zA o 65536 65536).1.b),i64 ((zA o 65536 65536).1.m),i64 ((zA o 65536 65536).1.k),.bool ((zA o 65536 65536).1.c),.bool ((zA o 65536 65536).1.p),i64 ((zA o 65536 65536).1.r)] 329)::b0)]
  refine mB (m:=9) [0,0,3,7,15,15,0,95,255] [1,2,6,7] b0 G0 JA (fun _ e=>m0.ext e) zE (fun f0=>?_)
  refine gk 1 ?_
  refine WalkT.eff f0 0 ?_ ?_
  ·refine tB (fun r w0 uw hF hE=>?_) fun r w0 uw hF hE=>?_
   ·have H0:=hF.ext hE
    refine gW fun Q' hK=>(cl (DH uw) ?_)
    rintro _ L1 ⟨rfl,I0⟩
    have J0:=H0.ext I0
    exact hK _ _ (A_ rfl J0)
   ·obtain ⟨d0,e6,i0⟩:=hF
    replace i0:=i0.ext hE
    refine gW fun Q' hK=>(cl (DH uw) ?_)
    rintro _ M1 ⟨rfl,K0⟩
    have L0:=i0.ext K0
    exact hK _ _ (E_ d0 (A_ rfl (A_ e6 L0)))
  refine WalkT.eff f0 1 ?_ ?_
  ·refine tB (fun r w0 uw hF hE=>?_) fun r w0 uw hF hE=>?_
   ·obtain ⟨e1,j0⟩:=hF
    replace j0:=j0.ext hE
    dsimp only
    rw [e1]
    refine gW fun Q' hK=>(cl (yM o 65536 65536 uw gE) ?_)
    rintro _ N1 ⟨rfl,M0⟩
    have N0:=j0.ext M0
    exact hK _ _ (A_ e1 (A_ rfl N0))
   ·obtain ⟨e0,e1,e6,k0⟩:=hF
    replace k0:=k0.ext hE
    dsimp only
    rw [e1]
    refine gW fun Q' hK=>(cl (yM o 65536 65536 uw gE) ?_)
    rintro _ O1 ⟨rfl,O0⟩
    have P0:=k0.ext O0
    exact hK _ _ (E_ e0 (A_ e1 (A_ rfl (A_ e6 P0))))
  refine bA (fun r=>r 2) (fun r r' h=>h 2 (by decide) rfl) (fun _ _=>NA rfl) (aA (fun r=>tF (r 2) 0) (fun r r' h=>by rw [h 2 (by decide) rfl]) ?_ ?_)
  ·refine tB (fun r w0 uw hF hE=>?_) fun r w0 uw hF hE=>?_
   ·obtain ⟨e1,e2,HH⟩:=hF
    replace HH:=HH.ext hE
    dsimp only
    rw [e2]
    exact nH
   ·obtain ⟨a0,e1,e2,e6,HH⟩:=hF
    replace HH:=HH.ext hE
    dsimp only
    rw [e2]
    exact nH
  refine aA (fun r=>tF (r 2) 1) (fun r r' h=>by rw [h 2 (by decide) rfl]) ?_ ?_
  ·refine A_ (fun r w0 uw hF hE=>?_) (A_ (fun r w0 uw hF hE=>?_) (A_ (fun r w0 uw hF hE=>?_) trivial))
   ·obtain ⟨e1,e2,HH⟩:=hF
    replace HH:=HH.ext hE
    dsimp only
    rw [e2]
    exact nH
   ·obtain ⟨a0,e1,e2,e6,HH⟩:=hF
    replace HH:=HH.ext hE
    dsimp only
    rw [e2]
    exact nH
   ·obtain ⟨a0,e1,e2,e6,HH⟩:=hF
    replace HH:=HH.ext hE
    dsimp only
    rw [e2]
    exact nH
  refine WalkT.eff f0 2 ?_ ?_
  ·refine A_ (fun r w0 uw hF hE=>?_) (A_ (fun r w0 uw hF hE=>?_) (A_ (fun r w0 uw hF hE=>?_) trivial))
   ·have P1:=hF.ext hE
    refine gW fun Q' hK=>?_
    refine go 1 ?_
    intro Q0 Q1 R1 R0 S1
    exact hK _ _ (E_ Q0 (A_ rfl R0))
   ·obtain ⟨e1,n0⟩:=hF
    replace n0:=n0.ext hE
    refine gW fun Q' hK=>?_
    refine go 1 ?_
    intro S0 T1 U1 T0 V1
    exact hK _ _ (E_ S0 (A_ e1 (A_ rfl T0)))
   ·obtain ⟨e1,e2,o0⟩:=hF
    replace o0:=o0.ext hE
    refine gW fun Q' hK=>?_
    refine go 1 ?_
    intro U0 W1 Y1 V0 Z1
    exact hK _ _ (E_ U0 (A_ e1 (A_ e2 (A_ rfl V0))))
  refine WalkT.eff f0 3 ?_ ?_
  ·refine tA fun r w0 uw hF hE=>?_
   obtain ⟨a0,e1,e2,e6,p0⟩:=hF
   replace p0:=p0.ext hE
   dsimp only
   rw [e2,e6]
   refine PE fun Q' hK=>?_
   refine go 1 ?_
   intro c2 W0 d2
   exact hK _ (fun _=>(E_ a0 (A_ e1 (A_ e2 (A_ e6 W0)))))
  refine bA (fun r=>tF (r 2) 1) (fun r r' h=>by rw [h 2 (by decide) rfl]) (fun _ _=>MA rfl) (WalkT.nil fun r w0 f2 hF hE=>?_)
  obtain ⟨a0,e1,e2,e6,h0⟩:=hF
  replace h0:=h0.ext hE
  dsimp only
  rw [e1,e2,e6]
  dsimp only [b0] at h0
  obtain ⟨r,hr⟩:∃ q1,q1=zA o 65536 65536:=⟨_,rfl⟩
  rw [← hr] at h0 ⊢
  have hgo:=hg.at' i om
  rw [← ho] at hgo
  have hwa:=hgo.a
  have hwb:=hgo.b
  rw [← hr] at hwa hwb
  unfold pK at hwa hwb
  refine go 4 ?_
  refine lA ((r.1.a:Int)≠(0:Int)) rfl (fun l0=>?_) (fun l0=>?_)
  ·have hra:r.1.a≠0:=by simpa using l0
   rw [if_neg hra] at hwa
   refine go 9 ?_
   refine lA ((r.1.b:Int)≠(0:Int)) rfl (fun c0=>?_) (fun c0=>?_)
   ·have hrb:r.1.b≠0:=by simpa using c0
    rw [if_neg hrb] at hwb
    refine go 12 ?_
    refine sq (iC rfl rfl (by have h1:=hrb0.2 o.a.toNat; have h2:=hrb0.2 o.b.toNat; have h3:=AK o 65536 65536; rw [← hr] at h3; omega)) (bS (E:=EI) (l:=[(max ((SE ops i).getD o.a.toNat 0) ((SE ops i).getD o.b.toNat 0))+r.1.r]) fun g2 i2 j2 k2 l2=>?_)
    refine aH ?_
    refine ⟨by exact (GD ops i).symm,by rfl,om,?_⟩
    intro X0 Y0 Z0 m2 c1 n2 d1
    have g1:(SE ops i)++([(max ((SE ops i).getD o.a.toNat 0) ((SE ops i).getD o.b.toNat 0))+r.1.r])=SE ops (i+1):=by rw [SE,← ho,← hr,gG,if_neg hrb,if_neg hra]
    have q0:=c1
    have r0:=d1
    rw [g1] at q0 r0
    refine go 3 ?_
    exact ⟨(i+1,X0,Y0,Z0),_,rfl,kp,⟨⟨om,q0⟩,(((r0.dropk 2).dropk 1).dropk 0)⟩,vd⟩
   ·have hrb:r.1.b=0:=by simpa using c0
    rw [if_pos hrb] at hwb
    refine go 4 ?_
    refine sq (iC rfl rfl (by have h1:=hrb0.2 o.a.toNat; have h2:=hrb0.2 o.b.toNat; have h3:=AK o 65536 65536; rw [← hr] at h3; omega)) (bS (E:=EI) (l:=[((SE ops i).getD o.a.toNat 0)+r.1.r]) fun o2 p2 q2 r2 t2=>?_)
    refine aH ?_
    refine ⟨by exact (GD ops i).symm,by rfl,om,?_⟩
    intro i1 j1 k1 u2 l1 w2 m1
    have n1:(SE ops i)++([((SE ops i).getD o.a.toNat 0)+r.1.r])=SE ops (i+1):=by rw [SE,← ho,← hr,gG,if_pos hrb,if_neg hra]
    have u0:=l1
    have x0:=m1
    rw [n1] at u0 x0
    refine go 3 ?_
    exact ⟨(i+1,i1,j1,k1),_,rfl,kp,⟨⟨om,u0⟩,(((x0.dropk 2).dropk 1).dropk 0)⟩,vd⟩
  ·have hra:r.1.a=0:=by simpa using l0
   rw [if_pos hra] at hwa
   refine go 3 ?_
   refine lA ((r.1.b:Int)≠(0:Int)) rfl (fun c0=>?_) (fun c0=>?_)
   ·have hrb:r.1.b≠0:=by simpa using c0
    rw [if_neg hrb] at hwb
    refine go 12 ?_
    refine sq (iC rfl rfl (by have h1:=hrb0.2 o.a.toNat; have h2:=hrb0.2 o.b.toNat; have h3:=AK o 65536 65536; rw [← hr] at h3; omega)) (bS (E:=EI) (l:=[(max (0:Int) ((SE ops i).getD o.b.toNat 0))+r.1.r]) fun x2 y2 z2 A2 C2=>?_)
    refine aH ?_
    refine ⟨by exact (GD ops i).symm,by rfl,om,?_⟩
    intro o1 p1 r1 D2 t1 E2 u1
    have y1:(SE ops i)++([(max (0:Int) ((SE ops i).getD o.b.toNat 0))+r.1.r])=SE ops (i+1):=by rw [SE,← ho,← hr,gG,if_neg hrb,if_pos hra]
    have y0:=t1
    have z0:=u1
    rw [y1] at y0 z0
    refine go 3 ?_
    exact ⟨(i+1,o1,p1,r1),_,rfl,kp,⟨⟨om,y0⟩,(((z0.dropk 2).dropk 1).dropk 0)⟩,vd⟩
   ·have hrb:r.1.b=0:=by simpa using c0
    rw [if_pos hrb] at hwb
    refine go 4 ?_
    refine sq (iC rfl rfl (by have h1:=hrb0.2 o.a.toNat; have h2:=hrb0.2 o.b.toNat; have h3:=AK o 65536 65536; rw [← hr] at h3; omega)) (bS (E:=EI) (l:=[(0:Int)+r.1.r]) fun F2 G2 H2 I2 J2=>?_)
    refine aH ?_
    refine ⟨by exact (GD ops i).symm,by rfl,om,?_⟩
    intro z1 A1 B1 K2 C1 L2 D1
    have E1:(SE ops i)++([(0:Int)+r.1.r])=SE ops (i+1):=by rw [SE,← ho,← hr,gG,if_pos hrb,if_pos hra]
    have A0:=C1
    have B0:=D1
    rw [E1] at A0 B0
    refine go 3 ?_
    exact ⟨(i+1,z1,A1,B1),_,rfl,kp,⟨⟨om,A0⟩,(((B0.dropk 2).dropk 1).dropk 0)⟩,vd⟩
 ·have hie:i=ops.length:=by omega
  subst hie
  refine go 2 ?_
  exact ⟨_,rfl,HL.resN (k:=0) rfl hSf (GD _ _).symm,HL.chg⟩
end Go.Proofs.YtljlkhobfdofhaaGreatDoor.Mi
namespace Go.Proofs.YtljlkhobfdofhaaGreatDoor.Mi
open Go Vc Er Ek Circ
theorem rQ:SA Tryz.prog 218=true:=by kernel_rfl
theorem call85:rA Tryz.prog 85=true:=by kernel_rfl
theorem ZK:mC Tryz.prog 218 0=some (0,1,3):=by kernel_rfl
theorem RX (n:Int) (gs:List Gt) (ol:List Int) (ga oa:Option Addr) (gc oc mg mo:Nat) (hmg:mg=gs.length) (hmo:mo=ol.length) (w:World) (hGs:Rd EG w ga gs) (hgl:gs.length≤140737488355328):Ca 86 [.agg #[i64 n,.slice ga mg gc,.slice oa mo oc]] w fun v w'=>v=iN (FB gs gs.length)∧Ext w w':=by
 subst hmg hmo; exact RR n gs ol ga oa gc oc w hGs hgl
theorem cR (ops:List Mo) (oa:Option Addr) (oc:Nat) (w:World) (hG:Gl w) (hO:Rd cH w oa ops) (hol:ops.length≤140737488355328) (hg:Good ops 65536 65536):Ca 43 [.slice oa ops.length oc] w fun v w'=>v=.agg #[iN (nA ops),iN (nB ops),iN (nO ops),iN (nI ops),iN (NM ops),i64 (nR ops),iN (nW0 ops),iN (nW1 ops)]∧Ext w w':=by
 let x1:Array Value:=#[i64 0,i64 0,i64 0,i64 0,i64 0,i64 0,i64 0,i64 0]
 have hlen:=hg.len
 have H:=eA No w
 refine enter (n:=166) Tryz.func43 rfl rfl (vB rfl) ?_
 refine go 1 ?_
 intro b1 w2 D1 H3 E1
 refine go 1 ?_
 intro b5 w6 F1 H7 G1
 refine go 1 ?_
 refine cl (JL ops oa oc w6 gE VD om hg) ?_
 rintro _ w9 ⟨⟨j0,q0,r0,rfl,H1,u0⟩,x0⟩
 rw [show (SE ops ops.length).length=ops.length from GD _ _]
 have y0:=H7.add x0 u0
 refine go 2 ?_
 refine DA (σ:=Nat) (fun i=>[(0,.slice oa ops.length oc),(2,pT b1),(3,pT b5),(13,sO j0 ops.length q0),(14,iN ops.length),(15,iN i)]) (fun i w'=>i≤ops.length∧Hp No w w' [(rC b5 #[i64 0,i64 0,i64 0,i64 0,i64 0,i64 (dW (SE ops ops.length) i),i64 0,i64 0] 35),(rC b1 x1 35),(j0,wA EI 3 (SE ops ops.length) r0)]) (fun i=>ops.length-i) (0) ?_ ?_ ?_
 ·exact kp
 ·exact ⟨Nat.zero_le _,(y0.pk 3 [1,2,0])⟩
 rintro i ρ z0 ⟨hq,HL⟩
 have hrl:=GD ops ops.length
 have hmx:=cW ops ops.length i
 have hrb:=DK ops ops.length
 refine go 1 ?_
 refine lA (((i:Nat):Int)<(ops.length:Nat)) rfl (fun A0=>?_) (fun A0=>?_)
 ·refine go 9 ?_
  intro I1 B0 J1
  refine go 2 ?_
  exact ⟨i+1,_,rfl,kp,⟨om,B0⟩,vd⟩
 ·have hie:i=ops.length:=by omega
  rw [hie,show dW (SE ops ops.length) ops.length=nR ops from rfl] at HL
  refine go 1 ?_
  refine cl (DH z0) ?_
  rintro _ C0 ⟨rfl,D0⟩
  have E0:=HL.ext D0
  refine cl (UF ops oa oc 65536 65536 ops.length (by rfl) C0 gE VD om hg) ?_
  rintro _ K1 ⟨rfl,F0⟩
  have G0:=E0.ext F0
  refine sq ((iF vF rfl rfl).as (v':=.bool false) (by rfl)) ?_
  refine go 4 ?_
  refine DA (σ:=Nat) (fun i=>[(2,pT b1),(3,pT b5),(6,iN (uA fG ops i)),(30,.slice oa ops.length oc),(31,iN ops.length),(32,iN i)]) (fun i w'=>i≤ops.length∧Hp No w w' [(rC b5 #[iN (uA fA ops i),iN (uA fB ops i),iN (uA fO ops i),iN (uA uG ops i),iN (uA HG ops i),i64 (nR ops),iN (uA IH ops i),iN (uA xJ ops i)] 35),(rC b1 x1 35)]) (fun i=>ops.length-i) (0) ?_ ?_ ?_
  ·exact kp
  ·exact ⟨Nat.zero_le _,(G0.dropk 2)⟩
  rintro i ρ L1 ⟨hq2,M1⟩
  obtain ⟨hcA,hcB,hcO,hcT0,hcT1,hcW0,hcW1,hcG⟩:=KR ops i
  refine go 1 ?_
  refine lA (((i:Nat):Int)<(ops.length:Nat)) rfl (fun H0=>?_) (fun H0=>?_)
  ·refine go 3 ?_
   intro I0 N1 O1 P1 Q1
   refine go 1 ?_
   intro J0 a0 R1
   obtain ⟨o,ho⟩:∃ q1,q1=ops.getD i UA:=⟨_,rfl⟩
   let x5:Value:=i64 (((uA uG ops i):Nat)+((256*wB o):Nat))
   let x4:Value:=iN (uA xJ ops i)
   let x3:Value:=iN (uA fB ops i)
   let x2:Value:=iN (uA fA ops i)
   rw [← ho] at a0 ⊢
   have hgo:=hg.at' i om
   rw [← ho] at hgo
   have hog:=LK o
   have hag:=SR o
   refine go 4 ?_
   refine lA ((o.kd:Int)=(1:Int)) rfl (fun k1=>?_) (fun k1=>?_)
   ·by_cases hp:o.pt=0
    ·refine go 3 ?_
     refine sq (LA (off':=3) (j:=0) vF (b:=b5) (off:=3) rfl rfl vo om om) (sq (FA (v:=iN (uA uG ops i)) vF (a0.get (k:=1) rfl) (off:=3) rfl (by rfl)) ?_)
     refine go 2 ?_
     refine sq (LA (off':=3) (j:=0) vF (b:=b5) (off:=3) rfl rfl vo om om) (GA (k:=1) (v:=i64 (((uA uG ops i):Nat)+(1:Int))) (cs':=#[x2,x3,iN (uA fO ops i),i64 (((uA uG ops i):Nat)+(1:Int)),iN (uA HG ops i),i64 (nR ops),iN (uA IH ops i),x4]) a0 rfl rfl rfl vF (by rfl) (by exact EI.one _) (by exact vB rfl) (by rfl) fun S1 K0 U1=>?_)
     have k0:=K0.a3 rfl
     refine go 3 ?_
     refine sq (LA (off':=6) (j:=0) vF (b:=b5) (off:=6) rfl rfl vo om om) (sq (FA (v:=iN (uA IH ops i)) vF (k0.get (k:=1) rfl) (off:=6) rfl (by rfl)) ?_)
     refine go 2 ?_
     refine sq (LA (off':=6) (j:=0) vF (b:=b5) (off:=6) rfl rfl vo om om) (GA (k:=1) (v:=i64 (((uA IH ops i):Nat)+(1:Int))) (cs':=#[x2,x3,iN (uA fO ops i),i64 (((uA uG ops i):Nat)+(1:Int)),iN (uA HG ops i),i64 (nR ops),i64 (((uA IH ops i):Nat)+(1:Int)),x4]) k0 rfl rfl rfl vF (by rfl) (by exact EI.one _) (by exact vB rfl) (by rfl) fun V1 L0 Y1=>?_)
     have M0:=L0.a3 rfl
     refine go 2 ?_
     have hi:=inc1a k1 hp
     have N0:=((M0.dropk 0)).as (L':=[(rC b5 #[iN (uA fA ops (i+1)),iN (uA fB ops (i+1)),iN (uA fO ops (i+1)),iN (uA uG ops (i+1)),iN (uA HG ops (i+1)),i64 (nR ops),iN (uA IH ops (i+1)),iN (uA xJ ops (i+1))] 35),(rC b1 #[i64 0,i64 0,i64 0,i64 0,i64 0,i64 0,i64 0,i64 0] 35)]) (by rw [sA ho hi.A,sA ho hi.B,sA ho hi.O,sA ho hi.T0,sA ho hi.T1,sA ho hi.W0,sA ho hi.W1]<;>rfl)
     exact ⟨i+1,_,rfl,⟨rfl,rfl,congrArg (fun q:Nat=>i64 (q:Int)) (sA ho hi.G).symm,rfl,rfl,rfl,trivial⟩,⟨om,N0⟩,vd⟩
    ·refine go 0 ?_
     have hp1:o.pt=1:=by have:=hgo.p; omega
     refine go 3 ?_
     refine sq (LA (off':=4) (j:=1) vF (b:=b5) (off:=3) rfl rfl vo om om) (sq (FA (v:=iN (uA HG ops i)) vF (a0.get (k:=1) rfl) (off:=4) rfl (by rfl)) ?_)
     refine go 2 ?_
     refine sq (LA (off':=4) (j:=1) vF (b:=b5) (off:=3) rfl rfl vo om om) (GA (k:=1) (v:=i64 (((uA HG ops i):Nat)+(1:Int))) (cs':=#[x2,x3,iN (uA fO ops i),iN (uA uG ops i),i64 (((uA HG ops i):Nat)+(1:Int)),i64 (nR ops),iN (uA IH ops i),x4]) a0 rfl rfl rfl vF (by rfl) (by exact EI.one _) (by exact vB rfl) (by rfl) fun Z1 O0 c2=>?_)
     have l0:=O0.a3 rfl
     refine go 3 ?_
     refine sq (LA (off':=7) (j:=1) vF (b:=b5) (off:=6) rfl rfl vo om om) (sq (FA (v:=iN (uA xJ ops i)) vF (l0.get (k:=1) rfl) (off:=7) rfl (by rfl)) ?_)
     refine go 2 ?_
     refine sq (LA (off':=7) (j:=1) vF (b:=b5) (off:=6) rfl rfl vo om om) (GA (k:=1) (v:=i64 (((uA xJ ops i):Nat)+(1:Int))) (cs':=#[x2,x3,iN (uA fO ops i),iN (uA uG ops i),i64 (((uA HG ops i):Nat)+(1:Int)),i64 (nR ops),iN (uA IH ops i),i64 (((uA xJ ops i):Nat)+(1:Int))]) l0 rfl rfl rfl vF (by rfl) (by exact EI.one _) (by exact vB rfl) (by rfl) fun d2 P0 e2=>?_)
     have Q0:=P0.a3 rfl
     refine go 2 ?_
     have hi:=inc1b k1 hp1
     have R0:=((Q0.dropk 0)).as (L':=[(rC b5 #[iN (uA fA ops (i+1)),iN (uA fB ops (i+1)),iN (uA fO ops (i+1)),iN (uA uG ops (i+1)),iN (uA HG ops (i+1)),i64 (nR ops),iN (uA IH ops (i+1)),iN (uA xJ ops (i+1))] 35),(rC b1 #[i64 0,i64 0,i64 0,i64 0,i64 0,i64 0,i64 0,i64 0] 35)]) (by rw [sA ho hi.A,sA ho hi.B,sA ho hi.O,sA ho hi.T0,sA ho hi.T1,sA ho hi.W0,sA ho hi.W1]<;>rfl)
     exact ⟨i+1,_,rfl,⟨rfl,rfl,congrArg (fun q:Nat=>i64 (q:Int)) (sA ho hi.G).symm,rfl,rfl,rfl,trivial⟩,⟨om,R0⟩,vd⟩
   ·refine go 2 ?_
    refine lA ((o.kd:Int)=(6:Int)) rfl (fun k6=>?_) (fun k6=>?_)
    ·refine go 5 ?_
     intro f2 g2 h2
     refine go 7 ?_
     intro i2 j2 k2
     refine go 7 ?_
     intro l2 S0 m2
     refine go 2 ?_
     have hi:=inc6 k6
     have U0:=((S0.dropk 0)).as (L':=[(rC b5 #[iN (uA fA ops (i+1)),iN (uA fB ops (i+1)),iN (uA fO ops (i+1)),iN (uA uG ops (i+1)),iN (uA HG ops (i+1)),i64 (nR ops),iN (uA IH ops (i+1)),iN (uA xJ ops (i+1))] 35),(rC b1 #[i64 0,i64 0,i64 0,i64 0,i64 0,i64 0,i64 0,i64 0] 35)]) (by rw [sA ho hi.A,sA ho hi.B,sA ho hi.O,sA ho hi.T0,sA ho hi.T1,sA ho hi.W0,sA ho hi.W1]<;>rfl)
     exact ⟨i+1,_,rfl,⟨rfl,rfl,congrArg (fun q:Nat=>i64 (q:Int)) (sA ho hi.G).symm,rfl,rfl,rfl,trivial⟩,⟨om,U0⟩,vd⟩
    ·refine go 2 ?_
     refine lA ((o.kd:Int)=(9:Int)) rfl (fun k9=>?_) (fun k9=>?_)
     ·refine go 5 ?_
      intro n2 o2 p2
      refine go 7 ?_
      intro q2 r2 t2
      refine go 7 ?_
      intro u2 V0 y2
      refine go 2 ?_
      have hi:=inc9 k9
      have X0:=((V0.dropk 0)).as (L':=[(rC b5 #[iN (uA fA ops (i+1)),iN (uA fB ops (i+1)),iN (uA fO ops (i+1)),iN (uA uG ops (i+1)),iN (uA HG ops (i+1)),i64 (nR ops),iN (uA IH ops (i+1)),iN (uA xJ ops (i+1))] 35),(rC b1 #[i64 0,i64 0,i64 0,i64 0,i64 0,i64 0,i64 0,i64 0] 35)]) (by rw [sA ho hi.A,sA ho hi.B,sA ho hi.O,sA ho hi.T0,sA ho hi.T1,sA ho hi.W0,sA ho hi.W1]<;>rfl)
      exact ⟨i+1,_,rfl,⟨rfl,rfl,congrArg (fun q:Nat=>i64 (q:Int)) (sA ho hi.G).symm,rfl,rfl,rfl,trivial⟩,⟨om,X0⟩,vd⟩
     ·refine go 2 ?_
      refine lA ((o.kd:Int)=(18:Int)) rfl (fun c0=>?_) (fun c0=>?_)
      ·refine go 0 ?_
       refine ZC (bT (c0)) ?_
       refine go 7 ?_
       intro z2 A2 C2
       refine go 7 ?_
       intro D2 Y0 E2
       refine go 2 ?_
       have hi:=incT (.inl c0)
       have Z0:=((Y0.dropk 0)).as (L':=[(rC b5 #[iN (uA fA ops (i+1)),iN (uA fB ops (i+1)),iN (uA fO ops (i+1)),iN (uA uG ops (i+1)),iN (uA HG ops (i+1)),i64 (nR ops),iN (uA IH ops (i+1)),iN (uA xJ ops (i+1))] 35),(rC b1 #[i64 0,i64 0,i64 0,i64 0,i64 0,i64 0,i64 0,i64 0] 35)]) (by rw [sA ho hi.A,sA ho hi.B,sA ho hi.O,sA ho hi.T0,sA ho hi.T1,sA ho hi.W0,sA ho hi.W1]<;>rfl)
       exact ⟨i+1,_,rfl,⟨rfl,rfl,congrArg (fun q:Nat=>i64 (q:Int)) (sA ho hi.G).symm,rfl,rfl,rfl,trivial⟩,⟨om,Z0⟩,vd⟩
      ·refine go 2 ?_
       refine lA ((o.kd:Int)=(19:Int)) rfl (fun e0=>?_) (fun e0=>?_)
       ·refine go 7 ?_
        intro F2 G2 H2
        refine go 7 ?_
        intro I2 c1 J2
        refine go 2 ?_
        have hi:=incT (.inr e0)
        have d1:=((c1.dropk 0)).as (L':=[(rC b5 #[iN (uA fA ops (i+1)),iN (uA fB ops (i+1)),iN (uA fO ops (i+1)),iN (uA uG ops (i+1)),iN (uA HG ops (i+1)),i64 (nR ops),iN (uA IH ops (i+1)),iN (uA xJ ops (i+1))] 35),(rC b1 #[i64 0,i64 0,i64 0,i64 0,i64 0,i64 0,i64 0,i64 0] 35)]) (by rw [sA ho hi.A,sA ho hi.B,sA ho hi.O,sA ho hi.T0,sA ho hi.T1,sA ho hi.W0,sA ho hi.W1]<;>rfl)
        exact ⟨i+1,_,rfl,⟨rfl,rfl,congrArg (fun q:Nat=>i64 (q:Int)) (sA ho hi.G).symm,rfl,rfl,rfl,trivial⟩,⟨om,d1⟩,vd⟩
       ·refine go 2 ?_
        refine lA ((o.kd:Int)=(17:Int)) rfl (fun d0=>?_) (fun d0=>?_)
        ·refine go 4 ?_
         refine cl (QK o (aN d0 hgo.ok).1 J0) ?_
         rintro _ K2 ⟨f0,m0,e1,h0,rfl,L2,g1⟩
         have M2:=(a0.join g1).a5 rfl
         refine go 4 ?_
         intro h1 N2 O2 P2 Q2
         refine go 1 ?_
         intro i1 j1 R2
         refine go 2 ?_
         refine cl (jI o i1) ?_
         rintro _ S2 ⟨rfl,l1⟩
         have T2:=j1.ext l1
         refine go 7 ?_
         refine sq ((AC rfl rfl om).as (v':=iN (64*wB o)) (by rfl)) (sq ((iC rfl rfl om).as (v':=iN (uA fO ops i+64*wB o)) (by rfl)) ?_)
         refine go 2 ?_
         intro U2 V2 Y2
         refine go 5 ?_
         refine sq ((AC rfl rfl om).as (v':=iN (256*wB o)) (by exact congrArg i64 om)) ?_
         refine go 4 ?_
         intro Z2 m1 c3
         refine go 0 ?_
         have n1:=(m1.pk 6 [4,0,1,2,3,5])
         let b0:List RW:=[(rC h1 #[iN (128*wB o),sO f0 ((TA o).1.length) m0,.slice (some ⟨h0,0,none⟩) 64 64] 218),(f0,wA EG 345 ((TA o).1) e1),(rX h0 EI ((TA o).2) 336),(rC I0 #[i64 (o.kd),i64 (o.a),i64 (o.b),i64 (o.k),u64 (o.c),i64 (o.pt)] 105),(rC b1 x1 35)]
         let n0:=((rC b5 #[x2,x3,iN (uA fO ops i+64*wB o),x5,iN (uA HG ops i),i64 (nR ops),iN (uA IH ops i),x4] 35):RW)
         let o1:PD:=[JF false false fun _ _ w'=>Hp No w w' (n0::b0),JF true false fun v6 _ w'=>v6=iN (sL o)∧Hp No w w' (n0::b0),JF true true fun v6 _ w'=>v6=iN (sL o)∧Hp No w w' ((rC b5 #[x2,x3,iN (uA fO ops i+64*wB o),x5,iN (uA HG ops i),i64 (nR ops),i64 (((uA IH ops i):Nat)+((2*(192*wB o+2*sL o)):Nat)),x4] 35)::b0)]
         refine mB (m:=14) [0,1,3,0,8,0,32,96,248,504,1023,0,4095,8191] [6,13] b0 o1 JA (fun _ e=>n1.ext e) zE (fun o0=>?_)
         refine gk 6 ?_
         refine WalkT.eff o0 0 ?_ ?_
         ·refine tA fun r w0 uw hF hE=>?_
          have p1:=hF.ext hE
          refine gW fun Q' hK=>(cl (RX ((128*wB o):Nat) (TA o).1 (TA o).2 (CA f0) (some ⟨h0,0,none⟩) m0 64 ((TA o).1.length) 64 (by rfl) (by exact (VF _).symm) uw VD (by have:=iJ o; omega)) ?_)
          rintro _ d3 ⟨rfl,r1⟩
          have t1:=p1.ext r1
          exact hK _ _ (A_ rfl t1)
         refine aA (fun _=>i64 ((2:Int)*(sL o:Nat))) (fun _ _ _=>rfl) ?_ ?_
         ·refine tA fun r w0 uw hF hE=>?_
          obtain ⟨e6,HH⟩:=hF
          replace HH:=HH.ext hE
          dsimp only
          rw [e6]
          exact nH
         refine gk 1 ?_
         refine JC (iN (2*(192*wB o+2*sL o))) (fun _ uw hcx=>(AC rfl rfl om).as (v':=iN (2*(192*wB o+2*sL o))) (by rfl)) ?_
         refine gk 3 ?_
         refine WalkT.eff o0 1 ?_ ?_
         ·refine tA fun r w0 uw hF hE=>?_
          obtain ⟨e6,p0⟩:=hF
          replace p0:=p0.ext hE
          refine PE fun Q' hK=>?_
          refine go 1 ?_
          intro e3 u1 f3
          exact hK _ (fun _=>(A_ e6 u1))
         refine WalkT.nil fun r w0 g3 hF hE=>?_
         obtain ⟨e6,i0⟩:=hF
         replace i0:=i0.ext hE
         dsimp only
         rw [e6]
         dsimp only [b0] at i0
         refine go 8 ?_
         intro h3 w1 i3
         refine go 2 ?_
         have hi:=inc17 d0
         have y1:=(((((w1.dropk 4).dropk 3).dropk 2).dropk 1)).as (L':=[(rC b5 #[iN (uA fA ops (i+1)),iN (uA fB ops (i+1)),iN (uA fO ops (i+1)),iN (uA uG ops (i+1)),iN (uA HG ops (i+1)),i64 (nR ops),iN (uA IH ops (i+1)),iN (uA xJ ops (i+1))] 35),(rC b1 #[i64 0,i64 0,i64 0,i64 0,i64 0,i64 0,i64 0,i64 0] 35)]) (by rw [sA ho hi.A,sA ho hi.B,sA ho hi.O,sA ho hi.T0,sA ho hi.T1,sA ho hi.W0,sA ho hi.W1]<;>rfl)
         exact ⟨i+1,_,rfl,⟨rfl,rfl,congrArg (fun q:Nat=>i64 (q:Int)) (sA ho hi.G).symm,rfl,rfl,rfl,trivial⟩,⟨om,y1⟩,vd⟩
        ·refine go 2 ?_
         have hi:=inc0 k1 k6 k9 c0 e0 d0
         have z1:=((a0.dropk 0)).as (L':=[(rC b5 #[iN (uA fA ops (i+1)),iN (uA fB ops (i+1)),iN (uA fO ops (i+1)),iN (uA uG ops (i+1)),iN (uA HG ops (i+1)),i64 (nR ops),iN (uA IH ops (i+1)),iN (uA xJ ops (i+1))] 35),(rC b1 #[i64 0,i64 0,i64 0,i64 0,i64 0,i64 0,i64 0,i64 0] 35)]) (by rw [sA ho hi.A,sA ho hi.B,sA ho hi.O,sA ho hi.T0,sA ho hi.T1,sA ho hi.W0,sA ho hi.W1]<;>rfl)
         exact ⟨i+1,_,rfl,⟨rfl,rfl,congrArg (fun q:Nat=>i64 (q:Int)) (sA ho hi.G).symm,rfl,rfl,rfl,trivial⟩,⟨om,z1⟩,vd⟩
  ·have hie:i=ops.length:=by omega
   subst hie
   refine go 2 ?_
   refine lA ((0:Int)<((uA fG ops ops.length):Nat)) rfl (fun A1=>?_) (fun A1=>?_)
   ·refine go 7 ?_
    intro j3 k3 l3
    refine go 2 ?_
    intro m3 B1 n3
    refine go 0 ?_
    have hd:nI ops=uA uG ops ops.length+2:=by unfold nI dlt; rw [if_pos om]
    exact ⟨_,rfl,by rw [hd]<;>rfl,B1.chg⟩
   ·refine go 2 ?_
    intro o3 C1 p3
    refine go 0 ?_
    have hd:nI ops=uA uG ops ops.length+0:=by unfold nI dlt; rw [if_neg om]
    exact ⟨_,rfl,by rw [hd]<;>rfl,C1.chg⟩
end Go.Proofs.YtljlkhobfdofhaaGreatDoor.Mi
namespace Go.Proofs.YtljlkhobfdofhaaGreatDoor.Rv
open Go Vc Mi
theorem pg_eq:pg=Tryz.prog:=rfl
attribute [local irreducible] pg
theorem QL {f:FuncId} {xs:LV} {w:World} {S:Value→World→Prop} (ht:tst fm f=true) (hb:∃ fn c,pg.funcs[f]?=some fn∧fn.body=some c) (h:Calls Tryz.prog f xs.toArray w (tQ S)):Out pg S ((callFunc f xs.toArray).run pg w):=by
 obtain ⟨fn,c,hf,hb⟩:=hb
 have hng:=bR ht hf
 have hcf:(callFunc f xs.toArray).run pg w=.ok (.enter f xs.toArray) w:=by
  unfold callFunc
  show (match pg.funcs[f]? with
   | none=>stuck "call: no such function"
   | some fn=>_:Sem Next).run pg w=_
  rw [hf]
  simp only [hng,hb,Option.isNone_some]
  rfl
 rw [hcf]
 rw [← pg_eq] at h
 exact h
noncomputable def cT (l:List AV):Option Mo:=match l with
 | [.int .i64 kd,.int .i64 a,.int .i64 b,.int .i64 k,.int .u64 c,.int .i64 p]=>mA (bW c) fun m=>KA (Nat.blt m 18446744073709551616) (some ⟨kd,a,b,k,BitVec.ofNat 64 m,p⟩) none
 | _=>none
noncomputable def VL (g:List (List AV)):Option (List Mo):=List.rec (some []) (fun l _ ih=>mA (cT l) fun o=>mA ih fun r=>some (o::r)) g
theorem NZ {K:Kp} {β:Mp} {l:List AV} {o:Mo} {us:LV} (h:cT l=some o) (H:IVs K l β us):us=[i64 o.kd,i64 o.a,i64 o.b,i64 o.k,u64 o.c,i64 o.pt]:=by
 unfold cT at h
 split at h
 ·obtain ⟨m,h1,h⟩:=gA h
  obtain ⟨h2,h⟩:=AA h
  cases h
  have h3:=GJ h2
  rename_i c p _
  have hc:c=(m:Int):=by
   cases c with
   | ofNat q=>cases h1; rfl
   | negSucc q=>cases h1
  subst hc
  simp only [IVs,IV] at H
  obtain ⟨u1,r1,rfl,rfl,_,u2,r2,rfl,rfl,_,u3,r3,rfl,rfl,_,u4,r4,rfl,rfl,_,u5,r5,rfl,rfl,_,u6,r6,rfl,rfl,_,rfl⟩:=H
  have:u64 (BitVec.ofNat 64 m)=.int .u64 (m:Int):=by
   unfold u64; congr 1; rw [BitVec.toNat_ofNat]; congr 1; omega
  simp only [i64,this]
 ·cases h
theorem gO {K:Kp} {β:Mp}:∀ {g:List (List AV)} {ops:List Mo} {us:LV},VL g=some ops→IVss K g β us→us=xA cH ops∧g.length=ops.length
 | [],ops,us,h,H=>by
  cases h
  simp only [IVss] at H
  subst H; exact ⟨rfl,rfl⟩
 | l::g,ops,us,h,H=>by
  obtain ⟨o,h1,h⟩:=gA (show (mA (cT l) fun o=>mA (VL g) fun r=>some (o::r))=some ops from h)
  obtain ⟨r,h2,h⟩:=gA h
  cases h
  simp only [IVss] at H
  obtain ⟨a,b,rfl,h3,h4⟩:=H
  have e1:=NZ h1 h3
  obtain ⟨e2,e3⟩:=gO h2 h4
  refine ⟨?_,by simp [e3]⟩
  rw [e1,e2]
  show _=xA cH (o::r)
  unfold xA
  rw [List.flatMap_cons]
  rfl
theorem iW {I:Itp} {w:World} {A:eF} {a:AV} {u:Value} {g:List (List AV)} {ops:List Mo} (hg:dC 6 A a=some g) (ho:VL g=some ops) (hx:IV I.K a I.β u) (HA:MRel I w A):∃ ad c,u=.slice ad ops.length c∧Rd cH w ad ops:=by
 obtain ⟨ad,c,us,h1,h2,h3,h4⟩:=jE hg HA hx
 obtain ⟨e1,e2⟩:=gO ho h2
 refine ⟨ad,c,by rw [h1,e2],?_⟩
 rcases h4 with h4 | ⟨b,q,h5,h6⟩
 ·left
  cases ops with
  | nil=>rfl
  | cons o r =>
   have h0:(xA cH (o::r))[0]?=some (i64 o.kd):=rfl
   rw [← e1,h4] at h0
   cases h0
 ·cases hops:ops with
  | nil=>exact .inl rfl
  | cons o r =>
   right
   rw [← hops]
   have h0:us[0]?=some (i64 o.kd):=by rw [e1,hops]; rfl
   have h7:=h6 0 _ h0
   rw [HF] at h7
   have key:∃ cs X fr,w.heap[b]?=some (.cells cs X fr):=by
    unfold World.cell? at h7
    cases hb:w.heap[b]? with
    | none=>simp [hb] at h7
    | some ob =>
     cases ob with
     | cells cs X fr=>exact ⟨cs,X,fr,rfl⟩
     | _=>simp [hb] at h7
   obtain ⟨cs,X,fr,hb⟩:=key
   refine ⟨b,q,cs,X,fr,h5,hb,fun i u hi=>?_⟩
   rw [← e1] at hi
   have h8:=h6 i u hi
   rw [KG hb] at h8
   exact h8
end Go.Proofs.YtljlkhobfdofhaaGreatDoor.Rv
