/- What the claim has need of: Garb, Garb2, Garb3, Garb4, Garb5. -/
import Derived.Test.YtljlkhobfdofhaaGreatDoorWv10
import Derived.Test.YtljlkhobfdofhaaGreatDoorWv18
set_option linter.unusedVariables false
set_option maxHeartbeats 16000000
set_option maxRecDepth 20000
namespace Go.Proofs.YtljlkhobfdofhaaGreatDoor.Gb
open Go Vc Er Circ
theorem uL:SA Tryz.prog 130=true:=by kernel_rfl
theorem sN:UD Tryz.prog 130=some (2,1):=by kernel_rfl
theorem byt130:BI Tryz.prog 130=some 16:=by kernel_rfl
theorem DX:rA Tryz.prog 49=true:=by kernel_rfl
theorem xE:pD Tryz.prog 3 EI:=jH (by kernel_rfl) (by kernel_rfl)
theorem GG:pD Tryz.prog 57 E64:=FG (by kernel_rfl) (by kernel_rfl)
theorem KO:mC Tryz.prog 218 2=some (2,1,33):=by kernel_rfl
theorem one33:QA Tryz.prog 33=true:=by kernel_rfl
theorem uK:ZB Tryz.prog 130=some 2:=by kernel_rfl
theorem sli139:qD Tryz.prog 139=some (130,2):=by kernel_rfl
theorem GU:qD Tryz.prog 33=some (3,1):=by kernel_rfl
theorem lK:YB Tryz.prog 130=some (.agg (List.replicate 2 (.int .u64 0)).toArray):=by kernel_rfl
def kA (a:Lb) (s:BitVec 64):Lb:=AesSpec.IW (AesSpec.dD AesSpec.OC) a.1 a.2 s
theorem uD (a b:Lb) (w:World):Calls Tryz.prog 49 [.agg (xA E64 [a.1,a.2]).toArray,.agg (xA E64 [b.1,b.2]).toArray].toArray w (tQ fun v w'=>v=.agg (xA E64 [(lx a b).1,(lx a b).2]).toArray∧Ext w w'):=Aes.kP a.1 a.2 b.1 b.2 w
theorem zF (bc:Nat) (a:Lb) (tw:BitVec 64) (w:World) (hc:w.heap[bc]?=some (.cells (xA E8 (AesSpec.dD AesSpec.OC)).toArray 456 (0,0))):Calls Tryz.prog 239 [pT bc,.agg (xA E64 [a.1,a.2]).toArray,u64 tw].toArray w (tQ fun v w'=>v=.agg (xA E64 [(kA a tw).1,(kA a tw).2]).toArray∧Ext w w'):=Aes.hash_ok bc (AesSpec.dD AesSpec.OC) (AesSpec.iQ _ (AesSpec.DG 16)) a.1 a.2 tw w hc
theorem qJ (a:Lb) (w:World):Ca 237 [.agg (xA E64 [a.1,a.2]).toArray] w fun v w'=>v=.bool (nC a)∧Ext w w':=by
 have H:=eA No w
 refine enter (n:=7) Tryz.func237 rfl rfl (vB rfl) ?_
 refine go 1 ?_
 intro b1 w2 a0 H3 b0
 refine go 6 ?_
 exact ⟨_,rfl,rfl,H3.chg⟩
theorem XL (c:Bool) (a:Lb) (w:World):Ca 241 [.bool c,.agg (xA E64 [a.1,a.2]).toArray] w fun v w'=>v=.agg (xA E64 [(lw c a).1,(lw c a).2]).toArray∧Ext w w':=by
 have H:=eA No w
 refine enter (n:=8) Tryz.func241 rfl rfl (vB rfl) ?_
 refine go 1 ?_
 intro b1 w2 c0 H3 d0
 refine go 1 ?_
 intro b5 w6 e0 H7 f0
 refine go 1 ?_
 refine FD c rfl (fun c5=>?_) (fun c5=>?_)
 ·refine go 2 ?_
  intro w9 a0 h0
  refine go 0 ?_
  rw [show lw c a=_ from if_pos c5]
  exact ⟨_,rfl,rfl,a0.chg⟩
 ·refine go 2 ?_
  intro i0 b0 j0
  refine go 0 ?_
  rw [show lw c a=_ from if_neg (by rw [c5]; exact Bool.false_ne_true)]
  exact ⟨_,rfl,rfl,b0.chg⟩
theorem kF (l:List Lb) (a0:Option Addr) (n0 c0:Nat) (hn0:n0=l.length) (hl:l.length≤1000000) (w:World) (hL:Rd aB w a0 l):Ca 240 [.slice a0 n0 c0] w fun v w'=>v=.agg (xA E64 [(cC l).1,(cC l).2]).toArray∧Ext w w':=by
 subst hn0
 have H:=eA No w
 refine enter (n:=17) Tryz.func240 rfl rfl (vB rfl) ?_
 refine go 1 ?_
 intro b1 w2 i0 H3 j0
 refine go 1 ?_
 intro b5 w6 k0 H7 l0
 refine go 3 ?_
 refine DA (σ:=Nat) (fun q=>[(2,pT b1),(3,pT b5),(6,.slice a0 l.length c0),(7,iN l.length),(8,iN q)]) (fun q w'=>q≤l.length∧Hp No w w' [(rX b5 E64 ([(cC (l.take q)).1,(cC (l.take q)).2]) 130),(rX b1 E64 ([0#64,0#64]) 130)]) (fun q=>l.length-q) (0) ?_ ?_ ?_
 ·exact kp
 ·exact ⟨Nat.zero_le _,H7⟩
 rintro q ρ w9 ⟨hq,HL⟩
 refine go 1 ?_
 refine lA (((q:Nat):Int)<(l.length:Nat)) rfl (fun c9=>?_) (fun c9=>?_)
 ·refine go 3 ?_
  intro m0 o0 p0 q0 r0
  refine go 1 ?_
  intro d0 e0 u0
  refine go 2 ?_
  refine cl (uD (cC (l.take q)) (l.getD q PA) d0) ?_
  rintro _ w0 ⟨rfl,f0⟩
  have x0:=e0.ext f0
  refine go 1 ?_
  intro y0 b0 z0
  refine go 2 ?_
  rw [show lx (cC (l.take q)) (l.getD q PA)=cC (l.take (q+1)) from (jT om).symm] at b0
  exact ⟨q+1,_,rfl,kp,⟨om,(b0.dropk 0)⟩,vd⟩
 ·obtain rfl:q=l.length:=by omega
  refine go 2 ?_
  intro A0 h0 B0
  refine go 0 ?_
  rw [List.take_length]
  exact ⟨_,rfl,rfl,h0.chg⟩
theorem GM (n:Int) (gs:List Gt) (ol:List Int) (ga oa:Option Addr) (gc oc:Nat) (ws:List Lb) (wa:Option Addr) (n0 wc:Nat) (hn0:n0=ws.length) (w:World) (hOl:Rd EI w oa ol) (hWs:Rd aB w wa ws) (hol:ol.length≤64) (hok:∀ i,i<ol.length→0≤ol.getD i 0∧ol.getD i 0<(ws.length:Int)):Ca 242 [.agg #[i64 n,.slice ga gs.length gc,.slice oa ol.length oc],.slice wa n0 wc] w fun v w'=>SlRes aB 130 (oL ws ol ol.length) w v w'∧Ext w w':=by
 subst hn0
 have H:=eA No w
 refine enter (n:=24) Tryz.func242 rfl rfl (vB rfl) ?_
 refine go 1 ?_
 intro b1 w2 k0 H3 l0
 refine go 6 ?_
 have H5:=H3.nil (wA aB 130 [] [])
 refine go 0 ?_
 refine DA (σ:=Nat × Option Nat × Nat × LV) (fun (q,key,c,sp)=>[(1,.slice wa ws.length wc),(2,pT b1),(4,RA),(9,.slice oa ol.length oc),(10,iN ol.length),(5,sO key q c),(11,iN q)]) (fun (q,key,c,sp) w'=>(q≤ol.length∧Sl aB key (oL ws ol q) c sp)∧Hp No w w' [(key,wA aB 130 (oL ws ol q) sp),(rC b1 #[i64 n,.slice ga gs.length gc,.slice oa ol.length oc] 218)]) (fun (q,key,c,sp)=>ol.length-q) ((0,none,0,[])) ?_ ?_ ?_
 ·exact kp
 ·exact ⟨⟨Nat.zero_le _,Sl.none⟩,H5⟩
 rintro ⟨q,key,c,sp⟩ ρ w6 ⟨⟨hq,hS⟩,HL⟩
 refine go 1 ?_
 refine lA (((q:Nat):Int)<(ol.length:Nat)) rfl (fun c0=>?_) (fun c0=>?_)
 ·have hoq:=hok q om
  refine go 8 ?_
  refine bS (E:=aB) (l:=([ws.getD ((ol.getD q 0).toNat) PA]:List NB)) fun b8 m0 o0 p0 q0=>?_
  refine aH ?_
  refine ⟨by rw [CE],by rfl,om,?_⟩
  intro d0 e0 f0 r0 h0 u0 i0
  have j0:(oL ws ol q)++([ws.getD ((ol.getD q 0).toNat) PA]:List NB)=oL ws ol (q+1):=by rw [oL]
  have a0:=h0
  have b0:=i0
  rw [j0] at a0 b0
  refine go 3 ?_
  exact ⟨(q+1,d0,e0,f0),_,rfl,kp,⟨⟨om,a0⟩,(b0.dropk 0)⟩,vd⟩
 ·obtain rfl:q=ol.length:=by omega
  refine go 2 ?_
  exact ⟨_,rfl,HL.resN (k:=0) rfl hS (by rw [CE]),HL.chg⟩
end Go.Proofs.YtljlkhobfdofhaaGreatDoor.Gb
namespace Go.Proofs.YtljlkhobfdofhaaGreatDoor.Gb
open Go Vc Er Circ
theorem rQ:SA Tryz.prog 218=true:=by kernel_rfl
theorem call237:rA Tryz.prog 237=true:=by kernel_rfl
theorem ZK:mC Tryz.prog 218 0=some (0,1,3):=by kernel_rfl
theorem BO:xL Tryz.prog 41=true:=by kernel_rfl
theorem PS:QA Tryz.prog 3=true:=by kernel_rfl
theorem nP:ZB Tryz.prog 218=some 3:=by kernel_rfl
theorem ZL (n:Int) (gs:List Gt) (ol:List Int) (ga oa:Option Addr) (gc oc:Nat) (m:Nat) (w:World) (hG:Gl w) (hGs:Rd EG w ga gs) (hOl:Rd EI w oa ol) (hgl:gs.length≤140737488355328) (hol:ol.length≤140737488355328) (hg:IsC n gs ol) (hm:(m:Int)=n):Ca 236 [.agg #[i64 n,.slice ga gs.length gc,.slice oa ol.length oc],iN m] w fun v w'=>v=.nilIface∧Ext w w':=by
 have H:=eA No w
 refine enter (n:=18) Tryz.func236 rfl rfl (vB rfl) ?_
 refine go 1 ?_
 intro b1 w2 b0 H3 c0
 refine go 2 ?_
 refine cl (kQ n gs ol ga oa gc oc w2 gE VD VD om om hg) ?_
 rintro _ w5 ⟨rfl,a0⟩
 have H7:=H3.ext a0
 refine go 6 ?_
 refine sq ((TE rfl rfl).as (v':=.bool false) (by exact bF (om))) ?_
 refine go 1 ?_
 exact ⟨_,rfl,rfl,H7.chg⟩
end Go.Proofs.YtljlkhobfdofhaaGreatDoor.Gb
namespace Go.Proofs.YtljlkhobfdofhaaGreatDoor.Gb
open Go Vc Er Circ
theorem call239:rA Tryz.prog 239=true:=by kernel_rfl
theorem call240:rA Tryz.prog 240=true:=by kernel_rfl
theorem call241:rA Tryz.prog 241=true:=by kernel_rfl
theorem LO:mC Tryz.prog 218 1=some (1,1,216):=by kernel_rfl
theorem YW:mC Tryz.prog 345 1=some (1,1,3):=by kernel_rfl
theorem XW:mC Tryz.prog 345 2=some (2,1,3):=by kernel_rfl
theorem JA:Tryz.prog.follows .mixedOrders=true:=by kernel_rfl
theorem JV:QA Tryz.prog 216=true:=by kernel_rfl
theorem HU:qD Tryz.prog 216=some (345,3):=by kernel_rfl
theorem und3:Tryz.prog.underlying 3=some (.int .i64):=by kernel_rfl
theorem und57:Tryz.prog.underlying 57=some (.int .u64):=by kernel_rfl
theorem qT (n:Int) (gs:List Gt) (ol:List Int) (ga oa:Option Addr) (gc oc:Nat) (δ:Lb) (zs:List Lb) (za:Option Addr) (zc:Nat) (first:BitVec 64) (w:World) (hG:Gl w) (hGs:Rd EG w ga gs) (hOl:Rd EI w oa ol) (hgl:gs.length≤140737488355328) (hol:ol.length≤140737488355328) (hZ:Rd aB w za zs) (hg:IsC n gs ol) (hm:(zs.length:Int)=n) (hc:nC δ=true):Ca 162 [.agg #[i64 n,.slice ga gs.length gc,.slice oa ol.length oc],.agg (xA E64 [(δ).1,(δ).2]).toArray,.slice za zs.length zc,u64 first] w fun v w'=>∃ (k1:Option Nat) (c1:Nat) (z1:LV) (k2:Option Nat) (c2:Nat) (z2:LV),v=.tuple #[sO k1 ((gS kA δ first gs zs gs.length).2).length c1,sO k2 (oL (gS kA δ first gs zs gs.length).1 ol ol.length).length c2,.nilIface]∧Sl aB k1 ((gS kA δ first gs zs gs.length).2) c1 z1∧Sl aB k2 (oL (gS kA δ first gs zs gs.length).1 ol ol.length) c2 z2∧Hp No w w' [(k1,wA aB 130 ((gS kA δ first gs zs gs.length).2) z1),(k2,wA aB 130 (oL (gS kA δ first gs zs gs.length).1 ol ol.length) z2)]:=by
 subst hm
 have hgt:=hg.gates
 have hot:=hg.outs
 have hhi:=hg.hi
 have H:=eA No w
 refine enter (n:=152) Tryz.func162 rfl rfl (vB rfl) ?_
 refine go 1 ?_
 intro b1 w2 B4 H3 C4
 refine go 1 ?_
 intro b5 w6 D4 H7 F4
 refine go 6 ?_
 refine cl (ZL (zs.length:Nat) gs ol ga oa gc oc zs.length w6 gE VD VD om om hg om) ?_
 rintro _ w9 ⟨rfl,n2⟩
 have o2:=H7.ext n2
 refine go 4 ?_
 refine cl (qJ δ w9) ?_
 rintro _ p2 ⟨rfl,q2⟩
 have r2:=o2.ext q2
 refine sq ((NQ (b:=nC δ) rfl).as (v':=.bool false) (by rw [hc]; rfl)) ?_
 refine go 0 ?_
 refine cl (Aes.NO p2) ?_
 rintro _ G4 ⟨⟨k0,rfl,t2,ho19⟩,u2⟩
 have x2:=r2.add1 u2 t2 ho19
 refine go 6 ?_
 refine sq ((iC rfl rfl om).as (v':=iN (zs.length+gs.length)) (by rfl)) (rE (E:=aB) (m:=0) (c:=(zs.length+gs.length)) (z0:=PA) x2 vF vF rfl vF rfl rfl vo vo om om fun H4 I4 J4 K4 L4=>?_)
 refine go 1 ?_
 refine aH ?_
 refine ⟨by simp,by rfl,om,?_⟩
 intro y2 A2 C2 M4 D2 N4 E2
 have F2:(List.replicate 0 PA)++zs=zs:=by rfl
 have y1:=D2
 have A1:=E2
 rw [F2] at y1 A1
 refine go 6 ?_
 refine DA (σ:=Nat × Option Nat × Nat × LV × Option Nat × Nat × LV × Nat) (fun (i,k1,c1,z1,k2,c2,z2,m)=>[(3,u64 first),(4,pT b1),(5,pT b5),(12,pT k0),(13,sO k1 (zs.length+i) c1),(14,sO k2 m c2),(47,.slice ga gs.length gc),(48,iN gs.length),(49,iN i)]) (fun (i,k1,c1,z1,k2,c2,z2,m) w'=>(i≤gs.length∧Sl aB k1 (gS kA δ first gs zs i).1 c1 z1∧Sl aB k2 (gS kA δ first gs zs i).2 c2 z2∧m=(gS kA δ first gs zs i).2.length)∧Hp No w w' [(k1,wA aB 130 ((gS kA δ first gs zs i).1) z1),(k2,wA aB 130 ((gS kA δ first gs zs i).2) z2),(rX k0 E8 (AesSpec.dD AesSpec.OC) 456),(rC b1 #[iN zs.length,.slice ga gs.length gc,.slice oa ol.length oc] 218),(rX b5 E64 ([(δ).1,(δ).2]) 130)]) (fun (i,k1,c1,z1,k2,c2,z2,m)=>gs.length-i) ((0,y2,A2,C2,none,0,[],0)) ?_ ?_ ?_
 ·exact ⟨rfl,rfl,rfl,rfl,congrArg (fun q=>Value.slice _ q _) om,rfl,rfl,rfl,rfl,trivial⟩
 ·exact ⟨⟨Nat.zero_le _,y1,Sl.none,rfl⟩,((A1.nil (wA aB 130 [] [])).pk 5 [1,0,2,4,3])⟩
 rintro ⟨i,k1,c1,z1,k2,c2,z2,m⟩ ρ G2 ⟨⟨hi,h1,h2,rfl⟩,HL⟩
 have hwl:=xH (h:=kA) (δ:=δ) (first:=first) (gs:=gs) (zs:=zs) i
 have htl:=gS_tab (h:=kA) (δ:=δ) (first:=first) (gs:=gs) (zs:=zs) i
 refine go 1 ?_
 refine lA (((i:Nat):Int)<(gs.length:Nat)) rfl (fun H2=>?_) (fun H2=>?_)
 ·have hgi:=hg.gok i om
  unfold DD at hgi
  refine go 3 ?_
  intro B0 O4 Q4 R4 S4
  refine go 1 ?_
  intro U4 V4 W4
  refine go 6 ?_
  intro C0 X4 Y4 Z4 c5
  refine go 1 ?_
  intro I2 e1 d5
  obtain ⟨la,hla⟩:∃ x:Lb,x=(((gS kA δ first gs zs i).1).getD (gs.getD i g0).a.toNat PA):=⟨_,rfl⟩
  rw [← hla] at e1 ⊢
  refine go 4 ?_
  refine lA (((gs.getD i g0).k:Int)=(3:Int)) rfl (fun hk=>?_) (fun hk=>?_)
  ·refine go 3 ?_
   refine cl (uD la δ I2) ?_
   rintro _ e5 ⟨rfl,J2⟩
   have f5:=e1.ext J2
   refine bS (E:=aB) (l:=([lx la δ]:List NB)) fun g5 h5 i5 j5 k5=>?_
   refine aH ?_
   refine ⟨by rw [xH],by rfl,om,?_⟩
   intro K2 L2 M2 l5 N2 m5 O2
   have P2:((gS kA δ first gs zs i).1)++([lx la δ]:List NB)=(gS kA δ first gs zs (i+1)).1:=by rw [gS,wE,if_pos hk,hla]
   have B1:=N2
   have C1:=O2
   rw [P2] at B1 C1
   refine go 3 ?_
   have Q2:(gS kA δ first gs zs i).2=(gS kA δ first gs zs (i+1)).2:=by rw [gS,wE,if_pos hk]
   have D1:=h2
   have E1:=C1
   rw [Q2] at D1 E1
   exact ⟨(i+1,K2,L2,M2,k2,c2,z2,(gS kA δ first gs zs i).2.length),_,rfl,kp,⟨⟨om,B1,D1,by rw [gS,wE,if_pos hk]⟩,(((E1.dropk 2).dropk 1).dropk 0)⟩,vd⟩
  ·have x0:=hk
   refine go 2 ?_
   refine lA (((gs.getD i g0).k:Int)=(1:Int)) rfl (fun g1=>?_) (fun g1=>?_)
   ·have hk:=g1
    have R2:=(e1.pk 7 [2,0,1,3,4,5,6])
    let D0:List RW:=[(rX C0 E64 ([la.1,la.2]) 130),(rC B0 #[i64 ((gs.getD i g0).k),i64 ((gs.getD i g0).a),i64 ((gs.getD i g0).b)] 345),(k2,wA aB 130 ((gS kA δ first gs zs i).2) z2),(rX k0 E8 (AesSpec.dD AesSpec.OC) 456),(rC b1 #[iN zs.length,.slice ga gs.length gc,.slice oa ol.length oc] 218),(rX b5 E64 ([(δ).1,(δ).2]) 130)]
    let i1:=fun (i0:Nat)=>(((some i0),wA aB 130 ([lx la (((gS kA δ first gs zs i).1).getD ((gs.getD i g0).b.toNat) PA)]:List NB) ([])):RW)
    let F1:=((k1,wA aB 130 ((gS kA δ first gs zs i).1) z1):RW)
    let j1:=fun (i0:Nat)=>(Sl aB (some i0) ([lx la (((gS kA δ first gs zs i).1).getD ((gs.getD i g0).b.toNat) PA)]:List NB) 1 ([]):Prop)
    let S2:PD:=[JF false false fun _ _ w'=>Hp No w w' (F1::D0),JF true false fun v8 _ w'=>∃ i0,v8=sO (some i0) 1 1∧(j1 i0)∧Hp No w w' ((i1 i0)::F1::D0),JF true true fun v8 v9 w'=>∃ i0 E0 H0 I0,v8=sO (some i0) 1 1∧v9=sO E0 ((zs.length+i)+1) H0∧(j1 i0)∧Sl aB E0 ((gS kA δ first gs zs (i+1)).1) H0 I0∧Hp No w w' ((i1 i0)::(E0,wA aB 130 ((gS kA δ first gs zs (i+1)).1) I0)::D0)]
    refine mB (m:=11) [0,0,0,0,8,28,60,126,254,511,1023] [8,9] D0 S2 JA (fun _ e=>R2.ext e) zE (fun G1=>?_)
    refine gk 7 ?_
    refine GH (.agg (xA E64 [(lx la (((gS kA δ first gs zs i).1).getD ((gs.getD i g0).b.toNat) PA)).1,(lx la (((gS kA δ first gs zs i).1).getD ((gs.getD i g0).b.toNat) PA)).2]).toArray) (fun _ uw hcx=>Gives.call rfl (cA vF rfl) (uD la (((gS kA δ first gs zs i).1).getD ((gs.getD i g0).b.toNat) PA) uw)) (WalkT.eff G1 0 ?_ ?_)
    ·refine tA fun r w0 uw hF hE=>?_
     have n5:=hF.ext hE
     exact gW fun Q' hK=>(bS (E:=aB) (l:=([lx la (((gS kA δ first gs zs i).1).getD ((gs.getD i g0).b.toNat) PA)]:List NB)) fun T2 o5 U2 V2 p5=>hK _ _ (E_ T2 (A_ rfl (A_ U2 V2))))
    refine WalkT.eff G1 1 ?_ ?_
    ·refine tA fun r w0 uw hF hE=>?_
     obtain ⟨i0,e8,l1,H1⟩:=hF
     replace H1:=H1.ext hE
     dsimp only
     rw [e8]
     refine gW fun Q' hK=>?_
     refine aH ?_
     refine ⟨by rw [xH],by rfl,om,?_⟩
     intro Y2 Z2 c3 q5 d3 r5 e3
     have f3:((gS kA δ first gs zs i).1)++([lx la (((gS kA δ first gs zs i).1).getD ((gs.getD i g0).b.toNat) PA)]:List NB)=(gS kA δ first gs zs (i+1)).1:=by rw [gS,wE,if_neg x0,if_pos hk,hla]
     have I1:=d3
     have J1:=e3
     rw [f3] at I1 J1
     exact hK _ _ (E_ i0 (E_ Y2 (E_ Z2 (E_ c3 (A_ e8 (A_ rfl (A_ l1 (A_ I1 J1))))))))
    refine bA (fun r=>r 9) (fun r r' h=>h 9 (by decide) rfl) (fun _ _=>MA rfl) (WalkT.nil fun r w0 s5 hF hE=>?_)
    obtain ⟨i0,E0,H0,I0,e8,e9,l1,g3,J0⟩:=hF
    replace J0:=J0.ext hE
    dsimp only
    rw [e8,e9]
    dsimp only [j1] at l1
    dsimp only [D0,i1] at J0
    refine go 2 ?_
    have h3:(gS kA δ first gs zs i).2=(gS kA δ first gs zs (i+1)).2:=by rw [gS,wE,if_neg x0,if_pos hk]
    have K1:=h2
    have L1:=J0
    rw [h3] at K1 L1
    exact ⟨(i+1,E0,H0,I0,k2,c2,z2,(gS kA δ first gs zs i).2.length),_,rfl,kp,⟨⟨om,g3,K1,by rw [gS,wE,if_neg x0,if_pos hk]⟩,(((L1.dropk 3).dropk 2).dropk 0)⟩,vd⟩
   ·have m1:=g1
    refine go 2 ?_
    refine lA (((gs.getD i g0).k:Int)=(2:Int)) rfl (fun i3=>?_) (fun i3=>?_)
    ·refine go 6 ?_
     intro K0 t5 u5 w5 x5
     refine go 1 ?_
     intro y5 M1 z5
     obtain ⟨lb,hlb⟩:∃ x:Lb,x=(((gS kA δ first gs zs i).1).getD (gs.getD i g0).b.toNat PA):=⟨_,rfl⟩
     rw [← hlb] at M1 ⊢
     refine go 6 ?_
     obtain ⟨sv,hsv⟩:∃ x:BitVec 64,x=first+(BitVec.ofInt 64 ((gS kA δ first gs zs i).2.length:Nat)):=⟨_,rfl⟩
     let x1:Array Value:=#[iN zs.length,.slice ga gs.length gc,.slice oa ol.length oc]
     rw [← hsv]
     refine go 0 ?_
     let n0:List RW:=[(rX K0 E64 ([lb.1,lb.2]) 130),(rX C0 E64 ([la.1,la.2]) 130),(rC B0 #[i64 ((gs.getD i g0).k),i64 ((gs.getD i g0).a),i64 ((gs.getD i g0).b)] 345),(k1,wA aB 130 ((gS kA δ first gs zs i).1) z1),(k2,wA aB 130 ((gS kA δ first gs zs i).2) z2),(rX k0 E8 (AesSpec.dD AesSpec.OC) 456),(rC b1 x1 218),(rX b5 E64 ([(δ).1,(δ).2]) 130)]
     let n1:=fun (b0:Nat)=>((rX b0 E64 ([(kA la sv).1,(kA la sv).2]) 130):RW)
     let N1:=fun (b0:Nat)=>((rX b0 E64 ([0#64,0#64]) 130):RW)
     let O1:=fun (e0:Nat)=>((rX e0 E64 ([0#64,0#64]) 130):RW)
     let j3:PD:=[EH false false false false fun _ _ _ _ w'=>Hp No w w' n0,EH true false false false fun v9 _ _ _ w'=>∃ b0,v9=pT b0∧Hp No w w' ((N1 b0)::n0),EH false true false false fun _ v10 _ _ w'=>∃ L0,v10=pT L0∧Hp No w w' ((rX L0 E64 ([0#64,0#64]) 130)::n0),EH true true false false fun v9 v10 _ _ w'=>∃ b0 e0,v9=pT b0∧v10=pT e0∧Hp No w w' ((O1 e0)::(N1 b0)::n0),EH true true true false fun v9 v10 _ _ w'=>∃ b0 e0,v9=pT b0∧v10=pT e0∧Hp No w w' ((O1 e0)::(n1 b0)::n0),EH true true true true fun v9 v10 _ _ w'=>∃ b0 e0,v9=pT b0∧v10=pT e0∧Hp No w w' ((rX e0 E64 ([(kA lb (sv+(1#64))).1,(kA lb (sv+(1#64))).2]) 130)::(n1 b0)::n0)]
     refine mB (m:=13) [0,0,0,7,0,0,0,64,255,0,0,2047,4095] [9,10,11,12] n0 j3 JA (fun _ e=>M1.ext e) zE (fun M0=>?_)
     refine gk 3 ?_
     refine GH (.agg (xA E64 [(kA la sv).1,(kA la sv).2]).toArray) (fun _ uw hcx=>Gives.call rfl (cA vF rfl) (zF k0 la sv uw IJ)) ?_
     refine gk 4 ?_
     refine GH (.agg (xA E64 [(kA lb (sv+(1#64))).1,(kA lb (sv+(1#64))).2]).toArray) (fun _ uw hcx=>Gives.call rfl (cA vF rfl) (zF k0 lb (sv+(1#64)) uw IJ)) (WalkT.eff M0 0 ?_ ?_)
     ·refine tB (fun r w0 uw hF hE=>?_) fun r w0 uw hF hE=>?_
      ·have A5:=hF.ext hE
       refine gW fun Q' hK=>?_
       refine go 1 ?_
       intro k3 B5 C5 l3 D5
       exact hK _ _ (E_ k3 (A_ rfl l3))
      ·obtain ⟨L0,o0,P1⟩:=hF
       replace P1:=P1.ext hE
       refine gW fun Q' hK=>?_
       refine go 1 ?_
       intro m3 E5 F5 n3 G5
       exact hK _ _ (E_ m3 (E_ L0 (A_ rfl (A_ o0 ((n3.pk 2 [1,0]))))))
     refine WalkT.eff M0 1 ?_ ?_
     ·refine tB (fun r w0 uw hF hE=>?_) fun r w0 uw hF hE=>?_
      ·have H5:=hF.ext hE
       refine gW fun Q' hK=>?_
       refine go 1 ?_
       intro o3 I5 J5 p3 K5
       exact hK _ _ (E_ o3 (A_ rfl p3))
      ·obtain ⟨b0,e9,Q1⟩:=hF
       replace Q1:=Q1.ext hE
       refine gW fun Q' hK=>?_
       refine go 1 ?_
       intro q3 L5 M5 r3 N5
       exact hK _ _ (E_ b0 (E_ q3 (A_ e9 (A_ rfl r3))))
     refine WalkT.eff M0 2 ?_ ?_
     ·refine tA fun r w0 uw hF hE=>?_
      obtain ⟨b0,e0,e9,o0,R1⟩:=hF
      replace R1:=R1.ext hE
      dsimp only
      rw [e9]
      refine PE fun Q' hK=>?_
      refine go 1 ?_
      intro O5 t3 P5
      exact hK _ (fun _=>(E_ b0 (E_ e0 (A_ e9 (A_ o0 t3)))))
     refine WalkT.eff M0 3 ?_ ?_
     ·refine tA fun r w0 uw hF hE=>?_
      obtain ⟨b0,e0,e9,o0,S1⟩:=hF
      replace S1:=S1.ext hE
      dsimp only
      rw [o0]
      refine PE fun Q' hK=>?_
      refine go 1 ?_
      intro Q5 u3 R5
      exact hK _ (fun _=>(E_ b0 (E_ e0 (A_ e9 (A_ o0 u3)))))
     refine WalkT.nil fun r w0 S5 hF hE=>?_
     obtain ⟨b0,e0,e9,o0,N0⟩:=hF
     replace N0:=N0.ext hE
     dsimp only
     rw [e9,o0]
     dsimp only [n0,n1] at N0
     refine go 0 ?_
     let p0:List RW:=[(rX e0 E64 ([(kA lb (sv+(1#64))).1,(kA lb (sv+(1#64))).2]) 130),(rX b0 E64 ([(kA la sv).1,(kA la sv).2]) 130),(rX K0 E64 ([lb.1,lb.2]) 130),(rX C0 E64 ([la.1,la.2]) 130),(rC B0 #[i64 ((gs.getD i g0).k),i64 ((gs.getD i g0).a),i64 ((gs.getD i g0).b)] 345),(k1,wA aB 130 ((gS kA δ first gs zs i).1) z1),(k2,wA aB 130 ((gS kA δ first gs zs i).2) z2),(rX k0 E8 (AesSpec.dD AesSpec.OC) 456),(rC b1 x1 218),(rX b5 E64 ([(δ).1,(δ).2]) 130)]
     let O0:=fun (a0:Nat)=>(((some a0),wA aB 130 ([kA la sv,kA (lx la δ) sv,lw (nC lb) δ]:List NB) ([])):RW)
     let P0:=fun (a0:Nat)=>(Sl aB (some a0) ([kA la sv,kA (lx la δ) sv,lw (nC lb) δ]:List NB) 3 ([]):Prop)
     let w3:PD:=[IC false false false fun _ _ _ w'=>Hp No w w' p0,IC true false false fun v11 _ _ w'=>∃ a0,v11=sO (some a0) 3 3∧(P0 a0)∧Hp No w w' ((O0 a0)::p0),IC false true false fun _ v13 _ w'=>∃ Q0,v13=pT Q0∧Hp No w w' ((rX Q0 E64 ([0#64,0#64]) 130)::p0),IC true true false fun v11 v13 _ w'=>∃ a0 l0,v11=sO (some a0) 3 3∧v13=pT l0∧(P0 a0)∧Hp No w w' ((rX l0 E64 ([0#64,0#64]) 130)::(O0 a0)::p0),IC true true true fun v11 v13 _ w'=>∃ a0 l0,v11=sO (some a0) 3 3∧v13=pT l0∧(P0 a0)∧Hp No w w' ((rX l0 E64 ([(cC ([kA la sv,kA (lx la δ) sv,lw (nC lb) δ]:List NB)).1,(cC ([kA la sv,kA (lx la δ) sv,lw (nC lb) δ]:List NB)).2]) 130)::(O0 a0)::p0)]
     refine mB (m:=15) [0,0,0,0,12,0,62,0,254,0,1022,2047,4095,0,16383] [11,13,14] p0 w3 JA (fun _ e=>N0.ext e) zE (fun o1=>?_)
     refine gk 4 ?_
     refine GH (.agg (xA E64 [(lx la δ).1,(lx la δ).2]).toArray) (fun _ uw hcx=>Gives.call rfl (cA vF rfl) (uD la δ uw)) ?_
     refine gk 1 ?_
     refine GH (.agg (xA E64 [(kA (lx la δ) sv).1,(kA (lx la δ) sv).2]).toArray) (fun _ uw hcx=>Gives.call rfl (cA vF rfl) (zF k0 (lx la δ) sv uw IJ)) ?_
     refine gk 1 ?_
     refine GH (.bool (nC lb)) (fun _ uw hcx=>Gives.call rfl (cA vF rfl) (qJ lb uw)) ?_
     refine gk 1 ?_
     refine GH (.agg (xA E64 [(lw (nC lb) δ).1,(lw (nC lb) δ).2]).toArray) (fun _ uw hcx=>Gives.call rfl (cA vF rfl) (XL (nC lb) δ uw)) (WalkT.eff o1 0 ?_ ?_)
     ·refine tB (fun r w0 uw hF hE=>?_) fun r w0 uw hF hE=>?_
      ·have T5:=hF.ext hE
       exact gW fun Q' hK=>(bS (E:=aB) (l:=([kA la sv,kA (lx la δ) sv,lw (nC lb) δ]:List NB)) fun x3 U5 y3 z3 V5=>hK _ _ (E_ x3 (A_ rfl (A_ y3 z3))))
      ·obtain ⟨Q0,h0,T1⟩:=hF
       replace T1:=T1.ext hE
       exact gW fun Q' hK=>(bS (E:=aB) (l:=([kA la sv,kA (lx la δ) sv,lw (nC lb) δ]:List NB)) fun A3 W5 B3 C3 X5=>hK _ _ (E_ A3 (E_ Q0 (A_ rfl (A_ h0 (A_ B3 ((C3.pk 2 [1,0]))))))))
     refine aA (fun _=>.agg (xA E64 [(cC ([kA la sv,kA (lx la δ) sv,lw (nC lb) δ]:List NB)).1,(cC ([kA la sv,kA (lx la δ) sv,lw (nC lb) δ]:List NB)).2]).toArray) (fun _ _ _=>rfl) ?_ ?_
     ·refine tB (fun r w0 uw hF hE=>?_) fun r w0 uw hF hE=>?_
      ·obtain ⟨a0,f0,q0,HH⟩:=hF
       replace HH:=HH.ext hE
       dsimp only
       rw [f0]
       exact Gives.call rfl (cA vF rfl) (kF ([kA la sv,kA (lx la δ) sv,lw (nC lb) δ]:List NB) (CA (some a0)) 3 3 (by rfl) (by simp) uw VD)
      ·obtain ⟨a0,l0,f0,h0,q0,HH⟩:=hF
       replace HH:=HH.ext hE
       dsimp only
       rw [f0]
       exact Gives.call rfl (cA vF rfl) (kF ([kA la sv,kA (lx la δ) sv,lw (nC lb) δ]:List NB) (CA (some a0)) 3 3 (by rfl) (by simp) uw VD)
     refine WalkT.eff o1 1 ?_ ?_
     ·refine tB (fun r w0 uw hF hE=>?_) fun r w0 uw hF hE=>?_
      ·have Y5:=hF.ext hE
       refine gW fun Q' hK=>?_
       refine go 1 ?_
       intro D3 Z5 c6 E3 d6
       exact hK _ _ (E_ D3 (A_ rfl E3))
      ·obtain ⟨a0,f0,q0,U1⟩:=hF
       replace U1:=U1.ext hE
       refine gW fun Q' hK=>?_
       refine go 1 ?_
       intro F3 e6 f6 G3 g6
       exact hK _ _ (E_ a0 (E_ F3 (A_ f0 (A_ rfl (A_ q0 G3)))))
     refine WalkT.eff o1 2 ?_ ?_
     ·refine tA fun r w0 uw hF hE=>?_
      obtain ⟨a0,l0,f0,h0,q0,V1⟩:=hF
      replace V1:=V1.ext hE
      dsimp only
      rw [h0]
      refine PE fun Q' hK=>?_
      refine go 1 ?_
      intro h6 I3 i6
      exact hK _ (fun _=>(E_ a0 (E_ l0 (A_ f0 (A_ h0 (A_ q0 I3))))))
     refine WalkT.nil fun r w0 j6 hF hE=>?_
     obtain ⟨a0,l0,f0,h0,q0,F0⟩:=hF
     replace F0:=F0.ext hE
     dsimp only
     rw [f0,h0]
     dsimp only [P0] at q0
     dsimp only [p0,O0] at F0
     obtain ⟨tx,htx⟩:∃ x:Lb,x=qS kA δ la lb sv:=⟨_,rfl⟩
     rw [show (cC ([kA la sv,kA (lx la δ) sv,lw (nC lb) δ]:List NB):Lb)=tx from htx.symm] at F0
     refine go 0 ?_
     let r0:List RW:=[(rX l0 E64 ([tx.1,tx.2]) 130),((some a0),wA aB 130 ([kA la sv,kA (lx la δ) sv,lw (nC lb) δ]:List NB) ([])),(rX e0 E64 ([(kA lb (sv+(1#64))).1,(kA lb (sv+(1#64))).2]) 130),(rX b0 E64 ([(kA la sv).1,(kA la sv).2]) 130),(rX K0 E64 ([lb.1,lb.2]) 130),(rX C0 E64 ([la.1,la.2]) 130),(rC B0 #[i64 ((gs.getD i g0).k),i64 ((gs.getD i g0).a),i64 ((gs.getD i g0).b)] 345),(k1,wA aB 130 ((gS kA δ first gs zs i).1) z1),(k2,wA aB 130 ((gS kA δ first gs zs i).2) z2),(rX k0 E8 (AesSpec.dD AesSpec.OC) 456),(rC b1 x1 218),(rX b5 E64 ([(δ).1,(δ).2]) 130)]
     let R0:=fun (c0:Nat)=>(((some c0),wA aB 130 ([kA lb (sv+(1#64)),kA (lx lb δ) (sv+(1#64)),la]:List NB) ([])):RW)
     let S0:=fun (c0:Nat)=>(Sl aB (some c0) ([kA lb (sv+(1#64)),kA (lx lb δ) (sv+(1#64)),la]:List NB) 3 ([]):Prop)
     let J3:PD:=[IC false false false fun _ _ _ w'=>Hp No w w' r0,IC true false false fun v9 _ _ w'=>∃ c0,v9=sO (some c0) 3 3∧(S0 c0)∧Hp No w w' ((R0 c0)::r0),IC false true false fun _ v11 _ w'=>∃ T0,v11=pT T0∧Hp No w w' ((rX T0 E64 ([0#64,0#64]) 130)::r0),IC true true false fun v9 v11 _ w'=>∃ c0 m0,v9=sO (some c0) 3 3∧v11=pT m0∧(S0 c0)∧Hp No w w' ((rX m0 E64 ([0#64,0#64]) 130)::(R0 c0)::r0),IC true true true fun v9 v11 _ w'=>∃ c0 m0,v9=sO (some c0) 3 3∧v11=pT m0∧(S0 c0)∧Hp No w w' ((rX m0 E64 ([(cC ([kA lb (sv+(1#64)),kA (lx lb δ) (sv+(1#64)),la]:List NB)).1,(cC ([kA lb (sv+(1#64)),kA (lx lb δ) (sv+(1#64)),la]:List NB)).2]) 130)::(R0 c0)::r0)]
     refine mB (m:=13) [0,0,0,0,12,0,32,126,0,511,1023,0,4095] [9,11,12] r0 J3 JA (fun _ e=>F0.ext e) zE (fun p1=>?_)
     refine gk 4 ?_
     refine GH (.agg (xA E64 [(lx lb δ).1,(lx lb δ).2]).toArray) (fun _ uw hcx=>Gives.call rfl (cA vF rfl) (uD lb δ uw)) ?_
     refine gk 2 ?_
     refine GH (.agg (xA E64 [(kA (lx lb δ) (sv+(1#64))).1,(kA (lx lb δ) (sv+(1#64))).2]).toArray) (fun _ uw hcx=>Gives.call rfl (cA vF rfl) (zF k0 (lx lb δ) (sv+(1#64)) uw IJ)) ?_
     refine gk 1 ?_
     refine WalkT.eff p1 0 ?_ ?_
     ·refine tB (fun r w0 uw hF hE=>?_) fun r w0 uw hF hE=>?_
      ·have k6:=hF.ext hE
       exact gW fun Q' hK=>(bS (E:=aB) (l:=([kA lb (sv+(1#64)),kA (lx lb δ) (sv+(1#64)),la]:List NB)) fun K3 l6 L3 M3 m6=>hK _ _ (E_ K3 (A_ rfl (A_ L3 M3))))
      ·obtain ⟨T0,f0,W1⟩:=hF
       replace W1:=W1.ext hE
       exact gW fun Q' hK=>(bS (E:=aB) (l:=([kA lb (sv+(1#64)),kA (lx lb δ) (sv+(1#64)),la]:List NB)) fun N3 n6 O3 P3 o6=>hK _ _ (E_ N3 (E_ T0 (A_ rfl (A_ f0 (A_ O3 ((P3.pk 2 [1,0]))))))))
     refine aA (fun _=>.agg (xA E64 [(cC ([kA lb (sv+(1#64)),kA (lx lb δ) (sv+(1#64)),la]:List NB)).1,(cC ([kA lb (sv+(1#64)),kA (lx lb δ) (sv+(1#64)),la]:List NB)).2]).toArray) (fun _ _ _=>rfl) ?_ ?_
     ·refine tB (fun r w0 uw hF hE=>?_) fun r w0 uw hF hE=>?_
      ·obtain ⟨c0,e9,u0,HH⟩:=hF
       replace HH:=HH.ext hE
       dsimp only
       rw [e9]
       exact Gives.call rfl (cA vF rfl) (kF ([kA lb (sv+(1#64)),kA (lx lb δ) (sv+(1#64)),la]:List NB) (CA (some c0)) 3 3 (by rfl) (by simp) uw VD)
      ·obtain ⟨c0,m0,e9,f0,u0,HH⟩:=hF
       replace HH:=HH.ext hE
       dsimp only
       rw [e9]
       exact Gives.call rfl (cA vF rfl) (kF ([kA lb (sv+(1#64)),kA (lx lb δ) (sv+(1#64)),la]:List NB) (CA (some c0)) 3 3 (by rfl) (by simp) uw VD)
     refine WalkT.eff p1 1 ?_ ?_
     ·refine tB (fun r w0 uw hF hE=>?_) fun r w0 uw hF hE=>?_
      ·have p6:=hF.ext hE
       refine gW fun Q' hK=>?_
       refine go 1 ?_
       intro Q3 q6 r6 R3 s6
       exact hK _ _ (E_ Q3 (A_ rfl R3))
      ·obtain ⟨c0,e9,u0,Y1⟩:=hF
       replace Y1:=Y1.ext hE
       refine gW fun Q' hK=>?_
       refine go 1 ?_
       intro S3 t6 u6 T3 x6
       exact hK _ _ (E_ c0 (E_ S3 (A_ e9 (A_ rfl (A_ u0 T3)))))
     refine WalkT.eff p1 2 ?_ ?_
     ·refine tA fun r w0 uw hF hE=>?_
      obtain ⟨c0,m0,e9,f0,u0,Z1⟩:=hF
      replace Z1:=Z1.ext hE
      dsimp only
      rw [f0]
      refine PE fun Q' hK=>?_
      refine go 1 ?_
      intro y6 U3 z6
      exact hK _ (fun _=>(E_ c0 (E_ m0 (A_ e9 (A_ f0 (A_ u0 U3))))))
     refine WalkT.nil fun r w0 A6 hF hE=>?_
     obtain ⟨c0,m0,e9,f0,u0,U0⟩:=hF
     replace U0:=U0.ext hE
     dsimp only
     rw [e9,f0]
     dsimp only [S0] at u0
     dsimp only [r0,R0] at U0
     obtain ⟨ty,hty⟩:∃ x:Lb,x=pS kA δ la lb sv:=⟨_,rfl⟩
     rw [show (cC ([kA lb (sv+(1#64)),kA (lx lb δ) (sv+(1#64)),la]:List NB):Lb)=ty from hty.symm] at U0
     refine go 3 ?_
     refine bS (E:=aB) (l:=([tx,ty]:List NB)) fun V3 B6 C6 D6 E6=>?_
     refine go 1 ?_
     intro d2 W3 e2 F6 X3 G6 Y3
     have Z3:((gS kA δ first gs zs i).2)++([tx,ty]:List NB)=(gS kA δ first gs zs (i+1)).2:=by rw [gS,wE,if_neg x0,if_neg m1,htx,hty,hsv,hla,hlb]
     have f2:=X3
     have g2:=Y3
     rw [Z3] at f2 g2
     refine go 1 ?_
     have c4:=(g2.pk 15 [10,0,1,2,3,4,5,6,7,8,9,11,12,13,14])
     let y0:List RW:=[((some V3),wA aB 130 ([tx,ty]:List NB) ([])),(rX m0 E64 ([ty.1,ty.2]) 130),((some c0),wA aB 130 ([kA lb (sv+(1#64)),kA (lx lb δ) (sv+(1#64)),la]:List NB) ([])),(rX l0 E64 ([tx.1,tx.2]) 130),((some a0),wA aB 130 ([kA la sv,kA (lx la δ) sv,lw (nC lb) δ]:List NB) ([])),(rX e0 E64 ([(kA lb (sv+(1#64))).1,(kA lb (sv+(1#64))).2]) 130),(rX b0 E64 ([(kA la sv).1,(kA la sv).2]) 130),(rX K0 E64 ([lb.1,lb.2]) 130),(rX C0 E64 ([la.1,la.2]) 130),(rC B0 #[i64 ((gs.getD i g0).k),i64 ((gs.getD i g0).a),i64 ((gs.getD i g0).b)] 345),(d2,wA aB 130 ((gS kA δ first gs zs (i+1)).2) e2),(rX k0 E8 (AesSpec.dD AesSpec.OC) 456),(rC b1 x1 218),(rX b5 E64 ([(δ).1,(δ).2]) 130)]
     let V0:=fun (d0:Nat)=>(((some d0),wA aB 130 ([kA la sv,lw (nC la) tx,kA lb (sv+(1#64)),lw (nC lb) (lx ty la)]:List NB) ([])):RW)
     let q1:=fun (j0:Nat)=>(((some j0),wA aB 130 ([cC ([kA la sv,lw (nC la) tx,kA lb (sv+(1#64)),lw (nC lb) (lx ty la)]:List NB)]:List NB) ([])):RW)
     let r1:=((k1,wA aB 130 ((gS kA δ first gs zs i).1) z1):RW)
     let W0:=fun (d0:Nat)=>(Sl aB (some d0) ([kA la sv,lw (nC la) tx,kA lb (sv+(1#64)),lw (nC lb) (lx ty la)]:List NB) 4 ([]):Prop)
     let t1:=fun (j0:Nat)=>(Sl aB (some j0) ([cC ([kA la sv,lw (nC la) tx,kA lb (sv+(1#64)),lw (nC lb) (lx ty la)]:List NB)]:List NB) 1 ([]):Prop)
     let d4:PD:=[IC false false false fun _ _ _ w'=>Hp No w w' (r1::y0),IC true false false fun v13 _ _ w'=>∃ d0,v13=sO (some d0) 4 4∧(W0 d0)∧Hp No w w' ((V0 d0)::r1::y0),IC true true false fun v13 v15 _ w'=>∃ d0 j0,v13=sO (some d0) 4 4∧v15=sO (some j0) 1 1∧(t1 j0)∧(W0 d0)∧Hp No w w' ((q1 j0)::(V0 d0)::r1::y0),IC true true true fun v13 v15 v16 w'=>∃ d0 j0 G0 X0 Y0,v13=sO (some d0) 4 4∧v15=sO (some j0) 1 1∧v16=sO G0 ((zs.length+i)+1) X0∧(t1 j0)∧(W0 d0)∧Sl aB G0 ((gS kA δ first gs zs (i+1)).1) X0 Y0∧Hp No w w' ((q1 j0)::(V0 d0)::(G0,wA aB 130 ((gS kA δ first gs zs (i+1)).1) Y0)::y0)]
     refine mB (m:=18) [0,0,0,4,0,28,0,0,188,0,0,1980,4028,8190,16382,32766,65535,131071] [13,15,16] y0 d4 JA (fun _ e=>c4.ext e) zE (fun u1=>?_)
     refine gk 3 ?_
     refine GH (.bool (nC la)) (fun _ uw hcx=>Gives.call rfl (cA vF rfl) (qJ la uw)) ?_
     refine gk 1 ?_
     refine GH (.agg (xA E64 [(lw (nC la) tx).1,(lw (nC la) tx).2]).toArray) (fun _ uw hcx=>Gives.call rfl (cA vF rfl) (XL (nC la) tx uw)) ?_
     refine gk 2 ?_
     refine GH (.bool (nC lb)) (fun _ uw hcx=>Gives.call rfl (cA vF rfl) (qJ lb uw)) ?_
     refine gk 2 ?_
     refine GH (.agg (xA E64 [(lx ty la).1,(lx ty la).2]).toArray) (fun _ uw hcx=>Gives.call rfl (cA vF rfl) (uD ty la uw)) (GH (.agg (xA E64 [(lw (nC lb) (lx ty la)).1,(lw (nC lb) (lx ty la)).2]).toArray) (fun _ uw hcx=>Gives.call rfl (cA vF rfl) (XL (nC lb) (lx ty la) uw)) (WalkT.eff u1 0 ?_ ?_))
     ·refine tA fun r w0 uw hF hE=>?_
      have H6:=hF.ext hE
      exact gW fun Q' hK=>(bS (E:=aB) (l:=([kA la sv,lw (nC la) tx,kA lb (sv+(1#64)),lw (nC lb) (lx ty la)]:List NB)) fun f4 I6 g4 h4 J6=>hK _ _ (E_ f4 (A_ rfl (A_ g4 h4))))
     refine aA (fun _=>.agg (xA E64 [(cC ([kA la sv,lw (nC la) tx,kA lb (sv+(1#64)),lw (nC lb) (lx ty la)]:List NB)).1,(cC ([kA la sv,lw (nC la) tx,kA lb (sv+(1#64)),lw (nC lb) (lx ty la)]:List NB)).2]).toArray) (fun _ _ _=>rfl) ?_ ?_
     ·refine tA fun r w0 uw hF hE=>?_
      obtain ⟨d0,h0,A0,HH⟩:=hF
      replace HH:=HH.ext hE
      dsimp only
      rw [h0]
      exact Gives.call rfl (cA vF rfl) (kF ([kA la sv,lw (nC la) tx,kA lb (sv+(1#64)),lw (nC lb) (lx ty la)]:List NB) (CA (some d0)) 4 4 (by rfl) (by simp) uw VD)
     refine WalkT.eff u1 1 ?_ ?_
     ·refine tA fun r w0 uw hF hE=>?_
      obtain ⟨d0,h0,A0,i2⟩:=hF
      replace i2:=i2.ext hE
      exact gW fun Q' hK=>(bS (E:=aB) (l:=([cC ([kA la sv,lw (nC la) tx,kA lb (sv+(1#64)),lw (nC lb) (lx ty la)]:List NB)]:List NB)) fun i4 K6 j4 k4 L6=>hK _ _ (E_ d0 (E_ i4 (A_ h0 (A_ rfl (A_ j4 (A_ A0 k4)))))))
     refine WalkT.eff u1 2 ?_ ?_
     ·refine tA fun r w0 uw hF hE=>?_
      obtain ⟨d0,j0,h0,Z0,w1,A0,j2⟩:=hF
      replace j2:=j2.ext hE
      dsimp only
      rw [Z0]
      refine gW fun Q' hK=>?_
      refine aH ?_
      refine ⟨by rw [xH],by rfl,om,?_⟩
      intro l4 m4 n4 M6 o4 N6 p4
      have q4:((gS kA δ first gs zs i).1)++([cC ([kA la sv,lw (nC la) tx,kA lb (sv+(1#64)),lw (nC lb) (lx ty la)]:List NB)]:List NB)=(gS kA δ first gs zs (i+1)).1:=by rw [gS,wE,if_neg x0,if_neg m1,htx,hty,hsv,hla,hlb]; rfl
      have l2:=o4
      have m2:=p4
      rw [q4] at l2 m2
      exact hK _ _ (E_ d0 (E_ j0 (E_ l4 (E_ m4 (E_ n4 (A_ h0 (A_ Z0 (A_ rfl (A_ w1 (A_ A0 (A_ l2 m2)))))))))))
     refine bA (fun r=>r 16) (fun r r' h=>h 16 (by decide) rfl) (fun _ _=>MA rfl) (WalkT.nil fun r w0 O6 hF hE=>?_)
     obtain ⟨d0,j0,G0,X0,Y0,h0,Z0,r4,w1,A0,s4,d1⟩:=hF
     replace d1:=d1.ext hE
     dsimp only
     rw [h0,Z0,r4]
     dsimp only [t1] at w1
     dsimp only [W0] at A0
     dsimp only [y0,q1,V0] at d1
     refine go 2 ?_
     exact ⟨(i+1,G0,X0,Y0,d2,W3,e2,(gS kA δ first gs zs i).2.length+2),_,rfl,kp,⟨⟨om,s4,f2,by rw [gS,wE,if_neg x0,if_neg m1,List.length_append]; rfl⟩,((((((((((((d1.dropk 12).dropk 11).dropk 10).dropk 9).dropk 8).dropk 7).dropk 6).dropk 5).dropk 4).dropk 3).dropk 1).dropk 0)⟩,vd⟩
    ·exfalso
     omega
 ·have hie:i=gs.length:=by omega
  rw [hie] at HL h1 h2
  rw [hie]
  refine go 3 ?_
  refine cl (GM ((zs.length:Nat):Int)  gs ol ga oa gc oc ((gS kA δ first gs zs gs.length).1) (CA k1) (zs.length+gs.length) c1 (by rw [xH]) G2 VD VD om (fun j hj=>by rw [xH]; have:=hg.ook j hj; omega)) ?_
  rintro _ P6 ⟨⟨t4,u4,w4,rfl,x4,y4⟩,z4⟩
  rw [show (oL (gS kA δ first gs zs gs.length).1 ol ol.length).length=ol.length from CE _ _ _]
  have A4:=HL.add z4 y4
  refine go 3 ?_
  exact ⟨_,rfl,k2,c2,z2,t4,u4,w4,rfl,h2,x4,(A4.pk 6 [2,0])⟩
end Go.Proofs.YtljlkhobfdofhaaGreatDoor.Gb
namespace Go.Proofs.YtljlkhobfdofhaaGreatDoor.Gb
open Go Vc Er Circ
theorem eval_ok (n:Int) (gs:List Gt) (ol:List Int) (ga oa:Option Addr) (gc oc:Nat) (ls tb:List Lb) (lsa tsa:Option Addr) (lsc tsc:Nat) (first:BitVec 64) (w:World) (hG:Gl w) (hGs:Rd EG w ga gs) (hOl:Rd EI w oa ol) (hgl:gs.length≤140737488355328) (hol:ol.length≤140737488355328) (hLs:Rd aB w lsa ls) (hTb:Rd aB w tsa tb) (hg:IsC n gs ol) (hm:(ls.length:Int)=n) (hc:tb.length=2*FB gs gs.length):Ca 167 [.agg #[i64 n,.slice ga gs.length gc,.slice oa ol.length oc],.slice lsa ls.length lsc,.slice tsa tb.length tsc,u64 first] w fun v w'=>∃ (k1:Option Nat) (c1:Nat) (z1:LV),v=.tuple #[sO k1 ol.length c1,.nilIface]∧Sl aB k1 (oL (eS kA first gs tb ls gs.length).1 ol ol.length) c1 z1∧Hp No w w' [(k1,wA aB 130 (oL (eS kA first gs tb ls gs.length).1 ol ol.length) z1)]:=by
 let x1:Value:=.slice oa ol.length oc
 subst hm
 have hgt:=hg.gates
 have hot:=hg.outs
 have hhi:=hg.hi
 have han:=rL gs gs.length
 have H:=eA No w
 refine enter (n:=122) Tryz.func167 rfl rfl (vB rfl) ?_
 refine go 1 ?_
 intro b1 w2 t2 H3 u2
 refine go 5 ?_
 refine cl (ZL (ls.length:Nat) gs ol ga oa gc oc ls.length w2 gE VD VD om om hg om) ?_
 rintro _ w5 ⟨rfl,X0⟩
 have H7:=H3.ext X0
 refine go 6 ?_
 refine cl (RR (ls.length:Nat) gs ol ga oa gc oc w5 VD om) ?_
 rintro _ w8 ⟨rfl,Y0⟩
 have Z0:=H7.ext Y0
 refine sq ((AC rfl rfl om).as (v':=iN (2*FB gs gs.length)) (by rfl)) (sq ((TE rfl rfl).as (v':=.bool false) (by exact bF (om))) ?_)
 refine go 0 ?_
 refine cl (Aes.NO w8) ?_
 rintro _ x2 ⟨⟨f0,rfl,d1,ho15⟩,e1⟩
 have g1:=Z0.add1 e1 d1 ho15
 refine go 6 ?_
 refine sq ((iC rfl rfl om).as (v':=iN (ls.length+gs.length)) (by rfl)) (rE (E:=aB) (m:=0) (c:=(ls.length+gs.length)) (z0:=PA) g1 vF vF rfl vF rfl rfl vo vo om om fun y2 z2 A2 C2 D2=>?_)
 refine go 1 ?_
 refine aH ?_
 refine ⟨by simp,by rfl,om,?_⟩
 intro i1 j1 l1 E2 m1 F2 n1
 have o1:(List.replicate 0 PA)++ls=ls:=by rfl
 have C0:=m1
 have D0:=n1
 rw [o1] at C0 D0
 refine go 6 ?_
 refine DA (σ:=Nat × Option Nat × Nat × LV × Nat) (fun (i,k1,c1,z1,m)=>[(2,.slice tsa tb.length tsc),(3,u64 first),(4,pT b1),(11,pT f0),(12,sO k1 (ls.length+i) c1),(13,iN m),(49,.slice ga gs.length gc),(50,iN gs.length),(51,iN i)]) (fun (i,k1,c1,z1,m) w'=>(i≤gs.length∧Sl aB k1 (eS kA first gs tb ls i).1 c1 z1∧m=(eS kA first gs tb ls i).2)∧Hp No w w' [(k1,wA aB 130 ((eS kA first gs tb ls i).1) z1),(rC b1 #[iN ls.length,.slice ga gs.length gc,x1] 218),(rX f0 E8 (AesSpec.dD AesSpec.OC) 456)]) (fun (i,k1,c1,z1,m)=>gs.length-i) ((0,i1,j1,l1,0)) ?_ ?_ ?_
 ·exact ⟨rfl,rfl,rfl,rfl,congrArg (fun q=>Value.slice _ q _) om,rfl,rfl,rfl,rfl,trivial⟩
 ·exact ⟨⟨Nat.zero_le _,C0,rfl⟩,(D0.pk 3 [0,2,1])⟩
 rintro ⟨i,k1,c1,z1,m⟩ ρ p1 ⟨⟨hi,h1,rfl⟩,HL⟩
 have hwl:=yH (h:=kA) (first:=first) (gs:=gs) (tb:=tb) (ls:=ls) i
 have hnx:=DR (h:=kA) (first:=first) (gs:=gs) (tb:=tb) (ls:=ls) i
 refine go 1 ?_
 refine lA (((i:Nat):Int)<(gs.length:Nat)) rfl (fun q1=>?_) (fun q1=>?_)
 ·have hgi:=hg.gok i om
  unfold DD at hgi
  refine go 3 ?_
  intro q0 G2 H2 I2 J2
  refine go 1 ?_
  intro K2 L2 M2
  refine go 6 ?_
  intro h0 N2 O2 P2 Q2
  refine go 1 ?_
  intro R2 E0 S2
  obtain ⟨la,hla⟩:∃ x:Lb,x=(((eS kA first gs tb ls i).1).getD (gs.getD i g0).a.toNat PA):=⟨_,rfl⟩
  rw [← hla] at E0 ⊢
  refine go 4 ?_
  refine lA (((gs.getD i g0).k:Int)=(1:Int)) rfl (fun r0=>?_) (fun r0=>?_)
  ·have hk:=r0
   let k0:List RW:=[(rC q0 #[i64 ((gs.getD i g0).k),i64 ((gs.getD i g0).a),i64 ((gs.getD i g0).b)] 345),(k1,wA aB 130 ((eS kA first gs tb ls i).1) z1),(rC b1 #[iN ls.length,.slice ga gs.length gc,x1] 218),(rX f0 E8 (AesSpec.dD AesSpec.OC) 456)]
   let r1:PD:=[wL false fun _ w'=>Hp No w w' ((rX h0 E64 ([la.1,la.2]) 130)::k0),wL true fun _ w'=>Hp No w w' ((rX h0 E64 ([(lx la (((eS kA first gs tb ls i).1).getD ((gs.getD i g0).b.toNat) PA)).1,(lx la (((eS kA first gs tb ls i).1).getD ((gs.getD i g0).b.toNat) PA)).2]) 130)::k0)]
   refine mB (m:=8) [0,0,0,4,14,30,63,127] [7] k0 r1 JA (fun _ e=>E0.ext e) zE (fun t1=>?_)
   refine gk 6 ?_
   refine GH (.agg (xA E64 [(lx la (((eS kA first gs tb ls i).1).getD ((gs.getD i g0).b.toNat) PA)).1,(lx la (((eS kA first gs tb ls i).1).getD ((gs.getD i g0).b.toNat) PA)).2]).toArray) (fun _ uw hcx=>Gives.call rfl (cA vF rfl) (uD la (((eS kA first gs tb ls i).1).getD ((gs.getD i g0).b.toNat) PA) uw)) (WalkT.eff t1 0 ?_ ?_)
   ·refine tA fun r w0 uw hF hE=>?_
    have T2:=hF.ext hE
    refine PE fun Q' hK=>?_
    refine go 1 ?_
    intro U2 u1 V2
    exact hK _ (fun _=>u1)
   refine WalkT.nil fun r w0 Y2 hF hE=>?_
   have w1:=hF.ext hE
   dsimp only
   dsimp only [k0] at w1
   refine go 2 ?_
   refine bS (E:=aB) (l:=([lx la (((eS kA first gs tb ls i).1).getD ((gs.getD i g0).b.toNat) PA)]:List NB)) fun Z2 c3 d3 e3 f3=>?_
   refine aH ?_
   refine ⟨by rw [yH],by rfl,om,?_⟩
   intro y1 A1 B1 g3 C1 h3 D1
   have E1:((eS kA first gs tb ls i).1)++([lx la (((eS kA first gs tb ls i).1).getD ((gs.getD i g0).b.toNat) PA)]:List NB)=(eS kA first gs tb ls (i+1)).1:=by rw [eS,IG,if_pos hk,hla]
   have F0:=C1
   have G0:=D1
   rw [E1] at F0 G0
   refine go 3 ?_
   exact ⟨(i+1,y1,A1,B1,(eS kA first gs tb ls i).2),_,rfl,kp,⟨⟨om,F0,by rw [eS,IG,if_pos hk]⟩,(((G0.dropk 2).dropk 1).dropk 0)⟩,vd⟩
  ·have l0:=r0
   refine go 2 ?_
   refine lA (((gs.getD i g0).k:Int)=(2:Int)) rfl (fun u0=>?_) (fun u0=>?_)
   ·have hk:=u0
    have han:=oQ gs i om hk
    refine go 6 ?_
    intro H0 i3 j3 k3 l3
    refine go 1 ?_
    intro m3 I0 n3
    obtain ⟨lb,hlb⟩:∃ x:Lb,x=(((eS kA first gs tb ls i).1).getD (gs.getD i g0).b.toNat PA):=⟨_,rfl⟩
    rw [← hlb] at I0 ⊢
    refine go 5 ?_
    obtain ⟨sv,hsv⟩:∃ x:BitVec 64,x=first+(BitVec.ofInt 64 ((eS kA first gs tb ls i).2:Nat)):=⟨_,rfl⟩
    rw [← hsv]
    refine go 0 ?_
    let d0:List RW:=[(rX H0 E64 ([lb.1,lb.2]) 130),(rX h0 E64 ([la.1,la.2]) 130),(rC q0 #[i64 ((gs.getD i g0).k),i64 ((gs.getD i g0).a),i64 ((gs.getD i g0).b)] 345),(k1,wA aB 130 ((eS kA first gs tb ls i).1) z1),(rC b1 #[iN ls.length,.slice ga gs.length gc,x1] 218),(rX f0 E8 (AesSpec.dD AesSpec.OC) 456)]
    let x0:=fun (a0:Nat)=>((rX a0 E64 ([(tb.getD ((eS kA first gs tb ls i).2) PA).1,(tb.getD ((eS kA first gs tb ls i).2) PA).2]) 130):RW)
    let J0:=fun (a0:Nat)=>((rX a0 E64 ([0#64,0#64]) 130):RW)
    let K0:=fun (b0:Nat)=>((rX b0 E64 ([0#64,0#64]) 130):RW)
    let F1:PD:=[EH false false false false fun _ _ _ _ w'=>Hp No w w' d0,EH true false false false fun v9 _ _ _ w'=>∃ a0,v9=pT a0∧Hp No w w' ((J0 a0)::d0),EH false true false false fun _ v10 _ _ w'=>∃ m0,v10=pT m0∧Hp No w w' ((rX m0 E64 ([0#64,0#64]) 130)::d0),EH true true false false fun v9 v10 _ _ w'=>∃ a0 b0,v9=pT a0∧v10=pT b0∧Hp No w w' ((K0 b0)::(J0 a0)::d0),EH true true true false fun v9 v10 _ _ w'=>∃ a0 b0,v9=pT a0∧v10=pT b0∧Hp No w w' ((K0 b0)::(x0 a0)::d0),EH true true true true fun v9 v10 _ _ w'=>∃ a0 b0,v9=pT a0∧v10=pT b0∧Hp No w w' ((rX b0 E64 ([(tb.getD ((eS kA first gs tb ls i).2+1) PA).1,(tb.getD ((eS kA first gs tb ls i).2+1) PA).2]) 130)::(x0 a0)::d0)]
    refine mB (m:=13) [0,0,3,7,0,0,32,112,240,0,0,1551,4095] [9,10,11,12] d0 F1 JA (fun _ e=>I0.ext e) zE (fun n0=>?_)
    refine gk 6 ?_
    refine JC (iN ((eS kA first gs tb ls i).2+1)) (fun _ uw hcx=>(iC rfl rfl om).as (v':=iN ((eS kA first gs tb ls i).2+1)) (by rfl)) ?_
    refine gk 2 ?_
    refine WalkT.eff n0 0 ?_ ?_
    ·refine tB (fun r w0 uw hF hE=>?_) fun r w0 uw hF hE=>?_
     ·have o3:=hF.ext hE
      refine gW fun Q' hK=>?_
      refine go 1 ?_
      intro G1 p3 q3 H1 r3
      exact hK _ _ (E_ G1 (A_ rfl H1))
     ·obtain ⟨m0,e0,L0⟩:=hF
      replace L0:=L0.ext hE
      refine gW fun Q' hK=>?_
      refine go 1 ?_
      intro I1 t3 u3 J1 w3
      exact hK _ _ (E_ I1 (E_ m0 (A_ rfl (A_ e0 ((J1.pk 2 [1,0]))))))
    refine WalkT.eff n0 1 ?_ ?_
    ·refine tB (fun r w0 uw hF hE=>?_) fun r w0 uw hF hE=>?_
     ·have x3:=hF.ext hE
      refine gW fun Q' hK=>?_
      refine go 1 ?_
      intro K1 y3 z3 L1 A3
      exact hK _ _ (E_ K1 (A_ rfl L1))
     ·obtain ⟨a0,e9,M0⟩:=hF
      replace M0:=M0.ext hE
      refine gW fun Q' hK=>?_
      refine go 1 ?_
      intro M1 B3 C3 N1 D3
      exact hK _ _ (E_ a0 (E_ M1 (A_ e9 (A_ rfl N1))))
    refine WalkT.eff n0 2 ?_ ?_
    ·refine tA fun r w0 uw hF hE=>?_
     obtain ⟨a0,b0,e9,e0,N0⟩:=hF
     replace N0:=N0.ext hE
     dsimp only
     rw [e9]
     refine PE fun Q' hK=>?_
     refine go 1 ?_
     intro E3 O1 F3
     exact hK _ (fun _=>(E_ a0 (E_ b0 (A_ e9 (A_ e0 O1)))))
    refine WalkT.eff n0 3 ?_ ?_
    ·refine tA fun r w0 uw hF hE=>?_
     obtain ⟨a0,b0,e9,e0,O0⟩:=hF
     replace O0:=O0.ext hE
     dsimp only
     rw [e0]
     refine PE fun Q' hK=>?_
     refine go 1 ?_
     intro G3 P1 I3
     exact hK _ (fun _=>(E_ a0 (E_ b0 (A_ e9 (A_ e0 P1)))))
    refine WalkT.nil fun r w0 J3 hF hE=>?_
    obtain ⟨a0,b0,e9,e0,o0⟩:=hF
    replace o0:=o0.ext hE
    dsimp only
    rw [e9,e0]
    dsimp only [d0,x0] at o0
    refine go 1 ?_
    refine sq ((iC rfl rfl om).as (v':=iN ((eS kA first gs tb ls i).2+2)) (by rfl)) ?_
    refine go 1 ?_
    have Q1:=(o0.pk 8 [3,0,1,2,4,5,6,7])
    let i0:List RW:=[(rX b0 E64 ([(tb.getD ((eS kA first gs tb ls i).2+1) PA).1,(tb.getD ((eS kA first gs tb ls i).2+1) PA).2]) 130),(rX a0 E64 ([(tb.getD ((eS kA first gs tb ls i).2) PA).1,(tb.getD ((eS kA first gs tb ls i).2) PA).2]) 130),(rX H0 E64 ([lb.1,lb.2]) 130),(rC q0 #[i64 ((gs.getD i g0).k),i64 ((gs.getD i g0).a),i64 ((gs.getD i g0).b)] 345),(k1,wA aB 130 ((eS kA first gs tb ls i).1) z1),(rC b1 #[iN ls.length,.slice ga gs.length gc,x1] 218),(rX f0 E8 (AesSpec.dD AesSpec.OC) 456)]
    let y0:=fun (c0:Nat)=>(((some c0),wA aB 130 ([kA la sv,lw (nC la) (tb.getD ((eS kA first gs tb ls i).2) PA),kA lb (sv+(1#64)),lw (nC lb) (lx (tb.getD ((eS kA first gs tb ls i).2+1) PA) la)]:List NB) ([])):RW)
    let P0:=((rX h0 E64 ([la.1,la.2]) 130):RW)
    let A0:=fun (c0:Nat)=>(Sl aB (some c0) ([kA la sv,lw (nC la) (tb.getD ((eS kA first gs tb ls i).2) PA),kA lb (sv+(1#64)),lw (nC lb) (lx (tb.getD ((eS kA first gs tb ls i).2+1) PA) la)]:List NB) 4 ([]):Prop)
    let R1:PD:=[JF false false fun _ _ w'=>Hp No w w' (P0::i0),JF true false fun v19 _ w'=>∃ c0,v19=sO (some c0) 4 4∧(A0 c0)∧Hp No w w' ((y0 c0)::P0::i0),JF true true fun v19 _ w'=>∃ c0,v19=sO (some c0) 4 4∧(A0 c0)∧Hp No w w' ((y0 c0)::(rX h0 E64 ([(cC ([kA la sv,lw (nC la) (tb.getD ((eS kA first gs tb ls i).2) PA),kA lb (sv+(1#64)),lw (nC lb) (lx (tb.getD ((eS kA first gs tb ls i).2+1) PA) la)]:List NB)).1,(cC ([kA la sv,lw (nC la) (tb.getD ((eS kA first gs tb ls i).2) PA),kA lb (sv+(1#64)),lw (nC lb) (lx (tb.getD ((eS kA first gs tb ls i).2+1) PA) la)]:List NB)).2]) 130)::i0)]
    refine mB (m:=22) [0,0,0,7,0,31,0,127,0,0,0,1024,4095,0,16383,0,0,131071,262143,524287,1048575,2097151] [19,21] i0 R1 JA (fun _ e=>Q1.ext e) zE (fun Q0=>?_)
    refine gk 3 ?_
    refine GH (.agg (xA E64 [(kA la sv).1,(kA la sv).2]).toArray) (fun _ uw hcx=>Gives.call rfl (cA vF rfl) (zF f0 la sv uw IJ)) ?_
    refine gk 1 ?_
    refine GH (.bool (nC la)) (fun _ uw hcx=>Gives.call rfl (cA vF rfl) (qJ la uw)) ?_
    refine gk 1 ?_
    refine GH (.agg (xA E64 [(lw (nC la) (tb.getD ((eS kA first gs tb ls i).2) PA)).1,(lw (nC la) (tb.getD ((eS kA first gs tb ls i).2) PA)).2]).toArray) (fun _ uw hcx=>Gives.call rfl (cA vF rfl) (XL (nC la) (tb.getD ((eS kA first gs tb ls i).2) PA) uw)) ?_
    refine gk 4 ?_
    refine GH (.agg (xA E64 [(kA lb (sv+(1#64))).1,(kA lb (sv+(1#64))).2]).toArray) (fun _ uw hcx=>Gives.call rfl (cA vF rfl) (zF f0 lb (sv+(1#64)) uw IJ)) ?_
    refine gk 1 ?_
    refine GH (.bool (nC lb)) (fun _ uw hcx=>Gives.call rfl (cA vF rfl) (qJ lb uw)) ?_
    refine gk 2 ?_
    refine GH (.agg (xA E64 [(lx (tb.getD ((eS kA first gs tb ls i).2+1) PA) la).1,(lx (tb.getD ((eS kA first gs tb ls i).2+1) PA) la).2]).toArray) (fun _ uw hcx=>Gives.call rfl (cA vF rfl) (uD (tb.getD ((eS kA first gs tb ls i).2+1) PA) la uw)) (GH (.agg (xA E64 [(lw (nC lb) (lx (tb.getD ((eS kA first gs tb ls i).2+1) PA) la)).1,(lw (nC lb) (lx (tb.getD ((eS kA first gs tb ls i).2+1) PA) la)).2]).toArray) (fun _ uw hcx=>Gives.call rfl (cA vF rfl) (XL (nC lb) (lx (tb.getD ((eS kA first gs tb ls i).2+1) PA) la) uw)) (WalkT.eff Q0 0 ?_ ?_))
    ·refine tA fun r w0 uw hF hE=>?_
     have K3:=hF.ext hE
     exact gW fun Q' hK=>(bS (E:=aB) (l:=([kA la sv,lw (nC la) (tb.getD ((eS kA first gs tb ls i).2) PA),kA lb (sv+(1#64)),lw (nC lb) (lx (tb.getD ((eS kA first gs tb ls i).2+1) PA) la)]:List NB)) fun S1 L3 T1 U1 M3=>hK _ _ (E_ S1 (A_ rfl (A_ T1 U1))))
    refine aA (fun _=>.agg (xA E64 [(cC ([kA la sv,lw (nC la) (tb.getD ((eS kA first gs tb ls i).2) PA),kA lb (sv+(1#64)),lw (nC lb) (lx (tb.getD ((eS kA first gs tb ls i).2+1) PA) la)]:List NB)).1,(cC ([kA la sv,lw (nC la) (tb.getD ((eS kA first gs tb ls i).2) PA),kA lb (sv+(1#64)),lw (nC lb) (lx (tb.getD ((eS kA first gs tb ls i).2+1) PA) la)]:List NB)).2]).toArray) (fun _ _ _=>rfl) ?_ ?_
    ·refine tA fun r w0 uw hF hE=>?_
     obtain ⟨c0,j0,p0,HH⟩:=hF
     replace HH:=HH.ext hE
     dsimp only
     rw [j0]
     exact Gives.call rfl (cA vF rfl) (kF ([kA la sv,lw (nC la) (tb.getD ((eS kA first gs tb ls i).2) PA),kA lb (sv+(1#64)),lw (nC lb) (lx (tb.getD ((eS kA first gs tb ls i).2+1) PA) la)]:List NB) (CA (some c0)) 4 4 (by rfl) (by simp) uw VD)
    refine WalkT.eff Q0 1 ?_ ?_
    ·refine tA fun r w0 uw hF hE=>?_
     obtain ⟨c0,j0,p0,R0⟩:=hF
     replace R0:=R0.ext hE
     refine PE fun Q' hK=>?_
     refine go 1 ?_
     intro N3 V1 O3
     exact hK _ (fun _=>(E_ c0 (A_ j0 (A_ p0 V1))))
    refine WalkT.nil fun r w0 P3 hF hE=>?_
    obtain ⟨c0,j0,p0,B0⟩:=hF
    replace B0:=B0.ext hE
    dsimp only
    rw [j0]
    dsimp only [A0] at p0
    dsimp only [i0,y0] at B0
    refine go 2 ?_
    refine bS (E:=aB) (l:=([cC ([kA la sv,lw (nC la) (tb.getD ((eS kA first gs tb ls i).2) PA),kA lb (sv+(1#64)),lw (nC lb) (lx (tb.getD ((eS kA first gs tb ls i).2+1) PA) la)]:List NB)]:List NB)) fun Q3 R3 S3 T3 U3=>?_
    refine aH ?_
    refine ⟨by rw [yH],by rfl,om,?_⟩
    intro W1 Y1 Z1 V3 c2 W3 d2
    have e2:((eS kA first gs tb ls i).1)++([cC ([kA la sv,lw (nC la) (tb.getD ((eS kA first gs tb ls i).2) PA),kA lb (sv+(1#64)),lw (nC lb) (lx (tb.getD ((eS kA first gs tb ls i).2+1) PA) la)]:List NB)]:List NB)=(eS kA first gs tb ls (i+1)).1:=by rw [eS,IG,if_neg l0,if_pos hk,hsv,hla,hlb]; try rfl
    have S0:=c2
    have T0:=d2
    rw [e2] at S0 T0
    refine go 3 ?_
    exact ⟨(i+1,W1,Y1,Z1,(eS kA first gs tb ls i).2+2),_,rfl,kp,⟨⟨om,S0,by rw [eS,IG,if_neg l0,if_pos hk]⟩,(((((((T0.dropk 6).dropk 5).dropk 4).dropk 3).dropk 2).dropk 1).dropk 0)⟩,vd⟩
   ·have U0:=u0
    refine go 2 ?_
    refine bS (E:=aB) (l:=([la]:List NB)) fun X3 Y3 Z3 c4 d4=>?_
    refine aH ?_
    refine ⟨by rw [yH],by rfl,om,?_⟩
    intro f2 g2 h2 f4 i2 g4 j2
    have k2:((eS kA first gs tb ls i).1)++([la]:List NB)=(eS kA first gs tb ls (i+1)).1:=by rw [eS,IG,if_neg l0,if_neg U0,hla]
    have V0:=i2
    have W0:=j2
    rw [k2] at V0 W0
    refine go 3 ?_
    exact ⟨(i+1,f2,g2,h2,(eS kA first gs tb ls i).2),_,rfl,kp,⟨⟨om,V0,by rw [eS,IG,if_neg l0,if_neg U0]⟩,(((W0.dropk 2).dropk 1).dropk 0)⟩,vd⟩
 ·have hie:i=gs.length:=by omega
  rw [hie] at HL h1
  rw [hie]
  refine go 2 ?_
  refine cl (GM ((ls.length:Nat):Int) gs ol ga oa gc oc ((eS kA first gs tb ls gs.length).1) (CA k1) (ls.length+gs.length) c1 (by rw [yH]) p1 VD VD om (fun j hj=>by rw [yH]; have:=hg.ook j hj; omega)) ?_
  rintro _ h4 ⟨⟨l2,m2,n2,rfl,o2,p2⟩,q2⟩
  rw [show (oL (eS kA first gs tb ls gs.length).1 ol ol.length).length=ol.length from CE _ _ _]
  have r2:=HL.add q2 p2
  refine go 2 ?_
  exact ⟨_,rfl,l2,m2,n2,rfl,o2,(((r2.dropk 3).dropk 2).dropk 1)⟩
end Go.Proofs.YtljlkhobfdofhaaGreatDoor.Gb
namespace Go.Proofs.YtljlkhobfdofhaaGreatDoor.Gb
open Go Vc Er Circ
theorem HV:QA Tryz.prog 57=true:=by kernel_rfl
theorem TK (z δ:Lb) (b:Bool) (w:World):Ca 163 [.agg (xA E64 [z.1,z.2]).toArray,.agg (xA E64 [(δ).1,(δ).2]).toArray,.bool b] w fun v w'=>v=.agg (xA E64 [(lx z (lw b δ)).1,(lx z (lw b δ)).2]).toArray∧Ext w w':=by
 have H:=eA No w
 refine enter (n:=12) Tryz.func163 rfl rfl (vB rfl) ?_
 refine go 1 ?_
 intro d0 k0 l0 m0 n0
 refine go 1 ?_
 intro e0 o0 p0 q0 r0
 refine go 1 ?_
 intro b0 u0 x0 f0 y0
 refine go 0 ?_
 let a0:List RW:=[(rX e0 E64 ([(δ).1,(δ).2]) 130),(rX d0 E64 ([z.1,z.2]) 130)]
 let h0:PD:=[wL false fun _ w'=>Hp No w w' ((rX b0 E64 ([0#64,0#64]) 130)::a0),wL true fun _ w'=>Hp No w w' ((rX b0 E64 ([(lx z (lw b δ)).1,(lx z (lw b δ)).2]) 130)::a0)]
 refine mB (m:=6) [0,0,0,6,15,31] [5] a0 h0 JA (fun _ e=>f0.ext e) zE (fun i0=>?_)
 refine gk 3 ?_
 refine GH (.agg (xA E64 [(lw b δ).1,(lw b δ).2]).toArray) (fun _ uw hcx=>Gives.call rfl (cA vF rfl) (XL b δ uw)) (GH (.agg (xA E64 [(lx z (lw b δ)).1,(lx z (lw b δ)).2]).toArray) (fun _ uw hcx=>Gives.call rfl (cA vF rfl) (uD z (lw b δ) uw)) (WalkT.eff i0 0 ?_ ?_))
 ·refine tA fun r w0 uw hF hE=>?_
  have z0:=hF.ext hE
  refine PE fun Q' hK=>?_
  refine go 1 ?_
  intro A0 j0 B0
  exact hK _ (fun _=>j0)
 refine WalkT.nil fun r w0 C0 hF hE=>?_
 have c0:=hF.ext hE
 dsimp only
 dsimp only [a0] at c0
 refine go 0 ?_
 exact ⟨_,rfl,rfl,c0.chg⟩
theorem lL (l:List Lb) (a0:Option Addr) (n0 c0:Nat) (hn0:n0=l.length) (hl:l.length≤140737488355328) (w:World) (hL:Rd aB w a0 l):Ca 168 [.slice a0 n0 c0] w fun v w'=>v=u64 (DF l (min l.length 64))∧Ext w w':=by
 subst hn0
 have H:=eA No w
 refine enter (n:=23) Tryz.func168 rfl rfl (vB rfl) ?_
 refine go 4 ?_
 refine sq ((FP (a:=(l.length:Nat)) (b:=(64:Int)) rfl rfl).as (v':=iN (min l.length 64)) (by exact congrArg i64 om)) ?_
 refine go 1 ?_
 refine DA (σ:=Nat) (fun q=>[(0,.slice a0 l.length c0),(3,u64 (DF l q)),(7,iN (min l.length 64)),(8,iN q)]) (fun q w'=>q≤min l.length 64∧Hp No w w' []) (fun q=>min l.length 64-q) (0) ?_ ?_ ?_
 ·exact kp
 ·exact ⟨Nat.zero_le _,H⟩
 rintro q ρ w1 ⟨hq,HL⟩
 refine go 1 ?_
 refine lA (((q:Nat):Int)<((min l.length 64):Nat)) rfl (fun c9=>?_) (fun c9=>?_)
 ·refine go 6 ?_
  refine sq (JS (E:=aB) (l:=l) (j:=0) vF (hL.ext HL.chg) om rfl rfl vo om rfl) (sq (KL (E:=aB) (l:=l) (j:=q) (o:=0) (v:=(l.getD q PA)) (u:=u64 ((l.getD q PA).1)) vF (hL.ext HL.chg) (rB om) rfl rfl rfl) ?_)
  refine go 7 ?_
  exact ⟨q+1,_,rfl,⟨rfl,congrArg u64 (by rw [DF]),rfl,rfl,trivial⟩,⟨om,HL⟩,vd⟩
 ·obtain rfl:q=min l.length 64:=by omega
  refine go 2 ?_
  exact ⟨_,rfl,rfl,HL.chg⟩
end Go.Proofs.YtljlkhobfdofhaaGreatDoor.Gb
