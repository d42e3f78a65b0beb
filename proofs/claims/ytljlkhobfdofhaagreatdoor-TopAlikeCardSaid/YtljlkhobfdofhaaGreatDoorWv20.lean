/- What the claim has need of: Garb13, Ms4. -/
import Derived.Test.YtljlkhobfdofhaaGreatDoorWv17
import Derived.Test.YtljlkhobfdofhaaGreatDoorWv19
set_option linter.unusedVariables false
set_option maxHeartbeats 16000000
set_option maxRecDepth 20000
namespace Go.Proofs.YtljlkhobfdofhaaGreatDoor.Gb
open Go Vc Er Circ Co
theorem AR:pD Tryz.prog 235 UC:=ZP (by kernel_rfl) (by kernel_rfl)
theorem one4:QA Tryz.prog 4=true:=by kernel_rfl
theorem IU:qD Tryz.prog 138=some (235,5):=by kernel_rfl
theorem cL (m k1 k2:Nat) (a0:Option Addr) (c0:Nat) (w:World) (h1:m=64) (h2:k1=k2):Ca 243 [.slice a0 m c0,iN k1,iN k2] w fun v w'=>v=.nilIface∧Ext w w':=by
 have H:=eA No w
 refine enter (n:=19) Tryz.func243 rfl rfl (vB rfl) ?_
 refine go 3 ?_
 refine sq ((TE rfl rfl).as (v':=.bool false) (by exact bF (om))) ?_
 refine go 3 ?_
 refine ZA (v:=.bool false) (w':=w) (oA (d':=10) (b:=false) rfl rfl rfl) ((TE rfl rfl).as (v':=.bool false) (by exact bF (om))) ?_
 refine go 2 ?_
 exact ⟨_,rfl,rfl,H.chg⟩
theorem ask_ok (os:List Ot) (a0:Option Addr) (n0 c0:Nat) (hn0:n0=os.length) (hos:os.length=64) (x:BitVec 64) (w:World) (hO:Rd UC w a0 os):Ca 164 [.slice a0 n0 c0,u64 x] w fun v w'=>v=.tuple #[u64 (ME os x 64),.nilIface]∧Ext w w':=by
 subst hn0
 have H:=eA No w
 refine enter (n:=29) Tryz.func164 rfl rfl (vB rfl) ?_
 refine go 3 ?_
 refine cl (cL os.length 0 0 a0 c0 w om om) ?_
 rintro _ w1 ⟨rfl,e0⟩
 have H3:=H.ext e0
 refine go 6 ?_
 refine DA (σ:=Nat) (fun q=>[(1,u64 (ME os x q)),(14,.slice a0 os.length c0),(15,iN os.length),(16,iN q)]) (fun q w'=>q≤os.length∧Hp No w w' []) (fun q=>os.length-q) (0) ?_ ?_ ?_
 ·exact kp
 ·exact ⟨Nat.zero_le _,H3⟩
 rintro q ρ w4 ⟨hq,HL⟩
 refine go 1 ?_
 refine lA (((q:Nat):Int)<(os.length:Nat)) rfl (fun f0=>?_) (fun f0=>?_)
 ·refine go 4 ?_
  intro b6 w7 h0 H8 i0
  refine go 2 ?_
  intro j0 d0 k0
  refine go 2 ?_
  refine FD ((os.getD q WA).ch) rfl (fun b0=>?_) (fun b0=>?_)
  ·refine go 7 ?_
   exact ⟨q+1,_,rfl,⟨congrArg u64 (by rw [ME,if_pos b0]),rfl,rfl,rfl,trivial⟩,⟨om,(d0.dropk 0)⟩,vd⟩
  ·refine go 2 ?_
   exact ⟨q+1,_,rfl,⟨congrArg u64 (by rw [ME,if_neg (by rw [b0]; exact Bool.false_ne_true)]),rfl,rfl,rfl,trivial⟩,⟨om,(d0.dropk 0)⟩,vd⟩
 ·have hqe:q=64:=by omega
  rw [hqe]
  refine go 3 ?_
  exact ⟨_,rfl,rfl,HL.chg⟩
theorem ZU (os:List Ot) (a0:Option Addr) (n0 c0:Nat) (hn0:n0=os.length) (hos:os.length=64) (ask:BitVec 64) (z:List Lb) (za:Option Addr) (n2 zc:Nat) (hn2:n2=z.length) (hz:z.length=64) (δ:Lb) (w:World) (hO:Rd UC w a0 os) (hZ:Rd aB w za z):Ca 165 [.slice a0 n0 c0,u64 ask,.slice za n2 zc,.agg (xA E64 [(δ).1,(δ).2]).toArray] w fun v w'=>∃ (k1:Option Nat) (c1:Nat) (z1:LV),v=.tuple #[sO k1 128 c1,.nilIface]∧Sl aB k1 (jD os ask z δ 64) c1 z1∧Hp No w w' [(k1,wA aB 130 (jD os ask z δ 64) z1)]:=by
 subst hn2
 subst hn0
 have H:=eA No w
 refine enter (n:=59) Tryz.func165 rfl rfl (vB rfl) ?_
 refine go 1 ?_
 intro b1 w2 O1 H3 P1
 refine go 5 ?_
 refine cl (cL os.length z.length 64 a0 c0 w2 om om) ?_
 rintro _ w5 ⟨rfl,Z0⟩
 have H7:=H3.ext Z0
 refine go 4 ?_
 have H8:=H7.nil (wA aB 130 [] [])
 refine go 3 ?_
 refine DA (σ:=Nat × Option Nat × Nat × LV) (fun (i,key,c,sp)=>[(1,u64 ask),(2,.slice za z.length zc),(7,pT b1),(11,sO key (2*i) c),(22,.slice a0 os.length c0),(23,iN os.length),(24,iN i)]) (fun (i,key,c,sp) w'=>(i≤os.length∧Sl aB key (jD os ask z δ i) c sp)∧Hp No w w' [(key,wA aB 130 (jD os ask z δ i) sp),(rX b1 E64 ([(δ).1,(δ).2]) 130)]) (fun (i,key,c,sp)=>os.length-i) ((0,none,0,[])) ?_ ?_ ?_
 ·exact kp
 ·exact ⟨⟨Nat.zero_le _,Sl.none⟩,H8⟩
 rintro ⟨i,key,c,sp⟩ ρ w9 ⟨⟨hi,hS⟩,HL⟩
 let x3:Value:=.agg (xA E64 [(os.getD i WA).r,(os.getD i WA).s]).toArray
 let x2:Value:=.agg (xA E64 [(os.getD i WA).p,(os.getD i WA).q]).toArray
 let x1:Array Value:=#[u64 ((os.getD i WA).p),u64 ((os.getD i WA).q),u64 ((os.getD i WA).r),u64 ((os.getD i WA).s),.bool ((os.getD i WA).ch)]
 have hll:=rF os ask z δ i
 refine go 1 ?_
 refine lA (((i:Nat):Int)<(os.length:Nat)) rfl (fun d1=>?_) (fun d1=>?_)
 ·refine go 4 ?_
  intro P0 Q1 R1 S1 T1
  refine go 2 ?_
  intro U1 Q0 V1
  refine go 5 ?_
  by_cases hq0:CH ask i=0#64
  ·have e1:=(Q0.pk 3 [1,0,2])
   let j0:List RW:=[(rC P0 x1 235),(rX b1 E64 ([(δ).1,(δ).2]) 130)]
   let q0:=fun (b0:Nat)=>(((some b0),wA aB 130 ([z.getD i PA,δ,((os.getD i WA).r,(os.getD i WA).s)]:List NB) ([])):RW)
   let E0:=fun (f0:Nat)=>(((some f0),wA aB 130 ([lx (z.getD i PA) ((os.getD i WA).p,(os.getD i WA).q),cC ([z.getD i PA,δ,((os.getD i WA).r,(os.getD i WA).s)]:List NB)]:List NB) ([])):RW)
   let F0:=((key,wA aB 130 (jD os ask z δ i) sp):RW)
   let r0:=fun (b0:Nat)=>(Sl aB (some b0) ([z.getD i PA,δ,((os.getD i WA).r,(os.getD i WA).s)]:List NB) 3 ([]):Prop)
   let G0:=fun (f0:Nat)=>(Sl aB (some f0) ([lx (z.getD i PA) ((os.getD i WA).p,(os.getD i WA).q),cC ([z.getD i PA,δ,((os.getD i WA).r,(os.getD i WA).s)]:List NB)]:List NB) 2 ([]):Prop)
   let g1:PD:=[IC false false false fun _ _ _ w'=>Hp No w w' (F0::j0),IC true false false fun v20 _ _ w'=>∃ b0,v20=sO (some b0) 3 3∧(r0 b0)∧Hp No w w' ((q0 b0)::F0::j0),IC true true false fun v20 v22 _ w'=>∃ b0 f0,v20=sO (some b0) 3 3∧v22=sO (some f0) 2 2∧(G0 f0)∧(r0 b0)∧Hp No w w' ((E0 f0)::(q0 b0)::F0::j0),IC true true true fun v20 v22 v23 w'=>∃ b0 f0 o0 u0 x0,v20=sO (some b0) 3 3∧v22=sO (some f0) 2 2∧v23=sO o0 ((2*i)+2) u0∧(G0 f0)∧(r0 b0)∧Sl aB o0 (jD os ask z δ (i+1)) u0 x0∧Hp No w w' ((E0 f0)::(q0 b0)::(o0,wA aB 130 (jD os ask z δ (i+1)) x0)::j0)]
   refine mB (m:=25) [0,0,0,6,14,0,0,96,224,510,0,0,3072,7168,0,0,32768,0,229376,491520,1047552,2097150,4194302,8388607,16777215] [20,22,23] j0 g1 JA (fun _ e=>e1.ext e) zE (fun H0=>?_)
   refine gk 5 ?_
   refine JC (u64 0#64) (fun _ uw hcx=>(NA (v:=u64 ((ask >>> (i:Nat))&&&(1#64))) rfl).as (v':=u64 0#64) (by exact congrArg u64 hq0)) ?_
   refine gk 2 ?_
   refine JC x2 (fun _ uw hcx=>kB (cs':=(xA E64 [(os.getD i WA).p,(os.getD i WA).q]).toArray) vF vF (hcx.get (k:=0) rfl) (off:=0) rfl (by exact vB rfl) (by rfl)) (GH (.agg (xA E64 [(lx (z.getD i PA) ((os.getD i WA).p,(os.getD i WA).q)).1,(lx (z.getD i PA) ((os.getD i WA).p,(os.getD i WA).q)).2]).toArray) (fun _ uw hcx=>Gives.call rfl (cA vF rfl) (uD (z.getD i PA) ((os.getD i WA).p,(os.getD i WA).q) uw)) ?_)
   refine gk 5 ?_
   refine JC (u64 0#64) (fun _ uw hcx=>(NA (v:=u64 ((ask >>> (i:Nat))&&&(1#64))) rfl).as (v':=u64 0#64) (by exact congrArg u64 hq0)) (JC (u64 1#64) (fun _ uw hcx=>(DM (a:=1#64) (b:=0#64) rfl rfl).as (v':=u64 1#64) (by exact congrArg u64 sub10)) ?_)
   refine gk 2 ?_
   refine JC x3 (fun _ uw hcx=>kB (cs':=(xA E64 [(os.getD i WA).r,(os.getD i WA).s]).toArray) vF vF (hcx.get (k:=0) rfl) (off:=2) rfl (by exact vB rfl) (by rfl)) (WalkT.eff H0 0 ?_ ?_)
   ·refine tA fun r w0 uw hF hE=>?_
    have W1:=hF.ext hE
    exact gW fun Q' hK=>(bS (E:=aB) (l:=([z.getD i PA,δ,((os.getD i WA).r,(os.getD i WA).s)]:List NB)) fun h1 Y1 i1 j1 Z1=>hK _ _ (E_ h1 (A_ rfl (A_ i1 j1))))
   refine aA (fun _=>.agg (xA E64 [(cC ([z.getD i PA,δ,((os.getD i WA).r,(os.getD i WA).s)]:List NB)).1,(cC ([z.getD i PA,δ,((os.getD i WA).r,(os.getD i WA).s)]:List NB)).2]).toArray) (fun _ _ _=>rfl) ?_ ?_
   ·refine tA fun r w0 uw hF hE=>?_
    obtain ⟨b0,e0,k0,HH⟩:=hF
    replace HH:=HH.ext hE
    dsimp only
    rw [e0]
    exact Gives.call rfl (cA vF rfl) (kF ([z.getD i PA,δ,((os.getD i WA).r,(os.getD i WA).s)]:List NB) (CA (some b0)) 3 3 (by rfl) (by simp) uw VD)
   refine WalkT.eff H0 1 ?_ ?_
   ·refine tA fun r w0 uw hF hE=>?_
    obtain ⟨b0,e0,k0,R0⟩:=hF
    replace R0:=R0.ext hE
    exact gW fun Q' hK=>(bS (E:=aB) (l:=([lx (z.getD i PA) ((os.getD i WA).p,(os.getD i WA).q),cC ([z.getD i PA,δ,((os.getD i WA).r,(os.getD i WA).s)]:List NB)]:List NB)) fun l1 c2 m1 n1 d2=>hK _ _ (E_ b0 (E_ l1 (A_ e0 (A_ rfl (A_ m1 (A_ k0 n1)))))))
   refine WalkT.eff H0 2 ?_ ?_
   ·refine tA fun r w0 uw hF hE=>?_
    obtain ⟨b0,f0,e0,i0,I0,k0,S0⟩:=hF
    replace S0:=S0.ext hE
    dsimp only
    rw [i0]
    refine gW fun Q' hK=>?_
    refine aH ?_
    refine ⟨by rw [rF],by rfl,om,?_⟩
    intro o1 p1 q1 e2 r1 f2 t1
    have u1:(jD os ask z δ i)++([lx (z.getD i PA) ((os.getD i WA).p,(os.getD i WA).q),cC ([z.getD i PA,δ,((os.getD i WA).r,(os.getD i WA).s)]:List NB)]:List NB)=jD os ask z δ (i+1):=by rw [jD,hq0,sub10,oR0,oR1]
    have T0:=r1
    have U0:=t1
    rw [u1] at T0 U0
    exact hK _ _ (E_ b0 (E_ f0 (E_ o1 (E_ p1 (E_ q1 (A_ e0 (A_ i0 (A_ rfl (A_ I0 (A_ k0 (A_ T0 U0)))))))))))
   refine bA (fun r=>r 23) (fun r r' h=>h 23 (by decide) rfl) (fun _ _=>MA rfl) (WalkT.nil fun r w0 g2 hF hE=>?_)
   obtain ⟨b0,f0,o0,u0,x0,e0,i0,J0,I0,k0,w1,y0⟩:=hF
   replace y0:=y0.ext hE
   dsimp only
   rw [e0,i0,J0]
   dsimp only [G0] at I0
   dsimp only [r0] at k0
   dsimp only [j0,E0,q0] at y0
   refine go 2 ?_
   exact ⟨(i+1,o0,u0,x0),_,rfl,kp,⟨⟨om,w1⟩,(((y0.dropk 3).dropk 1).dropk 0)⟩,vd⟩
  ·have y1:=(Q0.pk 3 [1,0,2])
   let l0:List RW:=[(rC P0 x1 235),(rX b1 E64 ([(δ).1,(δ).2]) 130)]
   let z0:=fun (d0:Nat)=>(((some d0),wA aB 130 ([z.getD i PA,δ,((os.getD i WA).p,(os.getD i WA).q)]:List NB) ([])):RW)
   let K0:=fun (h0:Nat)=>(((some h0),wA aB 130 ([lx (z.getD i PA) ((os.getD i WA).r,(os.getD i WA).s),cC ([z.getD i PA,δ,((os.getD i WA).p,(os.getD i WA).q)]:List NB)]:List NB) ([])):RW)
   let L0:=((key,wA aB 130 (jD os ask z δ i) sp):RW)
   let A0:=fun (d0:Nat)=>(Sl aB (some d0) ([z.getD i PA,δ,((os.getD i WA).p,(os.getD i WA).q)]:List NB) 3 ([]):Prop)
   let M0:=fun (h0:Nat)=>(Sl aB (some h0) ([lx (z.getD i PA) ((os.getD i WA).r,(os.getD i WA).s),cC ([z.getD i PA,δ,((os.getD i WA).p,(os.getD i WA).q)]:List NB)]:List NB) 2 ([]):Prop)
   let A1:PD:=[IC false false false fun _ _ _ w'=>Hp No w w' (L0::l0),IC true false false fun v20 _ _ w'=>∃ d0,v20=sO (some d0) 3 3∧(A0 d0)∧Hp No w w' ((z0 d0)::L0::l0),IC true true false fun v20 v22 _ w'=>∃ d0 h0,v20=sO (some d0) 3 3∧v22=sO (some h0) 2 2∧(M0 h0)∧(A0 d0)∧Hp No w w' ((K0 h0)::(z0 d0)::L0::l0),IC true true true fun v20 v22 v23 w'=>∃ d0 h0 p0 B0 C0,v20=sO (some d0) 3 3∧v22=sO (some h0) 2 2∧v23=sO p0 ((2*i)+2) B0∧(M0 h0)∧(A0 d0)∧Sl aB p0 (jD os ask z δ (i+1)) B0 C0∧Hp No w w' ((K0 h0)::(z0 d0)::(p0,wA aB 130 (jD os ask z δ (i+1)) C0)::l0)]
   refine mB (m:=25) [0,0,0,6,14,0,0,96,224,510,0,0,3072,7168,0,0,32768,0,229376,491520,1047552,2097150,4194302,8388607,16777215] [20,22,23] l0 A1 JA (fun _ e=>y1.ext e) zE (fun N0=>?_)
   refine gk 5 ?_
   refine JC (u64 1#64) (fun _ uw hcx=>(NA (v:=u64 ((ask >>> (i:Nat))&&&(1#64))) rfl).as (v':=u64 1#64) (by exact congrArg u64 (LG hq0))) ?_
   refine gk 2 ?_
   refine JC x3 (fun _ uw hcx=>kB (cs':=(xA E64 [(os.getD i WA).r,(os.getD i WA).s]).toArray) vF vF (hcx.get (k:=0) rfl) (off:=2) rfl (by exact vB rfl) (by rfl)) (GH (.agg (xA E64 [(lx (z.getD i PA) ((os.getD i WA).r,(os.getD i WA).s)).1,(lx (z.getD i PA) ((os.getD i WA).r,(os.getD i WA).s)).2]).toArray) (fun _ uw hcx=>Gives.call rfl (cA vF rfl) (uD (z.getD i PA) ((os.getD i WA).r,(os.getD i WA).s) uw)) ?_)
   refine gk 5 ?_
   refine JC (u64 1#64) (fun _ uw hcx=>(NA (v:=u64 ((ask >>> (i:Nat))&&&(1#64))) rfl).as (v':=u64 1#64) (by exact congrArg u64 (LG hq0))) (JC (u64 0#64) (fun _ uw hcx=>(DM (a:=1#64) (b:=1#64) rfl rfl).as (v':=u64 0#64) (by exact congrArg u64 sub11)) ?_)
   refine gk 2 ?_
   refine JC x2 (fun _ uw hcx=>kB (cs':=(xA E64 [(os.getD i WA).p,(os.getD i WA).q]).toArray) vF vF (hcx.get (k:=0) rfl) (off:=0) rfl (by exact vB rfl) (by rfl)) (WalkT.eff N0 0 ?_ ?_)
   ·refine tA fun r w0 uw hF hE=>?_
    have h2:=hF.ext hE
    exact gW fun Q' hK=>(bS (E:=aB) (l:=([z.getD i PA,δ,((os.getD i WA).p,(os.getD i WA).q)]:List NB)) fun B1 i2 C1 D1 j2=>hK _ _ (E_ B1 (A_ rfl (A_ C1 D1))))
   refine aA (fun _=>.agg (xA E64 [(cC ([z.getD i PA,δ,((os.getD i WA).p,(os.getD i WA).q)]:List NB)).1,(cC ([z.getD i PA,δ,((os.getD i WA).p,(os.getD i WA).q)]:List NB)).2]).toArray) (fun _ _ _=>rfl) ?_ ?_
   ·refine tA fun r w0 uw hF hE=>?_
    obtain ⟨d0,e0,m0,HH⟩:=hF
    replace HH:=HH.ext hE
    dsimp only
    rw [e0]
    exact Gives.call rfl (cA vF rfl) (kF ([z.getD i PA,δ,((os.getD i WA).p,(os.getD i WA).q)]:List NB) (CA (some d0)) 3 3 (by rfl) (by simp) uw VD)
   refine WalkT.eff N0 1 ?_ ?_
   ·refine tA fun r w0 uw hF hE=>?_
    obtain ⟨d0,e0,m0,V0⟩:=hF
    replace V0:=V0.ext hE
    exact gW fun Q' hK=>(bS (E:=aB) (l:=([lx (z.getD i PA) ((os.getD i WA).r,(os.getD i WA).s),cC ([z.getD i PA,δ,((os.getD i WA).p,(os.getD i WA).q)]:List NB)]:List NB)) fun E1 k2 F1 G1 l2=>hK _ _ (E_ d0 (E_ E1 (A_ e0 (A_ rfl (A_ F1 (A_ m0 G1)))))))
   refine WalkT.eff N0 2 ?_ ?_
   ·refine tA fun r w0 uw hF hE=>?_
    obtain ⟨d0,h0,e0,i0,O0,m0,W0⟩:=hF
    replace W0:=W0.ext hE
    dsimp only
    rw [i0]
    refine gW fun Q' hK=>?_
    refine aH ?_
    refine ⟨by rw [rF],by rfl,om,?_⟩
    intro H1 I1 J1 m2 K1 o2 L1
    have M1:(jD os ask z δ i)++([lx (z.getD i PA) ((os.getD i WA).r,(os.getD i WA).s),cC ([z.getD i PA,δ,((os.getD i WA).p,(os.getD i WA).q)]:List NB)]:List NB)=jD os ask z δ (i+1):=by rw [jD,LG hq0,sub11,oR0,oR1]
    have X0:=K1
    have Y0:=L1
    rw [M1] at X0 Y0
    exact hK _ _ (E_ d0 (E_ h0 (E_ H1 (E_ I1 (E_ J1 (A_ e0 (A_ i0 (A_ rfl (A_ O0 (A_ m0 (A_ X0 Y0)))))))))))
   refine bA (fun r=>r 23) (fun r r' h=>h 23 (by decide) rfl) (fun _ _=>MA rfl) (WalkT.nil fun r w0 p2 hF hE=>?_)
   obtain ⟨d0,h0,p0,B0,C0,e0,i0,J0,O0,m0,N1,D0⟩:=hF
   replace D0:=D0.ext hE
   dsimp only
   rw [e0,i0,J0]
   dsimp only [M0] at O0
   dsimp only [A0] at m0
   dsimp only [l0,K0,z0] at D0
   refine go 2 ?_
   exact ⟨(i+1,p0,B0,C0),_,rfl,kp,⟨⟨om,N1⟩,(((D0.dropk 3).dropk 1).dropk 0)⟩,vd⟩
 ·have hie:i=64:=by omega
  rw [hie] at HL hS
  rw [hie]
  refine go 3 ?_
  exact ⟨_,rfl,key,c,sp,rfl,hS,(HL.dropk 1)⟩
theorem sZ (os:List Ot) (a0:Option Addr) (n0 c0:Nat) (hn0:n0=os.length) (hos:os.length=64) (x:BitVec 64) (rp:List Lb) (ra:Option Addr) (n2 rc:Nat) (hn2:n2=rp.length) (hr:rp.length=128) (w:World) (hO:Rd UC w a0 os) (hR:Rd aB w ra rp):Ca 166 [.slice a0 n0 c0,u64 x,.slice ra n2 rc] w fun v w'=>∃ (k1:Option Nat) (c1:Nat) (z1:LV),v=.tuple #[sO k1 64 c1,.nilIface]∧Sl aB k1 (uC os x rp 64) c1 z1∧Hp No w w' [(k1,wA aB 130 (uC os x rp 64) z1)]:=by
 subst hn2
 subst hn0
 have H:=eA No w
 refine enter (n:=46) Tryz.func166 rfl rfl (vB rfl) ?_
 refine go 5 ?_
 refine cl (cL os.length rp.length 128 a0 c0 w om om) ?_
 rintro _ w1 ⟨rfl,L0⟩
 have H3:=H.ext L0
 refine go 4 ?_
 have H4:=H3.nil (wA aB 130 [] [])
 refine go 3 ?_
 refine DA (σ:=Nat × Option Nat × Nat × LV) (fun (i,key,c,sp)=>[(1,u64 x),(2,.slice ra rp.length rc),(9,sO key i c),(19,.slice a0 os.length c0),(20,iN os.length),(21,iN i)]) (fun (i,key,c,sp) w'=>(i≤os.length∧Sl aB key (uC os x rp i) c sp)∧Hp No w w' [(key,wA aB 130 (uC os x rp i) sp)]) (fun (i,key,c,sp)=>os.length-i) ((0,none,0,[])) ?_ ?_ ?_
 ·exact kp
 ·exact ⟨⟨Nat.zero_le _,Sl.none⟩,H4⟩
 rintro ⟨i,key,c,sp⟩ ρ w5 ⟨⟨hi,hS⟩,HL⟩
 let x2:RW:=(key,wA aB 130 (uC os x rp i) sp)
 let x1:Array Value:=#[u64 ((os.getD i WA).p),u64 ((os.getD i WA).q),u64 ((os.getD i WA).r),u64 ((os.getD i WA).s),.bool ((os.getD i WA).ch)]
 have hll:=NE os x rp i
 refine go 1 ?_
 refine lA (((i:Nat):Int)<(os.length:Nat)) rfl (fun M0=>?_) (fun M0=>?_)
 ·refine go 4 ?_
  intro b7 w8 q1 H9 r1
  refine go 2 ?_
  intro t1 C0 u1
  refine go 0 ?_
  by_cases hq0:CH x i=0#64
  ·have N0:=(C0.pk 2 [1,0])
   let f0:List RW:=[(rC b7 x1 235)]
   let r0:=fun (b0:Nat)=>(((some b0),wA aB 130 ([lx (rp.getD (2*i+0) PA) ((os.getD i WA).p,(os.getD i WA).q)]:List NB) ([])):RW)
   let u0:=fun (b0:Nat)=>(Sl aB (some b0) ([lx (rp.getD (2*i+0) PA) ((os.getD i WA).p,(os.getD i WA).q)]:List NB) 1 ([]):Prop)
   let O0:PD:=[JF false false fun _ _ w'=>Hp No w w' (x2::f0),JF true false fun v16 _ w'=>∃ b0,v16=sO (some b0) 1 1∧(u0 b0)∧Hp No w w' ((r0 b0)::x2::f0),JF true true fun v16 v17 w'=>∃ b0 h0 k0 l0,v16=sO (some b0) 1 1∧v17=sO h0 (i+1) k0∧(u0 b0)∧Sl aB h0 (uC os x rp (i+1)) k0 l0∧Hp No w w' ((r0 b0)::(h0,wA aB 130 (uC os x rp (i+1)) l0)::f0)]
   refine mB (m:=19) [0,0,0,4,0,0,48,112,240,508,1022,2046,0,4096,12288,32766,65534,131071,262143] [16,17] f0 O0 JA (fun _ e=>N0.ext e) zE (fun D0=>?_)
   refine gk 3 ?_
   refine JC (iN (2*i)) (fun _ uw hcx=>(AC rfl rfl om).as (v':=iN (2*i)) (by exact congrArg i64 om)) ?_
   refine gk 3 ?_
   refine JC (u64 0#64) (fun _ uw hcx=>(fI (a:=x >>> (i:Nat)) (b:=1#64) rfl rfl).as (v':=u64 0#64) (by exact congrArg u64 hq0)) (JC (iN 0) (fun _ uw hcx=>(OJ vF vF (a:=0#64) rfl).as (v':=iN 0) (by rfl)) (JC (iN (2*i+0)) (fun _ uw hcx=>(iC rfl rfl om).as (v':=iN (2*i+0)) (by exact congrArg i64 om)) ?_))
   refine gk 5 ?_
   refine GH (.agg (xA E64 [(lx (rp.getD (2*i+0) PA) ((os.getD i WA).p,(os.getD i WA).q)).1,(lx (rp.getD (2*i+0) PA) ((os.getD i WA).p,(os.getD i WA).q)).2]).toArray) (fun _ uw hcx=>Gives.call rfl (cA vF rfl) (uD (rp.getD (2*i+0) PA) ((os.getD i WA).p,(os.getD i WA).q) uw)) (WalkT.eff D0 0 ?_ ?_)
   ·refine tA fun r w0 uw hF hE=>?_
    have y1:=hF.ext hE
    exact gW fun Q' hK=>(bS (E:=aB) (l:=([lx (rp.getD (2*i+0) PA) ((os.getD i WA).p,(os.getD i WA).q)]:List NB)) fun P0 A1 Q0 R0 B1=>hK _ _ (E_ P0 (A_ rfl (A_ Q0 R0))))
   refine WalkT.eff D0 1 ?_ ?_
   ·refine tA fun r w0 uw hF hE=>?_
    obtain ⟨b0,e0,x0,E0⟩:=hF
    replace E0:=E0.ext hE
    dsimp only
    rw [e0]
    refine gW fun Q' hK=>?_
    refine aH ?_
    refine ⟨by rw [NE],by rfl,om,?_⟩
    intro S0 T0 U0 C1 V0 D1 W0
    have X0:(uC os x rp i)++([lx (rp.getD (2*i+0) PA) ((os.getD i WA).p,(os.getD i WA).q)]:List NB)=uC os x rp (i+1):=by rw [uC,hq0,oR0]; rfl
    have F0:=V0
    have G0:=W0
    rw [X0] at F0 G0
    exact hK _ _ (E_ b0 (E_ S0 (E_ T0 (E_ U0 (A_ e0 (A_ rfl (A_ x0 (A_ F0 G0))))))))
   refine bA (fun r=>r 17) (fun r r' h=>h 17 (by decide) rfl) (fun _ _=>MA rfl) (WalkT.nil fun r w0 E1 hF hE=>?_)
   obtain ⟨b0,h0,k0,l0,e0,y0,x0,Y0,m0⟩:=hF
   replace m0:=m0.ext hE
   dsimp only
   rw [e0,y0]
   dsimp only [u0] at x0
   dsimp only [f0,r0] at m0
   refine go 2 ?_
   exact ⟨(i+1,h0,k0,l0),_,rfl,kp,⟨⟨om,Y0⟩,((m0.dropk 2).dropk 0)⟩,vd⟩
  ·have Z0:=(C0.pk 2 [1,0])
   let i0:List RW:=[(rC b7 x1 235)]
   let z0:=fun (d0:Nat)=>(((some d0),wA aB 130 ([lx (rp.getD (2*i+1) PA) ((os.getD i WA).p,(os.getD i WA).q)]:List NB) ([])):RW)
   let A0:=fun (d0:Nat)=>(Sl aB (some d0) ([lx (rp.getD (2*i+1) PA) ((os.getD i WA).p,(os.getD i WA).q)]:List NB) 1 ([]):Prop)
   let d1:PD:=[JF false false fun _ _ w'=>Hp No w w' (x2::i0),JF true false fun v16 _ w'=>∃ d0,v16=sO (some d0) 1 1∧(A0 d0)∧Hp No w w' ((z0 d0)::x2::i0),JF true true fun v16 v17 w'=>∃ d0 j0 o0 p0,v16=sO (some d0) 1 1∧v17=sO j0 (i+1) o0∧(A0 d0)∧Sl aB j0 (uC os x rp (i+1)) o0 p0∧Hp No w w' ((z0 d0)::(j0,wA aB 130 (uC os x rp (i+1)) p0)::i0)]
   refine mB (m:=19) [0,0,0,4,0,0,48,112,240,508,1022,2046,0,4096,12288,32766,65534,131071,262143] [16,17] i0 d1 JA (fun _ e=>Z0.ext e) zE (fun H0=>?_)
   refine gk 3 ?_
   refine JC (iN (2*i)) (fun _ uw hcx=>(AC rfl rfl om).as (v':=iN (2*i)) (by exact congrArg i64 om)) ?_
   refine gk 3 ?_
   refine JC (u64 1#64) (fun _ uw hcx=>(fI (a:=x >>> (i:Nat)) (b:=1#64) rfl rfl).as (v':=u64 1#64) (by exact congrArg u64 (LG hq0))) (JC (iN 1) (fun _ uw hcx=>(OJ vF vF (a:=1#64) rfl).as (v':=iN 1) (by rfl)) (JC (iN (2*i+1)) (fun _ uw hcx=>(iC rfl rfl om).as (v':=iN (2*i+1)) (by exact congrArg i64 om)) ?_))
   refine gk 5 ?_
   refine GH (.agg (xA E64 [(lx (rp.getD (2*i+1) PA) ((os.getD i WA).p,(os.getD i WA).q)).1,(lx (rp.getD (2*i+1) PA) ((os.getD i WA).p,(os.getD i WA).q)).2]).toArray) (fun _ uw hcx=>Gives.call rfl (cA vF rfl) (uD (rp.getD (2*i+1) PA) ((os.getD i WA).p,(os.getD i WA).q) uw)) (WalkT.eff H0 0 ?_ ?_)
   ·refine tA fun r w0 uw hF hE=>?_
    have F1:=hF.ext hE
    exact gW fun Q' hK=>(bS (E:=aB) (l:=([lx (rp.getD (2*i+1) PA) ((os.getD i WA).p,(os.getD i WA).q)]:List NB)) fun e1 G1 g1 h1 H1=>hK _ _ (E_ e1 (A_ rfl (A_ g1 h1))))
   refine WalkT.eff H0 1 ?_ ?_
   ·refine tA fun r w0 uw hF hE=>?_
    obtain ⟨d0,e0,B0,I0⟩:=hF
    replace I0:=I0.ext hE
    dsimp only
    rw [e0]
    refine gW fun Q' hK=>?_
    refine aH ?_
    refine ⟨by rw [NE],by rfl,om,?_⟩
    intro i1 j1 l1 I1 m1 J1 n1
    have o1:(uC os x rp i)++([lx (rp.getD (2*i+1) PA) ((os.getD i WA).p,(os.getD i WA).q)]:List NB)=uC os x rp (i+1):=by rw [uC,LG hq0,oR0]; rfl
    have J0:=m1
    have K0:=n1
    rw [o1] at J0 K0
    exact hK _ _ (E_ d0 (E_ i1 (E_ j1 (E_ l1 (A_ e0 (A_ rfl (A_ B0 (A_ J0 K0))))))))
   refine bA (fun r=>r 17) (fun r r' h=>h 17 (by decide) rfl) (fun _ _=>MA rfl) (WalkT.nil fun r w0 K1 hF hE=>?_)
   obtain ⟨d0,j0,o0,p0,e0,y0,B0,p1,q0⟩:=hF
   replace q0:=q0.ext hE
   dsimp only
   rw [e0,y0]
   dsimp only [A0] at B0
   dsimp only [i0,z0] at q0
   refine go 2 ?_
   exact ⟨(i+1,j0,o0,p0),_,rfl,kp,⟨⟨om,p1⟩,((q0.dropk 2).dropk 0)⟩,vd⟩
 ·have hie:i=64:=by omega
  rw [hie] at HL hS
  rw [hie]
  refine go 3 ?_
  exact ⟨_,rfl,key,c,sp,rfl,hS,HL⟩
end Go.Proofs.YtljlkhobfdofhaaGreatDoor.Gb
namespace Go.Proofs.YtljlkhobfdofhaaGreatDoor.Ms
open Go Vc Er Ek Circ Mi
open Co Cm
open Go.Proofs.YtljlkhobfdofhaaGreatDoor (Gb.kA)
open Gb (PA lx lw gS eS oL DF ME jD uC)
theorem rQ:SA Tryz.prog 218=true:=by kernel_rfl
theorem arr134:UD Tryz.prog 134=some (2,1):=by kernel_rfl
theorem arr142:UD Tryz.prog 142=some (2,6):=by kernel_rfl
theorem call163:rA Tryz.prog 163=true:=by kernel_rfl
theorem fits134:pD Tryz.prog 134 aB:=bQ (by kernel_rfl) (by kernel_rfl)
theorem nP:ZB Tryz.prog 218=some 3:=by kernel_rfl
theorem sli353:qD Tryz.prog 353=some (134,2):=by kernel_rfl
theorem YP (n:Int) (gs:List Gt) (ol:List Int) (ga oa:Option Addr) (gc oc mg mo:Nat) (hmg:mg=gs.length) (hmo:mo=ol.length) (δ:Mi.Lb) (zs:List Mi.Lb) (za:Option Addr) (zc:Nat) (first:BitVec 64) (m0:Nat) (hm0:m0=zs.length) (w:World) (hG:Gl w) (hGs:Rd EG w ga gs) (hOl:Rd EI w oa ol) (hgl:gs.length≤140737488355328) (hol:ol.length≤140737488355328) (hZ:Rd aB w za zs) (hg:IsC n gs ol) (hm:(zs.length:Int)=n) (hc:Gb.nC δ=true):Ca 162 [.agg #[i64 n,.slice ga mg gc,.slice oa mo oc],.agg (xA E64 [(δ).1,(δ).2]).toArray,.slice za m0 zc,u64 first] w fun v w'=>∃ (k1:Option Nat) (c1:Nat) (z1:LV) (k2:Option Nat) (c2:Nat) (z2:LV),v=.tuple #[sO k1 ((gS Gb.kA δ first gs zs gs.length).2).length c1,sO k2 (oL (gS Gb.kA δ first gs zs gs.length).1 ol ol.length).length c2,.nilIface]∧Sl aB k1 ((gS Gb.kA δ first gs zs gs.length).2) c1 z1∧Sl aB k2 (oL (gS Gb.kA δ first gs zs gs.length).1 ol ol.length) c2 z2∧Hp No w w' [(k1,wA aB 130 ((gS Gb.kA δ first gs zs gs.length).2) z1),(k2,wA aB 130 (oL (gS Gb.kA δ first gs zs gs.length).1 ol ol.length) z2)]:=by
 subst hmg hmo hm0; exact Gb.qT n gs ol ga oa gc oc δ zs za zc first w hG hGs hOl hgl hol hZ hg hm hc
theorem pX (n:Int) (gs:List Gt) (ol:List Int) (ga oa:Option Addr) (gc oc mg mo:Nat) (hmg:mg=gs.length) (hmo:mo=ol.length) (ls tb:List Mi.Lb) (lsa tsa:Option Addr) (lsc tsc:Nat) (first:BitVec 64) (m1 m2:Nat) (hm1:m1=ls.length) (hm2:m2=tb.length) (w:World) (hG:Gl w) (hGs:Rd EG w ga gs) (hOl:Rd EI w oa ol) (hgl:gs.length≤140737488355328) (hol:ol.length≤140737488355328) (hLs:Rd aB w lsa ls) (hTb:Rd aB w tsa tb) (hg:IsC n gs ol) (hm:(ls.length:Int)=n) (hc:tb.length=2*FB gs gs.length):Ca 167 [.agg #[i64 n,.slice ga mg gc,.slice oa mo oc],.slice lsa m1 lsc,.slice tsa m2 tsc,u64 first] w fun v w'=>∃ (k1:Option Nat) (c1:Nat) (z1:LV),v=.tuple #[sO k1 ol.length c1,.nilIface]∧Sl aB k1 (oL (eS Gb.kA first gs tb ls gs.length).1 ol ol.length) c1 z1∧Hp No w w' [(k1,wA aB 130 (oL (eS Gb.kA first gs tb ls gs.length).1 ol ol.length) z1)]:=by
 subst hmg hmo hm1 hm2; exact Gb.eval_ok n gs ol ga oa gc oc ls tb lsa tsa lsc tsc first w hG hGs hOl hgl hol hLs hTb hg hm hc
theorem XP (o:Mo) (q:Int) (a b:W2) (d0 d1:Dr) (zs:List Mi.Lb) (os0 os1:List Ot) (δ:W2) (hcd:Gb.nC δ=true) (hng:nF o.k o.c≠0) (hzl:zs.length=128*wB o) (h0l:os0.length=64*wB o) (h1l:os1.length=64*wB o) (hz:d0.zs.n=zs.length) (hzc:zs.length≤d0.zs.c) (h0n:d0.os.n=os0.length) (h0c:os0.length≤d0.os.c) (h1n:d1.os.n=os1.length) (h1c:os1.length≤d1.os.c) (w:World) (hG:Gl w) (hZ:Rd aB w d0.zs.a zs) (hO0:Rd UC w d0.os.a os0) (hO1:Rd UC w d1.os.a os1):Ca 95 [.agg #[i64 (o.kd),i64 (o.a),i64 (o.b),i64 (o.k),u64 (o.c),i64 (o.pt)],i64 q,.agg (xA E64 [a.1,a.2]).toArray,.agg (xA E64 [b.1,b.2]).toArray,.agg #[u64 (d0.w),u64 (d0.t.a),u64 (d0.t.b),u64 (d0.t.c),.slice d0.os.a d0.os.n d0.os.c,.slice d0.zs.a d0.zs.n d0.zs.c,u64 (d1.w),u64 (d1.t.a),u64 (d1.t.b),u64 (d1.t.c),.slice d1.os.a d1.os.n d1.os.c,.slice d1.zs.a d1.zs.n d1.zs.c],.agg (xA E64 [(δ).1,(δ).2]).toArray] w fun v w'=>v=.agg (xA E64 [(lJ Gb.kA o q a b δ zs os0 os1).1,(lJ Gb.kA o q a b δ zs os0 os1).2]).toArray∧Ext w w':=by
 let x1:Array Value:=#[u64 (d0.w),u64 (d0.t.a),u64 (d0.t.b),u64 (d0.t.c),.slice d0.os.a d0.os.n d0.os.c,.slice d0.zs.a d0.zs.n d0.zs.c,u64 (d1.w),u64 (d1.t.a),u64 (d1.t.b),u64 (d1.t.c),.slice d1.os.a d1.os.n d1.os.c,.slice d1.zs.a d1.zs.n d1.zs.c]
 have hog:=LK o
 have hA:=WL o hng []
 have hol:=VF o
 have hgl:=iJ o
 have hzn:((zs.length:Nat):Int)=((128*wB o:Nat):Int):=by rw [hzl]
 have H:=eA No w
 refine enter (n:=156) Tryz.func95 rfl rfl (vB rfl) ?_
 refine go 1 ?_
 intro n0 C2 D2 E2 F2
 refine go 1 ?_
 intro o0 G2 H2 I2 J2
 refine go 1 ?_
 intro p0 K2 L2 M2 N2
 refine go 1 ?_
 intro e0 O2 P2 Q2 R2
 refine go 1 ?_
 intro f0 S2 T2 U2 V2
 refine go 1 ?_
 intro h0 e1 Y2 g1 Z2
 refine go 4 ?_
 refine Vc.cl (QK o hng e1) ?_
 rintro _ c3 ⟨c0,i0,h1,l0,rfl,d3,i1⟩
 let x4:Option Addr:=some ⟨l0,0,none⟩
 have e3:=(g1.join i1).a8 rfl
 refine go 4 ?_
 intro j0 f3 g3 h3 i3
 refine go 1 ?_
 intro j1 k1 j3
 refine go 7 ?_
 refine sq ((MQ (a:=BitVec.ofInt 64 q) (c:=32) rfl rfl).as (v':=u64 (RT q)) (by rfl)) ?_
 refine go 5 ?_
 refine Vc.cl (YP ((128*wB o):Nat) ((TA o).1) ((TA o).2) (CA c0) x4 i0 64 ((TA o).1.length) 64 (by rfl) (by exact (VF _).symm) δ zs d0.zs.a d0.zs.c (RT q) d0.zs.n (by exact hz) j1 gE VD (Rd.row IJ) om om VD hA.is hzn hcd) ?_
 rintro _ k3 ⟨z0,K0,l1,A0,L0,m1,rfl,n1,o1,M0⟩
 obtain ⟨tb,htb⟩:∃ x,x=(gS Gb.kA δ (RT q) (TA o).1 zs (TA o).1.length).2:=⟨_,rfl⟩
 let x5:RW:=(z0,wA aB 130 tb l1)
 obtain ⟨ot,hot⟩:∃ x,x=oL (gS Gb.kA δ (RT q) (TA o).1 zs (TA o).1.length).1 (TA o).2 (TA o).2.length:=⟨_,rfl⟩
 let x7:RW:=(A0,wA aB 130 ot m1)
 let x6:RW:=(c0,wA EG 345 ((TA o).1) h1)
 let x2:Array Value:=#[i64 (o.kd),i64 (o.a),i64 (o.b),i64 (o.k),u64 (o.c),i64 (o.pt)]
 rw [← htb] at n1 M0 ⊢
 rw [← hot] at o1 M0 ⊢
 have p1:=(k1.join M0).a11 rfl
 refine go 8 ?_
 have q1:=p1.nil (wA aB 130 [] [])
 refine go 0 ?_
 let B0:List RW:=[(none,wA aB 130 ([]) ([])),x5,x7,(rC j0 #[iN (128*wB o),sO c0 ((TA o).1.length) i0,.slice x4 64 64] 218),x6,(rX l0 EI ((TA o).2) 336),(rX h0 E64 ([0#64,0#64]) 134),(rX f0 E64 ([(δ).1,(δ).2]) 130),(rC e0 x1 142),(rX p0 E64 ([b.1,b.2]) 134),(rX o0 E64 ([a.1,a.2]) 134),(rC n0 x2 105)]
 let r1:PD:=[wL false fun _ w'=>Hp No w w' B0,wL true fun v2 w'=>∃ b0,v2=sO (some b0) 2 2∧Sl aB (some b0) ([a,b]:List NB) 2 ([])∧Hp No w w' (((some b0),wA aB 134 ([a,b]:List NB) ([]))::B0)]
 refine mB (m:=8) [0,0,3,0,8,31,63,0] [2] B0 r1 JA (fun _ e=>q1.ext e) zE (fun t1=>?_)
 refine gk 2 ?_
 refine WalkT.eff t1 0 ?_ ?_
 ·refine tA fun r w0 uw hF hE=>?_
  have l3:=hF.ext hE
  exact gW fun Q' hK=>(bS (E:=aB) (l:=([a,b]:List NB)) fun u1 m3 w1 y1 n3=>hK _ _ (E_ u1 (A_ rfl (A_ w1 y1))))
 refine gk 1 ?_
 refine GH (iN (wB o)) (fun _ uw hcx=>Gives.call rfl (cA vF rfl) (jI o uw)) (aA (fun r=>cutV (r 2) (wB o)) (fun r r' h=>by rw [h 2 (by decide) rfl]) ?_ ?_)
 ·refine tA fun r w0 uw hF hE=>?_
  obtain ⟨b0,e2,C0,HH⟩:=hF
  replace HH:=HH.ext hE
  dsimp only
  rw [e2]
  exact Gives.run rfl ((qE (l:=0) (h:=wB o) vF rfl (.inr ⟨rfl,rfl⟩) (.inl ⟨_,_,_,rfl,rfl,by first | rfl | omega | (simp; omega)⟩) om om).as (v':=.slice (if 2=0 then CA (some b0) else LD (CA (some b0)) (0*2)) (wB o) (2-0)) (by first | rfl | (congr 1; omega) | (simp; omega) | simp)) ⟨rfl,Chg.refl _ _⟩
 refine aA (fun _=>iN (wB o)) (fun _ _ _=>rfl) ?_ ?_
 ·refine tA fun r w0 uw hF hE=>?_
  obtain ⟨b0,e2,C0,HH⟩:=hF
  replace HH:=HH.ext hE
  dsimp only
  rw [e2]
  exact nH
 refine gk 1 ?_
 refine WalkT.nil fun r w0 o3 hF hE=>?_
 obtain ⟨b0,e2,C0,D0⟩:=hF
 let x3:RW:=((some b0),wA aB 134 ([a,b]:List NB) ([]))
 replace D0:=D0.ext hE
 dsimp only
 rw [e2]
 dsimp only [B0] at D0
 refine go 0 ?_
 refine DA (σ:=Nat × Option Nat × Nat × LV) (fun (k,kl,cl,sl)=>[(10,pT e0),(11,pT f0),(12,pT h0),(13,pT j0),(15,.slice d0.zs.a d0.zs.n d0.zs.c),(16,u64 (RT q)),(17,sO z0 tb.length K0),(18,sO A0 ot.length L0),(20,sO kl (128*k) cl),(62,.slice (if 2=0 then CA (some b0) else LD (CA (some b0)) (0*2)) (wB o) (2-0)),(63,iN (wB o)),(64,iN k)]) (fun (k,kl,cl,sl) w'=>(k≤wB o∧Sl aB kl (tL δ zs os0 os1 a b k) cl sl)∧Hp No w w' [(kl,wA aB 130 (tL δ zs os0 os1 a b k) sl),x3,x5,x7,(rC j0 #[iN (128*wB o),sO c0 ((TA o).1.length) i0,.slice x4 64 64] 218),x6,(rX l0 EI ((TA o).2) 336),(rX h0 E64 ([0#64,0#64]) 134),(rX f0 E64 ([(δ).1,(δ).2]) 130),(rC e0 x1 142),(rX p0 E64 ([b.1,b.2]) 134),(rX o0 E64 ([a.1,a.2]) 134),(rC n0 x2 105)]) (fun (k,kl,cl,sl)=>wB o-k) ((0,none,0,([]))) ?_ ?_ ?_
 ·exact kp
 ·exact ⟨⟨Nat.zero_le _,Sl.none⟩,(D0.pk 13 [1,0,2,3,4,5,6,7,8,9,10,11,12])⟩
 rintro ⟨k,kl,cl,sl⟩ ρ z1 ⟨⟨hk,hSl⟩,HL⟩
 refine go 1 ?_
 refine lA (((k:Nat):Int)<(wB o:Nat)) rfl (fun A1=>?_) (fun A1=>?_)
 ·refine go 1 ?_
  refine sq (OF (E:=aB) (l:=(([a,b]:List NB).drop 0).take (wB o)) (j:=k) vF (Rd.sub (HL.rd (k:=1) rfl C0) 0 (wB o) (m:=2) (fun e=>by first | exact absurd e om | (rw [show wB o=0 by omega]; rfl))) rfl rfl vo (by first | rfl | omega | (simp; omega) | (simp at *; omega)) (by rw [List.length_take,List.length_drop]; show k<min (wB o) (2-0); omega)) (sq (((lG (E:=aB) (l:=(([a,b]:List NB).drop 0).take (wB o)) (j:=k) (v:=((([a,b]:List NB).drop 0).take (wB o)).getD k PA) fits134 (Rd.sub (HL.rd (k:=1) rfl C0) 0 (wB o) (m:=2) (fun e=>by first | exact absurd e om | (rw [show wB o=0 by omega]; rfl))) rfl rfl (rB (by rw [List.length_take,List.length_drop]; show k<min (wB o) (2-0); omega))).as (v':=.agg (xA E64 [(((([a,b]:List NB).drop 0).take (wB o)).getD k PA).1,(((([a,b]:List NB).drop 0).take (wB o)).getD k PA).2]).toArray) rfl).as (v':=.agg (xA E64 [((if k=0 then a else b)).1,((if k=0 then a else b)).2]).toArray) (by rw [ab_at a b k (wB o) om om])) ?_)
  refine go 1 ?_
  intro E0 p3 q3 r3 t3
  refine go 2 ?_
  intro u3 B1 w3
  refine go 1 ?_
  refine DA (σ:=Nat × Option Nat × Nat × LV) (fun (i,km,cm,sm)=>[(10,pT e0),(11,pT f0),(12,pT h0),(13,pT j0),(15,.slice d0.zs.a d0.zs.n d0.zs.c),(16,u64 (RT q)),(17,sO z0 tb.length K0),(18,sO A0 ot.length L0),(20,sO km (128*k+i) cm),(21,iN k),(22,pT E0),(62,.slice (if 2=0 then CA (some b0) else LD (CA (some b0)) (0*2)) (wB o) (2-0)),(63,iN (wB o)),(64,iN k),(69,iN i)]) (fun (i,km,cm,sm) w'=>(i≤64∧Sl aB km (tL δ zs os0 os1 a b k++xN δ zs k (if k=0 then a else b).1 i) cm sm)∧Hp No w w' [(km,wA aB 130 (tL δ zs os0 os1 a b k++xN δ zs k (if k=0 then a else b).1 i) sm),(rX E0 E64 ([((if k=0 then a else b)).1,((if k=0 then a else b)).2]) 134),x3,x5,x7,(rC j0 #[iN (128*wB o),sO c0 ((TA o).1.length) i0,.slice x4 64 64] 218),x6,(rX l0 EI ((TA o).2) 336),(rX h0 E64 ([0#64,0#64]) 134),(rX f0 E64 ([(δ).1,(δ).2]) 130),(rC e0 x1 142),(rX p0 E64 ([b.1,b.2]) 134),(rX o0 E64 ([a.1,a.2]) 134),(rC n0 x2 105)]) (fun (i,km,cm,sm)=>64-i) ((0,kl,cl,sl)) ?_ ?_ ?_
  ·exact kp
  ·exact ⟨⟨Nat.zero_le _,by rw [xN,List.append_nil]; exact hSl⟩,by rw [xN,List.append_nil]; exact (B1.pk 14 [1,0,2,3,4,5,6,7,8,9,10,11,12,13])⟩
  rintro ⟨i,km,cm,sm⟩ ρ C1 ⟨⟨hi,hSm⟩,HM⟩
  refine go 1 ?_
  refine lA (((i:Nat):Int)<(64:Int)) rfl (fun D1=>?_) (fun D1=>?_)
  ·refine go 2 ?_
   let q0:List RW:=[(rX E0 E64 ([((if k=0 then a else b)).1,((if k=0 then a else b)).2]) 134),x3,x5,x7,(rC j0 #[iN (128*wB o),sO c0 ((TA o).1.length) i0,.slice x4 64 64] 218),x6,(rX l0 EI ((TA o).2) 336),(rX h0 E64 ([0#64,0#64]) 134),(rX f0 E64 ([(δ).1,(δ).2]) 130),(rC e0 x1 142),(rX p0 E64 ([b.1,b.2]) 134),(rX o0 E64 ([a.1,a.2]) 134),(rC n0 x2 105)]
   let N0:=fun (a0:Nat)=>(((some a0),wA aB 130 ([lx (zs.getD (128*k+i) PA) (lw (decide ((((((if k=0 then a else b)).1) >>> (i:Nat))&&&(1#64))=(1#64))) δ)]:List NB) ([])):RW)
   let R0:=((km,wA aB 130 (tL δ zs os0 os1 a b k++xN δ zs k (if k=0 then a else b).1 i) sm):RW)
   let O0:=fun (a0:Nat)=>(Sl aB (some a0) ([lx (zs.getD (128*k+i) PA) (lw (decide ((((((if k=0 then a else b)).1) >>> (i:Nat))&&&(1#64))=(1#64))) δ)]:List NB) 1 ([]):Prop)
   let E1:PD:=[JF false false fun _ _ w'=>Hp No w w' (R0::q0),JF true false fun v16 _ w'=>∃ a0,v16=sO (some a0) 1 1∧(O0 a0)∧Hp No w w' ((N0 a0)::R0::q0),JF true true fun v16 v17 w'=>∃ a0 r0 F0 G0,v16=sO (some a0) 1 1∧v17=sO r0 ((128*k+i)+1) F0∧(O0 a0)∧Sl aB r0 (tL δ zs os0 os1 a b k++xN δ zs k (if k=0 then a else b).1 (i+1)) F0 G0∧Hp No w w' ((N0 a0)::(r0,wA aB 130 (tL δ zs os0 os1 a b k++xN δ zs k (if k=0 then a else b).1 (i+1)) G0)::q0)]
   refine mB (m:=19) [0,0,0,4,0,28,62,126,0,0,512,0,3584,7680,15872,32766,65534,131071,262143] [16,17] q0 E1 JA (fun _ e=>HM.ext e) zE (fun S0=>?_)
   refine gk 15 ?_
   refine GH (.agg (xA E64 [(lx (zs.getD (128*k+i) PA) (lw (decide ((((((if k=0 then a else b)).1) >>> (i:Nat))&&&(1#64))=(1#64))) δ)).1,(lx (zs.getD (128*k+i) PA) (lw (decide ((((((if k=0 then a else b)).1) >>> (i:Nat))&&&(1#64))=(1#64))) δ)).2]).toArray) (fun _ uw hcx=>Gives.call rfl (cA vF rfl) (Gb.TK (zs.getD (128*k+i) PA) δ (decide ((((((if k=0 then a else b)).1) >>> (i:Nat))&&&(1#64))=(1#64))) uw)) (WalkT.eff S0 0 ?_ ?_)
   ·refine tA fun r w0 uw hF hE=>?_
    have y3:=hF.ext hE
    exact gW fun Q' hK=>(bS (E:=aB) (l:=([lx (zs.getD (128*k+i) PA) (lw (decide ((((((if k=0 then a else b)).1) >>> (i:Nat))&&&(1#64))=(1#64))) δ)]:List NB)) fun F1 z3 G1 H1 A3=>hK _ _ (E_ F1 (A_ rfl (A_ G1 H1))))
   refine WalkT.eff S0 1 ?_ ?_
   ·refine tA fun r w0 uw hF hE=>?_
    obtain ⟨a0,H0,P0,T0⟩:=hF
    replace T0:=T0.ext hE
    dsimp only
    rw [H0]
    refine gW fun Q' hK=>?_
    refine aH ?_
    refine ⟨by rw [List.length_append,eG,TF],by rfl,om,?_⟩
    intro I1 J1 K1 B3 L1 C3 M1
    have N1:(tL δ zs os0 os1 a b k++xN δ zs k (if k=0 then a else b).1 i)++([lx (zs.getD (128*k+i) PA) (lw (decide ((((((if k=0 then a else b)).1) >>> (i:Nat))&&&(1#64))=(1#64))) δ)]:List NB)=tL δ zs os0 os1 a b k++xN δ zs k (if k=0 then a else b).1 (i+1):=by rw [xN,List.append_assoc]
    have U0:=L1
    have V0:=M1
    rw [N1] at U0 V0
    exact hK _ _ (E_ a0 (E_ I1 (E_ J1 (E_ K1 (A_ H0 (A_ rfl (A_ P0 (A_ U0 V0))))))))
   refine bA (fun r=>r 17) (fun r r' h=>h 17 (by decide) rfl) (fun _ _=>MA rfl) (WalkT.nil fun r w0 D3 hF hE=>?_)
   obtain ⟨a0,r0,F0,G0,H0,O1,P0,P1,I0⟩:=hF
   replace I0:=I0.ext hE
   dsimp only
   rw [H0,O1]
   dsimp only [O0] at P0
   dsimp only [q0,N0] at I0
   refine go 2 ?_
   exact ⟨(i+1,r0,F0,G0),_,rfl,kp,⟨⟨om,P1⟩,(I0.dropk 0)⟩,vd⟩
  ·obtain rfl:i=64:=by omega
   refine go 0 ?_
   refine GB (K:=[none,none,none,none,none,none,none,none,none,none,none,none,none,none,none,none,none,none,none,none]) [0,1,3,0,8,0,32,96,255,0,512,1536,0,4096,0,16384,49152,130560,511,524287] (fun w'=>Ext C1 w') (fun w' w''=>Ext w' w'') JA (by kernel_rfl) (Ext.drew _) (fun _ _ h h'=>h.trans h') ?_ ?_
   ·exact LB (by decide)
   refine gk 8 ?_
   refine ⟨.slice (if d1.os.c=64*k then d1.os.a else LD d1.os.a ((64*k)*5)) 64 (d1.os.c-(64*k)),fun _ E3 F3 _=>Gives.run rfl ((qE (l:=64*k) (h:=64*k+64) vF rfl (.inl ⟨_,_,_,rfl,rfl,by first | rfl | omega | (simp; omega)⟩) (.inl ⟨_,_,_,rfl,rfl,by first | rfl | omega | (simp; omega)⟩) om om).as (v':=.slice (if d1.os.c=64*k then d1.os.a else LD d1.os.a ((64*k)*5)) 64 (d1.os.c-(64*k))) (by rw [show (64*k+64)-(64*k)=64 by omega])) ⟨rfl,Chg.refl _ _⟩,?_⟩
   refine gk 8 ?_
   refine ⟨.slice (if d0.os.c=64*k then d0.os.a else LD d0.os.a ((64*k)*5)) 64 (d0.os.c-(64*k)),fun _ G3 H3 _=>Gives.run rfl ((qE (l:=64*k) (h:=64*k+64) vF rfl (.inl ⟨_,_,_,rfl,rfl,by first | rfl | omega | (simp; omega)⟩) (.inl ⟨_,_,_,rfl,rfl,by first | rfl | omega | (simp; omega)⟩) om om).as (v':=.slice (if d0.os.c=64*k then d0.os.a else LD d0.os.a ((64*k)*5)) 64 (d0.os.c-(64*k))) (by rw [show (64*k+64)-(64*k)=64 by omega])) ⟨rfl,Chg.refl _ _⟩,?_⟩
   refine gk 2 ?_
   intro r230 Q1 R1 hF
   have W0:=HM.ext R1
   have hml:((os1.drop (64*k)).take 64).length=64:=by rw [List.length_take,List.length_drop]; omega
   have htl:((os0.drop (64*k)).take 64).length=64:=by rw [List.length_take,List.length_drop]; omega
   have hzl2:((zs.drop (128*k+64)).take 64).length=64:=by rw [List.length_take,List.length_drop]; omega
   refine go 3 ?_
   refine Vc.cl (Gb.ask_ok ((os1.drop (64*k)).take (64)) (if d1.os.c=64*k then d1.os.a else LD d1.os.a ((64*k)*5)) 64 (d1.os.c-(64*k)) (by first | rfl | omega | (simp; omega) | (simp at *; omega)) hml (((if k=0 then a else b)).2) Q1 (Rd.sub (hO1.ext W0.chg) (64*k) (64) (m:=d1.os.c) (fun e=>by first | exact absurd e om | (rw [show 64=0 by omega]; rfl)))) ?_
   rintro _ I3 ⟨rfl,S1⟩
   have T1:=W0.ext S1
   refine go 5 ?_
   let J0:List RW:=[(km,wA aB 130 (tL δ zs os0 os1 a b k++xN δ zs k (if k=0 then a else b).1 64) sm),(rX E0 E64 ([((if k=0 then a else b)).1,((if k=0 then a else b)).2]) 134),x3,x5,x7,(rC j0 #[iN (128*wB o),sO c0 ((TA o).1.length) i0,.slice x4 64 64] 218),x6,(rX l0 EI ((TA o).2) 336),(rX h0 E64 ([0#64,0#64]) 134),(rX f0 E64 ([(δ).1,(δ).2]) 130),(rC e0 x1 142),(rX p0 E64 ([b.1,b.2]) 134),(rX o0 E64 ([a.1,a.2]) 134),(rC n0 x2 105)]
   let U1:PD:=[wL false fun _ w'=>Hp No w w' J0,wL true fun v11 w'=>∃ k0 m0 u0,v11=.tuple #[sO k0 128 m0,.nilIface]∧Sl aB k0 (jD ((os0.drop (64*k)).take (64)) (ME ((os1.drop (64*k)).take (64)) (((if k=0 then a else b)).2) 64) ((zs.drop (128*k+64)).take (64)) δ 64) m0 u0∧Hp No w w' ((k0,wA aB 130 (jD ((os0.drop (64*k)).take (64)) (ME ((os1.drop (64*k)).take (64)) (((if k=0 then a else b)).2) 64) ((zs.drop (128*k+64)).take (64)) δ 64) u0)::J0)]
   refine mB (m:=17) [0,0,0,0,8,24,0,64,192,508,0,2047,4095,8191,8191,16383,65535] [11] J0 U1 JA (fun _ e=>T1.ext e) zE (fun V1=>?_)
   refine gk 9 ?_
   refine JC (.slice (if d0.zs.c=128*k+64 then d0.zs.a else LD d0.zs.a ((128*k+64)*2)) 64 (d0.zs.c-(128*k+64))) (fun _ uw hcx=>(qE (l:=128*k+64) (h:=128*k+128) vF rfl (.inl ⟨_,_,_,rfl,rfl,by first | rfl | omega | (simp; omega)⟩) (.inl ⟨_,_,_,rfl,rfl,by first | rfl | omega | (simp; omega)⟩) om om).as (v':=.slice (if d0.zs.c=128*k+64 then d0.zs.a else LD d0.zs.a ((128*k+64)*2)) 64 (d0.zs.c-(128*k+64))) (by rw [show (128*k+128)-(128*k+64)=64 by omega])) ?_
   refine gk 1 ?_
   refine WalkT.eff V1 0 ?_ ?_
   ·refine tA fun r w0 uw hF hE=>?_
    have Q0:=hF.ext hE
    refine gW fun Q' hK=>(Vc.cl (Gb.ZU ((os0.drop (64*k)).take (64)) (if d0.os.c=64*k then d0.os.a else LD d0.os.a ((64*k)*5)) 64 (d0.os.c-(64*k)) (by first | rfl | omega | (simp; omega) | (simp at *; omega)) htl (ME ((os1.drop (64*k)).take (64)) (((if k=0 then a else b)).2) 64) ((zs.drop (128*k+64)).take (64)) (if d0.zs.c=128*k+64 then d0.zs.a else LD d0.zs.a ((128*k+64)*2)) 64 (d0.zs.c-(128*k+64)) (by first | rfl | omega | (simp; omega) | (simp at *; omega)) hzl2 δ uw (Rd.sub (hO0.ext Q0.chg) (64*k) (64) (m:=d0.os.c) (fun e=>by first | exact absurd e om | (rw [show 64=0 by omega]; rfl))) (Rd.sub (hZ.ext Q0.chg) (128*k+64) (64) (m:=d0.zs.c) (fun e=>by first | exact absurd e om | (rw [show 64=0 by omega]; rfl)))) ?_)
    rintro _ J3 ⟨W1,Y1,Z1,rfl,c2,d2⟩
    have f2:=(Q0.join d2).a15 rfl
    exact hK _ _ (E_ W1 (E_ Y1 (E_ Z1 (A_ rfl (A_ c2 f2)))))
   refine bA (fun r=>r 11) (fun r r' h=>h 11 (by decide) rfl) (fun _ _=>NA rfl) (aA (fun r=>tF (r 11) 0) (fun r r' h=>by rw [h 11 (by decide) rfl]) ?_ ?_)
   ·refine tA fun r w0 uw hF hE=>?_
    obtain ⟨k0,m0,u0,x0,X0,HH⟩:=hF
    replace HH:=HH.ext hE
    dsimp only
    rw [x0]
    exact nH
   refine aA (fun r=>tF (r 11) 1) (fun r r' h=>by rw [h 11 (by decide) rfl]) ?_ ?_
   ·refine tA fun r w0 uw hF hE=>?_
    obtain ⟨k0,m0,u0,x0,X0,HH⟩:=hF
    replace HH:=HH.ext hE
    dsimp only
    rw [x0]
    exact nH
   refine bA (fun r=>tF (r 11) 0) (fun r r' h=>by rw [h 11 (by decide) rfl]) (fun _ _=>MA rfl) (bA (fun r=>tF (r 11) 1) (fun r r' h=>by rw [h 11 (by decide) rfl]) (fun _ _=>MA rfl) (WalkT.nil fun r w0 g2 hF hE=>?_))
   obtain ⟨k0,m0,u0,x0,X0,y0⟩:=hF
   replace y0:=y0.ext hE
   dsimp only
   rw [x0]
   dsimp only [J0] at y0
   refine go 4 ?_
   refine Vc.cl (Gb.sZ ((os1.drop (64*k)).take (64)) (if d1.os.c=64*k then d1.os.a else LD d1.os.a ((64*k)*5)) 64 (d1.os.c-(64*k)) (by first | rfl | omega | (simp; omega) | (simp at *; omega)) hml (((if k=0 then a else b)).2) (jD ((os0.drop (64*k)).take (64)) (ME ((os1.drop (64*k)).take (64)) (((if k=0 then a else b)).2) 64) ((zs.drop (128*k+64)).take (64)) δ 64) (CA k0) 128 m0 (by rw [Gb.rF]) (Gb.rF _ _ _ _ _) g2 (Rd.sub (hO1.ext y0.chg) (64*k) (64) (m:=d1.os.c) (fun e=>by first | exact absurd e om | (rw [show 64=0 by omega]; rfl))) VD) ?_
   rintro _ K3 ⟨L3,M3,N3,rfl,O3,h2⟩
   have P3:=(y0.join h2).a16 rfl
   refine go 7 ?_
   refine aH ?_
   refine ⟨by rw [List.length_append,eG,TF],by rw [Gb.NE],om,?_⟩
   intro i2 j2 k2 Q3 l2 R3 m2
   have n2:(tL δ zs os0 os1 a b k++xN δ zs k (if k=0 then a else b).1 64)++(uC ((os1.drop (64*k)).take (64)) (((if k=0 then a else b)).2) (jD ((os0.drop (64*k)).take (64)) (ME ((os1.drop (64*k)).take (64)) (((if k=0 then a else b)).2) 64) ((zs.drop (128*k+64)).take (64)) δ 64) 64)=tL δ zs os0 os1 a b (k+1):=by rw [tL,List.append_assoc]; rfl
   have Y0:=l2
   have Z0:=m2
   rw [n2] at Y0 Z0
   refine go 3 ?_
   exact ⟨(k+1,i2,j2,k2),_,rfl,kp,⟨⟨om,Y0⟩,(((Z0.dropk 3).dropk 1).dropk 0)⟩,vd⟩
 ·obtain rfl:k=wB o:=by omega
  have hln:((tL δ zs os0 os1 a b (wB o)).length:Int)=((128*wB o:Nat):Int):=by rw [eG]
  have htbl:tb.length=2*FB (TA o).1 (TA o).1.length:=by rw [htb]; exact Gb.zR (fun i hi=>by have:=hA.is.gok i hi; unfold DD at this; omega) _ (Nat.le_refl _)
  have hot1:ot.length=(TA o).2.length:=by rw [hot,Gb.CE]
  refine go 4 ?_
  refine Vc.cl (pX ((128*wB o):Nat) ((TA o).1) ((TA o).2) (CA c0) x4 i0 64 ((TA o).1.length) 64 (by rfl) (by exact (VF _).symm) (tL δ zs os0 os1 a b (wB o)) tb (CA kl) (CA z0) cl K0 (RT q) (128*(wB o)) tb.length (by exact (eG _ _ _ _ _ _ _).symm) (by first | rfl | omega | (simp; omega) | (simp at *; omega)) z1 gE VD (Rd.row IJ) om om VD VD hA.is hln htbl) ?_
  rintro _ o2 ⟨p2,q2,S3,rfl,r2,c1⟩
  obtain ⟨el,hel⟩:∃ x,x=oL (eS Gb.kA (RT q) (TA o).1 tb (tL δ zs os0 os1 a b (wB o)) (TA o).1.length).1 (TA o).2 (TA o).2.length:=⟨_,rfl⟩
  rw [← hel] at r2 c1
  have t2:=(HL.join c1).a14 rfl
  have hell:el.length=(TA o).2.length:=by rw [hel,Gb.CE]
  refine go 6 ?_
  refine Vc.cl (Gb.lL ot (CA A0) ot.length L0 (by first | rfl | omega | (simp; omega) | (simp at *; omega)) om o2 VD) ?_
  rintro _ u2 ⟨rfl,w2⟩
  have y2:=t2.ext w2
  refine go 1 ?_
  refine Vc.cl (Gb.lL el (CA p2) ((TA o).2.length) q2 (by exact hell.symm) om u2 VD) ?_
  rintro _ T3 ⟨rfl,z2⟩
  have U3:=y2.ext z2
  refine go 2 ?_
  intro V3 A2 W3
  refine go 0 ?_
  have hr:lJ Gb.kA o q a b δ zs os0 os1=(DF ot (min ot.length 64),DF el (min el.length 64)):=by
   rw [lJ,hell,hA.outs,Nat.min_self,show ot.length=64 by rw [hot,Gb.CE,hA.outs],Nat.min_self,hot,hel,htb,hA.outs]
  exact ⟨_,rfl,by rw [hr]<;>rfl,A2.chg⟩
end Go.Proofs.YtljlkhobfdofhaaGreatDoor.Ms
