/- What the claim has need of: Corr2. -/
import Derived.Test.YtljlkhobfdofhaaGreatDoorWv14
set_option linter.unusedVariables false
set_option maxHeartbeats 16000000
set_option maxRecDepth 20000
namespace Go.Proofs.YtljlkhobfdofhaaGreatDoor.Co
open Go Vc Er
theorem uL:SA Tryz.prog 130=true:=by kernel_rfl
theorem agg64:SA Tryz.prog 64=true:=by kernel_rfl
theorem sN:UD Tryz.prog 130=some (2,1):=by kernel_rfl
theorem xE:pD Tryz.prog 3 EI:=jH (by kernel_rfl) (by kernel_rfl)
theorem GG:pD Tryz.prog 57 E64:=FG (by kernel_rfl) (by kernel_rfl)
theorem uK:ZB Tryz.prog 130=some 2:=by kernel_rfl
theorem siz64:ZB Tryz.prog 64=some 2:=by kernel_rfl
theorem GU:qD Tryz.prog 33=some (3,1):=by kernel_rfl
theorem lK:YB Tryz.prog 130=some (.agg (List.replicate 2 (.int .u64 0)).toArray):=by kernel_rfl
theorem zer3:YB Tryz.prog 3=some (.int .i64 0):=by kernel_rfl
theorem IR (b:Nat) (key:Option Nat) (c:Nat) (sp:LV) (ws:List (BitVec 64)) (hSw:Sl E64 key ws c sp) (hlen:ws.length≤140737488355328) (n1 n2 n3:Nat) (hn1:n1≤65536) (hn2:n2≤65536) (hn3:n3≤65536) (hfit:5*(n1+n2+n3)≤ws.length) (R:List RW) (w₀ w:World) (H:Hp No w₀ w ((rC b #[sO key ws.length c,.pointer none,iN ws.length,iN 0] 238)::(key,wA E64 57 ws sp)::R)):Ca 44 [pT b,iN n1,iN n2,iN n3] w fun v w'=>∃ (b1 b2:Nat) (s1 s2:Sk),v=.tuple #[.agg #[pT b1,pT b2],.nilIface]∧s1.ok∧s2.ok∧Dealt ws n1 n2 n3 s1 s2∧Hp No w₀ w' (bB 137 235 230 b1 s1++(bB 137 235 230 b2 s2++((rC b #[sO key ws.length c,.pointer none,iN ws.length,iN (5*(n1+n2)+5*n3)] 238)::(key,wA E64 57 ws sp)::R))):=by
 let x0:RW:=(key,wA E64 57 ws sp)
 let x2:Array Value:=#[.pointer none,.pointer none]
 have hin:∀ q,q<3→0≤([((n1:Nat):Int),((n2:Nat):Int),((n3:Nat):Int)]:List Int).getD q 0∧([((n1:Nat):Int),((n2:Nat):Int),((n3:Nat):Int)]:List Int).getD q 0≤65536:=by
  intro q hq
  rcases (show q=0∨q=1∨q=2 by omega) with rfl | rfl | rfl<;>exact ⟨by simp,by simp; omega⟩
 refine enter (n:=230) Tryz.func44 rfl rfl (vB rfl) ?_
 refine go 1 ?_
 intro b1 w2 k6 H3 l6
 refine go 4 ?_
 refine bS (E:=EI) (l:=([(n1:Nat),(n2:Nat),(n3:Nat)]:List Int)) fun b5 w7 M3 H8 m6=>?_
 refine go 2 ?_
 refine DA (σ:=Nat) (fun q=>[(0,pT b),(1,iN n1),(2,iN n2),(3,iN n3),(8,pT b1),(9,.nilIface),(21,sO (some b5) 3 3),(22,iN 3),(23,iN q)]) (fun q w'=>q≤3∧Hp No w₀ w' (((some b5),wA EI 3 ([(n1:Nat),(n2:Nat),(n3:Nat)]:List Int) ([]))::(rC b1 x2 64)::(rC b #[sO key ws.length c,.pointer none,iN ws.length,iN 0] 238)::x0::R)) (fun q=>3-q) (0) ?_ ?_ ?_
 ·exact kp
 ·exact ⟨Nat.zero_le _,H8⟩
 rintro q ρ J2 ⟨hq,HQ⟩
 refine go 1 ?_
 refine lA (((q:Nat):Int)<(3:Nat)) rfl (fun N3=>?_) (fun N3=>?_)
 ·refine go 1 ?_
  refine sq (lG (E:=EI) (l:=([(n1:Nat),(n2:Nat),(n3:Nat)]:List Int)) (j:=q) (v:=(([(n1:Nat),(n2:Nat),(n3:Nat)]:List Int)).getD q 0) xE (HQ.rd (k:=0) rfl M3) rfl rfl (rB (l:=([((n1:Nat):Int),((n2:Nat):Int),((n3:Nat):Int)]:List Int)) (j:=q) (by show q<3; omega))) ?_
  refine go 2 ?_
  refine sq ((bD rfl rfl).as (v':=.bool false) (by exact bF ((by have:=hin q om; omega)))) ?_
  refine go 2 ?_
  refine ZA (v:=.bool false) (w':=J2) (oA (d':=29) (b:=false) rfl rfl rfl) ((iE rfl rfl).as (v':=.bool false) (by exact bF ((by have:=hin q om; omega)))) ?_
  refine go 3 ?_
  exact ⟨q+1,_,rfl,kp,⟨om,HQ⟩,vd⟩
 ·obtain rfl:q=3:=by omega
  refine go 1 ?_
  refine cl (mR b ws.length 0 (sO key ws.length c) (.pointer none) J2 IJ om om) ?_
  rintro _ n6 ⟨rfl,O3⟩
  have o6:=HQ.ext O3
  refine go 6 ?_
  refine sq ((bD rfl rfl).as (v':=.bool false) (by exact bF (om))) ?_
  refine go 2 ?_
  intro f0 p6 q6 r6 s6
  refine go 2 ?_
  intro h0 t6 u6 w6 y6
  let x5:Array Value:=#[pT f0,pT h0]
  refine go 2 ?_
  intro m0 z6 A6 P3 B6
  refine GA (k:=0) (v:=.agg x5) (cs':=x5) P3 rfl rfl rfl vF (by rfl) (MK rfl) (by exact vB rfl) (by rfl) fun C6 Q3 D6=>?_
  have K2:=Q3.b7 rfl
  refine go 2 ?_
  refine DA (σ:=Nat × Option Nat × Nat × LV × Option Nat × Nat × LV) (fun (zi,kyta,ccta,zzta,kytb,cctb,zztb)=>[(0,pT b),(1,iN n1),(2,iN n2),(3,iN n3),(8,pT b1),(9,.nilIface),(12,pT m0),(57,iN n1),(58,iN zi)]) (fun (zi,kyta,ccta,zzta,kytb,cctb,zztb) w'=>(zi≤n1∧Sl aD kyta (yA (hH ws) 0 zi) ccta zzta∧Sl aD kytb (yA (MT ws) 0 zi) cctb zztb)∧Hp No w₀ w' ((rC m0 x5 64)::(rC f0 #[sO kyta zi ccta,RA,RA] 230)::(rC h0 #[sO kytb zi cctb,RA,RA] 230)::(kyta,wA aD 137 (yA (hH ws) 0 zi) zzta)::(kytb,wA aD 137 (yA (MT ws) 0 zi) zztb)::(rC b1 x2 64)::(rC b #[sO key ws.length c,.pointer none,iN ws.length,iN (0+5*zi)] 238)::x0::R)) (fun (zi,kyta,ccta,zzta,kytb,cctb,zztb)=>n1-zi) ((0,none,0,[],none,0,[])) ?_ ?_ ?_
  ·exact kp
  rw [show 0=0+5*0 by omega] at K2
  ·exact ⟨⟨Nat.zero_le _,Sl.none,Sl.none⟩,(((K2.nil (wA aD 137 [] [])).nil (wA aD 137 [] [])).pk 9 [2,4,3,1,0,6,7,8])⟩
  rintro ⟨zi,kyta,ccta,zzta,kytb,cctb,zztb⟩ ρ R3 ⟨⟨hzi,hkyta,hkytb⟩,U1⟩
  let V1:Array Value:=#[sO kytb zi cctb,RA,RA]
  let x7:RW:=(kytb,wA aD 137 (yA (MT ws) 0 zi) zztb)
  refine go 1 ?_
  refine lA (((zi:Nat):Int)<(n1:Nat)) rfl (fun S3=>?_) (fun S3=>?_)
  ·refine go 1 ?_
   have T3:=((U1.pk 8 [6,7,0,1,2,3,4,5])).b2 rfl
   refine cl (bN b key c sp ws hSw hlen (0+5*zi) om ((rC m0 x5 64)::(rC f0 #[sO kyta zi ccta,RA,RA] 230)::(rC h0 V1 230)::(kyta,wA aD 137 (yA (hH ws) 0 zi) zzta)::x7::(rC b1 x2 64)::R) w₀ R3 T3) ?_
   rintro _ E6 ⟨rfl,U3⟩
   have F6:=U3.b8 rfl
   refine go 1 ?_
   intro L2 G6 H6 I6 J6
   refine go 1 ?_
   intro K6 V3 L6
   refine go 0 ?_
   have W3:=(V3.pk 9 [4,6,0,1,2,3,5,7,8])
   let V0:List RW:=((rX L2 E64 ([ws.getD (0+5*zi) 0#64,ws.getD ((0+5*zi)+1) 0#64,ws.getD ((0+5*zi)+2) 0#64,ws.getD ((0+5*zi)+3) 0#64,ws.getD ((0+5*zi)+4) 0#64]) 231)::(rC b #[sO key ws.length c,.pointer none,iN ws.length,iN ((0+5*zi)+5)] 238)::x0::(rC m0 x5 64)::(rC h0 V1 230)::x7::(rC b1 x2 64)::R)
   let y1:=fun (b0:Nat)=>(((some b0),wA aD 137 ([⟨ws.getD (0+5*zi) 0#64,ws.getD ((0+5*zi)+2) 0#64,ws.getD ((0+5*zi)+4) 0#64⟩]:List Tr) ([])):RW)
   let M2:=((kyta,wA aD 137 (yA (hH ws) 0 zi) zzta):RW)
   let W1:=((rC f0 #[sO kyta zi ccta,RA,RA] 230):RW)
   let z1:=fun (b0:Nat)=>(Sl aD (some b0) ([⟨ws.getD (0+5*zi) 0#64,ws.getD ((0+5*zi)+2) 0#64,ws.getD ((0+5*zi)+4) 0#64⟩]:List Tr) 1 ([]):Prop)
   let X3:PD:=[IC false false false fun _ _ _ w'=>Hp No w₀ w' (W1::M2::V0),IC true false false fun v15 _ _ w'=>∃ b0,v15=sO (some b0) 1 1∧(z1 b0)∧Hp No w₀ w' ((y1 b0)::W1::M2::V0),IC true true false fun v15 v16 _ w'=>∃ b0 n0 C0 G0,v15=sO (some b0) 1 1∧v16=sO n0 (zi+1) C0∧(z1 b0)∧Sl aD n0 (yA (hH ws) 0 (zi+1)) C0 G0∧Hp No w₀ w' ((y1 b0)::W1::(n0,wA aD 137 (yA (hH ws) 0 (zi+1)) G0)::V0),IC true true true fun v15 v16 _ w'=>∃ b0 n0 C0 G0,v15=sO (some b0) 1 1∧v16=sO n0 (zi+1) C0∧(z1 b0)∧Sl aD n0 (yA (hH ws) 0 (zi+1)) C0 G0∧Hp No w₀ w' ((y1 b0)::(rC f0 #[sO n0 (zi+1) C0,RA,RA] 230)::(n0,wA aD 137 (yA (hH ws) 0 (zi+1)) G0)::V0)]
   refine mB (m:=21) [0,1,0,4,12,28,60,124,0,256,0,1024,0,4096,16128,32512,65532,131071,262143,524287,1048575] [15,16,20] V0 X3 JA (fun _ e=>W3.ext e) zE (fun Y1=>?_)
   refine gk 15 ?_
   refine WalkT.eff Y1 0 ?_ ?_
   ·refine tA fun r w0 uw hF hE=>?_
    have M6:=hF.ext hE
    exact gW fun Q' hK=>(bS (E:=aD) (l:=([⟨ws.getD (0+5*zi) 0#64,ws.getD ((0+5*zi)+2) 0#64,ws.getD ((0+5*zi)+4) 0#64⟩]:List Tr)) fun Y3 N6 Z3 c4 O6=>hK _ _ (E_ Y3 (A_ rfl (A_ Z3 c4))))
   refine WalkT.eff Y1 1 ?_ ?_
   ·refine tA fun r w0 uw hF hE=>?_
    obtain ⟨b0,r0,h1,N2⟩:=hF
    replace N2:=N2.ext hE
    dsimp only
    rw [r0]
    refine gW fun Q' hK=>?_
    refine aH ?_
    refine ⟨by rw [bC],by rfl,om,?_⟩
    intro d4 f4 g4 P6 h4 Q6 i4
    have j4:(yA (hH ws) 0 zi)++([⟨ws.getD (0+5*zi) 0#64,ws.getD ((0+5*zi)+2) 0#64,ws.getD ((0+5*zi)+4) 0#64⟩]:List Tr)=yA (hH ws) 0 (zi+1):=by rw [TC]; rfl
    have O2:=h4
    have P2:=i4
    rw [j4] at O2 P2
    exact hK _ _ (E_ b0 (E_ d4 (E_ f4 (E_ g4 (A_ r0 (A_ rfl (A_ h1 (A_ O2 P2))))))))
   refine gk 3 ?_
   refine WalkT.eff Y1 2 ?_ ?_
   ·refine tA fun r w0 uw hF hE=>?_
    obtain ⟨b0,n0,C0,G0,r0,a0,h1,Z1,Q2⟩:=hF
    replace Q2:=Q2.ext hE
    dsimp only
    rw [a0]
    refine PE fun Q' hK=>?_
    refine go 1 ?_
    intro R6 k4 S6
    exact hK _ (fun _=>(E_ b0 (E_ n0 (E_ C0 (E_ G0 (A_ r0 (A_ a0 (A_ h1 (A_ Z1 k4)))))))))
   refine WalkT.nil fun r w0 T6 hF hE=>?_
   obtain ⟨b0,n0,C0,G0,r0,a0,h1,Z1,A1⟩:=hF
   replace A1:=A1.ext hE
   dsimp only
   rw [r0,a0]
   dsimp only [z1] at h1
   dsimp only [V0,y1] at A1
   refine go 0 ?_
   have l4:=(A1.pk 10 [7,8,0,1,2,3,4,5,6,9])
   let W0:List RW:=(((some b0),wA aD 137 ([⟨ws.getD (0+5*zi) 0#64,ws.getD ((0+5*zi)+2) 0#64,ws.getD ((0+5*zi)+4) 0#64⟩]:List Tr) ([]))::(rC f0 #[sO n0 (zi+1) C0,RA,RA] 230)::(n0,wA aD 137 (yA (hH ws) 0 (zi+1)) G0)::(rX L2 E64 ([ws.getD (0+5*zi) 0#64,ws.getD ((0+5*zi)+1) 0#64,ws.getD ((0+5*zi)+2) 0#64,ws.getD ((0+5*zi)+3) 0#64,ws.getD ((0+5*zi)+4) 0#64]) 231)::(rC b #[sO key ws.length c,.pointer none,iN ws.length,iN ((0+5*zi)+5)] 238)::x0::(rC m0 x5 64)::(rC b1 x2 64)::R)
   let B1:=fun (i0:Nat)=>(((some i0),wA aD 137 ([⟨ws.getD ((0+5*zi)+1) 0#64,ws.getD ((0+5*zi)+3) 0#64,(((ws.getD (0+5*zi) 0#64)+(ws.getD ((0+5*zi)+1) 0#64))*((ws.getD ((0+5*zi)+2) 0#64)+(ws.getD ((0+5*zi)+3) 0#64)))-(ws.getD ((0+5*zi)+4) 0#64)⟩]:List Tr) ([])):RW)
   let R2:=(x7:RW)
   let c2:=((rC h0 V1 230):RW)
   let C1:=fun (i0:Nat)=>(Sl aD (some i0) ([⟨ws.getD ((0+5*zi)+1) 0#64,ws.getD ((0+5*zi)+3) 0#64,(((ws.getD (0+5*zi) 0#64)+(ws.getD ((0+5*zi)+1) 0#64))*((ws.getD ((0+5*zi)+2) 0#64)+(ws.getD ((0+5*zi)+3) 0#64)))-(ws.getD ((0+5*zi)+4) 0#64)⟩]:List Tr) 1 ([]):Prop)
   let m4:PD:=[IC false false false fun _ _ _ w'=>Hp No w₀ w' (c2::R2::W0),IC true false false fun v27 _ _ w'=>∃ i0,v27=sO (some i0) 1 1∧(C1 i0)∧Hp No w₀ w' ((B1 i0)::c2::R2::W0),IC true true false fun v27 v28 _ w'=>∃ i0 y0 H0 O0,v27=sO (some i0) 1 1∧v28=sO y0 (zi+1) H0∧(C1 i0)∧Sl aD y0 (yA (MT ws) 0 (zi+1)) H0 O0∧Hp No w₀ w' ((B1 i0)::c2::(y0,wA aD 137 (yA (MT ws) 0 (zi+1)) O0)::W0),IC true true true fun v27 v28 _ w'=>∃ i0 y0 H0 O0,v27=sO (some i0) 1 1∧v28=sO y0 (zi+1) H0∧(C1 i0)∧Sl aD y0 (yA (MT ws) 0 (zi+1)) H0 O0∧Hp No w₀ w' ((B1 i0)::(rC h0 #[sO y0 (zi+1) H0,RA,RA] 230)::(y0,wA aD 137 (yA (MT ws) 0 (zi+1)) O0)::W0)]
   refine mB (m:=33) [0,1,0,4,12,28,60,124,0,256,0,1024,0,4096,0,16384,61440,0,131072,0,524288,1966080,4190208,0,8388608,33550336,67108608,134217472,268435452,536870911,1073741823,2147483647,4294967295] [27,28,32] W0 m4 JA (fun _ e=>l4.ext e) zE (fun d2=>?_)
   refine gk 27 ?_
   refine WalkT.eff d2 0 ?_ ?_
   ·refine tA fun r w0 uw hF hE=>?_
    have U6:=hF.ext hE
    exact gW fun Q' hK=>(bS (E:=aD) (l:=([⟨ws.getD ((0+5*zi)+1) 0#64,ws.getD ((0+5*zi)+3) 0#64,(((ws.getD (0+5*zi) 0#64)+(ws.getD ((0+5*zi)+1) 0#64))*((ws.getD ((0+5*zi)+2) 0#64)+(ws.getD ((0+5*zi)+3) 0#64)))-(ws.getD ((0+5*zi)+4) 0#64)⟩]:List Tr)) fun n4 V6 o4 p4 W6=>hK _ _ (E_ n4 (A_ rfl (A_ o4 p4))))
   refine WalkT.eff d2 1 ?_ ?_
   ·refine tA fun r w0 uw hF hE=>?_
    obtain ⟨i0,u0,i1,S2⟩:=hF
    replace S2:=S2.ext hE
    dsimp only
    rw [u0]
    refine gW fun Q' hK=>?_
    refine aH ?_
    refine ⟨by rw [bC],by rfl,om,?_⟩
    intro q4 e2 r4 X6 s4 Y6 t4
    have u4:(yA (MT ws) 0 zi)++([⟨ws.getD ((0+5*zi)+1) 0#64,ws.getD ((0+5*zi)+3) 0#64,(((ws.getD (0+5*zi) 0#64)+(ws.getD ((0+5*zi)+1) 0#64))*((ws.getD ((0+5*zi)+2) 0#64)+(ws.getD ((0+5*zi)+3) 0#64)))-(ws.getD ((0+5*zi)+4) 0#64)⟩]:List Tr)=yA (MT ws) 0 (zi+1):=by rw [TC]; rfl
    have T2:=s4
    have U2:=t4
    rw [u4] at T2 U2
    exact hK _ _ (E_ i0 (E_ q4 (E_ e2 (E_ r4 (A_ u0 (A_ rfl (A_ i1 (A_ T2 U2))))))))
   refine gk 3 ?_
   refine WalkT.eff d2 2 ?_ ?_
   ·refine tA fun r w0 uw hF hE=>?_
    obtain ⟨i0,y0,H0,O0,u0,P0,i1,f2,V2⟩:=hF
    replace V2:=V2.ext hE
    dsimp only
    rw [P0]
    refine PE fun Q' hK=>?_
    refine go 1 ?_
    intro Z6 w4 c7
    exact hK _ (fun _=>(E_ i0 (E_ y0 (E_ H0 (E_ O0 (A_ u0 (A_ P0 (A_ i1 (A_ f2 w4)))))))))
   refine WalkT.nil fun r w0 d7 hF hE=>?_
   obtain ⟨i0,y0,H0,O0,u0,P0,i1,f2,j1⟩:=hF
   replace j1:=j1.ext hE
   dsimp only
   rw [u0,P0]
   dsimp only [C1] at i1
   dsimp only [W0,B1] at j1
   refine go 2 ?_
   rw [show (0+5*zi)+5=0+5*(zi+1) by omega] at j1
   exact ⟨(zi+1,n0,C0,G0,y0,H0,O0),_,rfl,kp,⟨⟨om,Z1,f2⟩,(j1.pk 11 [9,4,1,5,2,10,7,8])⟩,vd⟩
  ·obtain rfl:n1=zi:=by omega
   let g2:Value:=sO kyta n1 ccta
   let x8:RW:=(kytb,wA aD 137 (yA (MT ws) 0 n1) zztb)
   let x3:RW:=(kyta,wA aD 137 (yA (hH ws) 0 n1) zzta)
   refine go 2 ?_
   refine DA (σ:=Nat × Option Nat × Nat × LV × Option Nat × Nat × LV) (fun (zi,kyba,ccba,zzba,kybb,ccbb,zzbb)=>[(0,pT b),(1,iN n1),(2,iN n2),(3,iN n3),(8,pT b1),(9,.nilIface),(12,pT m0),(115,iN n2),(116,iN zi)]) (fun (zi,kyba,ccba,zzba,kybb,ccbb,zzbb) w'=>(zi≤n2∧Sl aD kyba (yA (hH ws) (5*n1) zi) ccba zzba∧Sl aD kybb (yA (iP ws) (5*n1) zi) ccbb zzbb)∧Hp No w₀ w' ((rC m0 x5 64)::(rC f0 #[sO kyta n1 ccta,sO kyba zi ccba,RA] 230)::(rC h0 #[sO kytb n1 cctb,sO kybb zi ccbb,RA] 230)::x3::x8::(kyba,wA aD 137 (yA (hH ws) (5*n1) zi) zzba)::(kybb,wA aD 137 (yA (iP ws) (5*n1) zi) zzbb)::(rC b1 x2 64)::(rC b #[sO key ws.length c,.pointer none,iN ws.length,iN (5*n1+5*zi)] 238)::x0::R)) (fun (zi,kyba,ccba,zzba,kybb,ccbb,zzbb)=>n2-zi) ((0,none,0,[],none,0,[])) ?_ ?_ ?_
   ·exact kp
   rw [show 0+5*n1=5*n1+5*0 by omega] at U1
   ·exact ⟨⟨Nat.zero_le _,Sl.none,Sl.none⟩,(((U1.nil (wA aD 137 [] [])).nil (wA aD 137 [] [])).pk 10 [2,3,4,5,6,1,0,7,8,9])⟩
   rintro ⟨zi,kyba,ccba,zzba,kybb,ccbb,zzbb⟩ ρ y4 ⟨⟨hzi,hkyba,hkybb⟩,h2⟩
   let i2:RW:=(kybb,wA aD 137 (yA (iP ws) (5*n1) zi) zzbb)
   let x6:Array Value:=#[sO kytb n1 cctb,sO kybb zi ccbb,RA]
   refine go 1 ?_
   refine lA (((zi:Nat):Int)<(n2:Nat)) rfl (fun z4=>?_) (fun z4=>?_)
   ·refine go 1 ?_
    have A4:=((h2.pk 10 [8,9,0,1,2,3,4,5,6,7])).b2 rfl
    refine cl (bN b key c sp ws hSw hlen (5*n1+5*zi) om ((rC m0 x5 64)::(rC f0 #[g2,sO kyba zi ccba,RA] 230)::(rC h0 x6 230)::x3::x8::(kyba,wA aD 137 (yA (hH ws) (5*n1) zi) zzba)::i2::(rC b1 x2 64)::R) w₀ y4 A4) ?_
    rintro _ e7 ⟨rfl,B4⟩
    have f7:=B4.b10 rfl
    refine go 1 ?_
    intro Y2 g7 h7 i7 j7
    refine go 1 ?_
    intro k7 C4 l7
    refine go 0 ?_
    have D4:=(C4.pk 11 [4,8,0,1,2,3,5,6,7,9,10])
    let X0:List RW:=((rX Y2 E64 ([ws.getD (5*n1+5*zi) 0#64,ws.getD ((5*n1+5*zi)+1) 0#64,ws.getD ((5*n1+5*zi)+2) 0#64,ws.getD ((5*n1+5*zi)+3) 0#64,ws.getD ((5*n1+5*zi)+4) 0#64]) 231)::(rC b #[sO key ws.length c,.pointer none,iN ws.length,iN ((5*n1+5*zi)+5)] 238)::x0::(rC m0 x5 64)::(rC h0 x6 230)::x3::x8::i2::(rC b1 x2 64)::R)
    let D1:=fun (c0:Nat)=>(((some c0),wA aD 137 ([⟨ws.getD (5*n1+5*zi) 0#64,ws.getD ((5*n1+5*zi)+2) 0#64,ws.getD ((5*n1+5*zi)+4) 0#64⟩]:List Tr) ([])):RW)
    let Z2:=((kyba,wA aD 137 (yA (hH ws) (5*n1) zi) zzba):RW)
    let j2:=((rC f0 #[g2,sO kyba zi ccba,RA] 230):RW)
    let E1:=fun (c0:Nat)=>(Sl aD (some c0) ([⟨ws.getD (5*n1+5*zi) 0#64,ws.getD ((5*n1+5*zi)+2) 0#64,ws.getD ((5*n1+5*zi)+4) 0#64⟩]:List Tr) 1 ([]):Prop)
    let F4:PD:=[IC false false false fun _ _ _ w'=>Hp No w₀ w' (j2::Z2::X0),IC true false false fun v15 _ _ w'=>∃ c0,v15=sO (some c0) 1 1∧(E1 c0)∧Hp No w₀ w' ((D1 c0)::j2::Z2::X0),IC true true false fun v15 v16 _ w'=>∃ c0 o0 D0 I0,v15=sO (some c0) 1 1∧v16=sO o0 (zi+1) D0∧(E1 c0)∧Sl aD o0 (yA (hH ws) (5*n1) (zi+1)) D0 I0∧Hp No w₀ w' ((D1 c0)::j2::(o0,wA aD 137 (yA (hH ws) (5*n1) (zi+1)) I0)::X0),IC true true true fun v15 v16 _ w'=>∃ c0 o0 D0 I0,v15=sO (some c0) 1 1∧v16=sO o0 (zi+1) D0∧(E1 c0)∧Sl aD o0 (yA (hH ws) (5*n1) (zi+1)) D0 I0∧Hp No w₀ w' ((D1 c0)::(rC f0 #[sO kyta n1 ccta,sO o0 (zi+1) D0,RA] 230)::(o0,wA aD 137 (yA (hH ws) (5*n1) (zi+1)) I0)::X0)]
    refine mB (m:=21) [0,1,0,4,12,28,60,124,0,256,0,1024,0,4096,16128,32512,65532,131071,262143,524287,1048575] [15,16,20] X0 F4 JA (fun _ e=>D4.ext e) zE (fun k2=>?_)
    refine gk 15 ?_
    refine WalkT.eff k2 0 ?_ ?_
    ·refine tA fun r w0 uw hF hE=>?_
     have m7:=hF.ext hE
     exact gW fun Q' hK=>(bS (E:=aD) (l:=([⟨ws.getD (5*n1+5*zi) 0#64,ws.getD ((5*n1+5*zi)+2) 0#64,ws.getD ((5*n1+5*zi)+4) 0#64⟩]:List Tr)) fun G4 n7 H4 I4 o7=>hK _ _ (E_ G4 (A_ rfl (A_ H4 I4))))
    refine WalkT.eff k2 1 ?_ ?_
    ·refine tA fun r w0 uw hF hE=>?_
     obtain ⟨c0,r0,k1,c3⟩:=hF
     replace c3:=c3.ext hE
     dsimp only
     rw [r0]
     refine gW fun Q' hK=>?_
     refine aH ?_
     refine ⟨by rw [bC],by rfl,om,?_⟩
     intro J4 K4 L4 p7 M4 q7 N4
     have O4:(yA (hH ws) (5*n1) zi)++([⟨ws.getD (5*n1+5*zi) 0#64,ws.getD ((5*n1+5*zi)+2) 0#64,ws.getD ((5*n1+5*zi)+4) 0#64⟩]:List Tr)=yA (hH ws) (5*n1) (zi+1):=by rw [TC]; rfl
     have d3:=M4
     have e3:=N4
     rw [O4] at d3 e3
     exact hK _ _ (E_ c0 (E_ J4 (E_ K4 (E_ L4 (A_ r0 (A_ rfl (A_ k1 (A_ d3 e3))))))))
    refine gk 3 ?_
    refine WalkT.eff k2 2 ?_ ?_
    ·refine tA fun r w0 uw hF hE=>?_
     obtain ⟨c0,o0,D0,I0,r0,a0,k1,l2,f3⟩:=hF
     replace f3:=f3.ext hE
     dsimp only
     rw [a0]
     refine PE fun Q' hK=>?_
     refine go 1 ?_
     intro r7 Q4 s7
     exact hK _ (fun _=>(E_ c0 (E_ o0 (E_ D0 (E_ I0 (A_ r0 (A_ a0 (A_ k1 (A_ l2 Q4)))))))))
    refine WalkT.nil fun r w0 t7 hF hE=>?_
    obtain ⟨c0,o0,D0,I0,r0,a0,k1,l2,F1⟩:=hF
    replace F1:=F1.ext hE
    dsimp only
    rw [r0,a0]
    dsimp only [E1] at k1
    dsimp only [X0,D1] at F1
    refine go 0 ?_
    have R4:=(F1.pk 12 [7,10,0,1,2,3,4,5,6,8,9,11])
    let Y0:List RW:=(((some c0),wA aD 137 ([⟨ws.getD (5*n1+5*zi) 0#64,ws.getD ((5*n1+5*zi)+2) 0#64,ws.getD ((5*n1+5*zi)+4) 0#64⟩]:List Tr) ([]))::(rC f0 #[sO kyta n1 ccta,sO o0 (zi+1) D0,RA] 230)::(o0,wA aD 137 (yA (hH ws) (5*n1) (zi+1)) I0)::(rX Y2 E64 ([ws.getD (5*n1+5*zi) 0#64,ws.getD ((5*n1+5*zi)+1) 0#64,ws.getD ((5*n1+5*zi)+2) 0#64,ws.getD ((5*n1+5*zi)+3) 0#64,ws.getD ((5*n1+5*zi)+4) 0#64]) 231)::(rC b #[sO key ws.length c,.pointer none,iN ws.length,iN ((5*n1+5*zi)+5)] 238)::x0::(rC m0 x5 64)::x3::x8::(rC b1 x2 64)::R)
    let G1:=fun (j0:Nat)=>(((some j0),wA aD 137 ([⟨ws.getD ((5*n1+5*zi)+1) 0#64,ws.getD ((5*n1+5*zi)+3) 0#64,(((ws.getD (5*n1+5*zi) 0#64)^^^(ws.getD ((5*n1+5*zi)+1) 0#64))&&&((ws.getD ((5*n1+5*zi)+2) 0#64)^^^(ws.getD ((5*n1+5*zi)+3) 0#64)))^^^(ws.getD ((5*n1+5*zi)+4) 0#64)⟩]:List Tr) ([])):RW)
    let g3:=(i2:RW)
    let m2:=((rC h0 x6 230):RW)
    let H1:=fun (j0:Nat)=>(Sl aD (some j0) ([⟨ws.getD ((5*n1+5*zi)+1) 0#64,ws.getD ((5*n1+5*zi)+3) 0#64,(((ws.getD (5*n1+5*zi) 0#64)^^^(ws.getD ((5*n1+5*zi)+1) 0#64))&&&((ws.getD ((5*n1+5*zi)+2) 0#64)^^^(ws.getD ((5*n1+5*zi)+3) 0#64)))^^^(ws.getD ((5*n1+5*zi)+4) 0#64)⟩]:List Tr) 1 ([]):Prop)
    let S4:PD:=[IC false false false fun _ _ _ w'=>Hp No w₀ w' (m2::g3::Y0),IC true false false fun v27 _ _ w'=>∃ j0,v27=sO (some j0) 1 1∧(H1 j0)∧Hp No w₀ w' ((G1 j0)::m2::g3::Y0),IC true true false fun v27 v28 _ w'=>∃ j0 z0 J0 Q0,v27=sO (some j0) 1 1∧v28=sO z0 (zi+1) J0∧(H1 j0)∧Sl aD z0 (yA (iP ws) (5*n1) (zi+1)) J0 Q0∧Hp No w₀ w' ((G1 j0)::m2::(z0,wA aD 137 (yA (iP ws) (5*n1) (zi+1)) Q0)::Y0),IC true true true fun v27 v28 _ w'=>∃ j0 z0 J0 Q0,v27=sO (some j0) 1 1∧v28=sO z0 (zi+1) J0∧(H1 j0)∧Sl aD z0 (yA (iP ws) (5*n1) (zi+1)) J0 Q0∧Hp No w₀ w' ((G1 j0)::(rC h0 #[sO kytb n1 cctb,sO z0 (zi+1) J0,RA] 230)::(z0,wA aD 137 (yA (iP ws) (5*n1) (zi+1)) Q0)::Y0)]
    refine mB (m:=33) [0,1,0,4,12,28,60,124,0,256,0,1024,0,4096,0,16384,61440,0,131072,0,524288,1966080,4190208,0,8388608,33550336,67108608,134217472,268435452,536870911,1073741823,2147483647,4294967295] [27,28,32] Y0 S4 JA (fun _ e=>R4.ext e) zE (fun o2=>?_)
    refine gk 27 ?_
    refine WalkT.eff o2 0 ?_ ?_
    ·refine tA fun r w0 uw hF hE=>?_
     have u7:=hF.ext hE
     exact gW fun Q' hK=>(bS (E:=aD) (l:=([⟨ws.getD ((5*n1+5*zi)+1) 0#64,ws.getD ((5*n1+5*zi)+3) 0#64,(((ws.getD (5*n1+5*zi) 0#64)^^^(ws.getD ((5*n1+5*zi)+1) 0#64))&&&((ws.getD ((5*n1+5*zi)+2) 0#64)^^^(ws.getD ((5*n1+5*zi)+3) 0#64)))^^^(ws.getD ((5*n1+5*zi)+4) 0#64)⟩]:List Tr)) fun U4 y7 V4 W4 z7=>hK _ _ (E_ U4 (A_ rfl (A_ V4 W4))))
    refine WalkT.eff o2 1 ?_ ?_
    ·refine tA fun r w0 uw hF hE=>?_
     obtain ⟨j0,u0,l1,h3⟩:=hF
     replace h3:=h3.ext hE
     dsimp only
     rw [u0]
     refine gW fun Q' hK=>?_
     refine aH ?_
     refine ⟨by rw [bC],by rfl,om,?_⟩
     intro X4 Y4 Z4 A7 c5 B7 d5
     have e5:(yA (iP ws) (5*n1) zi)++([⟨ws.getD ((5*n1+5*zi)+1) 0#64,ws.getD ((5*n1+5*zi)+3) 0#64,(((ws.getD (5*n1+5*zi) 0#64)^^^(ws.getD ((5*n1+5*zi)+1) 0#64))&&&((ws.getD ((5*n1+5*zi)+2) 0#64)^^^(ws.getD ((5*n1+5*zi)+3) 0#64)))^^^(ws.getD ((5*n1+5*zi)+4) 0#64)⟩]:List Tr)=yA (iP ws) (5*n1) (zi+1):=by rw [TC]; rfl
     have i3:=c5
     have j3:=d5
     rw [e5] at i3 j3
     exact hK _ _ (E_ j0 (E_ X4 (E_ Y4 (E_ Z4 (A_ u0 (A_ rfl (A_ l1 (A_ i3 j3))))))))
    refine gk 3 ?_
    refine WalkT.eff o2 2 ?_ ?_
    ·refine tA fun r w0 uw hF hE=>?_
     obtain ⟨j0,z0,J0,Q0,u0,P0,l1,p2,k3⟩:=hF
     replace k3:=k3.ext hE
     dsimp only
     rw [P0]
     refine PE fun Q' hK=>?_
     refine go 1 ?_
     intro C7 f5 D7
     exact hK _ (fun _=>(E_ j0 (E_ z0 (E_ J0 (E_ Q0 (A_ u0 (A_ P0 (A_ l1 (A_ p2 f5)))))))))
    refine WalkT.nil fun r w0 E7 hF hE=>?_
    obtain ⟨j0,z0,J0,Q0,u0,P0,l1,p2,m1⟩:=hF
    replace m1:=m1.ext hE
    dsimp only
    rw [u0,P0]
    dsimp only [H1] at l1
    dsimp only [Y0,G1] at m1
    refine go 2 ?_
    rw [show (5*n1+5*zi)+5=5*n1+5*(zi+1) by omega] at m1
    exact ⟨(zi+1,o0,D0,I0,z0,J0,Q0),_,rfl,kp,⟨⟨om,l2,p2⟩,(m1.pk 13 [9,4,1,10,11,5,2,12,7,8])⟩,vd⟩
   ·obtain rfl:n2=zi:=by omega
    let Z0:RW:=(kybb,wA aD 137 (yA (iP ws) (5*n1) n2) zzbb)
    let x4:RW:=(kyba,wA aD 137 (yA (hH ws) (5*n1) n2) zzba)
    refine go 2 ?_
    refine DA (σ:=Nat × Option Nat × Nat × LV × Option Nat × Nat × LV) (fun (zi,kyoa,ccoa,zzoa,kyob,ccob,zzob)=>[(0,pT b),(1,iN n1),(2,iN n2),(3,iN n3),(8,pT b1),(9,.nilIface),(12,pT m0),(173,iN n3),(174,iN zi)]) (fun (zi,kyoa,ccoa,zzoa,kyob,ccob,zzob) w'=>(zi≤n3∧Sl UC kyoa (yA (AJ ws) (5*(n1+n2)) zi) ccoa zzoa∧Sl UC kyob (yA (tG ws) (5*(n1+n2)) zi) ccob zzob)∧Hp No w₀ w' ((rC m0 x5 64)::(rC f0 #[sO kyta n1 ccta,sO kyba n2 ccba,sO kyoa zi ccoa] 230)::(rC h0 #[sO kytb n1 cctb,sO kybb n2 ccbb,sO kyob zi ccob] 230)::x3::x8::x4::Z0::(kyoa,wA UC 235 (yA (AJ ws) (5*(n1+n2)) zi) zzoa)::(kyob,wA UC 235 (yA (tG ws) (5*(n1+n2)) zi) zzob)::(rC b1 x2 64)::(rC b #[sO key ws.length c,.pointer none,iN ws.length,iN (5*(n1+n2)+5*zi)] 238)::x0::R)) (fun (zi,kyoa,ccoa,zzoa,kyob,ccob,zzob)=>n3-zi) ((0,none,0,[],none,0,[])) ?_ ?_ ?_
    ·exact kp
    rw [show 5*n1+5*n2=5*(n1+n2)+5*0 by omega] at h2
    ·exact ⟨⟨Nat.zero_le _,Sl.none,Sl.none⟩,(((h2.nil (wA UC 235 [] [])).nil (wA UC 235 [] [])).pk 12 [2,3,4,5,6,7,8,1,0,9,10,11])⟩
    rintro ⟨zi,kyoa,ccoa,zzoa,kyob,ccob,zzob⟩ ρ g5 ⟨⟨hzi,hkyoa,hkyob⟩,l3⟩
    let q2:RW:=(kyoa,wA UC 235 (yA (AJ ws) (5*(n1+n2)) zi) zzoa)
    let r2:Array Value:=#[g2,sO kyba n2 ccba,sO kyoa zi ccoa]
    let o1:RW:=(kyob,wA UC 235 (yA (tG ws) (5*(n1+n2)) zi) zzob)
    let x9:Array Value:=#[sO kytb n1 cctb,sO kybb n2 ccbb,sO kyob zi ccob]
    let x1:Array Value:=#[u64 (ws.getD (5*(n1+n2)+5*zi) 0#64),u64 (ws.getD ((5*(n1+n2)+5*zi)+1) 0#64),u64 (ws.getD ((5*(n1+n2)+5*zi)+2) 0#64),u64 (ws.getD ((5*(n1+n2)+5*zi)+3) 0#64),.bool false]
    refine go 1 ?_
    refine lA (((zi:Nat):Int)<(n3:Nat)) rfl (fun e2=>?_) (fun e2=>?_)
    ·refine go 1 ?_
     have h5:=((l3.pk 12 [10,11,0,1,2,3,4,5,6,7,8,9])).b2 rfl
     refine cl (bN b key c sp ws hSw hlen (5*(n1+n2)+5*zi) om ((rC m0 x5 64)::(rC f0 r2 230)::(rC h0 x9 230)::x3::x8::x4::Z0::q2::o1::(rC b1 x2 64)::R) w₀ g5 h5) ?_
     rintro _ F7 ⟨rfl,i5⟩
     have G7:=i5.b12 rfl
     refine go 1 ?_
     intro I1 H7 I7 J7 K7
     refine go 1 ?_
     intro L7 M7 N7
     refine go 13 ?_
     intro J1 O7 P7 Q7 R7
     refine go 1 ?_
     intro S7 m3 T7
     refine go 0 ?_
     by_cases hodd:gt ws (5*(n1+n2)+5*zi+4)&&&1#64=1#64
     ·refine go 2 ?_
      refine sq ((fI (a:=ws.getD ((5*(n1+n2)+5*zi)+4) 0#64) (b:=1#64) rfl rfl).as (v':=u64 1#64) (by exact congrArg u64 hodd)) ?_
      refine go 1 ?_
      have j5:=(m3.pk 14 [5,11,0,1,2,3,4,6,7,8,9,10,12,13])
      let c1:List RW:=((rC J1 x1 235)::(rX I1 E64 ([ws.getD (5*(n1+n2)+5*zi) 0#64,ws.getD ((5*(n1+n2)+5*zi)+1) 0#64,ws.getD ((5*(n1+n2)+5*zi)+2) 0#64,ws.getD ((5*(n1+n2)+5*zi)+3) 0#64,ws.getD ((5*(n1+n2)+5*zi)+4) 0#64]) 231)::(rC b #[sO key ws.length c,.pointer none,iN ws.length,iN ((5*(n1+n2)+5*zi)+5)] 238)::x0::(rC m0 x5 64)::(rC h0 x9 230)::x3::x8::x4::Z0::o1::(rC b1 x2 64)::R)
      let K1:=fun (d0:Nat)=>(((some d0),wA UC 235 ([⟨ws.getD (5*(n1+n2)+5*zi) 0#64,ws.getD ((5*(n1+n2)+5*zi)+1) 0#64,ws.getD ((5*(n1+n2)+5*zi)+2) 0#64,ws.getD ((5*(n1+n2)+5*zi)+3) 0#64,false⟩]:List Ot) ([])):RW)
      let o3:=(q2:RW)
      let t2:=((rC f0 r2 230):RW)
      let L1:=fun (d0:Nat)=>(Sl UC (some d0) ([⟨ws.getD (5*(n1+n2)+5*zi) 0#64,ws.getD ((5*(n1+n2)+5*zi)+1) 0#64,ws.getD ((5*(n1+n2)+5*zi)+2) 0#64,ws.getD ((5*(n1+n2)+5*zi)+3) 0#64,false⟩]:List Ot) 1 ([]):Prop)
      let k5:PD:=[IC false false false fun _ _ _ w'=>Hp No w₀ w' (t2::o3::c1),IC true false false fun v9 _ _ w'=>∃ d0,v9=sO (some d0) 1 1∧(L1 d0)∧Hp No w₀ w' ((K1 d0)::t2::o3::c1),IC true true false fun v9 v10 _ w'=>∃ d0 p0 E0 K0,v9=sO (some d0) 1 1∧v10=sO p0 (zi+1) E0∧(L1 d0)∧Sl UC p0 (yA (AJ ws) (5*(n1+n2)) (zi+1)) E0 K0∧Hp No w₀ w' ((K1 d0)::t2::(p0,wA UC 235 (yA (AJ ws) (5*(n1+n2)) (zi+1)) K0)::c1),IC true true true fun v9 v10 _ w'=>∃ d0 p0 E0 K0,v9=sO (some d0) 1 1∧v10=sO p0 (zi+1) E0∧(L1 d0)∧Sl UC p0 (yA (AJ ws) (5*(n1+n2)) (zi+1)) E0 K0∧Hp No w₀ w' ((K1 d0)::(rC f0 #[sO kyta n1 ccta,sO kyba n2 ccba,sO p0 (zi+1) E0] 230)::(p0,wA UC 235 (yA (AJ ws) (5*(n1+n2)) (zi+1)) K0)::c1)]
      refine mB (m:=15) [0,1,0,4,12,28,60,124,0,256,1020,2047,4095,8191,16383] [9,10,14] c1 k5 JA (fun _ e=>j5.ext e) zE (fun u2=>?_)
      refine gk 9 ?_
      refine WalkT.eff u2 0 ?_ ?_
      ·refine tA fun r w0 uw hF hE=>?_
       have U7:=hF.ext hE
       exact gW fun Q' hK=>(bS (E:=UC) (l:=([⟨ws.getD (5*(n1+n2)+5*zi) 0#64,ws.getD ((5*(n1+n2)+5*zi)+1) 0#64,ws.getD ((5*(n1+n2)+5*zi)+2) 0#64,ws.getD ((5*(n1+n2)+5*zi)+3) 0#64,false⟩]:List Ot)) fun l5 V7 m5 n5 W7=>hK _ _ (E_ l5 (A_ rfl (A_ m5 n5))))
      refine WalkT.eff u2 1 ?_ ?_
      ·refine tA fun r w0 uw hF hE=>?_
       obtain ⟨d0,e9,p1,p3⟩:=hF
       replace p3:=p3.ext hE
       dsimp only
       rw [e9]
       refine gW fun Q' hK=>?_
       refine aH ?_
       refine ⟨by rw [bC],by rfl,om,?_⟩
       intro o5 p5 q5 X7 r5 Y7 s5
       have t5:(yA (AJ ws) (5*(n1+n2)) zi)++([⟨ws.getD (5*(n1+n2)+5*zi) 0#64,ws.getD ((5*(n1+n2)+5*zi)+1) 0#64,ws.getD ((5*(n1+n2)+5*zi)+2) 0#64,ws.getD ((5*(n1+n2)+5*zi)+3) 0#64,false⟩]:List Ot)=yA (AJ ws) (5*(n1+n2)) (zi+1):=by rw [TC]; rfl
       have q3:=r5
       have r3:=s5
       rw [t5] at q3 r3
       exact hK _ _ (E_ d0 (E_ o5 (E_ p5 (E_ q5 (A_ e9 (A_ rfl (A_ p1 (A_ q3 r3))))))))
      refine gk 3 ?_
      refine WalkT.eff u2 2 ?_ ?_
      ·refine tA fun r w0 uw hF hE=>?_
       obtain ⟨d0,p0,E0,K0,e9,R0,p1,y2,t3⟩:=hF
       replace t3:=t3.ext hE
       dsimp only
       rw [R0]
       refine PE fun Q' hK=>?_
       refine go 1 ?_
       intro Z7 u5 c8
       exact hK _ (fun _=>(E_ d0 (E_ p0 (E_ E0 (E_ K0 (A_ e9 (A_ R0 (A_ p1 (A_ y2 u5)))))))))
      refine WalkT.nil fun r w0 d8 hF hE=>?_
      obtain ⟨d0,p0,E0,K0,e9,R0,p1,y2,M1⟩:=hF
      replace M1:=M1.ext hE
      dsimp only
      rw [e9,R0]
      dsimp only [L1] at p1
      dsimp only [c1,K1] at M1
      refine go 0 ?_
      have w5:=(M1.pk 15 [8,13,0,1,2,3,4,5,6,7,9,10,11,12,14])
      let d1:List RW:=(((some d0),wA UC 235 ([⟨ws.getD (5*(n1+n2)+5*zi) 0#64,ws.getD ((5*(n1+n2)+5*zi)+1) 0#64,ws.getD ((5*(n1+n2)+5*zi)+2) 0#64,ws.getD ((5*(n1+n2)+5*zi)+3) 0#64,false⟩]:List Ot) ([]))::(rC f0 #[sO kyta n1 ccta,sO kyba n2 ccba,sO p0 (zi+1) E0] 230)::(p0,wA UC 235 (yA (AJ ws) (5*(n1+n2)) (zi+1)) K0)::(rC J1 x1 235)::(rX I1 E64 ([ws.getD (5*(n1+n2)+5*zi) 0#64,ws.getD ((5*(n1+n2)+5*zi)+1) 0#64,ws.getD ((5*(n1+n2)+5*zi)+2) 0#64,ws.getD ((5*(n1+n2)+5*zi)+3) 0#64,ws.getD ((5*(n1+n2)+5*zi)+4) 0#64]) 231)::(rC b #[sO key ws.length c,.pointer none,iN ws.length,iN ((5*(n1+n2)+5*zi)+5)] 238)::x0::(rC m0 x5 64)::x3::x8::x4::Z0::(rC b1 x2 64)::R)
      let N1:=fun (k0:Nat)=>(((some k0),wA UC 235 ([⟨ws.getD ((5*(n1+n2)+5*zi)+2) 0#64,ws.getD ((5*(n1+n2)+5*zi)+3) 0#64,0#64,0#64,true⟩]:List Ot) ([])):RW)
      let u3:=(o1:RW)
      let z2:=((rC h0 x9 230):RW)
      let O1:=fun (k0:Nat)=>(Sl UC (some k0) ([⟨ws.getD ((5*(n1+n2)+5*zi)+2) 0#64,ws.getD ((5*(n1+n2)+5*zi)+3) 0#64,0#64,0#64,true⟩]:List Ot) 1 ([]):Prop)
      let y5:PD:=[IC false false false fun _ _ _ w'=>Hp No w₀ w' (z2::u3::d1),IC true false false fun v16 _ _ w'=>∃ k0,v16=sO (some k0) 1 1∧(O1 k0)∧Hp No w₀ w' ((N1 k0)::z2::u3::d1),IC true true false fun v16 v17 _ w'=>∃ k0 A0 L0 S0,v16=sO (some k0) 1 1∧v17=sO A0 (zi+1) L0∧(O1 k0)∧Sl UC A0 (yA (tG ws) (5*(n1+n2)) (zi+1)) L0 S0∧Hp No w₀ w' ((N1 k0)::z2::(A0,wA UC 235 (yA (tG ws) (5*(n1+n2)) (zi+1)) S0)::d1),IC true true true fun v16 v17 _ w'=>∃ k0 A0 L0 S0,v16=sO (some k0) 1 1∧v17=sO A0 (zi+1) L0∧(O1 k0)∧Sl UC A0 (yA (tG ws) (5*(n1+n2)) (zi+1)) L0 S0∧Hp No w₀ w' ((N1 k0)::(rC h0 #[sO kytb n1 cctb,sO kybb n2 ccbb,sO A0 (zi+1) L0] 230)::(A0,wA UC 235 (yA (tG ws) (5*(n1+n2)) (zi+1)) S0)::d1)]
      refine mB (m:=22) [0,1,0,4,12,28,60,124,0,0,768,1792,3840,0,8192,32512,65280,131068,262143,524287,1048575,2097151] [16,17,21] d1 y5 JA (fun _ e=>w5.ext e) zE (fun A2=>?_)
      refine gk 11 ?_
      refine JC (.agg (xA E64 [ws.getD ((5*(n1+n2)+5*zi)+2) 0#64,ws.getD ((5*(n1+n2)+5*zi)+3) 0#64]).toArray) (fun _ uw hcx=>kB (cs':=(xA E64 [ws.getD ((5*(n1+n2)+5*zi)+2) 0#64,ws.getD ((5*(n1+n2)+5*zi)+3) 0#64]).toArray) vF vF (hcx.get (k:=3) rfl) (off:=2) rfl (by exact vB rfl) (by rfl)) ?_
      refine gk 2 ?_
      refine JC (.bool true) (fun _ uw hcx=>(NJ (a:=1#64) (b:=1#64) rfl rfl).as (v':=.bool true) (by rfl)) ?_
      refine gk 1 ?_
      refine WalkT.eff A2 0 ?_ ?_
      ·refine tA fun r w0 uw hF hE=>?_
       have f8:=hF.ext hE
       exact gW fun Q' hK=>(bS (E:=UC) (l:=([⟨ws.getD ((5*(n1+n2)+5*zi)+2) 0#64,ws.getD ((5*(n1+n2)+5*zi)+3) 0#64,0#64,0#64,true⟩]:List Ot)) fun z5 g8 A5 B5 h8=>hK _ _ (E_ z5 (A_ rfl (A_ A5 B5))))
      refine WalkT.eff A2 1 ?_ ?_
      ·refine tA fun r w0 uw hF hE=>?_
       obtain ⟨k0,a0,q1,w3⟩:=hF
       replace w3:=w3.ext hE
       dsimp only
       rw [a0]
       refine gW fun Q' hK=>?_
       refine aH ?_
       refine ⟨by rw [bC],by rfl,om,?_⟩
       intro C5 D5 E5 j8 F5 k8 G5
       have H5:(yA (tG ws) (5*(n1+n2)) zi)++([⟨ws.getD ((5*(n1+n2)+5*zi)+2) 0#64,ws.getD ((5*(n1+n2)+5*zi)+3) 0#64,0#64,0#64,true⟩]:List Ot)=yA (tG ws) (5*(n1+n2)) (zi+1):=by rw [TC,otB_t hodd]; rfl
       have y3:=F5
       have z3:=G5
       rw [H5] at y3 z3
       exact hK _ _ (E_ k0 (E_ C5 (E_ D5 (E_ E5 (A_ a0 (A_ rfl (A_ q1 (A_ y3 z3))))))))
      refine gk 3 ?_
      refine WalkT.eff A2 2 ?_ ?_
      ·refine tA fun r w0 uw hF hE=>?_
       obtain ⟨k0,A0,L0,S0,a0,T0,q1,C2,A3⟩:=hF
       replace A3:=A3.ext hE
       dsimp only
       rw [T0]
       refine PE fun Q' hK=>?_
       refine go 1 ?_
       intro l8 I5 m8
       exact hK _ (fun _=>(E_ k0 (E_ A0 (E_ L0 (E_ S0 (A_ a0 (A_ T0 (A_ q1 (A_ C2 I5)))))))))
      refine WalkT.nil fun r w0 n8 hF hE=>?_
      obtain ⟨k0,A0,L0,S0,a0,T0,q1,C2,r1⟩:=hF
      replace r1:=r1.ext hE
      dsimp only
      rw [a0,T0]
      dsimp only [O1] at q1
      dsimp only [d1,N1] at r1
      refine mH ?_
      refine go 2 ?_
      rw [show (5*(n1+n2)+5*zi)+5=5*(n1+n2)+5*(zi+1) by omega] at r1
      exact ⟨(zi+1,p0,E0,K0,A0,L0,S0),_,rfl,kp,⟨⟨om,y2,C2⟩,(r1.pk 16 [10,4,1,11,12,13,14,5,2,15,8,9])⟩,vd⟩
     ·refine go 0 ?_
      have hodd0:=(KM _).resolve_right hodd
      refine go 2 ?_
      refine sq ((fI (a:=ws.getD ((5*(n1+n2)+5*zi)+4) 0#64) (b:=1#64) rfl rfl).as (v':=u64 0#64) (by exact congrArg u64 hodd0)) ?_
      refine go 1 ?_
      have J5:=(m3.pk 14 [5,11,0,1,2,3,4,6,7,8,9,10,12,13])
      let e1:List RW:=((rC J1 x1 235)::(rX I1 E64 ([ws.getD (5*(n1+n2)+5*zi) 0#64,ws.getD ((5*(n1+n2)+5*zi)+1) 0#64,ws.getD ((5*(n1+n2)+5*zi)+2) 0#64,ws.getD ((5*(n1+n2)+5*zi)+3) 0#64,ws.getD ((5*(n1+n2)+5*zi)+4) 0#64]) 231)::(rC b #[sO key ws.length c,.pointer none,iN ws.length,iN ((5*(n1+n2)+5*zi)+5)] 238)::x0::(rC m0 x5 64)::(rC h0 x9 230)::x3::x8::x4::Z0::o1::(rC b1 x2 64)::R)
      let P1:=fun (e0:Nat)=>(((some e0),wA UC 235 ([⟨ws.getD (5*(n1+n2)+5*zi) 0#64,ws.getD ((5*(n1+n2)+5*zi)+1) 0#64,ws.getD ((5*(n1+n2)+5*zi)+2) 0#64,ws.getD ((5*(n1+n2)+5*zi)+3) 0#64,false⟩]:List Ot) ([])):RW)
      let B3:=(q2:RW)
      let D2:=((rC f0 r2 230):RW)
      let Q1:=fun (e0:Nat)=>(Sl UC (some e0) ([⟨ws.getD (5*(n1+n2)+5*zi) 0#64,ws.getD ((5*(n1+n2)+5*zi)+1) 0#64,ws.getD ((5*(n1+n2)+5*zi)+2) 0#64,ws.getD ((5*(n1+n2)+5*zi)+3) 0#64,false⟩]:List Ot) 1 ([]):Prop)
      let K5:PD:=[IC false false false fun _ _ _ w'=>Hp No w₀ w' (D2::B3::e1),IC true false false fun v9 _ _ w'=>∃ e0,v9=sO (some e0) 1 1∧(Q1 e0)∧Hp No w₀ w' ((P1 e0)::D2::B3::e1),IC true true false fun v9 v10 _ w'=>∃ e0 q0 F0 M0,v9=sO (some e0) 1 1∧v10=sO q0 (zi+1) F0∧(Q1 e0)∧Sl UC q0 (yA (AJ ws) (5*(n1+n2)) (zi+1)) F0 M0∧Hp No w₀ w' ((P1 e0)::D2::(q0,wA UC 235 (yA (AJ ws) (5*(n1+n2)) (zi+1)) M0)::e1),IC true true true fun v9 v10 _ w'=>∃ e0 q0 F0 M0,v9=sO (some e0) 1 1∧v10=sO q0 (zi+1) F0∧(Q1 e0)∧Sl UC q0 (yA (AJ ws) (5*(n1+n2)) (zi+1)) F0 M0∧Hp No w₀ w' ((P1 e0)::(rC f0 #[sO kyta n1 ccta,sO kyba n2 ccba,sO q0 (zi+1) F0] 230)::(q0,wA UC 235 (yA (AJ ws) (5*(n1+n2)) (zi+1)) M0)::e1)]
      refine mB (m:=15) [0,1,0,4,12,28,60,124,0,256,1020,2047,4095,8191,16383] [9,10,14] e1 K5 JA (fun _ e=>J5.ext e) zE (fun E2=>?_)
      refine gk 9 ?_
      refine WalkT.eff E2 0 ?_ ?_
      ·refine tA fun r w0 uw hF hE=>?_
       have o8:=hF.ext hE
       exact gW fun Q' hK=>(bS (E:=UC) (l:=([⟨ws.getD (5*(n1+n2)+5*zi) 0#64,ws.getD ((5*(n1+n2)+5*zi)+1) 0#64,ws.getD ((5*(n1+n2)+5*zi)+2) 0#64,ws.getD ((5*(n1+n2)+5*zi)+3) 0#64,false⟩]:List Ot)) fun L5 p8 M5 N5 q8=>hK _ _ (E_ L5 (A_ rfl (A_ M5 N5))))
      refine WalkT.eff E2 1 ?_ ?_
      ·refine tA fun r w0 uw hF hE=>?_
       obtain ⟨e0,e9,t1,C3⟩:=hF
       replace C3:=C3.ext hE
       dsimp only
       rw [e9]
       refine gW fun Q' hK=>?_
       refine aH ?_
       refine ⟨by rw [bC],by rfl,om,?_⟩
       intro O5 P5 Q5 r8 R5 s8 S5
       have T5:(yA (AJ ws) (5*(n1+n2)) zi)++([⟨ws.getD (5*(n1+n2)+5*zi) 0#64,ws.getD ((5*(n1+n2)+5*zi)+1) 0#64,ws.getD ((5*(n1+n2)+5*zi)+2) 0#64,ws.getD ((5*(n1+n2)+5*zi)+3) 0#64,false⟩]:List Ot)=yA (AJ ws) (5*(n1+n2)) (zi+1):=by rw [TC]; rfl
       have D3:=R5
       have E3:=S5
       rw [T5] at D3 E3
       exact hK _ _ (E_ e0 (E_ O5 (E_ P5 (E_ Q5 (A_ e9 (A_ rfl (A_ t1 (A_ D3 E3))))))))
      refine gk 3 ?_
      refine WalkT.eff E2 2 ?_ ?_
      ·refine tA fun r w0 uw hF hE=>?_
       obtain ⟨e0,q0,F0,M0,e9,R0,t1,F2,F3⟩:=hF
       replace F3:=F3.ext hE
       dsimp only
       rw [R0]
       refine PE fun Q' hK=>?_
       refine go 1 ?_
       intro t8 U5 w8
       exact hK _ (fun _=>(E_ e0 (E_ q0 (E_ F0 (E_ M0 (A_ e9 (A_ R0 (A_ t1 (A_ F2 U5)))))))))
      refine WalkT.nil fun r w0 y8 hF hE=>?_
      obtain ⟨e0,q0,F0,M0,e9,R0,t1,F2,R1⟩:=hF
      replace R1:=R1.ext hE
      dsimp only
      rw [e9,R0]
      dsimp only [Q1] at t1
      dsimp only [e1,P1] at R1
      refine go 0 ?_
      have V5:=(R1.pk 15 [8,13,0,1,2,3,4,5,6,7,9,10,11,12,14])
      let g1:List RW:=(((some e0),wA UC 235 ([⟨ws.getD (5*(n1+n2)+5*zi) 0#64,ws.getD ((5*(n1+n2)+5*zi)+1) 0#64,ws.getD ((5*(n1+n2)+5*zi)+2) 0#64,ws.getD ((5*(n1+n2)+5*zi)+3) 0#64,false⟩]:List Ot) ([]))::(rC f0 #[sO kyta n1 ccta,sO kyba n2 ccba,sO q0 (zi+1) F0] 230)::(q0,wA UC 235 (yA (AJ ws) (5*(n1+n2)) (zi+1)) M0)::(rC J1 x1 235)::(rX I1 E64 ([ws.getD (5*(n1+n2)+5*zi) 0#64,ws.getD ((5*(n1+n2)+5*zi)+1) 0#64,ws.getD ((5*(n1+n2)+5*zi)+2) 0#64,ws.getD ((5*(n1+n2)+5*zi)+3) 0#64,ws.getD ((5*(n1+n2)+5*zi)+4) 0#64]) 231)::(rC b #[sO key ws.length c,.pointer none,iN ws.length,iN ((5*(n1+n2)+5*zi)+5)] 238)::x0::(rC m0 x5 64)::x3::x8::x4::Z0::(rC b1 x2 64)::R)
      let S1:=fun (l0:Nat)=>(((some l0),wA UC 235 ([⟨ws.getD (5*(n1+n2)+5*zi) 0#64,ws.getD ((5*(n1+n2)+5*zi)+1) 0#64,0#64,0#64,false⟩]:List Ot) ([])):RW)
      let G3:=(o1:RW)
      let G2:=((rC h0 x9 230):RW)
      let T1:=fun (l0:Nat)=>(Sl UC (some l0) ([⟨ws.getD (5*(n1+n2)+5*zi) 0#64,ws.getD ((5*(n1+n2)+5*zi)+1) 0#64,0#64,0#64,false⟩]:List Ot) 1 ([]):Prop)
      let W5:PD:=[IC false false false fun _ _ _ w'=>Hp No w₀ w' (G2::G3::g1),IC true false false fun v16 _ _ w'=>∃ l0,v16=sO (some l0) 1 1∧(T1 l0)∧Hp No w₀ w' ((S1 l0)::G2::G3::g1),IC true true false fun v16 v17 _ w'=>∃ l0 B0 N0 U0,v16=sO (some l0) 1 1∧v17=sO B0 (zi+1) N0∧(T1 l0)∧Sl UC B0 (yA (tG ws) (5*(n1+n2)) (zi+1)) N0 U0∧Hp No w₀ w' ((S1 l0)::G2::(B0,wA UC 235 (yA (tG ws) (5*(n1+n2)) (zi+1)) U0)::g1),IC true true true fun v16 v17 _ w'=>∃ l0 B0 N0 U0,v16=sO (some l0) 1 1∧v17=sO B0 (zi+1) N0∧(T1 l0)∧Sl UC B0 (yA (tG ws) (5*(n1+n2)) (zi+1)) N0 U0∧Hp No w₀ w' ((S1 l0)::(rC h0 #[sO kytb n1 cctb,sO kybb n2 ccbb,sO B0 (zi+1) N0] 230)::(B0,wA UC 235 (yA (tG ws) (5*(n1+n2)) (zi+1)) U0)::g1)]
      refine mB (m:=22) [0,1,0,4,12,28,60,124,0,0,768,1792,3840,0,8192,32512,65280,131068,262143,524287,1048575,2097151] [16,17,21] g1 W5 JA (fun _ e=>V5.ext e) zE (fun H2=>?_)
      refine gk 11 ?_
      refine JC (.agg (xA E64 [ws.getD (5*(n1+n2)+5*zi) 0#64,ws.getD ((5*(n1+n2)+5*zi)+1) 0#64]).toArray) (fun _ uw hcx=>kB (cs':=(xA E64 [ws.getD (5*(n1+n2)+5*zi) 0#64,ws.getD ((5*(n1+n2)+5*zi)+1) 0#64]).toArray) vF vF (hcx.get (k:=3) rfl) (off:=0) rfl (by exact vB rfl) (by rfl)) ?_
      refine gk 2 ?_
      refine JC (.bool false) (fun _ uw hcx=>(NJ (a:=0#64) (b:=1#64) rfl rfl).as (v':=.bool false) (by rfl)) ?_
      refine gk 1 ?_
      refine WalkT.eff H2 0 ?_ ?_
      ·refine tA fun r w0 uw hF hE=>?_
       have z8:=hF.ext hE
       exact gW fun Q' hK=>(bS (E:=UC) (l:=([⟨ws.getD (5*(n1+n2)+5*zi) 0#64,ws.getD ((5*(n1+n2)+5*zi)+1) 0#64,0#64,0#64,false⟩]:List Ot)) fun X5 A8 Y5 Z5 B8=>hK _ _ (E_ X5 (A_ rfl (A_ Y5 Z5))))
      refine WalkT.eff H2 1 ?_ ?_
      ·refine tA fun r w0 uw hF hE=>?_
       obtain ⟨l0,a0,u1,I3⟩:=hF
       replace I3:=I3.ext hE
       dsimp only
       rw [a0]
       refine gW fun Q' hK=>?_
       refine aH ?_
       refine ⟨by rw [bC],by rfl,om,?_⟩
       intro c6 d6 e6 C8 f6 D8 g6
       have h6:(yA (tG ws) (5*(n1+n2)) zi)++([⟨ws.getD (5*(n1+n2)+5*zi) 0#64,ws.getD ((5*(n1+n2)+5*zi)+1) 0#64,0#64,0#64,false⟩]:List Ot)=yA (tG ws) (5*(n1+n2)) (zi+1):=by rw [TC,otB_f hodd]; rfl
       have J3:=f6
       have K3:=g6
       rw [h6] at J3 K3
       exact hK _ _ (E_ l0 (E_ c6 (E_ d6 (E_ e6 (A_ a0 (A_ rfl (A_ u1 (A_ J3 K3))))))))
      refine gk 3 ?_
      refine WalkT.eff H2 2 ?_ ?_
      ·refine tA fun r w0 uw hF hE=>?_
       obtain ⟨l0,B0,N0,U0,a0,T0,u1,I2,L3⟩:=hF
       replace L3:=L3.ext hE
       dsimp only
       rw [T0]
       refine PE fun Q' hK=>?_
       refine go 1 ?_
       intro F8 i6 G8
       exact hK _ (fun _=>(E_ l0 (E_ B0 (E_ N0 (E_ U0 (A_ a0 (A_ T0 (A_ u1 (A_ I2 i6)))))))))
      refine WalkT.nil fun r w0 I8 hF hE=>?_
      obtain ⟨l0,B0,N0,U0,a0,T0,u1,I2,w1⟩:=hF
      replace w1:=w1.ext hE
      dsimp only
      rw [a0,T0]
      dsimp only [T1] at u1
      dsimp only [g1,S1] at w1
      refine go 2 ?_
      rw [show (5*(n1+n2)+5*zi)+5=5*(n1+n2)+5*(zi+1) by omega] at w1
      exact ⟨(zi+1,q0,F0,M0,B0,N0,U0),_,rfl,kp,⟨⟨om,F2,I2⟩,(w1.pk 16 [10,4,1,11,12,13,14,5,2,15,8,9])⟩,vd⟩
    ·obtain rfl:n3=zi:=by omega
     refine go 0 ?_
     refine sq (kB (cs':=x5) vF vF (l3.get (k:=0) rfl) (off:=0) rfl (by exact vB rfl) (by rfl)) ?_
     refine go 1 ?_
     intro J8 j6 K8
     refine go 1 ?_
     refine ⟨_,rfl,f0,h0,⟨WO kyta ccta zzta (yA (hH ws) 0 n1),WO kyba ccba zzba (yA (hH ws) (5*n1) n2),WO kyoa ccoa zzoa (yA (AJ ws) (5*(n1+n2)) n3)⟩,⟨WO kytb cctb zztb (yA (MT ws) 0 n1),WO kybb ccbb zzbb (yA (iP ws) (5*n1) n2),WO kyob ccob zzob (yA (tG ws) (5*(n1+n2)) n3)⟩,rfl,⟨XG hkyta,XG hkyba,XG hkyoa⟩,⟨XG hkytb,XG hkybb,XG hkyob⟩,⟨rfl,rfl,rfl,rfl,rfl,rfl⟩,?_⟩
     unfold bB Sk.ob WO
     dsimp only
     simp only [bC]
     exact (j6.pk 12 [1,3,5,7,2,4,6,8,10,11])
end Go.Proofs.YtljlkhobfdofhaaGreatDoor.Co
