/- What the claim has need of: Mi7, Mi8, Ms, Ms2. -/
import Derived.Test.YtljlkhobfdofhaaGreatDoorWv15
set_option linter.unusedVariables false
set_option maxHeartbeats 16000000
set_option maxRecDepth 20000
namespace Go.Proofs.YtljlkhobfdofhaaGreatDoor.Mi
open Go Vc Er Ek Circ
theorem uL:SA Tryz.prog 130=true:=by kernel_rfl
theorem byt141:BI Tryz.prog 141=some 80:=by kernel_rfl
theorem ZW:mC Tryz.prog 141 0=some (0,1,57):=by kernel_rfl
theorem uK:ZB Tryz.prog 130=some 2:=by kernel_rfl
theorem KU:ZB Tryz.prog 137=some 3:=by kernel_rfl
theorem sli127:qD Tryz.prog 127=some (141,6):=by kernel_rfl
theorem lK:YB Tryz.prog 130=some (.agg (List.replicate 2 (.int .u64 0)).toArray):=by kernel_rfl
theorem zer141:YB Tryz.prog 141=some (.agg #[.int .u64 0,.int .u64 0,.int .u64 0,.int .u64 0,RA,RA]):=by kernel_rfl
end Go.Proofs.YtljlkhobfdofhaaGreatDoor.Mi
namespace Go.Proofs.YtljlkhobfdofhaaGreatDoor.Mi
open Go Vc Er Ek Circ
theorem arr134:UD Tryz.prog 134=some (2,1):=by kernel_rfl
theorem arr142:UD Tryz.prog 142=some (2,6):=by kernel_rfl
theorem arr61:UD Tryz.prog 61=some (2,1):=by kernel_rfl
theorem GV:QA Tryz.prog 60=true:=by kernel_rfl
end Go.Proofs.YtljlkhobfdofhaaGreatDoor.Mi
namespace Go.Proofs.YtljlkhobfdofhaaGreatDoor.Ms
open Go Vc Er Ek Circ Mi
open Co Cm
theorem uL:SA Tryz.prog 130=true:=by kernel_rfl
theorem byt130:BI Tryz.prog 130=some 16:=by kernel_rfl
theorem call85:rA Tryz.prog 85=true:=by kernel_rfl
theorem BO:xL Tryz.prog 41=true:=by kernel_rfl
theorem JA:Tryz.prog.follows .mixedOrders=true:=by kernel_rfl
theorem one138:QA Tryz.prog 138=true:=by kernel_rfl
theorem one139:QA Tryz.prog 139=true:=by kernel_rfl
theorem uK:ZB Tryz.prog 130=some 2:=by kernel_rfl
theorem siz138:ZB Tryz.prog 138=some 1:=by kernel_rfl
theorem siz139:ZB Tryz.prog 139=some 1:=by kernel_rfl
theorem IU:qD Tryz.prog 138=some (235,5):=by kernel_rfl
theorem sli139:qD Tryz.prog 139=some (130,2):=by kernel_rfl
theorem lK:YB Tryz.prog 130=some (.agg (List.replicate 2 (.int .u64 0)).toArray):=by kernel_rfl
theorem tX (o:Mo) (me:Nat) (hme:me≤1) (j:Nat) (kd:Option Nat) (cd:Nat) (sd:LV) (ds:List Dr) (hSd:Sl aC kd ds cd sd) (hj:j<ds.length) (hz:ds.getD j XB=XB) (tb:Nat) (tk:Option Nat) (tc:Nat) (ts:LV) (ws:List (BitVec 64)) (hSw:Sl E64 tk ws tc ts) (hwl:ws.length≤140737488355328) (sb:Nat) (st:Sk) (hst:st.ok) (R:List RW) (w₀ w:World) (u n2:Nat) (hn2:n2=if me=0 then 128*wB o else 0) (hol:(64*wB o)≤st.o.l.length) (htl:u+2*n2≤ws.length) (H:Hp No w₀ w ((kd,wA aC 141 ds sd)::(rC tb #[sO tk ws.length tc,.pointer none,iN ws.length,iN u] 238)::(tk,wA E64 57 ws ts)::(bB 137 235 230 sb st++R))):Ca 94 [.pointer (LD (CA kd) (j*6)),.agg #[i64 (o.kd),i64 (o.a),i64 (o.b),i64 (o.k),u64 (o.c),i64 (o.pt)],iN me,pT tb,pT sb] w fun v w'=>∃ (dd:Dr) (G:List RW) (s':Sk),v=.nilIface∧dd.w=0#64∧dd.t=pC∧Kp UC 235 G ((st.o.l).take (64*wB o)) dd.os∧(me=0→Kp aB 130 G (CJ ws u n2) dd.zs)∧Sl aC kd (ds.set j dd) cd sd∧s'.ok∧s'.t.l=st.t.l∧s'.b.l=st.b.l∧s'.o.l=st.o.l.drop (64*wB o)∧Hp No w₀ w' ((kd,wA aC 141 (ds.set j dd) sd)::(rC tb #[sO tk ws.length tc,.pointer none,iN ws.length,iN (u+2*n2)] 238)::(tk,wA E64 57 ws ts)::(bB 137 235 230 sb s'++(G++R))):=by
 let A0:Value:=sO tk ws.length tc
 let x8:RW:=(tk,wA E64 57 ws ts)
 let x6:Array Value:=#[A0,.pointer none,iN ws.length,iN u]
 let x4:Array Value:=#[i64 (o.kd),i64 (o.a),i64 (o.b),i64 (o.k),u64 (o.c),i64 (o.pt)]
 let x3:Value:=.pointer (LD (CA kd) (j*6))
 have hkd:(LD (CA kd) (j*6)).isSome=true:=by
  obtain ⟨g,rfl⟩:=hSd.some om
  rfl
 have hog:=LK o
 have hn2i:((128*wB o:Nat):Int)*((1:Int)-((me:Nat):Int))=((n2:Nat):Int):=by
  rcases (show me=0∨me=1 by omega) with rfl | rfl
  ·rw [hn2,if_pos rfl]; simp
  ·rw [hn2,if_neg (by decide)]; simp
 have hn2b:n2≤256:=by rw [hn2]; split<;>omega
 refine enter (n:=66) Tryz.func94 rfl rfl (vB rfl) ?_
 refine go 1 ?_
 intro b1 w2 g2 H3 h2
 refine go 2 ?_
 refine cl (jI o w2) ?_
 rintro _ w5 ⟨rfl,W0⟩
 have H7:=H3.ext W0
 refine sq ((AC rfl rfl om).as (v':=iN (64*wB o)) (by exact congrArg i64 (by push_cast; rfl))) ?_
 refine go 1 ?_
 refine DA (σ:=Nat × Option Nat × Nat × LV × Sk) (fun (i,ko,co,so,s1)=>[(0,.pointer (LD (CA kd) (j*6))),(2,iN me),(3,pT tb),(4,pT sb),(6,pT b1),(10,.nilIface),(17,iN (64*wB o)),(18,iN i)]) (fun (i,ko,co,so,s1) w'=>(i≤(64*wB o)∧Sl aC kd (ds.set j (⟨0#64,pC,⟨CA ko,i,co⟩,sK⟩:Dr)) cd sd∧Sl UC ko ((st.o.l).take i) co so∧s1.ok∧s1.t.l=st.t.l∧s1.b.l=st.b.l∧s1.o.l=st.o.l.drop i)∧Hp No w₀ w' ((kd,wA aC 141 (ds.set j (⟨0#64,pC,⟨CA ko,i,co⟩,sK⟩:Dr)) sd)::(rC tb x6 238)::x8::(rC b1 x4 105)::(ko,wA UC 235 ((st.o.l).take i) so)::(bB 137 235 230 sb s1++R))) (fun (i,ko,co,so,s1)=>(64*wB o)-i) ((0,none,0,[],st)) ?_ ?_ ?_
 ·exact kp
 have K0:ds=ds.set j (⟨0#64,pC,⟨CA none,0,0⟩,sK⟩:Dr):=MU hj hz
 have H8:=((H7.nil (wA UC 235 ((st.o.l).take 0) [])).pk 5 [2,3,4,1,0]).as (L':=(_::_::_::_::_::(bB 137 235 230 sb st++R))) rfl
 have X0:Sl aC kd (ds.set j (⟨0#64,pC,⟨CA none,0,0⟩,sK⟩:Dr)) cd sd:=by rw [← K0]; exact hSd
 have H9:=H8.as (L':=((kd,wA aC 141 (ds.set j (⟨0#64,pC,⟨CA none,0,0⟩,sK⟩:Dr)) sd)::(rC tb #[sO tk ws.length tc,.pointer none,iN ws.length,iN u] 238)::(tk,wA E64 57 ws ts)::(rC b1 #[i64 (o.kd),i64 (o.a),i64 (o.b),i64 (o.k),u64 (o.c),i64 (o.pt)] 105)::(none,wA UC 235 ((st.o.l).take 0) ([]))::(bB 137 235 230 sb st++R))) (by rw [← K0])
 ·exact ⟨⟨Nat.zero_le _,X0,Sl.none,hst,rfl,rfl,rfl⟩,H9⟩
 rintro ⟨i,ko,co,so,s1⟩ ρ L0 ⟨⟨hq,o0,hSo,hs1k,hs1t,hs1b,hs1o⟩,HL⟩
 let x9:RW:=(ko,wA UC 235 ((st.o.l).take i) so)
 let x7:RW:=(kd,wA aC 141 (ds.set j (⟨0#64,pC,⟨CA ko,i,co⟩,sK⟩:Dr)) sd)
 let x5:RW:=(ko,wA UC 235 ((st.o.l).take (64*wB o)) so)
 let x1:List RW:=[x7,(rC tb x6 238),x8,(rC b1 x4 105),x9]
 refine go 1 ?_
 refine lA (((i:Nat):Int)<((64*wB o):Nat)) rfl (fun Y0=>?_) (fun Y0=>?_)
 ·refine go 1 ?_
  have Z0:=(Hp.midQ (X:=x1) (A:=bB 137 235 230 sb s1) (Y:=R) HL).as (L':=bB 137 235 230 sb s1++(x1++R)) rfl
  refine cl (Co.lS sb s1 hs1k (x1++R) w₀ L0 Z0 (by rw [hs1o,List.length_drop]; omega)) ?_
  rintro _ i2 ⟨rfl,n0,c1,d1,e1,g1,h1⟩
  have j2:=(Hp.midQ (X:=bB 137 235 230 sb n0) (A:=x1) (Y:=R) c1).as (L':=(_::_::_::_::_::(bB 137 235 230 sb n0++R))) rfl
  refine go 4 ?_
  intro i1 k2 l2 m2 o2
  refine go 1 ?_
  intro p2 j1 q2
  refine go 3 ?_
  have k1:=(j1.pk 6 [1,5,0,2,3,4])
  let j0:List RW:=((rC i1 #[u64 (((s1.o.l).getD 0 WA).p),u64 (((s1.o.l).getD 0 WA).q),u64 (((s1.o.l).getD 0 WA).r),u64 (((s1.o.l).getD 0 WA).s),.bool (((s1.o.l).getD 0 WA).ch)] 235)::(rC tb x6 238)::x8::(rC b1 x4 105)::(bB 137 235 230 sb n0++R))
  let p0:=fun (a0:Nat)=>(((some a0),wA UC 235 ([⟨((s1.o.l).getD 0 WA).p,((s1.o.l).getD 0 WA).q,((s1.o.l).getD 0 WA).r,((s1.o.l).getD 0 WA).s,((s1.o.l).getD 0 WA).ch⟩]:List Ot) ([])):RW)
  let B0:=(x7:RW)
  let q0:=fun (a0:Nat)=>(Sl UC (some a0) ([⟨((s1.o.l).getD 0 WA).p,((s1.o.l).getD 0 WA).q,((s1.o.l).getD 0 WA).r,((s1.o.l).getD 0 WA).s,((s1.o.l).getD 0 WA).ch⟩]:List Ot) 1 ([]):Prop)
  let l1:PD:=[IC false false false fun _ _ _ w'=>Hp No w₀ w' (B0::x9::j0),IC true false false fun v6 _ _ w'=>∃ a0,v6=sO (some a0) 1 1∧(q0 a0)∧Hp No w₀ w' ((p0 a0)::B0::x9::j0),IC true true false fun v6 v7 _ w'=>∃ a0 c0 e0 h0,v6=sO (some a0) 1 1∧v7=sO c0 (i+1) e0∧(q0 a0)∧Sl UC c0 ((st.o.l).take (i+1)) e0 h0∧Hp No w₀ w' ((p0 a0)::B0::(c0,wA UC 235 ((st.o.l).take (i+1)) h0)::j0),IC true true true fun v6 v7 _ w'=>∃ a0 c0 e0 h0,v6=sO (some a0) 1 1∧v7=sO c0 (i+1) e0∧(q0 a0)∧Sl aC kd ((ds.set j (⟨0#64,pC,⟨CA ko,i,co⟩,sK⟩:Dr)).set j ({ (ds.set j (⟨0#64,pC,⟨CA ko,i,co⟩,sK⟩:Dr)).getD j XB with os:=⟨CA c0,i+1,e0⟩ }:Dr)) cd sd∧Sl UC c0 ((st.o.l).take (i+1)) e0 h0∧Hp No w₀ w' ((p0 a0)::(kd,wA aC 141 ((ds.set j (⟨0#64,pC,⟨CA ko,i,co⟩,sK⟩:Dr)).set j ({ (ds.set j (⟨0#64,pC,⟨CA ko,i,co⟩,sK⟩:Dr)).getD j XB with os:=⟨CA c0,i+1,e0⟩ }:Dr)) sd)::(c0,wA UC 235 ((st.o.l).take (i+1)) h0)::j0)]
  refine mB (m:=11) [0,0,2,6,14,0,32,126,255,511,1023] [6,7,10] j0 l1 JA (fun _ e=>k1.ext e) zE (fun C0=>?_)
  refine gk 2 ?_
  refine JC x3 (fun _ uw hcx=>gF rfl hkd) ?_
  refine gk 1 ?_
  refine aA (fun _=>sO ko i co) (fun _ _ _=>rfl) ?_ ?_
  ·refine tB (fun r w0 uw hF hE=>?_) fun r w0 uw hF hE=>?_
   ·have HH:=hF.ext hE
    exact Gives.run rfl (KL (E:=aC) (l:=ds.set j (⟨0#64,pC,⟨CA ko,i,co⟩,sK⟩:Dr)) (j:=j) (o:=4) (v:=(⟨0#64,pC,⟨CA ko,i,co⟩,sK⟩:Dr)) (u:=sO ko i co) vF (HH.rd (k:=0) rfl o0) (List.getElem?_set_self om) rfl rfl rfl) ⟨rfl,Chg.refl _ _⟩
   ·obtain ⟨a0,e6,k0,HH⟩:=hF
    replace HH:=HH.ext hE
    exact Gives.run rfl (KL (E:=aC) (l:=ds.set j (⟨0#64,pC,⟨CA ko,i,co⟩,sK⟩:Dr)) (j:=j) (o:=4) (v:=(⟨0#64,pC,⟨CA ko,i,co⟩,sK⟩:Dr)) (u:=sO ko i co) vF (HH.rd (k:=1) rfl o0) (List.getElem?_set_self om) rfl rfl rfl) ⟨rfl,Chg.refl _ _⟩
  refine gk 1 ?_
  refine WalkT.eff C0 0 ?_ ?_
  ·refine tA fun r w0 uw hF hE=>?_
   have r2:=hF.ext hE
   exact gW fun Q' hK=>(bS (E:=UC) (l:=([⟨((s1.o.l).getD 0 WA).p,((s1.o.l).getD 0 WA).q,((s1.o.l).getD 0 WA).r,((s1.o.l).getD 0 WA).s,((s1.o.l).getD 0 WA).ch⟩]:List Ot)) fun m1 t2 n1 o1 u2=>hK _ _ (E_ m1 (A_ rfl (A_ n1 o1))))
  refine WalkT.eff C0 1 ?_ ?_
  ·refine tA fun r w0 uw hF hE=>?_
   obtain ⟨a0,e6,k0,M0⟩:=hF
   replace M0:=M0.ext hE
   dsimp only
   rw [e6]
   refine gW fun Q' hK=>?_
   refine aH ?_
   refine ⟨by rw [List.length_take]; omega,by rfl,om,?_⟩
   intro p1 q1 r1 y2 t1 z2 u1
   have w1:((st.o.l).take i)++([⟨((s1.o.l).getD 0 WA).p,((s1.o.l).getD 0 WA).q,((s1.o.l).getD 0 WA).r,((s1.o.l).getD 0 WA).s,((s1.o.l).getD 0 WA).ch⟩]:List Ot)=(st.o.l).take (i+1):=by rw [hs1o,zH]; exact BU _ _ _ om
   have N0:=t1
   have O0:=u1
   rw [w1] at N0 O0
   exact hK _ _ (E_ a0 (E_ p1 (E_ q1 (E_ r1 (A_ e6 (A_ rfl (A_ k0 (A_ N0 O0))))))))
  refine JC x3 (fun _ uw hcx=>gF rfl hkd) ?_
  refine gk 1 ?_
  refine WalkT.eff C0 2 ?_ ?_
  ·refine tA fun r w0 uw hF hE=>?_
   obtain ⟨a0,c0,e0,h0,e6,e7,k0,D0,E0⟩:=hF
   replace E0:=E0.ext hE
   dsimp only
   rw [e7]
   refine PE fun Q' hK=>(kL (E:=aC) (k:=1) (l:=ds.set j (⟨0#64,pC,⟨CA ko,i,co⟩,sK⟩:Dr)) (j:=j) (o:=4) (a:=(ds.set j (⟨0#64,pC,⟨CA ko,i,co⟩,sK⟩:Dr)).getD j XB) (b:=({ (ds.set j (⟨0#64,pC,⟨CA ko,i,co⟩,sK⟩:Dr)).getD j XB with os:=⟨CA c0,i+1,e0⟩ }:Dr)) (v:=sO c0 (i+1) e0) E0 rfl o0 rfl rfl rfl vF rfl rfl (by decide) rfl (rB (by rw [List.length_set]; exact hj)) fun A2 y1 z1=>?_)
   have A1:=z1.as (L':=(_::_::_::_::_::_::_::(bB 137 235 230 sb n0++R))) rfl
   exact hK _ (fun _=>(E_ a0 (E_ c0 (E_ e0 (E_ h0 (A_ e6 (A_ e7 (A_ k0 (A_ y1 (A_ D0 A1))))))))))
  refine WalkT.nil fun r w0 C2 hF hE=>?_
  obtain ⟨a0,c0,e0,h0,e6,e7,k0,B1,D0,r0⟩:=hF
  replace r0:=r0.ext hE
  dsimp only
  rw [e6,e7]
  dsimp only [q0] at k0
  dsimp only [j0,p0] at r0
  have C1:(ds.set j (⟨0#64,pC,⟨CA ko,i,co⟩,sK⟩:Dr)).set j ({ (ds.set j (⟨0#64,pC,⟨CA ko,i,co⟩,sK⟩:Dr)).getD j XB with os:=⟨CA c0,i+1,e0⟩ }:Dr)=ds.set j (⟨0#64,pC,⟨CA c0,i+1,e0⟩,sK⟩:Dr):=by exact dr_os hj _
  have P0:=B1
  have Q0:=r0
  rw [C1] at P0 Q0
  refine go 2 ?_
  exact ⟨(i+1,c0,e0,h0,n0),_,rfl,kp,⟨⟨om,P0,D0,d1,by rw [g1]; exact hs1t,by rw [h1]; exact hs1b,by rw [e1,hs1o,List.drop_drop]⟩,(Q0.pk 7 [1,4,5,6,2])⟩,vd⟩
 ·have hie:i=(64*wB o):=by omega
  subst hie
  refine go 1 ?_
  refine cl (jI o L0) ?_
  rintro _ D2 ⟨rfl,D1⟩
  have E1:=HL.ext D1
  refine sq ((AC rfl rfl om).as (v':=iN (128*wB o)) (by exact congrArg i64 (by push_cast; rfl))) ?_
  refine go 2 ?_
  refine sq ((AC rfl rfl (by rw [hn2i]; omega)).as (v':=iN n2) (by exact congrArg i64 hn2i)) ?_
  refine go 1 ?_
  refine DA (σ:=Nat × Option Nat × Nat × LV) (fun (i,kz,cz,sz)=>[(0,.pointer (LD (CA kd) (j*6))),(3,pT tb),(6,pT b1),(10,.nilIface),(44,iN n2),(45,iN i)]) (fun (i,kz,cz,sz) w'=>(i≤n2∧Sl aC kd (ds.set j (⟨0#64,pC,⟨CA ko,(64*wB o),co⟩,⟨CA kz,i,cz⟩⟩:Dr)) cd sd∧Sl aB kz (CJ ws u i) cz sz)∧Hp No w₀ w' ((kd,wA aC 141 (ds.set j (⟨0#64,pC,⟨CA ko,(64*wB o),co⟩,⟨CA kz,i,cz⟩⟩:Dr)) sd)::(rC tb #[sO tk ws.length tc,.pointer none,iN ws.length,iN (u+2*i)] 238)::x8::(rC b1 x4 105)::x5::(kz,wA aB 130 (CJ ws u i) sz)::(bB 137 235 230 sb s1++R))) (fun (i,kz,cz,sz)=>n2-i) ((0,none,0,[])) ?_ ?_ ?_
  ·exact kp
  have F1:=((E1.nil (wA aB 130 (CJ ws u 0) [])).pk 6 [1,2,3,4,5,0]).as (L':=(_::_::_::_::_::_::(bB 137 235 230 sb s1++R))) rfl
  ·exact ⟨⟨Nat.zero_le _,o0,Sl.none⟩,F1⟩
  rintro ⟨i,kz,cz,sz⟩ ρ G1 ⟨⟨hq,u0,hSz⟩,F0⟩
  refine go 1 ?_
  refine lA (((i:Nat):Int)<(n2:Nat)) rfl (fun H1=>?_) (fun H1=>?_)
  ·refine go 1 ?_
   refine cl (bM tb tc (u+2*i) (CA tk) ws G1 IJ (ZM F0 (i:=1) (j:=2) rfl rfl rfl hSw) om om) ?_
   rintro _ E2 ⟨rfl,I1,J1⟩
   have F2:=(F0.set (k:=1) rfl I1 J1).as (L':=(_::_::_::_::_::_::(bB 137 235 230 sb s1++R))) rfl
   refine go 4 ?_
   intro K1 G2 H2 I2 J2
   refine go 1 ?_
   intro K2 L1 L2
   refine go 3 ?_
   have M1:=(L1.pk 7 [1,6,0,2,3,4,5])
   let l0:List RW:=((rX K1 E64 ([ws.getD (u+2*i) 0#64,ws.getD ((u+2*i)+1) 0#64]) 130)::(rC tb #[A0,.pointer none,iN ws.length,iN ((u+2*i)+2)] 238)::x8::(rC b1 x4 105)::x5::(bB 137 235 230 sb s1++R))
   let x0:=fun (b0:Nat)=>(((some b0),wA aB 130 ([(ws.getD (u+2*i) 0#64,ws.getD ((u+2*i)+1) 0#64)]:List NB) ([])):RW)
   let G0:=((kd,wA aC 141 (ds.set j (⟨0#64,pC,⟨CA ko,(64*wB o),co⟩,⟨CA kz,i,cz⟩⟩:Dr)) sd):RW)
   let y0:=fun (b0:Nat)=>(Sl aB (some b0) ([(ws.getD (u+2*i) 0#64,ws.getD ((u+2*i)+1) 0#64)]:List NB) 1 ([]):Prop)
   let N1:PD:=[IC false false false fun _ _ _ w'=>Hp No w₀ w' (G0::(kz,wA aB 130 (CJ ws u i) sz)::l0),IC true false false fun v6 _ _ w'=>∃ b0,v6=sO (some b0) 1 1∧(y0 b0)∧Hp No w₀ w' ((x0 b0)::G0::(kz,wA aB 130 (CJ ws u i) sz)::l0),IC true true false fun v6 v7 _ w'=>∃ b0 d0 f0 i0,v6=sO (some b0) 1 1∧v7=sO d0 (i+1) f0∧(y0 b0)∧Sl aB d0 (CJ ws u (i+1)) f0 i0∧Hp No w₀ w' ((x0 b0)::G0::(d0,wA aB 130 (CJ ws u (i+1)) i0)::l0),IC true true true fun v6 v7 _ w'=>∃ b0 d0 f0 i0,v6=sO (some b0) 1 1∧v7=sO d0 (i+1) f0∧(y0 b0)∧Sl aC kd ((ds.set j (⟨0#64,pC,⟨CA ko,(64*wB o),co⟩,⟨CA kz,i,cz⟩⟩:Dr)).set j ({ (ds.set j (⟨0#64,pC,⟨CA ko,(64*wB o),co⟩,⟨CA kz,i,cz⟩⟩:Dr)).getD j XB with zs:=⟨CA d0,i+1,f0⟩ }:Dr)) cd sd∧Sl aB d0 (CJ ws u (i+1)) f0 i0∧Hp No w₀ w' ((x0 b0)::(kd,wA aC 141 ((ds.set j (⟨0#64,pC,⟨CA ko,(64*wB o),co⟩,⟨CA kz,i,cz⟩⟩:Dr)).set j ({ (ds.set j (⟨0#64,pC,⟨CA ko,(64*wB o),co⟩,⟨CA kz,i,cz⟩⟩:Dr)).getD j XB with zs:=⟨CA d0,i+1,f0⟩ }:Dr)) sd)::(d0,wA aB 130 (CJ ws u (i+1)) i0)::l0)]
   refine mB (m:=11) [0,0,2,6,14,0,32,126,255,511,1023] [6,7,10] l0 N1 JA (fun _ e=>M1.ext e) zE (fun H0=>?_)
   refine gk 2 ?_
   refine JC x3 (fun _ uw hcx=>gF rfl hkd) ?_
   refine gk 1 ?_
   refine aA (fun _=>sO kz i cz) (fun _ _ _=>rfl) ?_ ?_
   ·refine tB (fun r w0 uw hF hE=>?_) fun r w0 uw hF hE=>?_
    ·have HH:=hF.ext hE
     exact Gives.run rfl (KL (E:=aC) (l:=ds.set j (⟨0#64,pC,⟨CA ko,(64*wB o),co⟩,⟨CA kz,i,cz⟩⟩:Dr)) (j:=j) (o:=5) (v:=(⟨0#64,pC,⟨CA ko,(64*wB o),co⟩,⟨CA kz,i,cz⟩⟩:Dr)) (u:=sO kz i cz) vF (HH.rd (k:=0) rfl u0) (List.getElem?_set_self om) rfl rfl rfl) ⟨rfl,Chg.refl _ _⟩
    ·obtain ⟨b0,e6,m0,HH⟩:=hF
     replace HH:=HH.ext hE
     exact Gives.run rfl (KL (E:=aC) (l:=ds.set j (⟨0#64,pC,⟨CA ko,(64*wB o),co⟩,⟨CA kz,i,cz⟩⟩:Dr)) (j:=j) (o:=5) (v:=(⟨0#64,pC,⟨CA ko,(64*wB o),co⟩,⟨CA kz,i,cz⟩⟩:Dr)) (u:=sO kz i cz) vF (HH.rd (k:=1) rfl u0) (List.getElem?_set_self om) rfl rfl rfl) ⟨rfl,Chg.refl _ _⟩
   refine gk 1 ?_
   refine WalkT.eff H0 0 ?_ ?_
   ·refine tA fun r w0 uw hF hE=>?_
    have M2:=hF.ext hE
    exact gW fun Q' hK=>(bS (E:=aB) (l:=([(ws.getD (u+2*i) 0#64,ws.getD ((u+2*i)+1) 0#64)]:List NB)) fun O1 N2 P1 Q1 O2=>hK _ _ (E_ O1 (A_ rfl (A_ P1 Q1))))
   refine WalkT.eff H0 1 ?_ ?_
   ·refine tA fun r w0 uw hF hE=>?_
    obtain ⟨b0,e6,m0,R0⟩:=hF
    replace R0:=R0.ext hE
    dsimp only
    rw [e6]
    refine gW fun Q' hK=>?_
    refine aH ?_
    refine ⟨by exact (tI _ _ _).symm,by rfl,om,?_⟩
    intro R1 S1 T1 P2 U1 Q2 V1
    have W1:(CJ ws u i)++([(ws.getD (u+2*i) 0#64,ws.getD ((u+2*i)+1) 0#64)]:List NB)=CJ ws u (i+1):=by exact (CW _ _ _).symm
    have S0:=U1
    have T0:=V1
    rw [W1] at S0 T0
    exact hK _ _ (E_ b0 (E_ R1 (E_ S1 (E_ T1 (A_ e6 (A_ rfl (A_ m0 (A_ S0 T0))))))))
   refine JC x3 (fun _ uw hcx=>gF rfl hkd) ?_
   refine gk 1 ?_
   refine WalkT.eff H0 2 ?_ ?_
   ·refine tA fun r w0 uw hF hE=>?_
    obtain ⟨b0,d0,f0,i0,e6,e7,m0,I0,J0⟩:=hF
    replace J0:=J0.ext hE
    dsimp only
    rw [e7]
    refine PE fun Q' hK=>(kL (E:=aC) (k:=1) (l:=ds.set j (⟨0#64,pC,⟨CA ko,(64*wB o),co⟩,⟨CA kz,i,cz⟩⟩:Dr)) (j:=j) (o:=5) (a:=(ds.set j (⟨0#64,pC,⟨CA ko,(64*wB o),co⟩,⟨CA kz,i,cz⟩⟩:Dr)).getD j XB) (b:=({ (ds.set j (⟨0#64,pC,⟨CA ko,(64*wB o),co⟩,⟨CA kz,i,cz⟩⟩:Dr)).getD j XB with zs:=⟨CA d0,i+1,f0⟩ }:Dr)) (v:=sO d0 (i+1) f0) J0 rfl u0 rfl rfl rfl vF rfl rfl (by decide) rfl (rB (by rw [List.length_set]; exact hj)) fun R2 Y1 Z1=>?_)
    have c2:=Z1.as (L':=(_::_::_::_::_::_::_::_::(bB 137 235 230 sb s1++R))) rfl
    exact hK _ (fun _=>(E_ b0 (E_ d0 (E_ f0 (E_ i0 (A_ e6 (A_ e7 (A_ m0 (A_ Y1 (A_ I0 c2))))))))))
   refine WalkT.nil fun r w0 S2 hF hE=>?_
   obtain ⟨b0,d0,f0,i0,e6,e7,m0,d2,I0,z0⟩:=hF
   replace z0:=z0.ext hE
   dsimp only
   rw [e6,e7]
   dsimp only [y0] at m0
   dsimp only [l0,x0] at z0
   have e2:(ds.set j (⟨0#64,pC,⟨CA ko,(64*wB o),co⟩,⟨CA kz,i,cz⟩⟩:Dr)).set j ({ (ds.set j (⟨0#64,pC,⟨CA ko,(64*wB o),co⟩,⟨CA kz,i,cz⟩⟩:Dr)).getD j XB with zs:=⟨CA d0,i+1,f0⟩ }:Dr)=ds.set j (⟨0#64,pC,⟨CA ko,(64*wB o),co⟩,⟨CA d0,i+1,f0⟩⟩:Dr):=by exact dr_zs hj _
   have U0:=d2
   have V0:=z0
   rw [e2] at U0 V0
   refine go 2 ?_
   exact ⟨(i+1,d0,f0,i0),_,rfl,kp,⟨⟨om,U0,I0⟩,(V0.pk 8 [1,4,5,6,7,2])⟩,vd⟩
  ·obtain rfl:n2=i:=by omega
   let x2:List RW:=[x5,(kz,wA aB 130 (CJ ws u n2) sz)]
   refine go 1 ?_
   have f2:=(Hp.midP (P:=[(kd,wA aC 141 (ds.set j (⟨0#64,pC,⟨CA ko,(64*wB o),co⟩,⟨CA kz,n2,cz⟩⟩:Dr)) sd),(rC tb #[A0,.pointer none,iN ws.length,iN (u+2*n2)] 238),x8]) (X:=x2) (A:=bB 137 235 230 sb s1) (Y:=R) (F0.dropk 3)).as (L':=(_::_::_::(bB 137 235 230 sb s1++(x2++R)))) rfl
   exact ⟨_,rfl,(⟨0#64,pC,⟨CA ko,(64*wB o),co⟩,⟨CA kz,n2,cz⟩⟩:Dr),x2,s1,rfl,rfl,rfl,⟨ko,co,so,List.mem_cons_self,hSo,by rw [show ((st.o.l).take (64*wB o)).length=(64*wB o) by rw [List.length_take]; omega]⟩,fun hm=>⟨kz,cz,sz,List.mem_cons_of_mem _ List.mem_cons_self,hSz,by rw [tI]⟩,u0,hs1k,hs1t,hs1b,hs1o,f2⟩
end Go.Proofs.YtljlkhobfdofhaaGreatDoor.Ms
namespace Go.Proofs.YtljlkhobfdofhaaGreatDoor.Ms
open Go Vc Er Ek Circ Mi
open Co Cm
theorem sN:UD Tryz.prog 130=some (2,1):=by kernel_rfl
theorem byt141:BI Tryz.prog 141=some 80:=by kernel_rfl
theorem bK:pD Tryz.prog 105 cH:=aQ (by kernel_rfl) (by kernel_rfl)
theorem GG:pD Tryz.prog 57 E64:=FG (by kernel_rfl) (by kernel_rfl)
theorem MO:mC Tryz.prog 105 0=some (0,1,103):=by kernel_rfl
theorem aX:mC Tryz.prog 105 5=some (5,1,3):=by kernel_rfl
theorem ZW:mC Tryz.prog 141 0=some (0,1,57):=by kernel_rfl
theorem KV:QA Tryz.prog 103=true:=by kernel_rfl
theorem PS:QA Tryz.prog 3=true:=by kernel_rfl
theorem KU:ZB Tryz.prog 137=some 3:=by kernel_rfl
theorem JU:ZB Tryz.prog 57=some 1:=by kernel_rfl
theorem sli127:qD Tryz.prog 127=some (141,6):=by kernel_rfl
theorem sli31:qD Tryz.prog 31=some (105,6):=by kernel_rfl
theorem zer141:YB Tryz.prog 141=some (.agg #[.int .u64 0,.int .u64 0,.int .u64 0,.int .u64 0,RA,RA]):=by kernel_rfl
theorem zI (ops:List Mo) (oa:Option Addr) (oc:Nat) (me:Nat) (hme:me≤1) (tb:Nat) (tk:Option Nat) (tc:Nat) (ts:LV) (ws:List (BitVec 64)) (hSw:Sl E64 tk ws tc ts) (hwl:ws.length≤140737488355328) (sb:Nat) (st:Sk) (hst:st.ok) (R:List RW) (w₀ w:World) (hop:ops.length≤16384) (hT:eB me ops+uA (gB me) ops ops.length≤ws.length) (hA:uA fA ops ops.length≤st.t.l.length) (hB:uA fB ops ops.length≤st.b.l.length) (hC:uA fO ops ops.length≤st.o.l.length) (hO:∀ w',Ext w₀ w'→(∀ p∈R,∀ b,p.1=some b→w'.heap[b]?=some p.2)→Rd cH w' oa ops) (H:Hp No w₀ w ((rC tb #[sO tk ws.length tc,.pointer none,iN ws.length,iN 0] 238)::(tk,wA E64 57 ws ts)::(bB 137 235 230 sb st++R))):Ca 48 [.slice oa ops.length oc,i64 ((me:Nat):Int),pT tb,pT sb] w fun v w'=>∃ (kd:Option Nat) (cd:Nat) (sd:LV) (ds:List Dr) (s':Sk) (F:List RW),v=.tuple #[sO kd ops.length cd,.agg (xA E64 [(eC me ops ws).1,(eC me ops ws).2]).toArray,.nilIface]∧Sl aC kd ds cd sd∧DrN (SB ops ((me:Nat):Int) (gB me) ws (eB me ops)) (YA ops st.t.l st.b.l) ops.length ds ops.length∧s'.ok∧s'.t.l=st.t.l.drop (uA fA ops ops.length)∧s'.b.l=st.b.l.drop (uA fB ops ops.length)∧s'.o.l=st.o.l.drop (uA fO ops ops.length)∧DrG 235 130 F me ops st.o.l ws (eB me ops) ds ops.length∧Hp No w₀ w' ((kd,wA aC 141 ds sd)::(rC tb #[sO tk ws.length tc,.pointer none,iN ws.length,iN (eB me ops+uA (gB me) ops ops.length)] 238)::(tk,wA E64 57 ws ts)::(bB 137 235 230 sb s'++(F++R))):=by
 let x6:Value:=sO tk ws.length tc
 let x2:RW:=(tk,wA E64 57 ws ts)
 skip
 refine enter (n:=112) Tryz.func48 rfl rfl (vB rfl) ?_
 refine go 2 ?_
 intro b1 w2 G1 H3 H1
 let x4:=(rX b1 E64 ([0#64,0#64]) 130)::(bB 137 235 230 sb st++R)
 refine go 3 ?_
 refine rE (E:=aC) (m:=ops.length) (c:=ops.length) (z0:=XB) H3 vF vF rfl vF rfl rfl vo vo om om fun b5 w7 q0 H8 I1=>?_
 let x3:RW:=((some b5),wA aC 141 (List.replicate ops.length XB) (xA aC (List.replicate (ops.length-ops.length) XB)))
 refine go 2 ?_
 intro a0 J1 K1 r0 L1
 refine gj 1 ?_
 refine uM (σ:=Unit) (fun _=>[(0,.slice oa ops.length oc),(1,iN me),(2,pT tb),(3,pT sb),(8,RA),(9,pT b1),(10,.nilIface),(11,sO (some b5) ops.length ops.length),(12,pT a0),(13,.nilIface)]) (fun _ w'=>True∧Hp No w₀ w' (x3::(rC tb #[x6,.pointer none,iN ws.length,iN (eB me ops)] 238)::x2::(rX a0 E64 ([(eC me ops ws).1,(eC me ops ws).2]) 130)::x4)) ?_ (fun o0=>?_)
 ·rintro _ ρ M1 ⟨_,u0⟩
  refine go 3 ?_
  refine DA (σ:=Nat × List Dr × Sk × List RW) (fun (i,ds,s1,F)=>[(1,iN me),(2,pT tb),(3,pT sb),(8,RA),(9,pT b1),(10,.nilIface),(11,sO (some b5) ops.length ops.length),(12,pT a0),(13,.nilIface),(49,.slice oa ops.length oc),(50,iN ops.length),(51,iN i)]) (fun (i,ds,s1,F) w'=>(i≤ops.length∧DrN (SB ops ((me:Nat):Int) (gB me) ws (eB me ops)) (YA ops st.t.l st.b.l) ops.length ds i∧Sl aC (some b5) ds ops.length (xA aC (List.replicate (ops.length-ops.length) XB))∧s1.ok∧s1.t.l=st.t.l.drop (uA fA ops i)∧s1.b.l=st.b.l.drop (uA fB ops i)∧s1.o.l=st.o.l.drop (uA fO ops i)∧DrG 235 130 F me ops st.o.l ws (eB me ops) ds i)∧Hp No w₀ w' (((some b5),wA aC 141 ds (xA aC (List.replicate (ops.length-ops.length) XB)))::(rC tb #[sO tk ws.length tc,.pointer none,iN ws.length,iN (eB me ops+uA (gB me) ops i)] 238)::x2::(rX a0 E64 ([(eC me ops ws).1,(eC me ops ws).2]) 130)::(rX b1 E64 ([0#64,0#64]) 130)::(bB 137 235 230 sb s1++(F++R)))) (fun (i,ds,s1,F)=>ops.length-i) ((0,List.replicate ops.length XB,st,[])) ?_ ?_ ?_
  ·exact kp
  ·exact ⟨⟨Nat.zero_le _,dr_zero _,q0,hst,rfl,rfl,rfl,sX⟩,u0⟩
  rintro ⟨i,ds,s1,F⟩ ρ N1 ⟨⟨hq2,hdr,hSd,hs1k,hs1t,hs1b,hs1o,hdg⟩,d0⟩
  have hdl:=hdr.len
  refine go 1 ?_
  refine lA (((i:Nat):Int)<(ops.length:Nat)) rfl (fun x0=>?_) (fun x0=>?_)
  ·refine go 1 ?_
   refine sq (OF (E:=cH) (l:=ops) (j:=i) vF (hO _ d0.chg (fun p hp=>d0.has p (mT (mT (mT (mT (mT ((List.mem_append_right _ (List.mem_append_right _ hp)))))))))) rfl rfl vo (by rfl) om) (sq ((lG (E:=cH) (l:=ops) (j:=i) (v:=ops.getD i UA) bK (hO _ d0.chg (fun p hp=>d0.has p (mT (mT (mT (mT (mT ((List.mem_append_right _ (List.mem_append_right _ hp)))))))))) rfl rfl (rB om)).as (v':=.agg #[i64 ((ops.getD i UA).kd),i64 ((ops.getD i UA).a),i64 ((ops.getD i UA).b),i64 ((ops.getD i UA).k),u64 ((ops.getD i UA).c),i64 ((ops.getD i UA).pt)]) rfl) ?_)
   refine go 1 ?_
   intro b0 O1 P1 Q1 R1
   refine go 2 ?_
   intro i0 c0 S1
   obtain ⟨o,ho⟩:∃ q1,q1=ops.getD i UA:=⟨_,rfl⟩
   let x7:RW:=((some b5),wA aC 141 ds (xA aC (List.replicate (ops.length-ops.length) XB)))
   let x5:Array Value:=#[i64 (o.kd),i64 (o.a),i64 (o.b),i64 (o.k),u64 (o.c),i64 (o.pt)]
   let x1:Array Value:=#[x6,.pointer none,iN ws.length,iN (eB me ops+uA (gB me) ops i)]
   rw [← ho] at c0 ⊢
   refine go 8 ?_
   refine lA ((o.kd:Int)=(1:Int)) rfl (fun k1=>?_) (fun k1=>?_)
   ·refine go 4 ?_
    refine lA ((o.pt:Int)=(me:Nat)) rfl (fun j0=>?_) (fun j0=>?_)
    ·refine go 0 ?_
     have htu:(eB me ops+uA (gB me) ops i)<ws.length:=by have h:=JG (f:=gB me) (ops:=ops) (show i+1≤ops.length by omega); rw [sA ho (nX k1 j0)] at h; omega
     refine go 2 ?_
     refine cl (lI tb tc (eB me ops+uA (gB me) ops i) (CA tk) ws i0 IJ (ZM c0 (i:=2) (j:=3) rfl rfl rfl hSw) om om) ?_
     rintro _ T1 ⟨rfl,y0,A0⟩
     have B0:=(c0.set (k:=2) rfl y0 A0).as (L':=(_::_::_::_::_::_::(bB 137 235 230 sb s1++(F++R)))) rfl
     refine go 3 ?_
     refine sq ((MB rfl).as (v':=.pointer (LD (CA (some b5)) (i*6))) rfl) ?_
     refine go 1 ?_
     refine kL (E:=aC) (k:=1) (l:=ds) (j:=i) (o:=0) (a:=ds.getD i XB) (b:=({ ds.getD i XB with w:=ws.getD (eB me ops+uA (gB me) ops i) 0#64 }:Dr)) (v:=u64 (ws.getD (eB me ops+uA (gB me) ops i) 0#64)) B0 rfl hSd rfl rfl rfl vF rfl rfl (by decide) rfl (rB om) fun U1 C0 D0=>?_
     have E0:=D0.as (L':=(_::_::_::_::_::_::(bB 137 235 230 sb s1++(F++R)))) rfl
     refine go 5 ?_
     have hu2:uA (gB me) ops (i+1)=_:=sA ho (nX k1 j0)
     have F0:=((E0.dropk 0)).as (L':=(((some b5),wA aC 141 (ds.set i ({ ds.getD i XB with w:=ws.getD (eB me ops+uA (gB me) ops i) 0#64 }:Dr)) (xA aC (List.replicate (ops.length-ops.length) XB)))::(rC tb #[sO tk ws.length tc,.pointer none,iN ws.length,iN (eB me ops+uA (gB me) ops (i+1))] 238)::(tk,wA E64 57 ws ts)::(rX a0 E64 ([(eC me ops ws).1,(eC me ops ws).2]) 130)::(rX b1 E64 ([0#64,0#64]) 130)::(bB 137 235 230 sb s1++(F++R)))) (by rw [hu2,← Nat.add_assoc]<;>rfl)
     exact ⟨(i+1,ds.set i ({ ds.getD i XB with w:=ws.getD (eB me ops+uA (gB me) ops i) 0#64 }:Dr),s1,F),_,rfl,kp,⟨⟨om,jN hdr om (dw_in ho k1 j0) (by show (ds.getD i XB).t=_; rw [hdr.z i (Nat.le_refl _)]; exact FR ho om om),C0,hs1k,by rw [sA ho (show fA o=0 from if_neg om)]; exact hs1t,by rw [sA ho (show fB o=0 from if_neg om)]; exact hs1b,by rw [sA ho (show fO o=0 from if_neg om)]; exact hs1o,jL hdg ho om _⟩,F0⟩,vd⟩
    ·refine go 4 ?_
     have hu2:uA (gB me) ops (i+1)=_:=sA ho (cN om om)
     have G0:=((c0.dropk 0)).as (L':=(((some b5),wA aC 141 ds (xA aC (List.replicate (ops.length-ops.length) XB)))::(rC tb #[sO tk ws.length tc,.pointer none,iN ws.length,iN (eB me ops+uA (gB me) ops (i+1))] 238)::(tk,wA E64 57 ws ts)::(rX a0 E64 ([(eC me ops ws).1,(eC me ops ws).2]) 130)::(rX b1 E64 ([0#64,0#64]) 130)::(bB 137 235 230 sb s1++(F++R)))) (by rw [hu2,← Nat.add_assoc]<;>rfl)
     exact ⟨(i+1,ds,s1,F),_,rfl,kp,⟨⟨om,GR hdr (SO ho om) (FR ho om om),hSd,hs1k,by rw [sA ho (show fA o=0 from if_neg om)]; exact hs1t,by rw [sA ho (show fB o=0 from if_neg om)]; exact hs1b,by rw [sA ho (show fO o=0 from if_neg om)]; exact hs1o,UO hdg ho om⟩,G0⟩,vd⟩
   ·refine go 2 ?_
    refine lA ((o.kd:Int)=(6:Int)) rfl (fun k6=>?_) (fun k6=>?_)
    ·refine go 2 ?_
     have H0:=(Hp.midQ (X:=[(rC b0 x5 105),x7,(rC tb x1 238),x2,(rX a0 E64 ([(eC me ops ws).1,(eC me ops ws).2]) 130),(rX b1 E64 ([0#64,0#64]) 130)]) (A:=bB 137 235 230 sb s1) (Y:=(F++R)) c0).as (L':=bB 137 235 230 sb s1++([(rC b0 x5 105),x7,(rC tb x1 238),x2,(rX a0 E64 ([(eC me ops ws).1,(eC me ops ws).2]) 130),(rX b1 E64 ([0#64,0#64]) 130)]++(F++R))) rfl
     refine cl (Co.nS sb s1 hs1k ([(rC b0 x5 105),x7,(rC tb x1 238),x2,(rX a0 E64 ([(eC me ops ws).1,(eC me ops ws).2]) 130),(rX b1 E64 ([0#64,0#64]) 130)]++(F++R)) w₀ i0 H0 (by rw [hs1t,List.length_drop]; have h:=JG (f:=fA) (ops:=ops) (show i+1≤ops.length by omega); rw [sA ho (show fA o=1 from if_pos k6)] at h; omega)) ?_
     rintro _ V1 ⟨rfl,e0,I0,J0,K0,L0,M0⟩
     have N0:=(Hp.midQ (X:=bB 137 235 230 sb e0) (A:=[(rC b0 x5 105),x7,(rC tb x1 238),x2,(rX a0 E64 ([(eC me ops ws).1,(eC me ops ws).2]) 130),(rX b1 E64 ([0#64,0#64]) 130)]) (Y:=(F++R)) I0).as (L':=(_::_::_::_::_::_::(bB 137 235 230 sb e0++(F++R)))) rfl
     refine go 3 ?_
     refine sq ((MB rfl).as (v':=.pointer (LD (CA (some b5)) (i*6))) rfl) ?_
     refine go 1 ?_
     refine VO (E:=aC) (k:=1) (l:=ds) (j:=i) (o:=1) (a:=ds.getD i XB) (b:=({ ds.getD i XB with t:=(s1.t.l).getD 0 pC }:Dr)) (v:=.agg #[u64 ((s1.t.l).getD 0 pC).a,u64 ((s1.t.l).getD 0 pC).b,u64 ((s1.t.l).getD 0 pC).c]) (vs:=[u64 ((s1.t.l).getD 0 pC).a,u64 ((s1.t.l).getD 0 pC).b,u64 ((s1.t.l).getD 0 pC).c]) N0 rfl hSd rfl rfl rfl vF rfl rfl (by intro u hu; simp at hu; rcases hu with rfl | rfl | rfl<;>rfl) (vB rfl) rfl (rB om) fun W1 O0 P0=>?_
     have Q0:=P0.as (L':=(_::_::_::_::_::_::(bB 137 235 230 sb e0++(F++R)))) rfl
     refine go 5 ?_
     have hu2:uA (gB me) ops (i+1)=_:=sA ho (cN om om)
     have R0:=((Q0.dropk 0)).as (L':=(((some b5),wA aC 141 (ds.set i ({ ds.getD i XB with t:=(s1.t.l).getD 0 pC }:Dr)) (xA aC (List.replicate (ops.length-ops.length) XB)))::(rC tb #[sO tk ws.length tc,.pointer none,iN ws.length,iN (eB me ops+uA (gB me) ops (i+1))] 238)::(tk,wA E64 57 ws ts)::(rX a0 E64 ([(eC me ops ws).1,(eC me ops ws).2]) 130)::(rX b1 E64 ([0#64,0#64]) 130)::(bB 137 235 230 sb e0++(F++R)))) (by rw [hu2,← Nat.add_assoc]<;>rfl)
     exact ⟨(i+1,ds.set i ({ ds.getD i XB with t:=(s1.t.l).getD 0 pC }:Dr),e0,F),_,rfl,kp,⟨⟨om,jN hdr om (by show (ds.getD i XB).w=_; rw [hdr.z i (Nat.le_refl _)]; exact SO ho om) (by show (s1.t.l).getD 0 pC=_; rw [hs1t,zH]; exact dt_a ho k6),O0,J0,by rw [K0,hs1t,List.drop_drop,sA ho (show fA o=1 from if_pos k6)],by rw [L0]; rw [sA ho (show fB o=0 from if_neg om)]; exact hs1b,by rw [M0]; rw [sA ho (show fO o=0 from if_neg om)]; exact hs1o,jL hdg ho om _⟩,R0⟩,vd⟩
    ·refine go 2 ?_
     refine lA ((o.kd:Int)=(9:Int)) rfl (fun k9=>?_) (fun k9=>?_)
     ·refine go 2 ?_
      have S0:=(Hp.midQ (X:=[(rC b0 x5 105),x7,(rC tb x1 238),x2,(rX a0 E64 ([(eC me ops ws).1,(eC me ops ws).2]) 130),(rX b1 E64 ([0#64,0#64]) 130)]) (A:=bB 137 235 230 sb s1) (Y:=(F++R)) c0).as (L':=bB 137 235 230 sb s1++([(rC b0 x5 105),x7,(rC tb x1 238),x2,(rX a0 E64 ([(eC me ops ws).1,(eC me ops ws).2]) 130),(rX b1 E64 ([0#64,0#64]) 130)]++(F++R))) rfl
      refine cl (Co.mS sb s1 hs1k ([(rC b0 x5 105),x7,(rC tb x1 238),x2,(rX a0 E64 ([(eC me ops ws).1,(eC me ops ws).2]) 130),(rX b1 E64 ([0#64,0#64]) 130)]++(F++R)) w₀ i0 S0 (by rw [hs1b,List.length_drop]; have h:=JG (f:=fB) (ops:=ops) (show i+1≤ops.length by omega); rw [sA ho (show fB o=1 from if_pos k9)] at h; omega)) ?_
      rintro _ Y1 ⟨rfl,f0,T0,U0,V0,W0,X0⟩
      have Y0:=(Hp.midQ (X:=bB 137 235 230 sb f0) (A:=[(rC b0 x5 105),x7,(rC tb x1 238),x2,(rX a0 E64 ([(eC me ops ws).1,(eC me ops ws).2]) 130),(rX b1 E64 ([0#64,0#64]) 130)]) (Y:=(F++R)) T0).as (L':=(_::_::_::_::_::_::(bB 137 235 230 sb f0++(F++R)))) rfl
      refine go 3 ?_
      refine sq ((MB rfl).as (v':=.pointer (LD (CA (some b5)) (i*6))) rfl) ?_
      refine go 1 ?_
      refine VO (E:=aC) (k:=1) (l:=ds) (j:=i) (o:=1) (a:=ds.getD i XB) (b:=({ ds.getD i XB with t:=(s1.b.l).getD 0 pC }:Dr)) (v:=.agg #[u64 ((s1.b.l).getD 0 pC).a,u64 ((s1.b.l).getD 0 pC).b,u64 ((s1.b.l).getD 0 pC).c]) (vs:=[u64 ((s1.b.l).getD 0 pC).a,u64 ((s1.b.l).getD 0 pC).b,u64 ((s1.b.l).getD 0 pC).c]) Y0 rfl hSd rfl rfl rfl vF rfl rfl (by intro u hu; simp at hu; rcases hu with rfl | rfl | rfl<;>rfl) (vB rfl) rfl (rB om) fun Z1 Z0 c1=>?_
      have d1:=c1.as (L':=(_::_::_::_::_::_::(bB 137 235 230 sb f0++(F++R)))) rfl
      refine go 5 ?_
      have hu2:uA (gB me) ops (i+1)=_:=sA ho (cN om om)
      have e1:=((d1.dropk 0)).as (L':=(((some b5),wA aC 141 (ds.set i ({ ds.getD i XB with t:=(s1.b.l).getD 0 pC }:Dr)) (xA aC (List.replicate (ops.length-ops.length) XB)))::(rC tb #[sO tk ws.length tc,.pointer none,iN ws.length,iN (eB me ops+uA (gB me) ops (i+1))] 238)::(tk,wA E64 57 ws ts)::(rX a0 E64 ([(eC me ops ws).1,(eC me ops ws).2]) 130)::(rX b1 E64 ([0#64,0#64]) 130)::(bB 137 235 230 sb f0++(F++R)))) (by rw [hu2,← Nat.add_assoc]<;>rfl)
      exact ⟨(i+1,ds.set i ({ ds.getD i XB with t:=(s1.b.l).getD 0 pC }:Dr),f0,F),_,rfl,kp,⟨⟨om,jN hdr om (by show (ds.getD i XB).w=_; rw [hdr.z i (Nat.le_refl _)]; exact SO ho om) (by show (s1.b.l).getD 0 pC=_; rw [hs1b,zH]; exact dt_b ho k9),Z0,U0,by rw [W0]; rw [sA ho (show fA o=0 from if_neg om)]; exact hs1t,by rw [V0,hs1b,List.drop_drop,sA ho (show fB o=1 from if_pos k9)],by rw [X0]; rw [sA ho (show fO o=0 from if_neg om)]; exact hs1o,jL hdg ho om _⟩,e1⟩,vd⟩
     ·refine go 2 ?_
      refine lA ((o.kd:Int)=(17:Int)) rfl (fun h0=>?_) (fun h0=>?_)
      ·have hgol:64*wB o≤s1.o.l.length:=by
        rw [hs1o,List.length_drop]; have h:=JG (f:=fO) (ops:=ops) (show i+1≤ops.length by omega); rw [sA ho (show fO o=64*wB o from if_pos h0)] at h; omega
       have hgtl:(eB me ops+uA (gB me) ops i)+2*(if me=0 then 128*wB o else 0)≤ws.length:=by
        have h:=JG (f:=gB me) (ops:=ops) (show i+1≤ops.length by omega); rw [sA ho (CR h0 rfl)] at h; omega
       refine go 5 ?_
       have g1:=(Hp.midP (P:=[x7,(rC tb x1 238),x2]) (X:=[(rC b0 x5 105),(rX a0 E64 ([(eC me ops ws).1,(eC me ops ws).2]) 130),(rX b1 E64 ([0#64,0#64]) 130)]) (A:=bB 137 235 230 sb s1) (Y:=F++R) (c0.pk 6 [1,2,3,0,4,5])).as (L':=(_::_::_::(bB 137 235 230 sb s1++([(rC b0 x5 105),(rX a0 E64 ([(eC me ops ws).1,(eC me ops ws).2]) 130),(rX b1 E64 ([0#64,0#64]) 130)]++(F++R))))) rfl
       refine cl (tX o me hme i (some b5) ops.length (xA aC (List.replicate (ops.length-ops.length) XB)) ds hSd om (hdr.z i (Nat.le_refl _)) tb tk tc ts ws hSw hwl sb s1 hs1k ([(rC b0 x5 105),(rX a0 E64 ([(eC me ops ws).1,(eC me ops ws).2]) 130),(rX b1 E64 ([0#64,0#64]) 130)]++(F++R)) w₀ i0 (eB me ops+uA (gB me) ops i) (if me=0 then 128*wB o else 0) rfl hgol hgtl g1) ?_
       rintro _ c2 ⟨dd67,G68,k0,rfl,hgw,hgt,hgo,hgz,h1,i1,j1,l1,m1,n1⟩
       have o1:=(Hp.midPB (P:=[((some b5),wA aC 141 (ds.set i dd67) (xA aC (List.replicate (ops.length-ops.length) XB))),(rC tb #[sO tk ws.length tc,.pointer none,iN ws.length,iN ((eB me ops+uA (gB me) ops i)+2*(if me=0 then 128*wB o else 0))] 238),x2]) (X:=bB 137 235 230 sb k0) (B:=G68) (A:=[(rC b0 x5 105),(rX a0 E64 ([(eC me ops ws).1,(eC me ops ws).2]) 130),(rX b1 E64 ([0#64,0#64]) 130)]) (Y:=F++R) n1).as (L':=(_::_::_::_::_::_::(bB 137 235 230 sb k0++(G68++(F++R))))) rfl
       refine go 5 ?_
       have hu2:uA (gB me) ops (i+1)=_:=sA ho (CR h0 rfl)
       have p1:=((o1.dropk 3)).as (L':=(((some b5),wA aC 141 (ds.set i dd67) (xA aC (List.replicate (ops.length-ops.length) XB)))::(rC tb #[sO tk ws.length tc,.pointer none,iN ws.length,iN (eB me ops+uA (gB me) ops (i+1))] 238)::(tk,wA E64 57 ws ts)::(rX a0 E64 ([(eC me ops ws).1,(eC me ops ws).2]) 130)::(rX b1 E64 ([0#64,0#64]) 130)::(bB 137 235 230 sb k0++((G68++F)++R)))) (by rw [hu2,← Nat.add_assoc,List.append_assoc]<;>rfl)
       exact ⟨(i+1,ds.set i dd67,k0,(G68++F)),_,rfl,kp,⟨⟨om,jN hdr om (by rw [hgw]; exact SO ho om) (by rw [hgt]; exact FR ho om om),h1,i1,by rw [j1]; rw [sA ho (show fA o=0 from if_neg om)]; exact hs1t,by rw [l1]; rw [sA ho (show fB o=0 from if_neg om)]; exact hs1b,by rw [m1,hs1o,List.drop_drop,sA ho (show fO o=64*wB o from if_pos h0)],drg_set hdg ho om (by rw [hs1o] at hgo; exact hgo) (fun hm=>by have h:=hgz hm; rw [if_pos hm] at h; exact h)⟩,p1⟩,vd⟩
      ·refine go 4 ?_
       have hu2:uA (gB me) ops (i+1)=_:=sA ho (cN om om)
       have r1:=((c0.dropk 0)).as (L':=(((some b5),wA aC 141 ds (xA aC (List.replicate (ops.length-ops.length) XB)))::(rC tb #[sO tk ws.length tc,.pointer none,iN ws.length,iN (eB me ops+uA (gB me) ops (i+1))] 238)::(tk,wA E64 57 ws ts)::(rX a0 E64 ([(eC me ops ws).1,(eC me ops ws).2]) 130)::(rX b1 E64 ([0#64,0#64]) 130)::(bB 137 235 230 sb s1++(F++R)))) (by rw [hu2,← Nat.add_assoc]<;>rfl)
       exact ⟨(i+1,ds,s1,F),_,rfl,kp,⟨⟨om,GR hdr (SO ho om) (FR ho om om),hSd,hs1k,by rw [sA ho (show fA o=0 from if_neg om)]; exact hs1t,by rw [sA ho (show fB o=0 from if_neg om)]; exact hs1b,by rw [sA ho (show fO o=0 from if_neg om)]; exact hs1o,UO hdg ho om⟩,r1⟩,vd⟩
  ·have hie:i=ops.length:=by omega
   subst hie
   refine go 0 ?_
   have t1:=(d0.pk 5 [4,0,1,2,3])
   let l0:List RW:=(((some b5),wA aC 141 ds (xA aC (List.replicate (ops.length-ops.length) XB)))::(rC tb #[x6,.pointer none,iN ws.length,iN (eB me ops+uA (gB me) ops ops.length)] 238)::x2::(rX a0 E64 ([(eC me ops ws).1,(eC me ops ws).2]) 130)::(bB 137 235 230 sb s1++(F++R)))
   let u1:PD:=[wL false fun _ w'=>Hp No w₀ w' ((rX b1 E64 ([0#64,0#64]) 130)::l0),wL true fun _ w'=>Hp No w₀ w' ((rX b1 E64 ([(eC me ops ws).1,(eC me ops ws).2]) 130)::l0)]
   refine mB (m:=5) [0,0,1,7,15] [3] l0 u1 JA (fun _ e=>t1.ext e) zE (fun w1=>?_)
   refine gk 3 ?_
   refine WalkT.eff w1 0 ?_ ?_
   ·refine tA fun r w0 uw hF hE=>?_
    have d2:=hF.ext hE
    refine PE fun Q' hK=>?_
    refine go 1 ?_
    intro e2 y1 f2
    exact hK _ (fun _=>y1)
   refine gk 1 ?_
   refine WalkT.nil fun r w0 g2 hF hE=>?_
   have p0:=hF.ext hE
   dsimp only
   dsimp only [l0] at p0
   refine go 0 ?_
   exact ⟨_,rfl,(some b5),ops.length,(xA aC (List.replicate (ops.length-ops.length) XB)),ds,s1,F,rfl,hSd,hdr,hs1k,hs1t,hs1b,hs1o,hdg,((p0.dropk 4).dropk 0)⟩
 ·refine go 3 ?_
  refine DA (σ:=Nat) (fun i=>[(0,.slice oa ops.length oc),(1,iN me),(2,pT tb),(3,pT sb),(8,RA),(9,pT b1),(10,.nilIface),(11,sO (some b5) ops.length ops.length),(12,pT a0),(13,.nilIface),(22,.slice oa ops.length oc),(23,iN ops.length),(24,iN i)]) (fun i w'=>(i≤ops.length∧(me=0→uA fG ops i=0))∧Hp No w₀ w' (x3::(rC tb #[x6,.pointer none,iN ws.length,iN 0] 238)::x2::(rX a0 E64 ([0#64,0#64]) 130)::x4)) (fun i=>ops.length-i) (0) ?_ ?_ ?_
  ·exact kp
  ·exact ⟨⟨Nat.zero_le _,fun _=>rfl⟩,(r0.pk 5 [1,3,4,0,2])⟩
  rintro i ρ h2 ⟨⟨hq,hgi⟩,HL⟩
  refine go 1 ?_
  refine lA (((i:Nat):Int)<(ops.length:Nat)) rfl (fun z1=>?_) (fun z1=>?_)
  ·refine go 0 ?_
   refine sq (OF (E:=cH) (l:=ops) (j:=i) vF (hO _ HL.chg (fun p hp=>HL.has p (mT (mT (mT (mT (mT ((List.mem_append_right _ hp))))))))) rfl rfl vo (by rfl) om) (sq ((lG (E:=cH) (l:=ops) (j:=i) (v:=ops.getD i UA) bK (hO _ HL.chg (fun p hp=>HL.has p (mT (mT (mT (mT (mT ((List.mem_append_right _ hp))))))))) rfl rfl (rB om)).as (v':=.agg #[i64 ((ops.getD i UA).kd),i64 ((ops.getD i UA).a),i64 ((ops.getD i UA).b),i64 ((ops.getD i UA).k),u64 ((ops.getD i UA).c),i64 ((ops.getD i UA).pt)]) rfl) ?_)
   refine go 1 ?_
   intro i2 j2 k2 l2 m2
   refine go 1 ?_
   intro A1 n0 n2
   refine go 4 ?_
   refine VA (B:=(decide (((ops.getD i UA).kd:Int)=(17:Int)))) (v:=iN me) (BA (d':=31) (B:=true) rfl rfl rfl) (fun hB=>NA (v:=iN me) rfl) (VA (B:=(decide (((ops.getD i UA).kd:Int)=(17:Int)))) (v:=.bool (decide (((me:Nat):Int)=(0:Int)))) (BA (d':=31) (B:=true) rfl rfl rfl) (fun hB=>by simp only [uE (v:=_) (h:=hB)]; exact RB rfl rfl) (sq (OB (B:=true) rfl rfl rfl rfl) ?_))
   refine go 0 ?_
   refine FD ((decide (((ops.getD i UA).kd:Int)=(17:Int)) && decide (((me:Nat):Int)=(0:Int)))) rfl (fun m0=>?_) (fun m0=>?_)
   ·have hc:=Bool.and_eq_true_iff.1 m0
    have hc1:=of_decide_eq_true hc.1
    have hc2:=of_decide_eq_true hc.2
    have hm0:me=0:=by omega
    have hgp:0<uA fG ops ops.length:=JR ops.length (show i<ops.length by omega) (by rw [fG,if_pos hc1]; decide)
    have hdl0:eB me ops=2:=if_pos ⟨hm0,hgp⟩
    refine go 1 ?_
    refine cl (bM tb tc 0 (CA tk) ws A1 IJ (ZM n0 (i:=2) (j:=3) rfl rfl rfl hSw) om om) ?_
    rintro _ o2 ⟨rfl,B1,C1⟩
    have p2:=(n0.set (k:=2) rfl B1 C1).as (L':=(_::_::_::_::_::_::(bB 137 235 230 sb st++R))) rfl
    refine go 4 ?_
    intro q2 r2 t2
    refine go 8 ?_
    intro u2 D1 y2
    refine NI (cG (FF rfl (pE (pE (kE (AB ?_))))))
    have hdl:eB me ops=0+2:=if_pos ⟨hm0,hgp⟩
    have hdv:eC me ops ws=((ws.getD 0 0#64) ||| (1#64),ws.getD (0+1) 0#64):=if_pos ⟨hm0,hgp⟩
    have E1:=((D1.dropk 0)).as (L':=(((some b5),wA aC 141 (List.replicate ops.length XB) (xA aC (List.replicate (ops.length-ops.length) XB)))::(rC tb #[sO tk ws.length tc,.pointer none,iN ws.length,iN (eB me ops)] 238)::(tk,wA E64 57 ws ts)::(rX a0 E64 ([(eC me ops ws).1,(eC me ops ws).2]) 130)::(rX b1 E64 ([0#64,0#64]) 130)::(bB 137 235 230 sb st++R))) (by rw [hdl,hdv]<;>rfl)
    exact o0 () _ _ kp ⟨trivial,E1⟩
   ·refine go 2 ?_
    exact ⟨i+1,_,rfl,kp,⟨⟨om,fun hm=>by rw [uA,hgi hm,fG,if_neg (fun e=>by rw [decide_eq_true e,decide_eq_true (show ((me:Nat):Int)=0 by omega)] at m0; cases m0)]⟩,(n0.dropk 0)⟩,vd⟩
  ·have hie:i=ops.length:=by omega
   subst hie
   refine cG (pE (pE (kE (AB ?_))))
   have hdl:eB me ops=0:=if_neg (fun h=>by have:=hgi h.1; omega)
   have hdv:eC me ops ws=(0#64,0#64):=if_neg (fun h=>by have:=hgi h.1; omega)
   have F1:=HL.as (L':=(((some b5),wA aC 141 (List.replicate ops.length XB) (xA aC (List.replicate (ops.length-ops.length) XB)))::(rC tb #[sO tk ws.length tc,.pointer none,iN ws.length,iN (eB me ops)] 238)::(tk,wA E64 57 ws ts)::(rX a0 E64 ([(eC me ops ws).1,(eC me ops ws).2]) 130)::(rX b1 E64 ([0#64,0#64]) 130)::(bB 137 235 230 sb st++R))) (by rw [hdl,hdv]<;>rfl)
   exact o0 () _ _ kp ⟨trivial,F1⟩
end Go.Proofs.YtljlkhobfdofhaaGreatDoor.Ms
