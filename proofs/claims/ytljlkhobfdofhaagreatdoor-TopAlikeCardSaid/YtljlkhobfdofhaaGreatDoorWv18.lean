/- What the claim has need of: Aes. -/
import Derived.Test.YtljlkhobfdofhaaGreatDoorWv5
set_option linter.unusedVariables false
set_option maxHeartbeats 16000000
set_option maxRecDepth 20000
namespace Go.Proofs.YtljlkhobfdofhaaGreatDoor.Aes
open Go Vc AesSpec
theorem uL:SA Tryz.prog 130=true:=by kernel_rfl
theorem agg415:SA Tryz.prog 415=true:=by kernel_rfl
theorem agg479:SA Tryz.prog 479=true:=by kernel_rfl
theorem sN:UD Tryz.prog 130=some (2,1):=by kernel_rfl
theorem arr415:UD Tryz.prog 415=some (16,1):=by kernel_rfl
theorem arr453:UD Tryz.prog 453=some (11,16):=by kernel_rfl
theorem arr479:UD Tryz.prog 479=some (4,1):=by kernel_rfl
theorem call232:rA Tryz.prog 232=true:=by kernel_rfl
theorem call233:rA Tryz.prog 233=true:=by kernel_rfl
theorem call234:rA Tryz.prog 234=true:=by kernel_rfl
theorem call312:rA Tryz.prog 312=true:=by kernel_rfl
theorem call324:rA Tryz.prog 324=true:=by kernel_rfl
theorem DX:rA Tryz.prog 49=true:=by kernel_rfl
theorem OO:pD Tryz.prog 5 E8:=fits8 (by kernel_rfl) (by kernel_rfl)
theorem GG:pD Tryz.prog 57 E64:=FG (by kernel_rfl) (by kernel_rfl)
theorem fld456_0:mC Tryz.prog 456 0=some (0,176,453):=by kernel_rfl
theorem JA:Tryz.prog.follows .mixedOrders=true:=by kernel_rfl
theorem one5:QA Tryz.prog 5=true:=by kernel_rfl
theorem HV:QA Tryz.prog 57=true:=by kernel_rfl
theorem uK:ZB Tryz.prog 130=some 2:=by kernel_rfl
theorem siz415:ZB Tryz.prog 415=some 16:=by kernel_rfl
theorem siz479:ZB Tryz.prog 479=some 4:=by kernel_rfl
theorem siz5:ZB Tryz.prog 5=some 1:=by kernel_rfl
theorem JU:ZB Tryz.prog 57=some 1:=by kernel_rfl
theorem und3:Tryz.prog.underlying 3=some (.int .i64):=by kernel_rfl
theorem und415:Tryz.prog.underlying 415=some (.array 16 5):=by kernel_rfl
theorem und57:Tryz.prog.underlying 57=some (.int .u64):=by kernel_rfl
theorem und59:Tryz.prog.underlying 59=some (.int .u64):=by kernel_rfl
theorem lK:YB Tryz.prog 130=some (.agg (List.replicate 2 (.int .u64 0)).toArray):=by kernel_rfl
theorem zer479:YB Tryz.prog 479=some (.agg (List.replicate 4 (.int .u8 0)).toArray):=by kernel_rfl
theorem rK (a:BitVec 8) (w:World):Ca 312 [u8 a] w fun v w'=>v=u8 (xt a)∧Ext w w':=by
 have H:=eA No w
 refine enter (n:=10) Tryz.func312 rfl rfl (vB rfl) ?_
 refine go 3 ?_
 refine lA ((128#8).toNat≤a.toNat) rfl (fun c=>?_) (fun c=>?_)
 ·refine go 4 ?_
  exact ⟨_,rfl,congrArg u8 (if_pos c).symm,H.chg⟩
 ·refine go 3 ?_
  exact ⟨_,rfl,congrArg u8 (if_neg c).symm,H.chg⟩
theorem zG (a:BitVec 8) (k:Nat) (hk:k<8) (w:World):Ca 324 [u8 a,iN k] w fun v w'=>v=u8 (jG a k)∧Ext w w':=by
 have H:=eA No w
 refine enter (n:=17) Tryz.func324 rfl rfl (vB rfl) ?_
 refine go 14 ?_
 exact ⟨_,rfl,congrArg u8 (by simp only [jG,(WU k hk).1,(WU k hk).2]),H.chg⟩
theorem fill_ok (b:Nat) (cl:List By) (hn:cl.length=432) (w:World) (hb:w.heap[b]?=some (.cells (xA E8 cl).toArray 456 (0,0))):Ca 313 [pT b] w fun v w'=>v=.tuple #[]∧Chg (·=b) w w'∧w'.heap[b]?=some (.cells (xA E8 (iM cl)).toArray 456 (0,0)):=by
 have H:=Hp.start1 (M:=(·=b)) rfl hb
 refine enter (n:=50) Tryz.func313 rfl rfl (vB rfl) ?_
 refine go 3 ?_
 refine DA (σ:=Nat) (fun k=>[(0,pT b),(2,u8 ((iA cl k).1)),(3,u8 ((iA cl k).2.1)),(4,iN k)]) (fun k w'=>k≤255∧Hp (·=b) w w' [(rX b E8 ((iA cl k).2.2) 456)]) (fun k=>255-k) (0) ?_ ?_ ?_
 ·exact kp
 ·exact ⟨om,H⟩
 rintro k ρ w1 ⟨hk,H2⟩
 have hl:=gM cl k
 rw [hn] at hl
 refine go 1 ?_
 refine lA (((k:Nat):Int)<(255:Int)) rfl (fun e0=>?_) (fun e0=>?_)
 ·refine go 2 ?_
  refine Vc.cl (rK ((iA cl k).1) w1) ?_
  rintro _ w3 ⟨rfl,f0⟩
  have H5:=H2.ext f0
  refine go 19 ?_
  refine lA ((128#8).toNat≤(((((iA cl k).2.1)^^^(((iA cl k).2.1) <<< (1:Nat)))^^^((((iA cl k).2.1)^^^(((iA cl k).2.1) <<< (1:Nat))) <<< (2:Nat)))^^^(((((iA cl k).2.1)^^^(((iA cl k).2.1) <<< (1:Nat)))^^^((((iA cl k).2.1)^^^(((iA cl k).2.1) <<< (1:Nat))) <<< (2:Nat))) <<< (4:Nat))).toNat) rfl (fun a0=>?_) (fun a0=>?_)
  ·refine go 3 ?_
   refine GB (K:=[none,none,none,none,none,none,none,none,none,none,none,none,none,none,none,none,none,none,none]) [0,0,0,0,8,28,0,88,252,0,728,2044,0,5848,16380,32764,1,65537,262143,524287] (fun w'=>Ext w3 w') (fun w' w''=>Ext w' w'') JA (by kernel_rfl) (Ext.drew _) (fun _ _ h h'=>h.trans h') ?_ ?_
   ·exact LB (by decide)
   refine gk 4 ?_
   refine ⟨u8 (jG ((((((iA cl k).2.1)^^^(((iA cl k).2.1) <<< (1:Nat)))^^^((((iA cl k).2.1)^^^(((iA cl k).2.1) <<< (1:Nat))) <<< (2:Nat)))^^^(((((iA cl k).2.1)^^^(((iA cl k).2.1) <<< (1:Nat)))^^^((((iA cl k).2.1)^^^(((iA cl k).2.1) <<< (1:Nat))) <<< (2:Nat))) <<< (4:Nat)))^^^(9#8)) 1),fun _ h0 z0 _=>Gives.call rfl (cA (vs:=[u8 ((((((iA cl k).2.1)^^^(((iA cl k).2.1) <<< (1:Nat)))^^^((((iA cl k).2.1)^^^(((iA cl k).2.1) <<< (1:Nat))) <<< (2:Nat)))^^^(((((iA cl k).2.1)^^^(((iA cl k).2.1) <<< (1:Nat)))^^^((((iA cl k).2.1)^^^(((iA cl k).2.1) <<< (1:Nat))) <<< (2:Nat))) <<< (4:Nat)))^^^(9#8)),i64 1]) vF rfl) (zG ((((((iA cl k).2.1)^^^(((iA cl k).2.1) <<< (1:Nat)))^^^((((iA cl k).2.1)^^^(((iA cl k).2.1) <<< (1:Nat))) <<< (2:Nat)))^^^(((((iA cl k).2.1)^^^(((iA cl k).2.1) <<< (1:Nat)))^^^((((iA cl k).2.1)^^^(((iA cl k).2.1) <<< (1:Nat))) <<< (2:Nat))) <<< (4:Nat)))^^^(9#8)) 1 (by decide) h0),?_⟩
   refine gk 2 ?_
   refine ⟨u8 (jG ((((((iA cl k).2.1)^^^(((iA cl k).2.1) <<< (1:Nat)))^^^((((iA cl k).2.1)^^^(((iA cl k).2.1) <<< (1:Nat))) <<< (2:Nat)))^^^(((((iA cl k).2.1)^^^(((iA cl k).2.1) <<< (1:Nat)))^^^((((iA cl k).2.1)^^^(((iA cl k).2.1) <<< (1:Nat))) <<< (2:Nat))) <<< (4:Nat)))^^^(9#8)) 2),fun _ i0 A0 _=>Gives.call rfl (cA (vs:=[u8 ((((((iA cl k).2.1)^^^(((iA cl k).2.1) <<< (1:Nat)))^^^((((iA cl k).2.1)^^^(((iA cl k).2.1) <<< (1:Nat))) <<< (2:Nat)))^^^(((((iA cl k).2.1)^^^(((iA cl k).2.1) <<< (1:Nat)))^^^((((iA cl k).2.1)^^^(((iA cl k).2.1) <<< (1:Nat))) <<< (2:Nat))) <<< (4:Nat)))^^^(9#8)),i64 2]) vF rfl) (zG ((((((iA cl k).2.1)^^^(((iA cl k).2.1) <<< (1:Nat)))^^^((((iA cl k).2.1)^^^(((iA cl k).2.1) <<< (1:Nat))) <<< (2:Nat)))^^^(((((iA cl k).2.1)^^^(((iA cl k).2.1) <<< (1:Nat)))^^^((((iA cl k).2.1)^^^(((iA cl k).2.1) <<< (1:Nat))) <<< (2:Nat))) <<< (4:Nat)))^^^(9#8)) 2 (by decide) i0),?_⟩
   refine gk 2 ?_
   refine ⟨u8 (jG ((((((iA cl k).2.1)^^^(((iA cl k).2.1) <<< (1:Nat)))^^^((((iA cl k).2.1)^^^(((iA cl k).2.1) <<< (1:Nat))) <<< (2:Nat)))^^^(((((iA cl k).2.1)^^^(((iA cl k).2.1) <<< (1:Nat)))^^^((((iA cl k).2.1)^^^(((iA cl k).2.1) <<< (1:Nat))) <<< (2:Nat))) <<< (4:Nat)))^^^(9#8)) 3),fun _ j0 B0 _=>Gives.call rfl (cA (vs:=[u8 ((((((iA cl k).2.1)^^^(((iA cl k).2.1) <<< (1:Nat)))^^^((((iA cl k).2.1)^^^(((iA cl k).2.1) <<< (1:Nat))) <<< (2:Nat)))^^^(((((iA cl k).2.1)^^^(((iA cl k).2.1) <<< (1:Nat)))^^^((((iA cl k).2.1)^^^(((iA cl k).2.1) <<< (1:Nat))) <<< (2:Nat))) <<< (4:Nat)))^^^(9#8)),i64 3]) vF rfl) (zG ((((((iA cl k).2.1)^^^(((iA cl k).2.1) <<< (1:Nat)))^^^((((iA cl k).2.1)^^^(((iA cl k).2.1) <<< (1:Nat))) <<< (2:Nat)))^^^(((((iA cl k).2.1)^^^(((iA cl k).2.1) <<< (1:Nat)))^^^((((iA cl k).2.1)^^^(((iA cl k).2.1) <<< (1:Nat))) <<< (2:Nat))) <<< (4:Nat)))^^^(9#8)) 3 (by decide) j0),?_⟩
   refine gk 2 ?_
   refine ⟨u8 (jG ((((((iA cl k).2.1)^^^(((iA cl k).2.1) <<< (1:Nat)))^^^((((iA cl k).2.1)^^^(((iA cl k).2.1) <<< (1:Nat))) <<< (2:Nat)))^^^(((((iA cl k).2.1)^^^(((iA cl k).2.1) <<< (1:Nat)))^^^((((iA cl k).2.1)^^^(((iA cl k).2.1) <<< (1:Nat))) <<< (2:Nat))) <<< (4:Nat)))^^^(9#8)) 4),fun _ k0 C0 _=>Gives.call rfl (cA (vs:=[u8 ((((((iA cl k).2.1)^^^(((iA cl k).2.1) <<< (1:Nat)))^^^((((iA cl k).2.1)^^^(((iA cl k).2.1) <<< (1:Nat))) <<< (2:Nat)))^^^(((((iA cl k).2.1)^^^(((iA cl k).2.1) <<< (1:Nat)))^^^((((iA cl k).2.1)^^^(((iA cl k).2.1) <<< (1:Nat))) <<< (2:Nat))) <<< (4:Nat)))^^^(9#8)),i64 4]) vF rfl) (zG ((((((iA cl k).2.1)^^^(((iA cl k).2.1) <<< (1:Nat)))^^^((((iA cl k).2.1)^^^(((iA cl k).2.1) <<< (1:Nat))) <<< (2:Nat)))^^^(((((iA cl k).2.1)^^^(((iA cl k).2.1) <<< (1:Nat)))^^^((((iA cl k).2.1)^^^(((iA cl k).2.1) <<< (1:Nat))) <<< (2:Nat))) <<< (4:Nat)))^^^(9#8)) 4 (by decide) k0),?_⟩
   refine gk 5 ?_
   intro r47 D0 l0 hF
   have m0:=H5.ext l0
   refine GA (k:=0) (v:=u8 (((((((((((iA cl k).2.1)^^^(((iA cl k).2.1) <<< (1:Nat)))^^^((((iA cl k).2.1)^^^(((iA cl k).2.1) <<< (1:Nat))) <<< (2:Nat)))^^^(((((iA cl k).2.1)^^^(((iA cl k).2.1) <<< (1:Nat)))^^^((((iA cl k).2.1)^^^(((iA cl k).2.1) <<< (1:Nat))) <<< (2:Nat))) <<< (4:Nat)))^^^(9#8))^^^(jG ((((((iA cl k).2.1)^^^(((iA cl k).2.1) <<< (1:Nat)))^^^((((iA cl k).2.1)^^^(((iA cl k).2.1) <<< (1:Nat))) <<< (2:Nat)))^^^(((((iA cl k).2.1)^^^(((iA cl k).2.1) <<< (1:Nat)))^^^((((iA cl k).2.1)^^^(((iA cl k).2.1) <<< (1:Nat))) <<< (2:Nat))) <<< (4:Nat)))^^^(9#8)) 1))^^^(jG ((((((iA cl k).2.1)^^^(((iA cl k).2.1) <<< (1:Nat)))^^^((((iA cl k).2.1)^^^(((iA cl k).2.1) <<< (1:Nat))) <<< (2:Nat)))^^^(((((iA cl k).2.1)^^^(((iA cl k).2.1) <<< (1:Nat)))^^^((((iA cl k).2.1)^^^(((iA cl k).2.1) <<< (1:Nat))) <<< (2:Nat))) <<< (4:Nat)))^^^(9#8)) 2))^^^(jG ((((((iA cl k).2.1)^^^(((iA cl k).2.1) <<< (1:Nat)))^^^((((iA cl k).2.1)^^^(((iA cl k).2.1) <<< (1:Nat))) <<< (2:Nat)))^^^(((((iA cl k).2.1)^^^(((iA cl k).2.1) <<< (1:Nat)))^^^((((iA cl k).2.1)^^^(((iA cl k).2.1) <<< (1:Nat))) <<< (2:Nat))) <<< (4:Nat)))^^^(9#8)) 3))^^^(jG ((((((iA cl k).2.1)^^^(((iA cl k).2.1) <<< (1:Nat)))^^^((((iA cl k).2.1)^^^(((iA cl k).2.1) <<< (1:Nat))) <<< (2:Nat)))^^^(((((iA cl k).2.1)^^^(((iA cl k).2.1) <<< (1:Nat)))^^^((((iA cl k).2.1)^^^(((iA cl k).2.1) <<< (1:Nat))) <<< (2:Nat))) <<< (4:Nat)))^^^(9#8)) 4))^^^(99#8))) (cs':=(xA E8 (((iA cl k).2.2).set (176+((((iA cl k).1)^^^(xt ((iA cl k).1))).toNat)) (((((((((((iA cl k).2.1)^^^(((iA cl k).2.1) <<< (1:Nat)))^^^((((iA cl k).2.1)^^^(((iA cl k).2.1) <<< (1:Nat))) <<< (2:Nat)))^^^(((((iA cl k).2.1)^^^(((iA cl k).2.1) <<< (1:Nat)))^^^((((iA cl k).2.1)^^^(((iA cl k).2.1) <<< (1:Nat))) <<< (2:Nat))) <<< (4:Nat)))^^^(9#8))^^^(jG ((((((iA cl k).2.1)^^^(((iA cl k).2.1) <<< (1:Nat)))^^^((((iA cl k).2.1)^^^(((iA cl k).2.1) <<< (1:Nat))) <<< (2:Nat)))^^^(((((iA cl k).2.1)^^^(((iA cl k).2.1) <<< (1:Nat)))^^^((((iA cl k).2.1)^^^(((iA cl k).2.1) <<< (1:Nat))) <<< (2:Nat))) <<< (4:Nat)))^^^(9#8)) 1))^^^(jG ((((((iA cl k).2.1)^^^(((iA cl k).2.1) <<< (1:Nat)))^^^((((iA cl k).2.1)^^^(((iA cl k).2.1) <<< (1:Nat))) <<< (2:Nat)))^^^(((((iA cl k).2.1)^^^(((iA cl k).2.1) <<< (1:Nat)))^^^((((iA cl k).2.1)^^^(((iA cl k).2.1) <<< (1:Nat))) <<< (2:Nat))) <<< (4:Nat)))^^^(9#8)) 2))^^^(jG ((((((iA cl k).2.1)^^^(((iA cl k).2.1) <<< (1:Nat)))^^^((((iA cl k).2.1)^^^(((iA cl k).2.1) <<< (1:Nat))) <<< (2:Nat)))^^^(((((iA cl k).2.1)^^^(((iA cl k).2.1) <<< (1:Nat)))^^^((((iA cl k).2.1)^^^(((iA cl k).2.1) <<< (1:Nat))) <<< (2:Nat))) <<< (4:Nat)))^^^(9#8)) 3))^^^(jG ((((((iA cl k).2.1)^^^(((iA cl k).2.1) <<< (1:Nat)))^^^((((iA cl k).2.1)^^^(((iA cl k).2.1) <<< (1:Nat))) <<< (2:Nat)))^^^(((((iA cl k).2.1)^^^(((iA cl k).2.1) <<< (1:Nat)))^^^((((iA cl k).2.1)^^^(((iA cl k).2.1) <<< (1:Nat))) <<< (2:Nat))) <<< (4:Nat)))^^^(9#8)) 4))^^^(99#8)))).toArray) m0 rfl rfl rfl vF (by rfl) (by exact E8.one _) (by rw [List.size_toArray,qA]; show _≤_*1; have:=((iA cl k).1^^^xt (iA cl k).1).isLt; rw [hl]; omega) (by exact eH (E:=E8) rfl _ _ _) fun E0 n0 F0=>?_
   have b0:=n0.a1 rfl
   refine go 2 ?_
   have e3:u8 ((((((iA cl k).2.1)^^^(((iA cl k).2.1) <<< (1:Nat)))^^^((((iA cl k).2.1)^^^(((iA cl k).2.1) <<< (1:Nat))) <<< (2:Nat)))^^^(((((iA cl k).2.1)^^^(((iA cl k).2.1) <<< (1:Nat)))^^^((((iA cl k).2.1)^^^(((iA cl k).2.1) <<< (1:Nat))) <<< (2:Nat))) <<< (4:Nat)))^^^(9#8))=u8 (fq (iA cl k).2.1):=congrArg u8 (by simp only [fq]; first | rw [if_pos a0] | rw [if_neg a0])
   have eL:((iA cl k).2.2).set (176+((((iA cl k).1)^^^(xt ((iA cl k).1))).toNat)) (((((((((((iA cl k).2.1)^^^(((iA cl k).2.1) <<< (1:Nat)))^^^((((iA cl k).2.1)^^^(((iA cl k).2.1) <<< (1:Nat))) <<< (2:Nat)))^^^(((((iA cl k).2.1)^^^(((iA cl k).2.1) <<< (1:Nat)))^^^((((iA cl k).2.1)^^^(((iA cl k).2.1) <<< (1:Nat))) <<< (2:Nat))) <<< (4:Nat)))^^^(9#8))^^^(jG ((((((iA cl k).2.1)^^^(((iA cl k).2.1) <<< (1:Nat)))^^^((((iA cl k).2.1)^^^(((iA cl k).2.1) <<< (1:Nat))) <<< (2:Nat)))^^^(((((iA cl k).2.1)^^^(((iA cl k).2.1) <<< (1:Nat)))^^^((((iA cl k).2.1)^^^(((iA cl k).2.1) <<< (1:Nat))) <<< (2:Nat))) <<< (4:Nat)))^^^(9#8)) 1))^^^(jG ((((((iA cl k).2.1)^^^(((iA cl k).2.1) <<< (1:Nat)))^^^((((iA cl k).2.1)^^^(((iA cl k).2.1) <<< (1:Nat))) <<< (2:Nat)))^^^(((((iA cl k).2.1)^^^(((iA cl k).2.1) <<< (1:Nat)))^^^((((iA cl k).2.1)^^^(((iA cl k).2.1) <<< (1:Nat))) <<< (2:Nat))) <<< (4:Nat)))^^^(9#8)) 2))^^^(jG ((((((iA cl k).2.1)^^^(((iA cl k).2.1) <<< (1:Nat)))^^^((((iA cl k).2.1)^^^(((iA cl k).2.1) <<< (1:Nat))) <<< (2:Nat)))^^^(((((iA cl k).2.1)^^^(((iA cl k).2.1) <<< (1:Nat)))^^^((((iA cl k).2.1)^^^(((iA cl k).2.1) <<< (1:Nat))) <<< (2:Nat))) <<< (4:Nat)))^^^(9#8)) 3))^^^(jG ((((((iA cl k).2.1)^^^(((iA cl k).2.1) <<< (1:Nat)))^^^((((iA cl k).2.1)^^^(((iA cl k).2.1) <<< (1:Nat))) <<< (2:Nat)))^^^(((((iA cl k).2.1)^^^(((iA cl k).2.1) <<< (1:Nat)))^^^((((iA cl k).2.1)^^^(((iA cl k).2.1) <<< (1:Nat))) <<< (2:Nat))) <<< (4:Nat)))^^^(9#8)) 4))^^^(99#8))=(iA cl (k+1)).2.2:=by simp only [iA,aff,fp,fq]; first | rw [if_pos a0] | rw [if_neg a0]
   rw [eL] at b0
   exact ⟨k+1,_,rfl,⟨rfl,rfl,e3,rfl,trivial⟩,⟨om,b0⟩,vd⟩
  ·refine go 0 ?_
   refine GB (K:=[none,none,none,none,none,none,none,none,none,none,none,none,none,none,none,none,none,none,none]) [0,0,0,0,8,28,0,88,252,0,728,2044,0,5848,16380,32764,1,65537,262143,524287] (fun w'=>Ext w3 w') (fun w' w''=>Ext w' w'') JA (by kernel_rfl) (Ext.drew _) (fun _ _ h h'=>h.trans h') ?_ ?_
   ·exact LB (by decide)
   refine gk 4 ?_
   refine ⟨u8 (jG (((((iA cl k).2.1)^^^(((iA cl k).2.1) <<< (1:Nat)))^^^((((iA cl k).2.1)^^^(((iA cl k).2.1) <<< (1:Nat))) <<< (2:Nat)))^^^(((((iA cl k).2.1)^^^(((iA cl k).2.1) <<< (1:Nat)))^^^((((iA cl k).2.1)^^^(((iA cl k).2.1) <<< (1:Nat))) <<< (2:Nat))) <<< (4:Nat))) 1),fun _ o0 G0 _=>Gives.call rfl (cA (vs:=[u8 (((((iA cl k).2.1)^^^(((iA cl k).2.1) <<< (1:Nat)))^^^((((iA cl k).2.1)^^^(((iA cl k).2.1) <<< (1:Nat))) <<< (2:Nat)))^^^(((((iA cl k).2.1)^^^(((iA cl k).2.1) <<< (1:Nat)))^^^((((iA cl k).2.1)^^^(((iA cl k).2.1) <<< (1:Nat))) <<< (2:Nat))) <<< (4:Nat))),i64 1]) vF rfl) (zG (((((iA cl k).2.1)^^^(((iA cl k).2.1) <<< (1:Nat)))^^^((((iA cl k).2.1)^^^(((iA cl k).2.1) <<< (1:Nat))) <<< (2:Nat)))^^^(((((iA cl k).2.1)^^^(((iA cl k).2.1) <<< (1:Nat)))^^^((((iA cl k).2.1)^^^(((iA cl k).2.1) <<< (1:Nat))) <<< (2:Nat))) <<< (4:Nat))) 1 (by decide) o0),?_⟩
   refine gk 2 ?_
   refine ⟨u8 (jG (((((iA cl k).2.1)^^^(((iA cl k).2.1) <<< (1:Nat)))^^^((((iA cl k).2.1)^^^(((iA cl k).2.1) <<< (1:Nat))) <<< (2:Nat)))^^^(((((iA cl k).2.1)^^^(((iA cl k).2.1) <<< (1:Nat)))^^^((((iA cl k).2.1)^^^(((iA cl k).2.1) <<< (1:Nat))) <<< (2:Nat))) <<< (4:Nat))) 2),fun _ p0 H0 _=>Gives.call rfl (cA (vs:=[u8 (((((iA cl k).2.1)^^^(((iA cl k).2.1) <<< (1:Nat)))^^^((((iA cl k).2.1)^^^(((iA cl k).2.1) <<< (1:Nat))) <<< (2:Nat)))^^^(((((iA cl k).2.1)^^^(((iA cl k).2.1) <<< (1:Nat)))^^^((((iA cl k).2.1)^^^(((iA cl k).2.1) <<< (1:Nat))) <<< (2:Nat))) <<< (4:Nat))),i64 2]) vF rfl) (zG (((((iA cl k).2.1)^^^(((iA cl k).2.1) <<< (1:Nat)))^^^((((iA cl k).2.1)^^^(((iA cl k).2.1) <<< (1:Nat))) <<< (2:Nat)))^^^(((((iA cl k).2.1)^^^(((iA cl k).2.1) <<< (1:Nat)))^^^((((iA cl k).2.1)^^^(((iA cl k).2.1) <<< (1:Nat))) <<< (2:Nat))) <<< (4:Nat))) 2 (by decide) p0),?_⟩
   refine gk 2 ?_
   refine ⟨u8 (jG (((((iA cl k).2.1)^^^(((iA cl k).2.1) <<< (1:Nat)))^^^((((iA cl k).2.1)^^^(((iA cl k).2.1) <<< (1:Nat))) <<< (2:Nat)))^^^(((((iA cl k).2.1)^^^(((iA cl k).2.1) <<< (1:Nat)))^^^((((iA cl k).2.1)^^^(((iA cl k).2.1) <<< (1:Nat))) <<< (2:Nat))) <<< (4:Nat))) 3),fun _ q0 I0 _=>Gives.call rfl (cA (vs:=[u8 (((((iA cl k).2.1)^^^(((iA cl k).2.1) <<< (1:Nat)))^^^((((iA cl k).2.1)^^^(((iA cl k).2.1) <<< (1:Nat))) <<< (2:Nat)))^^^(((((iA cl k).2.1)^^^(((iA cl k).2.1) <<< (1:Nat)))^^^((((iA cl k).2.1)^^^(((iA cl k).2.1) <<< (1:Nat))) <<< (2:Nat))) <<< (4:Nat))),i64 3]) vF rfl) (zG (((((iA cl k).2.1)^^^(((iA cl k).2.1) <<< (1:Nat)))^^^((((iA cl k).2.1)^^^(((iA cl k).2.1) <<< (1:Nat))) <<< (2:Nat)))^^^(((((iA cl k).2.1)^^^(((iA cl k).2.1) <<< (1:Nat)))^^^((((iA cl k).2.1)^^^(((iA cl k).2.1) <<< (1:Nat))) <<< (2:Nat))) <<< (4:Nat))) 3 (by decide) q0),?_⟩
   refine gk 2 ?_
   refine ⟨u8 (jG (((((iA cl k).2.1)^^^(((iA cl k).2.1) <<< (1:Nat)))^^^((((iA cl k).2.1)^^^(((iA cl k).2.1) <<< (1:Nat))) <<< (2:Nat)))^^^(((((iA cl k).2.1)^^^(((iA cl k).2.1) <<< (1:Nat)))^^^((((iA cl k).2.1)^^^(((iA cl k).2.1) <<< (1:Nat))) <<< (2:Nat))) <<< (4:Nat))) 4),fun _ r0 J0 _=>Gives.call rfl (cA (vs:=[u8 (((((iA cl k).2.1)^^^(((iA cl k).2.1) <<< (1:Nat)))^^^((((iA cl k).2.1)^^^(((iA cl k).2.1) <<< (1:Nat))) <<< (2:Nat)))^^^(((((iA cl k).2.1)^^^(((iA cl k).2.1) <<< (1:Nat)))^^^((((iA cl k).2.1)^^^(((iA cl k).2.1) <<< (1:Nat))) <<< (2:Nat))) <<< (4:Nat))),i64 4]) vF rfl) (zG (((((iA cl k).2.1)^^^(((iA cl k).2.1) <<< (1:Nat)))^^^((((iA cl k).2.1)^^^(((iA cl k).2.1) <<< (1:Nat))) <<< (2:Nat)))^^^(((((iA cl k).2.1)^^^(((iA cl k).2.1) <<< (1:Nat)))^^^((((iA cl k).2.1)^^^(((iA cl k).2.1) <<< (1:Nat))) <<< (2:Nat))) <<< (4:Nat))) 4 (by decide) r0),?_⟩
   refine gk 5 ?_
   intro r92 K0 u0 hF
   have w0:=H5.ext u0
   refine GA (k:=0) (v:=u8 ((((((((((iA cl k).2.1)^^^(((iA cl k).2.1) <<< (1:Nat)))^^^((((iA cl k).2.1)^^^(((iA cl k).2.1) <<< (1:Nat))) <<< (2:Nat)))^^^(((((iA cl k).2.1)^^^(((iA cl k).2.1) <<< (1:Nat)))^^^((((iA cl k).2.1)^^^(((iA cl k).2.1) <<< (1:Nat))) <<< (2:Nat))) <<< (4:Nat)))^^^(jG (((((iA cl k).2.1)^^^(((iA cl k).2.1) <<< (1:Nat)))^^^((((iA cl k).2.1)^^^(((iA cl k).2.1) <<< (1:Nat))) <<< (2:Nat)))^^^(((((iA cl k).2.1)^^^(((iA cl k).2.1) <<< (1:Nat)))^^^((((iA cl k).2.1)^^^(((iA cl k).2.1) <<< (1:Nat))) <<< (2:Nat))) <<< (4:Nat))) 1))^^^(jG (((((iA cl k).2.1)^^^(((iA cl k).2.1) <<< (1:Nat)))^^^((((iA cl k).2.1)^^^(((iA cl k).2.1) <<< (1:Nat))) <<< (2:Nat)))^^^(((((iA cl k).2.1)^^^(((iA cl k).2.1) <<< (1:Nat)))^^^((((iA cl k).2.1)^^^(((iA cl k).2.1) <<< (1:Nat))) <<< (2:Nat))) <<< (4:Nat))) 2))^^^(jG (((((iA cl k).2.1)^^^(((iA cl k).2.1) <<< (1:Nat)))^^^((((iA cl k).2.1)^^^(((iA cl k).2.1) <<< (1:Nat))) <<< (2:Nat)))^^^(((((iA cl k).2.1)^^^(((iA cl k).2.1) <<< (1:Nat)))^^^((((iA cl k).2.1)^^^(((iA cl k).2.1) <<< (1:Nat))) <<< (2:Nat))) <<< (4:Nat))) 3))^^^(jG (((((iA cl k).2.1)^^^(((iA cl k).2.1) <<< (1:Nat)))^^^((((iA cl k).2.1)^^^(((iA cl k).2.1) <<< (1:Nat))) <<< (2:Nat)))^^^(((((iA cl k).2.1)^^^(((iA cl k).2.1) <<< (1:Nat)))^^^((((iA cl k).2.1)^^^(((iA cl k).2.1) <<< (1:Nat))) <<< (2:Nat))) <<< (4:Nat))) 4))^^^(99#8))) (cs':=(xA E8 (((iA cl k).2.2).set (176+((((iA cl k).1)^^^(xt ((iA cl k).1))).toNat)) ((((((((((iA cl k).2.1)^^^(((iA cl k).2.1) <<< (1:Nat)))^^^((((iA cl k).2.1)^^^(((iA cl k).2.1) <<< (1:Nat))) <<< (2:Nat)))^^^(((((iA cl k).2.1)^^^(((iA cl k).2.1) <<< (1:Nat)))^^^((((iA cl k).2.1)^^^(((iA cl k).2.1) <<< (1:Nat))) <<< (2:Nat))) <<< (4:Nat)))^^^(jG (((((iA cl k).2.1)^^^(((iA cl k).2.1) <<< (1:Nat)))^^^((((iA cl k).2.1)^^^(((iA cl k).2.1) <<< (1:Nat))) <<< (2:Nat)))^^^(((((iA cl k).2.1)^^^(((iA cl k).2.1) <<< (1:Nat)))^^^((((iA cl k).2.1)^^^(((iA cl k).2.1) <<< (1:Nat))) <<< (2:Nat))) <<< (4:Nat))) 1))^^^(jG (((((iA cl k).2.1)^^^(((iA cl k).2.1) <<< (1:Nat)))^^^((((iA cl k).2.1)^^^(((iA cl k).2.1) <<< (1:Nat))) <<< (2:Nat)))^^^(((((iA cl k).2.1)^^^(((iA cl k).2.1) <<< (1:Nat)))^^^((((iA cl k).2.1)^^^(((iA cl k).2.1) <<< (1:Nat))) <<< (2:Nat))) <<< (4:Nat))) 2))^^^(jG (((((iA cl k).2.1)^^^(((iA cl k).2.1) <<< (1:Nat)))^^^((((iA cl k).2.1)^^^(((iA cl k).2.1) <<< (1:Nat))) <<< (2:Nat)))^^^(((((iA cl k).2.1)^^^(((iA cl k).2.1) <<< (1:Nat)))^^^((((iA cl k).2.1)^^^(((iA cl k).2.1) <<< (1:Nat))) <<< (2:Nat))) <<< (4:Nat))) 3))^^^(jG (((((iA cl k).2.1)^^^(((iA cl k).2.1) <<< (1:Nat)))^^^((((iA cl k).2.1)^^^(((iA cl k).2.1) <<< (1:Nat))) <<< (2:Nat)))^^^(((((iA cl k).2.1)^^^(((iA cl k).2.1) <<< (1:Nat)))^^^((((iA cl k).2.1)^^^(((iA cl k).2.1) <<< (1:Nat))) <<< (2:Nat))) <<< (4:Nat))) 4))^^^(99#8)))).toArray) w0 rfl rfl rfl vF (by rfl) (by exact E8.one _) (by rw [List.size_toArray,qA]; show _≤_*1; have:=((iA cl k).1^^^xt (iA cl k).1).isLt; rw [hl]; omega) (by exact eH (E:=E8) rfl _ _ _) fun L0 x0 M0=>?_
   have c0:=x0.a1 rfl
   refine go 2 ?_
   have e3:u8 (((((iA cl k).2.1)^^^(((iA cl k).2.1) <<< (1:Nat)))^^^((((iA cl k).2.1)^^^(((iA cl k).2.1) <<< (1:Nat))) <<< (2:Nat)))^^^(((((iA cl k).2.1)^^^(((iA cl k).2.1) <<< (1:Nat)))^^^((((iA cl k).2.1)^^^(((iA cl k).2.1) <<< (1:Nat))) <<< (2:Nat))) <<< (4:Nat)))=u8 (fq (iA cl k).2.1):=congrArg u8 (by simp only [fq]; first | rw [if_pos a0] | rw [if_neg a0])
   have eL:((iA cl k).2.2).set (176+((((iA cl k).1)^^^(xt ((iA cl k).1))).toNat)) ((((((((((iA cl k).2.1)^^^(((iA cl k).2.1) <<< (1:Nat)))^^^((((iA cl k).2.1)^^^(((iA cl k).2.1) <<< (1:Nat))) <<< (2:Nat)))^^^(((((iA cl k).2.1)^^^(((iA cl k).2.1) <<< (1:Nat)))^^^((((iA cl k).2.1)^^^(((iA cl k).2.1) <<< (1:Nat))) <<< (2:Nat))) <<< (4:Nat)))^^^(jG (((((iA cl k).2.1)^^^(((iA cl k).2.1) <<< (1:Nat)))^^^((((iA cl k).2.1)^^^(((iA cl k).2.1) <<< (1:Nat))) <<< (2:Nat)))^^^(((((iA cl k).2.1)^^^(((iA cl k).2.1) <<< (1:Nat)))^^^((((iA cl k).2.1)^^^(((iA cl k).2.1) <<< (1:Nat))) <<< (2:Nat))) <<< (4:Nat))) 1))^^^(jG (((((iA cl k).2.1)^^^(((iA cl k).2.1) <<< (1:Nat)))^^^((((iA cl k).2.1)^^^(((iA cl k).2.1) <<< (1:Nat))) <<< (2:Nat)))^^^(((((iA cl k).2.1)^^^(((iA cl k).2.1) <<< (1:Nat)))^^^((((iA cl k).2.1)^^^(((iA cl k).2.1) <<< (1:Nat))) <<< (2:Nat))) <<< (4:Nat))) 2))^^^(jG (((((iA cl k).2.1)^^^(((iA cl k).2.1) <<< (1:Nat)))^^^((((iA cl k).2.1)^^^(((iA cl k).2.1) <<< (1:Nat))) <<< (2:Nat)))^^^(((((iA cl k).2.1)^^^(((iA cl k).2.1) <<< (1:Nat)))^^^((((iA cl k).2.1)^^^(((iA cl k).2.1) <<< (1:Nat))) <<< (2:Nat))) <<< (4:Nat))) 3))^^^(jG (((((iA cl k).2.1)^^^(((iA cl k).2.1) <<< (1:Nat)))^^^((((iA cl k).2.1)^^^(((iA cl k).2.1) <<< (1:Nat))) <<< (2:Nat)))^^^(((((iA cl k).2.1)^^^(((iA cl k).2.1) <<< (1:Nat)))^^^((((iA cl k).2.1)^^^(((iA cl k).2.1) <<< (1:Nat))) <<< (2:Nat))) <<< (4:Nat))) 4))^^^(99#8))=(iA cl (k+1)).2.2:=by simp only [iA,aff,fp,fq]; first | rw [if_pos a0] | rw [if_neg a0]
   rw [eL] at c0
   exact ⟨k+1,_,rfl,⟨rfl,rfl,e3,rfl,trivial⟩,⟨om,c0⟩,vd⟩
 ·refine go 4 ?_
  refine GA (k:=0) (v:=u8 (99#8)) (cs':=(xA E8 (((iA cl k).2.2).set 176 (99#8))).toArray) H2 rfl rfl rfl vF (by rfl) (by exact E8.one _) (by rw [List.size_toArray,qA]; show _≤_*1; rw [hl]; decide) (by exact eH (E:=E8) rfl _ _ _) fun N0 y0 O0=>?_
  have d0:=y0.a1 rfl
  refine go 0 ?_
  obtain rfl:k=255:=by omega
  exact ⟨_,rfl,rfl,d0.chg,d0.get (k:=0) rfl⟩
theorem kP (a b c d:BitVec 64) (w:World):Ca 49 [.agg (xA E64 [a,b]).toArray,.agg (xA E64 [c,d]).toArray] w fun v w'=>v=.agg (xA E64 [(a^^^c),(b^^^d)]).toArray∧Ext w w':=by
 have H:=eA No w
 refine enter (n:=16) Tryz.func49 rfl rfl (vB rfl) ?_
 refine go 1 ?_
 intro b1 w2 b0 H3 c0
 refine go 1 ?_
 intro b5 w6 d0 H7 e0
 refine go 1 ?_
 intro b9 f0 h0 i0 j0
 refine go 12 ?_
 intro k0 a0 l0
 refine go 0 ?_
 exact ⟨_,rfl,rfl,a0.chg⟩
theorem wT (a b:BitVec 64) (w:World):Ca 292 [.agg (xA E64 [a,b]).toArray] w fun v w'=>v=.agg (xA E64 [(dF a b).1,(dF a b).2]).toArray∧Ext w w':=by
 have H:=eA No w
 refine enter (n:=24) Tryz.func292 rfl rfl (vB rfl) ?_
 refine go 1 ?_
 intro b1 w2 c0 H3 d0
 refine go 1 ?_
 intro b5 w6 e0 H7 f0
 refine go 12 ?_
 intro b9 h0 i0 j0 k0
 refine go 1 ?_
 intro l0 m0 n0
 refine go 4 ?_
 refine lA ((b >>> (63:Nat))=(1#64)) rfl (fun c=>?_) (fun c=>?_)
 ·refine go 5 ?_
  intro o0 p0 q0
  refine go 2 ?_
  intro r0 a0 u0
  refine go 0 ?_
  have e:dF a b=((a <<< (1:Nat))^^^(135#64),(b <<< (1:Nat)) ||| (a >>> (63:Nat))):=by simp only [dF]; first | rw [if_pos c] | rw [if_neg c]
  exact ⟨_,rfl,by rw [e]; rfl,a0.chg⟩
 ·refine go 2 ?_
  intro w0 b0 x0
  refine go 0 ?_
  have e:dF a b=(a <<< (1:Nat),(b <<< (1:Nat)) ||| (a >>> (63:Nat))):=by simp only [dF]; first | rw [if_pos c] | rw [if_neg c]
  exact ⟨_,rfl,by rw [e]; rfl,b0.chg⟩
theorem GX (a b:BitVec 64) (w:World):Ca 233 [.agg (xA E64 [a,b]).toArray] w fun v w'=>v=.agg (xA E8 (UB a b 16)).toArray∧Ext w w':=by
 have H:=eA No w
 refine enter (n:=21) Tryz.func233 rfl rfl (vB rfl) ?_
 refine go 1 ?_
 intro b1 w2 i0 H3 j0
 refine go 1 ?_
 intro b5 w6 k0 H7 l0
 refine go 1 ?_
 intro b9 m0 n0 d0 o0
 refine go 1 ?_
 refine DA (σ:=Nat) (fun k=>[(1,pT b1),(2,pT b5),(3,pT b9),(5,iN k)]) (fun k w'=>k≤16∧Hp No w w' [(rX b9 E8 (UB a b k) 415),(rX b5 E8 (List.replicate 16 0#8) 415),(rX b1 E64 ([a,b]) 130)]) (fun k=>16-k) (0) ?_ ?_ ?_
 ·exact kp
 ·exact ⟨om,d0⟩
 rintro k ρ p0 ⟨hk,a0⟩
 have hl:=nD a b k
 refine go 1 ?_
 refine lA (((k:Nat):Int)<(16:Int)) rfl (fun e0=>?_) (fun e0=>?_)
 ·refine go 6 ?_
  refine sq (fE (E:=E64) (l:=[a,b]) (j:=k / 8) (a:=([a,b].getD (k / 8) 0#64)) GG (a0.get (k:=2) rfl) (rB (by simp; omega)) rfl rfl) ?_
  refine go 7 ?_
  intro q0 f0 r0
  refine go 2 ?_
  exact ⟨k+1,_,rfl,kp,⟨om,f0⟩,vd⟩
 ·obtain rfl:k=16:=by omega
  have b0:=a0.as (L':=[(rX b9 E8 (UB a b 16) 415),(rX b5 E8 (List.replicate 16 0#8) 415),(rX b1 E64 ([a,b]) 130)]) (rfl)
  refine go 0 ?_
  refine sq (kB (cs':=(xA E8 (UB a b 16)).toArray) vF vF (b0.get (k:=0) rfl) (off:=0) rfl (by rw [List.size_toArray,qA]; show _≤_*1; omega) (by exact LEq (by rw [qA,nD]; rfl))) (GA (k:=1) (v:=.agg (xA E8 (UB a b 16)).toArray) (cs':=(xA E8 (UB a b 16)).toArray) b0 rfl rfl rfl vF (by exact IB (by rw [nD]; rfl)) (by exact jC _) (by rw [List.size_toArray,qA]; show _≤_*1; first | omega | (simp only [List.length_set]; omega) | exact vB rfl | (simp<;>omega)) (by exact kD (by rw [nD]; rfl)) fun u0 h0 w0=>?_)
  have c0:=h0.a3 rfl
  exact NI (RE (zP (rs:=[.cell 2 415]) (vs:=[.agg (xA E8 (UB a b 16)).toArray]) rfl ⟨kB (cs':=(xA E8 (UB a b 16)).toArray) vF vF (c0.get (k:=1) rfl) (off:=0) rfl (by rw [List.size_toArray,qA,nD]; decide) (by exact LEq (by rw [qA,nD]; rfl)),trivial⟩ (⟨_,rfl,rfl,c0.chg⟩)))
theorem TK (l:List By) (hl:l.length=16) (w:World):Ca 234 [.agg (xA E8 l).toArray] w fun v w'=>v=.agg (xA E64 (EC l 16)).toArray∧Ext w w':=by
 have H:=eA No w
 refine enter (n:=25) Tryz.func234 rfl rfl (vB rfl) ?_
 refine go 1 ?_
 intro b1 w2 k0 H3 l0
 refine go 1 ?_
 intro b5 w6 m0 H7 n0
 refine go 1 ?_
 intro b9 o0 p0 d0 q0
 refine go 2 ?_
 refine DA (σ:=Nat) (fun k=>[(2,pT b5),(3,pT b9),(6,.agg (xA E8 l).toArray),(7,iN k)]) (fun k w'=>k≤16∧Hp No w w' [(rX b9 E64 (EC l k) 130),(rX b5 E64 ([0#64,0#64]) 130),(rX b1 E8 l 415)]) (fun k=>16-k) (0) ?_ ?_ ?_
 ·exact kp
 ·exact ⟨om,d0⟩
 rintro k ρ e0 ⟨hk,a0⟩
 have hL:=mD l k
 refine go 1 ?_
 refine lA (((k:Nat):Int)<(16:Int)) rfl (fun f0=>?_) (fun f0=>?_)
 ·refine go 1 ?_
  refine sq (nV (E:=E8) (l:=l) (j:=k) (a:=l.getD k 0#8) rfl vF vF vF rfl rfl vo om (by exact rB om) (fun _=>rfl)) ?_
  refine go 2 ?_
  refine GB (K:=[none,none,none,none,none,none,none,none,none,none,none,none]) [0,1,3,7,0,16,0,64,192,496,1023,2047,4095] (fun w'=>Ext e0 w') (fun w' w''=>Ext w' w'') JA (by kernel_rfl) (Ext.drew _) (fun _ _ h h'=>h.trans h') ?_ ?_
  ·exact LB (by decide)
  refine gk 12 ?_
  intro r42 r0 h0 hF
  have u0:=a0.ext h0
  refine go 1 ?_
  intro w0 i0 x0
  refine go 2 ?_
  exact ⟨k+1,_,rfl,kp,⟨om,i0⟩,vd⟩
 ·obtain rfl:k=16:=by omega
  have b0:=a0.as (L':=[(rX b9 E64 (EC l 16) 130),(rX b5 E64 ([0#64,0#64]) 130),(rX b1 E8 l 415)]) (rfl)
  refine go 0 ?_
  refine sq (kB (cs':=(xA E64 (EC l 16)).toArray) vF vF (b0.get (k:=0) rfl) (off:=0) rfl (by rw [List.size_toArray,qA,mD]; decide) (by exact LEq (by rw [qA,mD]; rfl))) (GA (k:=1) (v:=.agg (xA E64 (EC l 16)).toArray) (cs':=(xA E64 (EC l 16)).toArray) b0 rfl rfl rfl vF (by exact IB (by rw [mD]; rfl)) (by exact jC _) (by rw [List.size_toArray,qA]; show _≤_*1; first | omega | (simp only [List.length_set]; omega) | exact vB rfl | (simp<;>omega)) (by exact kD (by rw [mD]; rfl)) fun y0 j0 z0=>?_)
  have c0:=j0.a3 rfl
  exact NI (RE (zP (rs:=[.cell 2 130]) (vs:=[.agg (xA E64 (EC l 16)).toArray]) rfl ⟨kB (cs':=(xA E64 (EC l 16)).toArray) vF vF (c0.get (k:=1) rfl) (off:=0) rfl (by rw [List.size_toArray,qA,mD]; decide) (by exact LEq (by rw [qA,mD]; rfl)),trivial⟩ (⟨_,rfl,rfl,c0.chg⟩)))
theorem TP (b:Nat) (l:List By) (hn:l.length=16) (w:World) (hb:w.heap[b]?=some (.cells (xA E8 l).toArray 415 (0,0))):Ca 289 [pT b] w fun v w'=>v=.tuple #[]∧Chg (·=b) w w'∧w'.heap[b]?=some (.cells (xA E8 (OZ l)).toArray 415 (0,0)):=by
 have H:=Hp.start1 (M:=(·=b)) rfl hb
 refine enter (n:=55) Tryz.func289 rfl rfl (vB rfl) ?_
 refine go 1 ?_
 refine DA (σ:=Nat) (fun k=>[(0,pT b),(2,iN (4*k))]) (fun k w'=>k≤4∧Hp (·=b) w w' [(rX b E8 (XD l k) 415)]) (fun k=>4-k) (0) ?_ ?_ ?_
 ·exact kp
 ·exact ⟨om,H⟩
 rintro k ρ w1 ⟨hk,H2⟩
 have hl:=jO l k
 rw [hn] at hl
 have h4:(XD l k).length=16:=hl
 refine go 2 ?_
 refine lA (((4*k:Nat):Int)<(16:Int)) rfl (fun c0=>?_) (fun c0=>?_)
 ·refine go 5 ?_
  refine sq (fV (l:=4*k) (h:=(4*k)+4) (l':=4*k) (h':=4) vF (b:=b) (off:=0) rfl rfl rfl vo vo om om om om om) (sq (rV vF rfl om) (sq (kB (cs':=(xA E8 (((XD l k).drop (4*k)).take 4)).toArray) vF vF (H2.get (k:=0) rfl) (off:=4*k) rfl (by rw [List.size_toArray,qA]; show _≤_*1; omega) (by exact bG _ _ _ rfl)) ?_))
  refine go 1 ?_
  intro b3 w4 l0 H5 m0
  refine GA (k:=0) (v:=.agg (xA E8 (((XD l k).drop (4*k)).take 4)).toArray) (cs':=(xA E8 (oG (XD l k) (4*k))).toArray) H5 rfl rfl rfl vF (by exact IB (by simp [h4,E8]; omega)) (by exact jC _) (by exact vB rfl) (by exact kD (by simp [h4]; omega)) fun w7 H8 n0=>?_
  have d0:=H8.a2 rfl
  refine go 0 ?_
  have hA:(oG (XD l k) (4*k)).length=4:=by simp [oG,h4]; omega
  refine go 13 ?_
  refine DA (σ:=Nat) (fun r=>[(0,pT b),(2,iN (4*k)),(3,pT b3),(4,u8 (TR (oG (XD l k) (4*k)))),(29,iN r)]) (fun r w'=>r≤4∧Hp (·=b) w w' [(rX b3 E8 (oG (XD l k) (4*k)) 479),(rX b E8 (eT (oG (XD l k) (4*k)) (TR (oG (XD l k) (4*k))) (XD l k) (4*k) r) 415)]) (fun r=>4-r) (0) ?_ ?_ ?_
  ·exact kp
  ·exact ⟨om,d0⟩
  rintro r ρ e0 ⟨hr,a0⟩
  have hm:=kO (oG (XD l k) (4*k)) (TR (oG (XD l k) (4*k))) (XD l k) (4*k) r
  rw [h4] at hm
  refine go 1 ?_
  refine lA (((r:Nat):Int)<(4:Int)) rfl (fun f0=>?_) (fun f0=>?_)
  ·refine go 2 ?_
   refine GB (K:=[none,none,none,none,none,none,none,none,none,none,none,none,none,none,none,none,none,none,none,none,none,none]) [0,0,0,6,1,31,63,0,0,256,768,0,2048,6144,14336,30720,65280,130816,262016,524287,1,2097151,4194303] (fun w'=>Ext e0 w') (fun w' w''=>Ext w' w'') JA (by kernel_rfl) (Ext.drew _) (fun _ _ h h'=>h.trans h') ?_ ?_
   ·exact LB (by decide)
   refine gk 17 ?_
   refine ⟨u8 (xt (((oG (XD l k) (4*k)).getD r 0#8)^^^((oG (XD l k) (4*k)).getD ((r+1) % 4) 0#8))),fun _ h0 o0 _=>Gives.call rfl (cA (vs:=[u8 (((oG (XD l k) (4*k)).getD r 0#8)^^^((oG (XD l k) (4*k)).getD ((r+1) % 4) 0#8))]) vF rfl) (rK (((oG (XD l k) (4*k)).getD r 0#8)^^^((oG (XD l k) (4*k)).getD ((r+1) % 4) 0#8)) h0),?_⟩
   refine gk 4 ?_
   intro r59 p0 i0 hF
   have q0:=a0.ext i0
   refine go 1 ?_
   intro r0 j0 u0
   refine go 2 ?_
   exact ⟨r+1,_,rfl,kp,⟨om,j0⟩,vd⟩
  ·obtain rfl:r=4:=by omega
   have k0:=a0.as (L':=[(rX b3 E8 (oG (XD l k) (4*k)) 479),(rX b E8 (XD l (k+1)) 415)]) (rfl)
   refine go 3 ?_
   exact ⟨k+1,_,rfl,⟨rfl,congrArg i64 om,trivial⟩,⟨om,k0.drop1⟩,vd⟩
 ·obtain rfl:k=4:=by omega
  have b0:=H2.as (L':=[(rX b E8 (XD l 4) 415)]) (rfl)
  refine go 0 ?_
  exact ⟨_,rfl,rfl,b0.chg,b0.get (k:=0) rfl⟩
theorem qC (key:List By) (hk:key.length=16) (w:World):Ca 291 [.agg (xA E8 key).toArray] w fun v w'=>(∃ b,v=pT b∧w.heap.size≤b∧w'.heap[b]?=some (.cells (xA E8 (dD key)).toArray 456 (0,0)))∧Ext w w':=by
 have H:=eA No w
 refine enter (n:=99) Tryz.func291 rfl rfl (vB rfl) ?_
 refine go 1 ?_
 intro b1 w2 M0 H3 N0
 refine go 2 ?_
 refine q_box (v:=.agg (List.replicate 432 (.int .u8 0)).toArray) (o:=.cells (xA E8 (List.replicate 432 0#8)).toArray 456 (0,0)) H3 rfl (by kernel_rfl) fun b5 w6 O0 H7 P0=>?_
 refine go 2 ?_
 refine cl (fill_ok b5 (List.replicate 432 0#8) List.length_replicate w6 IJ) ?_
 rintro _ w9 ⟨rfl,i0,j0⟩
 have k0:=(H7.set (k:=0) rfl i0 j0).a2 rfl
 refine go 0 ?_
 refine GB (K:=[none,none,none,none,none]) [0,0,1,5,15,31] (fun w'=>Ext w9 w') (fun w' w''=>Ext w' w'') JA (by kernel_rfl) (Ext.drew _) (fun _ _ h h'=>h.trans h') ?_ ?_
 ·exact LB (by decide)
 refine gk 5 ?_
 intro r25 Q0 l0 hF
 have m0:=k0.ext l0
 refine GA (k:=0) (v:=.agg (xA E8 key).toArray) (cs':=(xA E8 ((sB key 0).1)).toArray) m0 rfl rfl rfl vF (by exact IB (by rw [hk]; rfl)) (by exact jC _) (by rw [List.size_toArray,qA,nJ,List.length_replicate]; decide) (by rw [ZS]; exact put0 (by rw [hk,nJ,List.length_replicate]; decide)) fun R0 n0 S0=>?_
 have o0:=n0.a2 rfl
 refine go 2 ?_
 refine DA (σ:=Nat) (fun k=>[(3,pT b5),(4,u8 ((sB key k).2)),(5,iN (k+1))]) (fun k w'=>k≤10∧Hp No w w' [(rX b5 E8 ((sB key k).1) 456),(rX b1 E8 key 415)]) (fun k=>10-k) (0) ?_ ?_ ?_
 ·exact kp
 ·exact ⟨om,o0⟩
 rintro k ρ p0 ⟨T0,c0⟩
 let x2:Option Addr:=some ⟨b5,(k+1)*16,none⟩
 let x1:Option Addr:=some ⟨b5,(k+1-1)*16,none⟩
 have hl:=eO key hk k
 refine go 2 ?_
 refine lA (((k+1:Nat):Int)≤(10:Int)) rfl (fun q0=>?_) (fun q0=>?_)
 ·refine go 0 ?_
  refine GB (K:=[none,none,none,none,none,none,none,none,none,none,none,none,none]) [0,0,2,1,9,31,0,0,64,320,960,63,4095] (fun w'=>Ext p0 w') (fun w' w''=>Ext w' w'') JA (by kernel_rfl) (Ext.drew _) (fun _ _ h h'=>h.trans h') ?_ ?_
  ·exact LB (by decide)
  refine ⟨pT b5,fun _ U0 V0 _=>Gives.run rfl (NA (v:=pT b5) rfl) ⟨rfl,Chg.refl _ _⟩,?_⟩
  refine ⟨iN (k+1),fun _ W0 X0 _=>Gives.run rfl (NA (v:=iN (k+1)) rfl) ⟨rfl,Chg.refl _ _⟩,?_⟩
  refine ⟨i64 ((k+1:Nat)-(1:Int)),fun _ Y0 Z0 _=>Gives.run rfl (CP rfl rfl om) ⟨rfl,Chg.refl _ _⟩,?_⟩
  refine ⟨pT b5,fun _ c1 d1 _=>Gives.run rfl (MB rfl) ⟨rfl,Chg.refl _ _⟩,?_⟩
  refine ⟨pT b5,fun _ e1 g1 _=>Gives.run rfl (vA (off':=0) vF (by decide) (b:=b5) (off:=0) rfl om) ⟨rfl,Chg.refl _ _⟩,?_⟩
  refine ⟨.pointer x1,fun _ h1 i1 _=>Gives.run rfl (LA (off':=(k+1-1)*16) (j:=k+1-1) vF (b:=b5) (off:=0) rfl rfl vo om om) ⟨rfl,Chg.refl _ _⟩,?_⟩
  refine ⟨pT b5,fun _ j1 k1 _=>Gives.run rfl (NA (v:=pT b5) rfl) ⟨rfl,Chg.refl _ _⟩,?_⟩
  refine ⟨iN (k+1),fun _ l1 m1 _=>Gives.run rfl (NA (v:=iN (k+1)) rfl) ⟨rfl,Chg.refl _ _⟩,?_⟩
  refine ⟨pT b5,fun _ n1 o1 _=>Gives.run rfl (MB rfl) ⟨rfl,Chg.refl _ _⟩,?_⟩
  refine ⟨pT b5,fun _ p1 q1 _=>Gives.run rfl (vA (off':=0) vF (by decide) (b:=b5) (off:=0) rfl om) ⟨rfl,Chg.refl _ _⟩,?_⟩
  refine ⟨.pointer x2,fun _ r1 t1 _=>Gives.run rfl (LA (off':=(k+1)*16) (j:=k+1) vF (b:=b5) (off:=0) rfl rfl vo om om) ⟨rfl,Chg.refl _ _⟩,?_⟩
  refine ⟨.pointer x1,fun _ u1 w1 _=>Gives.run rfl (MA (v:=.pointer x1) rfl) ⟨rfl,Chg.refl _ _⟩,?_⟩
  refine ⟨.pointer x2,fun _ y1 z1 _=>Gives.run rfl (MA (v:=.pointer x2) rfl) ⟨rfl,Chg.refl _ _⟩,?_⟩
  intro r60 d0 r0 hF
  have a0:=c0.ext r0
  refine mH (AB (xG (GB (K:=[none,none,none,none,none,none,none,none,none,none,none,none,none,none,none,none,none,none,none,none,none,none,none,none,none,none,none,none,none,none,none,none,none,none,none,none,none,none,none,some (FI d0 (.cells (xA E8 [0#8,0#8,0#8,0#8]).toArray 479 (0,0)))]) [0,0,2,6,14,1,33,127,255,0,1023,0,0,4096,12288,28672,2048,67584,260096,522240,0,0,2097152,6291456,14680064,1048576,34603008,133169152,267386880,0,0,1073741824,3221225472,7516192768,536870912,17716740096,68182605824,136902082560,274877906943,0,1099511627775] (fun w'=>Ext d0 w') (fun w' w''=>Ext w' w'') JA (by kernel_rfl) (Ext.drew _) (fun _ _ h h'=>h.trans h') ?_ ?_)))
  ·exact relOne 39 _ rfl rfl HJ (fun _ _ _ _ _ h=>h)
  refine ⟨pT b5,fun _ A1 B1 _=>Gives.run rfl (NA (v:=pT b5) rfl) ⟨rfl,Chg.refl _ _⟩,?_⟩
  refine ⟨.pointer x1,fun _ C1 D1 _=>Gives.run rfl (NA (v:=.pointer x1) rfl) ⟨rfl,Chg.refl _ _⟩,?_⟩
  refine ⟨.pointer x1,fun _ E1 F1 _=>Gives.run rfl (MB rfl) ⟨rfl,Chg.refl _ _⟩,?_⟩
  refine ⟨.pointer (some ⟨b5,((k+1-1)*16)+13,none⟩),fun _ G1 H1 _=>Gives.run rfl (LA (off':=((k+1-1)*16)+13) (j:=13) vF (b:=b5) (off:=(k+1-1)*16) rfl rfl vo om om) ⟨rfl,Chg.refl _ _⟩,?_⟩
  refine gk 4 ?_
  refine ⟨u8 (((sB key k).1).getD (176+((((sB key k).1).getD (((k+1-1)*16)+13) 0#8).toNat)) 0#8),fun _ I1 u0 _=>Gives.run rfl (fE (E:=E8) (l:=(sB key k).1) (j:=176+((((sB key k).1).getD (((k+1-1)*16)+13) 0#8).toNat)) (a:=((sB key k).1).getD (176+((((sB key k).1).getD (((k+1-1)*16)+13) 0#8).toNat)) 0#8) OO ((a0.ext u0).get (k:=0) rfl) (rB (by have:=((sB key k).1.getD ((k+1-1)*16+13) 0#8).isLt; omega)) rfl rfl) ⟨rfl,Chg.refl _ _⟩,?_⟩
  refine gk 10 ?_
  refine ⟨u8 (((sB key k).1).getD (176+((((sB key k).1).getD (((k+1-1)*16)+14) 0#8).toNat)) 0#8),fun _ J1 w0 _=>Gives.run rfl (fE (E:=E8) (l:=(sB key k).1) (j:=176+((((sB key k).1).getD (((k+1-1)*16)+14) 0#8).toNat)) (a:=((sB key k).1).getD (176+((((sB key k).1).getD (((k+1-1)*16)+14) 0#8).toNat)) 0#8) OO ((a0.ext w0).get (k:=0) rfl) (rB (by have:=((sB key k).1.getD ((k+1-1)*16+14) 0#8).isLt; omega)) rfl rfl) ⟨rfl,Chg.refl _ _⟩,?_⟩
  refine gk 8 ?_
  refine ⟨u8 (((sB key k).1).getD (176+((((sB key k).1).getD (((k+1-1)*16)+15) 0#8).toNat)) 0#8),fun _ K1 x0 _=>Gives.run rfl (fE (E:=E8) (l:=(sB key k).1) (j:=176+((((sB key k).1).getD (((k+1-1)*16)+15) 0#8).toNat)) (a:=((sB key k).1).getD (176+((((sB key k).1).getD (((k+1-1)*16)+15) 0#8).toNat)) 0#8) OO ((a0.ext x0).get (k:=0) rfl) (rB (by have:=((sB key k).1.getD ((k+1-1)*16+15) 0#8).isLt; omega)) rfl rfl) ⟨rfl,Chg.refl _ _⟩,?_⟩
  refine gk 8 ?_
  refine ⟨u8 (((sB key k).1).getD (176+((((sB key k).1).getD (((k+1-1)*16)+12) 0#8).toNat)) 0#8),fun _ L1 y0 _=>Gives.run rfl (fE (E:=E8) (l:=(sB key k).1) (j:=176+((((sB key k).1).getD (((k+1-1)*16)+12) 0#8).toNat)) (a:=((sB key k).1).getD (176+((((sB key k).1).getD (((k+1-1)*16)+12) 0#8).toNat)) 0#8) OO ((a0.ext y0).get (k:=0) rfl) (rB (by have:=((sB key k).1.getD ((k+1-1)*16+12) 0#8).isLt; omega)) rfl rfl) ⟨rfl,Chg.refl _ _⟩,?_⟩
  refine gk 1 ?_
  refine ⟨fun r M1 z0 hF=>?_,?_⟩
  ·exact qQ vF (by kernel_rfl) z0
  intro r144 N1 e0 hF
  have O1:=a0.ext e0
  obtain ⟨b8,A0,hbs,hbo⟩:=hF 39 _ rfl
  dsimp only
  rw [A0]
  have H8:=a0.add1 e0 hbs hbo
  refine GA (k:=0) (v:=.agg (xA E8 [(((sB key k).1).getD (176+((((sB key k).1).getD (((k+1-1)*16)+13) 0#8).toNat)) 0#8)^^^((sB key k).2),((sB key k).1).getD (176+((((sB key k).1).getD (((k+1-1)*16)+14) 0#8).toNat)) 0#8,((sB key k).1).getD (176+((((sB key k).1).getD (((k+1-1)*16)+15) 0#8).toNat)) 0#8,((sB key k).1).getD (176+((((sB key k).1).getD (((k+1-1)*16)+12) 0#8).toNat)) 0#8]).toArray) (cs':=(xA E8 (t0 (sB key k).1 (k+1) (sB key k).2)).toArray) H8 rfl rfl rfl vF (by exact IB rfl) (by exact jC _) (by exact vB rfl) (by exact kD rfl) fun P1 B0 Q1=>?_
  have C0:=B0.a3 rfl
  refine go 1 ?_
  refine DA (σ:=Nat) (fun i=>[(3,pT b5),(4,u8 ((sB key k).2)),(5,iN (k+1)),(6,.pointer x1),(7,.pointer x2),(8,pT b8),(73,iN i)]) (fun i w'=>i≤16∧Hp No w w' [(rX b8 E8 ((DJ (sB key k).1 (t0 (sB key k).1 (k+1) (sB key k).2) (k+1) i).2) 479),(rX b5 E8 ((DJ (sB key k).1 (t0 (sB key k).1 (k+1) (sB key k).2) (k+1) i).1) 456),(rX b1 E8 key 415)]) (fun i=>16-i) (0) ?_ ?_ ?_
  ·exact kp
  ·exact ⟨om,C0⟩
  rintro i ρ f0 ⟨hi,h0⟩
  have hi1:=(XK (sB key k).1 (t0 (sB key k).1 (k+1) (sB key k).2) (k+1) i).1
  rw [hl] at hi1
  have hi2:=(XK (sB key k).1 (t0 (sB key k).1 (k+1) (sB key k).2) (k+1) i).2
  rw [show (t0 (sB key k).1 (k+1) (sB key k).2).length=4 from rfl] at hi2
  refine go 1 ?_
  refine lA (((i:Nat):Int)<(16:Int)) rfl (fun D0=>?_) (fun D0=>?_)
  ·refine go 2 ?_
   refine GB (K:=[none,none,none,none,none,none,none,none,none,none,none]) [0,1,3,7,0,0,16,112,240,511,1023,2047] (fun w'=>Ext f0 w') (fun w' w''=>Ext w' w'') JA (by kernel_rfl) (Ext.drew _) (fun _ _ h h'=>h.trans h') ?_ ?_
   ·exact LB (by decide)
   refine gk 11 ?_
   intro r175 R1 E0 hF
   have S1:=h0.ext E0
   refine go 1 ?_
   intro F0 G0 T1
   refine go 0 ?_
   refine GB (K:=[none,none,none,none,none,none,none,none]) [0,0,0,4,12,28,1,127,255] (fun w'=>Ext F0 w') (fun w' w''=>Ext w' w'') JA (by kernel_rfl) (Ext.drew _) (fun _ _ h h'=>h.trans h') ?_ ?_
   ·exact LB (by decide)
   refine gk 8 ?_
   intro r198 U1 H0 hF
   have V1:=G0.ext H0
   refine go 1 ?_
   intro W1 I0 Y1
   refine go 2 ?_
   exact ⟨i+1,_,rfl,kp,⟨om,I0⟩,vd⟩
  ·obtain rfl:i=16:=by omega
   have J0:=h0.as (L':=[(rX b8 E8 ((DJ (sB key k).1 (t0 (sB key k).1 (k+1) (sB key k).2) (k+1) 16).2) 479),(rX b5 E8 ((sB key (k+1)).1) 456),(rX b1 E8 key 415)]) (by rw [aT])
   refine go 1 ?_
   refine cl (rK ((sB key k).2) f0) ?_
   rintro _ Z1 ⟨rfl,K0⟩
   have L0:=J0.ext K0
   refine go 4 ?_
   exact ⟨k+1,_,rfl,kp,⟨om,L0.drop1⟩,vd⟩
 ·obtain rfl:k=10:=by omega
  have b0:=c0.as (L':=[(rX b5 E8 (dD key) 456),(rX b1 E8 key 415)]) (by rw [dD])
  refine go 2 ?_
  exact ⟨_,rfl,⟨_,rfl,by have:=b0.own _ (List.mem_of_getElem? (i:=0) rfl) _ rfl; exact this.resolve_left (fun h=>h),b0.get (k:=0) rfl⟩,b0.chg⟩
theorem enc_ok (bc:Nat) (cl:List By) (hcl:cl.length=432) (b:List By) (hb:b.length=16) (w:World) (hc:w.heap[bc]?=some (.cells (xA E8 cl).toArray 456 (0,0))):Ca 232 [pT bc,.agg (xA E8 b).toArray] w fun v w'=>v=.agg (xA E8 (pF cl b)).toArray∧Ext w w':=by
 have H:=eA No w
 refine enter (n:=71) Tryz.func232 rfl rfl (vB rfl) ?_
 refine go 1 ?_
 intro b1 w2 N0 H3 O0
 refine go 1 ?_
 intro b5 w6 P0 H7 Q0
 refine go 1 ?_
 refine DA (σ:=Nat) (fun i=>[(0,pT bc),(3,pT b1),(4,pT b5),(10,iN i)]) (fun i w'=>i≤16∧Hp No w w' [(rX b5 E8 (List.replicate 16 0#8) 415),(rX b1 E8 (uN cl b i) 415)]) (fun i=>16-i) (0) ?_ ?_ ?_
 ·exact kp
 ·exact ⟨om,H7⟩
 rintro i ρ w9 ⟨hi,d0⟩
 have hl:=cP cl b i
 rw [hb] at hl
 refine go 1 ?_
 refine lA (((i:Nat):Int)<(16:Int)) rfl (fun n0=>?_) (fun n0=>?_)
 ·refine go 2 ?_
  refine GB (K:=[none,none,none,none,none,none,none,none,none,none,none,none]) [0,1,3,0,0,8,40,104,248,504,1023,2047,4095] (fun w'=>Ext w9 w') (fun w' w''=>Ext w' w'') JA (by kernel_rfl) (Ext.drew _) (fun _ _ h h'=>h.trans h') ?_ ?_
  ·exact LB (by decide)
  refine gk 12 ?_
  intro r38 R0 o0 hF
  have S0:=d0.ext o0
  refine go 1 ?_
  intro T0 p0 U0
  refine go 2 ?_
  exact ⟨i+1,_,rfl,kp,⟨om,p0⟩,vd⟩
 ·obtain rfl:i=16:=by omega
  have q0:=d0.as (L':=[(rX b5 E8 (List.replicate 16 0#8) 415),(rX b1 E8 (RC cl b 0) 415)]) (by rw [RC])
  refine go 1 ?_
  refine DA (σ:=Nat) (fun k=>[(0,pT bc),(3,pT b1),(4,pT b5),(6,iN (k+1))]) (fun k w'=>k≤10∧Hp No w w' [(rX b5 E8 (List.replicate 16 0#8) 415),(rX b1 E8 (RC cl b k) 415)]) (fun k=>10-k) (0) ?_ ?_ ?_
  ·exact kp
  ·exact ⟨om,q0⟩
  rintro k ρ V0 ⟨hk,r0⟩
  have hl:=RO cl b k
  rw [hb] at hl
  refine go 2 ?_
  refine lA (((k+1:Nat):Int)≤(10:Int)) rfl (fun u0=>?_) (fun u0=>?_)
  ·refine go 1 ?_
   intro a0 W0 X0 w0 Y0
   refine go 1 ?_
   refine DA (σ:=Nat) (fun i=>[(0,pT bc),(3,pT b1),(4,pT b5),(6,iN (k+1)),(7,pT a0),(30,iN i)]) (fun i w'=>i≤16∧Hp No w w' [(rX a0 E8 (tK cl (RC cl b k) i) 415),(rX b5 E8 (List.replicate 16 0#8) 415),(rX b1 E8 (RC cl b k) 415)]) (fun i=>16-i) (0) ?_ ?_ ?_
   ·exact kp
   ·exact ⟨om,w0⟩
   rintro i ρ e0 ⟨hi,b0⟩
   have hs:=RH cl (RC cl b k) i
   refine go 1 ?_
   refine lA (((i:Nat):Int)<(16:Int)) rfl (fun x0=>?_) (fun x0=>?_)
   ·refine go 2 ?_
    refine GB (K:=[none,none,none,none,none,none,none,none,none,none,none,none,none,none,none]) [0,0,0,0,8,24,60,124,252,508,2,1026,4094,8190,16383,32767] (fun w'=>Ext e0 w') (fun w' w''=>Ext w' w'') JA (by kernel_rfl) (Ext.drew _) (fun _ _ h h'=>h.trans h') ?_ ?_
    ·exact LB (by decide)
    refine gk 13 ?_
    refine ⟨u8 (cl.getD (176+((((RC cl b k)).getD ((i+(4*(i % 4))) % 16) 0#8).toNat)) 0#8),fun _ Z0 y0 _=>Gives.run rfl (fE (E:=E8) (l:=cl) (j:=176+((((RC cl b k)).getD ((i+(4*(i % 4))) % 16) 0#8).toNat)) (a:=cl.getD (176+((((RC cl b k)).getD ((i+(4*(i % 4))) % 16) 0#8).toNat)) 0#8) OO ((b0.ext y0).keepE hc) (rB (by have:=((RC cl b k).getD ((i+4*(i % 4)) % 16) 0#8).isLt; omega)) rfl rfl) ⟨rfl,Chg.refl _ _⟩,?_⟩
    refine gk 1 ?_
    intro r84 c1 z0 hF
    have d1:=b0.ext z0
    refine go 1 ?_
    intro e1 A0 g1
    refine go 2 ?_
    exact ⟨i+1,_,rfl,kp,⟨om,A0⟩,vd⟩
   ·obtain rfl:i=16:=by omega
    have f0:=b0.as (L':=[(rX a0 E8 (tK cl (RC cl b k) 16) 415),(rX b5 E8 (List.replicate 16 0#8) 415),(rX b1 E8 (RC cl b k) 415)]) (rfl)
    refine go 2 ?_
    refine lA (((k+1:Nat):Int)<(10:Int)) rfl (fun B0=>?_) (fun B0=>?_)
    ·refine go 0 ?_
     refine Vc.cl (TP a0 (tK cl (RC cl b k) 16) (RH _ _ _) e0 IJ) ?_
     rintro _ h1 ⟨rfl,C0,h0⟩
     rw [show OZ (tK cl (RC cl b k) 16)=(qH cl (RC cl b k) (k+1)) by simp only [qH]; rw [if_pos om]] at h0
     have D0:=(f0.set (k:=0) rfl C0 h0).a3 rfl
     refine go 1 ?_
     refine DA (σ:=Nat) (fun i=>[(0,pT bc),(3,pT b1),(4,pT b5),(6,iN (k+1)),(7,pT a0),(52,iN i)]) (fun i w'=>i≤16∧Hp No w w' [(rX a0 E8 (qH cl (RC cl b k) (k+1)) 415),(rX b5 E8 (List.replicate 16 0#8) 415),(rX b1 E8 (uI cl (qH cl (RC cl b k) (k+1)) (RC cl b k) (k+1) i) 415)]) (fun i=>16-i) (0) ?_ ?_ ?_
     ·exact kp
     ·exact ⟨om,D0⟩
     rintro i ρ E0 ⟨hi,i0⟩
     have hr:=NN cl (RC cl b k) (k+1)
     have hq:=UK cl (qH cl (RC cl b k) (k+1)) (RC cl b k) (k+1) i
     rw [hl] at hq
     refine go 1 ?_
     refine lA (((i:Nat):Int)<(16:Int)) rfl (fun c0=>?_) (fun c0=>?_)
     ·refine go 2 ?_
      refine GB (K:=[none,none,none,none,none,none,none,none,none,none,none,none,none,none]) [0,0,2,6,0,0,0,16,144,432,1008,2032,4094,8191,16383] (fun w'=>Ext E0 w') (fun w' w''=>Ext w' w'') JA (by kernel_rfl) (Ext.drew _) (fun _ _ h h'=>h.trans h') ?_ ?_
      ·exact LB (by decide)
      refine gk 14 ?_
      intro r125 i1 F0 hF
      have j1:=i0.ext F0
      refine go 1 ?_
      intro k1 G0 l1
      refine go 2 ?_
      exact ⟨i+1,_,rfl,kp,⟨om,G0⟩,vd⟩
     ·obtain rfl:i=16:=by omega
      have H0:=i0.as (L':=[(rX a0 E8 (qH cl (RC cl b k) (k+1)) 415),(rX b5 E8 (List.replicate 16 0#8) 415),(rX b1 E8 (RC cl b (k+1)) 415)]) (by rw [RC])
      refine go 3 ?_
      exact ⟨k+1,_,rfl,kp,⟨om,H0.drop1⟩,vd⟩
    ·have j0:=f0
     rw [show tK cl (RC cl b k) 16=(qH cl (RC cl b k) (k+1)) by simp only [qH]; rw [if_neg om]] at j0
     refine go 1 ?_
     refine DA (σ:=Nat) (fun i=>[(0,pT bc),(3,pT b1),(4,pT b5),(6,iN (k+1)),(7,pT a0),(52,iN i)]) (fun i w'=>i≤16∧Hp No w w' [(rX a0 E8 (qH cl (RC cl b k) (k+1)) 415),(rX b5 E8 (List.replicate 16 0#8) 415),(rX b1 E8 (uI cl (qH cl (RC cl b k) (k+1)) (RC cl b k) (k+1) i) 415)]) (fun i=>16-i) (0) ?_ ?_ ?_
     ·exact kp
     ·exact ⟨om,j0⟩
     rintro i ρ I0 ⟨hi,k0⟩
     have hr:=NN cl (RC cl b k) (k+1)
     have hq:=UK cl (qH cl (RC cl b k) (k+1)) (RC cl b k) (k+1) i
     rw [hl] at hq
     refine go 1 ?_
     refine lA (((i:Nat):Int)<(16:Int)) rfl (fun c0=>?_) (fun c0=>?_)
     ·refine go 2 ?_
      refine GB (K:=[none,none,none,none,none,none,none,none,none,none,none,none,none,none]) [0,0,2,6,0,0,0,16,144,432,1008,2032,4094,8191,16383] (fun w'=>Ext I0 w') (fun w' w''=>Ext w' w'') JA (by kernel_rfl) (Ext.drew _) (fun _ _ h h'=>h.trans h') ?_ ?_
      ·exact LB (by decide)
      refine gk 14 ?_
      intro r164 m1 J0 hF
      have n1:=k0.ext J0
      refine go 1 ?_
      intro o1 K0 p1
      refine go 2 ?_
      exact ⟨i+1,_,rfl,kp,⟨om,K0⟩,vd⟩
     ·obtain rfl:i=16:=by omega
      have L0:=k0.as (L':=[(rX a0 E8 (qH cl (RC cl b k) (k+1)) 415),(rX b5 E8 (List.replicate 16 0#8) 415),(rX b1 E8 (RC cl b (k+1)) 415)]) (by rw [RC])
      refine go 3 ?_
      exact ⟨k+1,_,rfl,kp,⟨om,L0.drop1⟩,vd⟩
  ·obtain rfl:k=10:=by omega
   have l0:=r0.as (L':=[(rX b5 E8 (List.replicate 16 0#8) 415),(rX b1 E8 (pF cl b) 415)]) (by rw [pF])
   refine go 0 ?_
   refine sq (kB (cs':=(xA E8 (pF cl b)).toArray) vF vF (l0.get (k:=1) rfl) (off:=0) rfl (by rw [List.size_toArray,qA,ZE,hb]; decide) (by exact LEq (by rw [qA,ZE,hb]; rfl))) (GA (k:=0) (v:=.agg (xA E8 (pF cl b)).toArray) (cs':=(xA E8 (pF cl b)).toArray) l0 rfl rfl rfl vF (by exact IB (by rw [ZE,hb]; rfl)) (by exact jC _) (by rw [List.size_toArray,qA]; show _≤_*1; first | omega | (simp only [List.length_set]; omega) | exact vB rfl | (simp<;>omega)) (by exact kD (by rw [ZE,hb]; rfl)) fun q1 M0 r1=>?_)
   have m0:=M0.a2 rfl
   exact NI (RE (zP (rs:=[.cell 4 415]) (vs:=[.agg (xA E8 (pF cl b)).toArray]) rfl ⟨kB (cs':=(xA E8 (pF cl b)).toArray) vF vF (m0.get (k:=0) rfl) (off:=0) rfl (by rw [List.size_toArray,qA,ZE,hb]; decide) (by exact LEq (by rw [qA,ZE,hb]; rfl)),trivial⟩ (⟨_,rfl,rfl,m0.chg⟩)))
theorem NO (w:World):Ca 238 [] w fun v w'=>(∃ b,v=pT b∧w.heap.size≤b∧w'.heap[b]?=some (.cells (xA E8 (dD OC)).toArray 456 (0,0)))∧Ext w w':=by
 have H:=eA No w
 refine enter (n:=13) Tryz.func238 rfl rfl (vB rfl) ?_
 refine go 2 ?_
 intro b1 w2 f0 H3 h0
 refine go 1 ?_
 refine DA (σ:=Nat) (fun i=>[(1,pT b1),(3,iN i)]) (fun i w'=>i≤16∧Hp No w w' [(rX b1 E8 (uT i) 415)]) (fun i=>16-i) (0) ?_ ?_ ?_
 ·exact kp
 ·exact ⟨om,H3⟩
 rintro i ρ w5 ⟨hi,H6⟩
 have hl:=DG i
 refine go 1 ?_
 refine lA (((i:Nat):Int)<(16:Int)) rfl (fun c4=>?_) (fun c4=>?_)
 ·refine go 7 ?_
  intro w7 c0 i0
  refine go 2 ?_
  exact ⟨i+1,_,rfl,kp,⟨om,c0⟩,vd⟩
 ·obtain rfl:i=16:=by omega
  have b0:=H6.as (L':=[(rX b1 E8 OC 415)]) (by rw [OC])
  refine go 0 ?_
  refine sq (kB (cs':=(xA E8 OC).toArray) vF vF (b0.get (k:=0) rfl) (off:=0) rfl (by rw [List.size_toArray,qA,OC,DG]; decide) (by exact LEq (by rw [qA,OC,DG]; rfl))) (cl (qC OC (DG 16) w5) ?_)
  rintro _ j0 ⟨⟨k0,rfl,d0,ho15⟩,e0⟩
  have a0:=b0.add1 e0 d0 ho15
  refine go 1 ?_
  exact ⟨_,rfl,⟨_,rfl,by have:=a0.own _ (List.mem_of_getElem? (i:=0) rfl) _ rfl; exact this.resolve_left (fun h=>h),a0.get (k:=0) rfl⟩,a0.chg⟩
theorem hash_ok (bc:Nat) (cl:List By) (hcl:cl.length=432) (a b tw:BitVec 64) (w:World) (hc:w.heap[bc]?=some (.cells (xA E8 cl).toArray 456 (0,0))):Ca 239 [pT bc,.agg (xA E64 [a,b]).toArray,u64 tw] w fun v w'=>v=.agg (xA E64 [(IW cl a b tw).1,(IW cl a b tw).2]).toArray∧Ext w w':=by
 let x1:Value:=.agg (xA E64 ([((dF a b).1)^^^tw,((dF a b).2)^^^(0#64)])).toArray
 have H:=eA No w
 refine enter (n:=20) Tryz.func239 rfl rfl (vB rfl) ?_
 refine go 1 ?_
 intro b1 w2 n0 H3 o0
 refine go 1 ?_
 intro b5 w6 p0 H7 q0
 refine go 1 ?_
 refine Vc.cl (wT a b w6) ?_
 rintro _ w9 ⟨rfl,b0⟩
 have c0:=H7.ext b0
 refine go 2 ?_
 refine Vc.cl (kP ((dF a b).1) ((dF a b).2) tw (0#64) w9) ?_
 rintro _ r0 ⟨rfl,d0⟩
 have u0:=c0.ext d0
 refine go 1 ?_
 intro w0 x0 y0 z0 A0
 refine go 1 ?_
 intro e0 a0 B0
 refine go 0 ?_
 refine GB (K:=[none,none,none,none,none,none,none]) [0,0,0,4,14,30,63,127] (fun w'=>Ext e0 w') (fun w' w''=>Ext w' w'') JA (by kernel_rfl) (Ext.drew _) (fun _ _ h h'=>h.trans h') ?_ ?_
 ·exact LB (by decide)
 refine gk 3 ?_
 refine ⟨.agg (xA E8 (UB (((dF a b).1)^^^tw) (((dF a b).2)^^^(0#64)) 16)).toArray,fun _ f0 C0 _=>Gives.call rfl (cA (vs:=[x1]) vF rfl) (GX (((dF a b).1)^^^tw) (((dF a b).2)^^^(0#64)) f0),?_⟩
 refine ⟨.agg (xA E8 (pF cl (UB (((dF a b).1)^^^tw) (((dF a b).2)^^^(0#64)) 16))).toArray,fun _ h0 i0 _=>Gives.call rfl (cA (vs:=[pT bc,.agg (xA E8 (UB (((dF a b).1)^^^tw) (((dF a b).2)^^^(0#64)) 16)).toArray]) vF rfl) (enc_ok bc cl hcl (UB (((dF a b).1)^^^tw) (((dF a b).2)^^^(0#64)) 16) (nD _ _ _) h0 ((a0.ext i0).keepE hc)),?_⟩
 refine ⟨.agg (xA E64 [(EC (pF cl (UB (((dF a b).1)^^^tw) (((dF a b).2)^^^(0#64)) 16)) 16).getD 0 0#64,(EC (pF cl (UB (((dF a b).1)^^^tw) (((dF a b).2)^^^(0#64)) 16)) 16).getD 1 0#64]).toArray,fun _ j0 D0 _=>Gives.call rfl (cA (vs:=[.agg (xA E8 (pF cl (UB (((dF a b).1)^^^tw) (((dF a b).2)^^^(0#64)) 16))).toArray]) vF rfl) ((TK (pF cl (UB (((dF a b).1)^^^tw) (((dF a b).2)^^^(0#64)) 16)) (by rw [ZE,nD]) j0).mono (fun _ _ h=>by obtain ⟨v,h1,h2,h3⟩:=h; exact ⟨v,h1,by rw [h2,← zU (mD _ _)],h3⟩)),?_⟩
 refine ⟨.agg (xA E64 [(((dF a b).1)^^^tw)^^^((EC (pF cl (UB (((dF a b).1)^^^tw) (((dF a b).2)^^^(0#64)) 16)) 16).getD 0 0#64),(((dF a b).2)^^^(0#64))^^^((EC (pF cl (UB (((dF a b).1)^^^tw) (((dF a b).2)^^^(0#64)) 16)) 16).getD 1 0#64)]).toArray,fun _ k0 E0 _=>Gives.call rfl (cA (vs:=[x1,.agg (xA E64 [(EC (pF cl (UB (((dF a b).1)^^^tw) (((dF a b).2)^^^(0#64)) 16)) 16).getD 0 0#64,(EC (pF cl (UB (((dF a b).1)^^^tw) (((dF a b).2)^^^(0#64)) 16)) 16).getD 1 0#64]).toArray]) vF rfl) (kP (((dF a b).1)^^^tw) (((dF a b).2)^^^(0#64)) ((EC (pF cl (UB (((dF a b).1)^^^tw) (((dF a b).2)^^^(0#64)) 16)) 16).getD 0 0#64) ((EC (pF cl (UB (((dF a b).1)^^^tw) (((dF a b).2)^^^(0#64)) 16)) 16).getD 1 0#64) k0),?_⟩
 intro r39 F0 l0 hF
 have G0:=a0.ext l0
 refine go 1 ?_
 intro H0 m0 I0
 refine go 0 ?_
 exact ⟨_,rfl,rfl,m0.chg⟩
end Go.Proofs.YtljlkhobfdofhaaGreatDoor.Aes
