/- Part of the proof. -/
import Derived.LoopN
import Derived.Test.YtmfincpagnpkjaaGreatM07
import Derived.Test.YtmfincpagnpkjaaGreatM14
set_option linter.all false
set_option maxRecDepth 100000
set_option maxHeartbeats 100000000
namespace Go.Proofs.YtmfincpagnpkjaaGreat
open Go.RowKit
section
section
variable {w:World} {own:Nat->Nat} {κ b m:Nat} {t:TypeId} {l:List Value}
theorem z2T (w:World) (m:Nat) (o:Obj) (k:Nat) (h:k≠m):(w.putObj m o).heap[k]?=w.heap[k]?:=by
 show(w.heap.setIfInBounds m o)[k]?=_
 rw[Array.getElem?_setIfInBounds_ne (Ne.symm h)]
theorem zei {p j:Nat} (w:World) (o:Obj) (h:p≠m):(w.putObj m o).cell? ⟨p,j,none⟩=w.cell? ⟨p,j,none⟩:=World.cell?_of_block (w:=w) (a:=⟨p,j,none⟩) (z2T w m o p h)
theorem z2L {o o':Obj} (h:w.heap[m]?=some o):(w.putObj m o').heap[m]?=some o':=by
 show(w.heap.setIfInBounds m o')[m]?=_
 rw[Array.getElem?_setIfInBounds_self_of_lt (Array.getElem?_eq_some_iff.1 h).1]
theorem z04 {o:Obj} (h:Ob w own κ b t l) (hb:b≠m):Ob (w.putObj m o) own κ b t l:=⟨(z2T w m o b hb).trans h.1,h.2⟩
theorem z3Y {w0:World} {C:Nat->Prop} {o:Obj} (h:Mod own C w0 w) (hm:m<w0.heap.size->C (own m)):Mod own C w0 (w.putObj m o):=
 ⟨h.os,h.tape,h.output,Nat.le_trans h.size (by show _<=(w.heap.setIfInBounds m o).size;simp),fun k hk hC=>(z2T w m o k (by rintro rfl;exact hC (hm hk))).trans (h.block k hk hC)⟩
end
def z3p (vl:Value) (m:Nat) (acts:Int):List Value:=[vl,.map (some m),.bool false,.int .i64 acts,.int .i64 0]
section
variable {w:World} {own:Nat->Nat} {κ p m:Nat} {vl:Value} {acts:Int}
theorem zcL (h:Ob w own κ p 147 (z3p vl m acts)):
  Calls Tryz.prog 192 #[.pointer (some ⟨p,0,none⟩)] w fun e w'=>e= .returned (.bool true)/\w'=w.setCell ⟨p,3,none⟩ (.int .i64 (wrap64 (acts+1))):=by
 have c2:=h.cell 2 _ rfl
 have c3:=h.cell 3 _ rfl
 have c4:=h.cell 4 _ rfl
 have f3:=h.free 3
 go_enter Tryz.func192,Tryz.ntmps192
 go_wp2
 go_ret
 exact⟨rfl,rfl⟩
theorem z9e (n:Int) (A:Option Addr) (k c:Nat) (h:Ob w own κ p 147 (z3p (.slice A k c) m acts)):
  Calls Tryz.prog 182 #[.pointer (some ⟨p,0,none⟩),.int .i64 n] w fun e w'=>e= .returned (.bool (decide (0<=n)&&decide (n<(k:Int))))/\w=w':=by
 have c0:=h.cell 0 _ rfl
 by_cases h0:0<=n
 ·go_enter Tryz.func182,Tryz.ntmps182
  go_wp2
  go_ret
  exact⟨by simp[h0],rfl⟩
 ·go_enter Tryz.func182,Tryz.ntmps182
  go_wp2
  go_ret
  exact⟨by simp;omega,rfl⟩
end
theorem z0t:(Tryz.prog.info? 149).map (·.size)=some 64:=by kernel_rfl
theorem zbu {w:World} {own:Nat->Nat} {κ p m clock:Nat} {acts:Int} (n:Nat) (s:ByteArray) (A:Option Addr) (k c:Nat) (h:Ob w own κ p 147 (z3p (.slice A k c) m acts)) (hm:w.heap[m]?=some (.map #[] clock))
  (hpm:p≠m) (hn:n<k) (hs:s.size=64):
  Calls Tryz.prog 141 #[.pointer (some ⟨p,0,none⟩),.int .i64 n,.string s] w fun e w'=>e= .returned (.int .i64 0)/\
   Ob w' own κ p 147 (z3p (.slice A k c) m (wrap64 (acts+1)))/\w'.heap[m]?=some (.map #[{key:=.int .i64 n,val:=.agg (zx s.data.toList).toArray,born:=clock}] (clock+1))/\Mod id (fun b=>b=p\/b=m) w w':=by
 have hs1:((s.size:Int) !=64)=false:=by rw[hs];rfl
 have hhas:(decide ((0:Int)<=(n:Int))&&decide ((n:Int)<(k:Int)))=true:=by simp;exact hn
 have HS:=Lib.hid hs
 have HHAS:=Lib.hid hhas
 have HM:=Lib.hid hm
 have hat:=fun a c=>z7l (P:=Tryz.prog) (len:=64) (cap:=c) (a:=a) Tryz.underlying149 (Nat.le_refl 64)
 have hml:m<w.heap.size:=(Array.getElem?_eq_some_iff.1 hm).1
 clear hs hhas hm
 go_enter Tryz.func141,Tryz.ntmps141
 go_wp2_with (first
  |(go_at_call 192;refine(zcL h).mono ?_;rintro e w1 ⟨rfl,hw1⟩;have hob:Ob w1 own κ p 147 (z3p (.slice A k c) m (wrap64 (acts+1))):=(by rw[hw1];exact h.set 3 _);have HW1:=Lib.hid hw1;clear hw1)
  |(go_at_call 182;refine(z9e n A k c hob).mono ?_;rintro e w' ⟨rfl,rfl⟩;rw[HHAS.out]))
 have d1:=hob.cell 1 _ rfl
 have hpl:=hob.lt
 have hml1:m<w1.heap.size:=Nat.lt_of_lt_of_le hml (by rw[HW1.out];simp)
 have hm1:w1.heap[m]?=some (.map #[] clock):=by rw[HW1.out];exact(Below.heap_setCell w _ _ m (Ne.symm hpm)).trans HM.out
 refine wp_region_held_drew (S:=fun W'=>W'.cell? ⟨p,1,none⟩=some (.map (some m))) (by kernel_rfl) (by exact d1) (fun hHeld=>?_)
 refine zq 0 (v:=?av0) rfl (by kernel_rfl) (by kernel_rfl) (by kernel_rfl) (fun _ _ _ h=>h) (by rfl) ?ay0 (by assumption) ?ar0
 case ay0=>(intro w hSw;have ct:=hSw;go_simp);with_reducible rfl
 simp only[xPt]
 refine zq 1 (v:=?av1) rfl (by kernel_rfl) (by kernel_rfl) (by kernel_rfl) (fun _ _ _ h=>h) (by rfl) ?ay1 (by assumption) ?ar1
 case ay1=>(intro w hSw;have ct:=hSw;go_simp);with_reducible rfl
 simp only[xPt]
 refine zq 2 (v:=?av2) rfl (by kernel_rfl) (by kernel_rfl) (by kernel_rfl) (fun _ _ _ h=>h) (by rfl) ?ay2 (by assumption) ?ar2
 case ay2=>(intro w hSw;have ct:=hSw;go_simp);with_reducible rfl
 simp only[xPt]
 refine zq 3 (v:=?av3) rfl (by kernel_rfl) (by kernel_rfl) (by kernel_rfl) (fun _ _ _ h=>h) (by rfl) ?ay3 (by assumption) ?ar3
 case ay3=>(intro w hSw;have ct:=hSw;go_simp);with_reducible rfl
 simp only[xPt]
 refine zq 4 (v:=?av4) rfl (by kernel_rfl) (by kernel_rfl) (by kernel_rfl) (fun _ _ _ h=>h) (by rfl) ?ay4 (by assumption) ?ar4
 case ay4=>(intro w hSw;have ct:=hSw;go_simp);with_reducible rfl
 simp only[xPt]
 refine zq 5 (v:=?av5) rfl (by kernel_rfl) (by kernel_rfl) (by kernel_rfl) (fun _ _ _ h=>h) (by rfl) ?ay5 (by assumption) ?ar5
 case ay5=>(intro w hSw;have ct:=hSw;go_simp);with_reducible rfl
 simp only[xPt]
 refine jf 6 rfl (by kernel_rfl) (by rfl) (fun K hK=>?_)
 refine zjQ 9 101 5 (.tmp 24) rfl Tryz.underlying9 Tryz.underlying101 Tryz.underlying5 s rfl ?_;intro cap w2 hrow hb2 hlt2;rw[HS.out]
 refine hK.out _ _ ?ahs6 (fun hHeld=>?ars6)
 case ahs6=>exact(hb2.cell (p:=⟨p,1,none⟩) hpl).trans hHeld
 clear hK K
 try simp only[xPt]
 refine zq 7 (v:=?av7) rfl (by kernel_rfl) (by kernel_rfl) (by kernel_rfl) (fun _ _ _ h=>h) (by rfl) ?ay7 (by assumption) ?ar7
 case ay7=>(intro w hSw;have ct:=hSw;go_simp);with_reducible rfl
 simp only[xPt]
 refine jf 8 rfl (by kernel_rfl) (by rfl) (fun K hK=>?_)
 refine wp_load_mid 149 (.tmp 26) rfl w1.heap.size 0 rfl (zx s.data.toList) (.array 64 5) hrow.range Tryz.underlying149 rfl (by rw[ye,zf,HS.out];exact z0t) ?_
 refine hK.out _ _ ?ahs8 (fun hHeld=>?ars8)
 case ahs8=>exact hHeld
 clear hK K
 try simp only[xPt]
 refine jf 9 rfl (by kernel_rfl) (by rfl) (fun K hK=>?_)
 have hm2:w2.heap[m]?=some (.map #[] clock):=(hb2.block m hml1).trans hm1;have hmu:=z4r (P:=Tryz.prog) Tryz.underlying145 Tryz.underlying3 hm2 n (.agg (zx s.data.toList).toArray);go_simp
 refine hK.out _ _ ?ahs9 (fun hHeld=>?ars9)
 case ahs9=>exact(zei _ _ hpm).trans hHeld
 clear hK K
 try simp only[xPt]
 refine wpAnyH_done (by kernel_rfl) ?_ _
 have hw2:w2.heap[m]?=some (.map #[] clock):=hm2
 have hob2:Ob w2 own κ p 147 (z3p (.slice A k c) m (wrap64 (acts+1))):=hob.drew.below hb2
 have hmod:Mod id (fun b=>b=p\/b=m) w w2:=by
  have h0:Mod id (fun b=>b=p\/b=m) w w1:=by rw[HW1.out];exact(Mod.refl _ _ _).setCell _ _ (fun _=>.inl rfl)
  exact h0.drew.below hb2
 clear hmu hHeld
 go_wp2
 go_ret
 refine⟨rfl,z04 hob2 hpm, ?_,z3Y hmod (fun _=>.inr rfl)⟩
 exact z2L hw2
theorem z50 {w:World} {own:Nat->Nat} {κ b:Nat} {t:TypeId} {l:List Value} (h:Ob w own κ b t l) (o n:Nat) (hn:o+n<=l.length):w.there b o n:=fun j hj=>
 ⟨by rw[h.cell (o+j) _ (List.getElem?_eq_getElem (by omega))];rfl,h.free _⟩
theorem zbE {w:World} {own:Nat->Nat} {κ p m g clock:Nat} {acts:Int} (n k:Nat) (s:ByteArray) (d:List ByteArray) (h:Ob w own κ p 147 (z3p (.slice (some ⟨g,0,none⟩) k k) m acts))
  (hg:Ob w own κ g 149 (z3f d)) (hm:w.heap[m]?=some (.map #[{key:=.int .i64 n,val:=.agg (zx s.data.toList).toArray,born:=clock}] (clock+1)))
  (hpm:p≠m) (hpg:p≠g) (hgm:g≠m) (hn:n<k) (hs:s.size=64) (hd:d.length=k) (hd64:∀x∈d,x.size=64):
  Calls Tryz.prog 142 #[.pointer (some ⟨p,0,none⟩)] w fun e w'=>e= .returned (.int .i64 0)/\
   Ob w' own κ p 147 (z3p (.slice (some ⟨g,0,none⟩) k k) m (wrap64 (acts+1)))/\Ob w' own κ g 149 (z3f (d.set n s))/\
   w'.heap[m]?=some (.map #[] (clock+1))/\Mod id (fun b=>b=p\/b=m\/b=g) w w':=by
 have HS:=Lib.hid hs
 have HM:=Lib.hid hm
 have HD:=Lib.hid hd
 have HD64:=Lib.hid hd64
 have HG:=Lib.hid hg
 have hml:m<w.heap.size:=(Array.getElem?_eq_some_iff.1 hm).1
 clear hs hm hd hd64 hg
 go_enter Tryz.func142,Tryz.ntmps142
 go_wp2_with (go_at_call 192;refine(zcL h).mono ?_;rintro e w1 ⟨rfl,hw1⟩;have hob:Ob w1 own κ p 147 (z3p (.slice (some ⟨g,0,none⟩) k k) m (wrap64 (acts+1))):=(by rw[hw1];exact h.set 3 _);have HW1:=Lib.hid hw1;clear hw1;have d1:=hob.cell 1 _ rfl;have d0:=hob.cell 0 _ rfl;have hm1:w1.heap[m]?=some (.map #[{key:=.int .i64 n,val:=.agg (zx s.data.toList).toArray,born:=clock}] (clock+1)):=(by rw[HW1.out];exact(Below.heap_setCell w _ _ m (Ne.symm hpm)).trans HM.out);have hrg:=run_range_map (P:=Tryz.prog) w1 145 _ _ m _ _ Tryz.underlying145 hm1)
 have hpl:=hob.lt
 have hml1:m<w1.heap.size:=(Array.getElem?_eq_some_iff.1 hm1).1
 have hg1:Ob w1 own κ g 149 (z3f d):=by rw[HW1.out];exact HG.out.far _ _ (Ne.symm hpg)
 have hmod1:Mod id (fun b=>b=p\/b=m\/b=g) w w1:=by rw[HW1.out];exact(Mod.refl _ _ _).setCell _ _ (fun _=>.inl rfl)
 obtain⟨w2,hw2⟩:∃w2,w2=w1.alloc (.mapIter (some m) (clock+1) #[] (clock+1)):=⟨_,rfl⟩
 rw[<-hw2]
 have hm2:w2.heap[m]?=some (.map #[{key:=.int .i64 n,val:=.agg (zx s.data.toList).toArray,born:=clock}] (clock+1)):=by rw[hw2];exact(Below.heap_alloc w1 _ m hml1).trans hm1
 have hr2:w2.heap[w1.heap.size]?=some (.mapIter (some m) (clock+1) #[] (clock+1)):=by rw[hw2];show(w1.heap.push _)[w1.heap.size]?=_;simp
 have hob2:Ob w2 own κ p 147 (z3p (.slice (some ⟨g,0,none⟩) k k) m (wrap64 (acts+1))):=by rw[hw2];exact hob.alloc _
 have hg2:Ob w2 own κ g 149 (z3f d):=by rw[hw2];exact hg1.alloc _
 have hmod2:Mod id (fun b=>b=p\/b=m\/b=g) w w2:=by rw[hw2];exact hmod1.alloc _
 have hsz2:w1.heap.size<w2.heap.size:=by rw[hw2];simp
 have hrm:w1.heap.size≠m:=by omega
 have hrp:p≠w1.heap.size:=by omega
 have hrg:g≠w1.heap.size:=by have:=hg1.lt;omega
 have hn1:=fun ty=>zbk (P:=Tryz.prog) hm2 hr2 (by simp) ty
 obtain⟨w3,hw3⟩:∃w3,w3=w2.putObj w1.heap.size (.mapIter (some m) (clock+1) #[clock] (clock+1)):=⟨_,rfl⟩
 dsimp only at hn1
 rw[<-hw3]at hn1
 have hm3:w3.heap[m]?=some (.map #[{key:=.int .i64 n,val:=.agg (zx s.data.toList).toArray,born:=clock}] (clock+1)):=by rw[hw3];exact(z2T w2 _ _ m hrm.symm).trans hm2
 have hr3:w3.heap[w1.heap.size]?=some (.mapIter (some m) (clock+1) #[clock] (clock+1)):=by rw[hw3];exact z2L hr2
 have hob3:Ob w3 own κ p 147 (z3p (.slice (some ⟨g,0,none⟩) k k) m (wrap64 (acts+1))):=by rw[hw3];exact z04 hob2 hrp
 have hg3:Ob w3 own κ g 149 (z3f d):=by rw[hw3];exact z04 hg2 hrg
 have he3:=za8 (P:=Tryz.prog) hm3 hr3
 dsimp only at he3
 have HM2:=Lib.hid hm2
 have HM3:=Lib.hid hm3
 have HR3:=Lib.hid hr3
 have HOB3:=Lib.hid hob3
 have HG3:=Lib.hid hg3
 have HMOD2:=Lib.hid hmod2
 have HW3:=Lib.hid hw3
 clear hm2 hm3 hr2 hr3 hob2 hob3 hg2 hg3 hmod1 hmod2 hw2 hw3 hg1 hm1 d0 d1 hob
 have hcz:(zx s.data.toList).toArray.size=64:=by rw[List.size_toArray,ye,zf,HS.out]
 have HCZ:=Lib.hid hcz
 have h64:((clock+1:Nat)=0)=False:=by simp
 clear hcz
 refine wp_loop_rounds 2 ?_
 rw[rounds_succ]
 go_wp2_with (refine wpList_store_mid rfl 149 (.tmp 4) (.tmp 17) rfl w3.heap.size 0 (zx s.data.toList).toArray rfl rfl (by rw[HCZ.out];exact z50 (Ob.new (κ:=0) w3 own _ (List.replicate 64 (.int .u8 0))) 0 64 (by simp)) (by rw[HCZ.out];exact z0t) (all_oneCell_toArray (z1t _)) ?_)
 obtain⟨w4,hw4⟩:∃w4,w4=(w3.alloc (.cells #[Value.int .u8 0,Value.int .u8 0,Value.int .u8 0,Value.int .u8 0,Value.int .u8 0,Value.int .u8 0,Value.int .u8 0,Value.int .u8 0,Value.int .u8 0,Value.int .u8 0,Value.int .u8 0,Value.int .u8 0,Value.int .u8 0,Value.int .u8 0,Value.int .u8 0,Value.int .u8 0,Value.int .u8 0,Value.int .u8 0,Value.int .u8 0,Value.int .u8 0,Value.int .u8 0,Value.int .u8 0,Value.int .u8 0,Value.int .u8 0,Value.int .u8 0,Value.int .u8 0,Value.int .u8 0,Value.int .u8 0,Value.int .u8 0,Value.int .u8 0,Value.int .u8 0,Value.int .u8 0,Value.int .u8 0,Value.int .u8 0,Value.int .u8 0,Value.int .u8 0,Value.int .u8 0,Value.int .u8 0,Value.int .u8 0,Value.int .u8 0,Value.int .u8 0,Value.int .u8 0,Value.int .u8 0,Value.int .u8 0,Value.int .u8 0,Value.int .u8 0,Value.int .u8 0,Value.int .u8 0,Value.int .u8 0,Value.int .u8 0,Value.int .u8 0,Value.int .u8 0,Value.int .u8 0,Value.int .u8 0,Value.int .u8 0,Value.int .u8 0,Value.int .u8 0,Value.int .u8 0,Value.int .u8 0,Value.int .u8 0,Value.int .u8 0,Value.int .u8 0,Value.int .u8 0,Value.int .u8 0] 149)).setCells w3.heap.size 0 (zx s.data.toList).toArray.toList:=⟨_,rfl⟩
 have hb4:Below w3.heap.size w3 w4:=by rw[hw4];exact((Below.refl _ w3).alloc (Nat.le_refl _) _).grown (z0k _ _ _ _) (by simp) (fun k e=>by cases e;exact Nat.le_refl _)
 have hg4:Ob w4 own κ g 149 (z3f d):=HG3.out.below hb4
 have hob4:Ob w4 own κ p 147 (z3p (.slice (some ⟨g,0,none⟩) k k) m (wrap64 (acts+1))):=HOB3.out.below hb4
 have hr4:w4.rangeAt w3.heap.size 0 (zx s.data.toList):=by
  rw[hw4]
  exact World.rangeAt_setCells_same _ _ _ _ (z50 (Ob.new (κ:=0) w3 own _ (List.replicate 64 (.int .u8 0))) 0 _ (by rw[List.toList_toArray,ye,zf,HS.out];simp))
 have d0:=hob4.cell 0 _ rfl
 have HR4:=Lib.hid hr4
 have HG4:=Lib.hid hg4
 have i0:(0:Int)<=(n:Int):=by omega
 have i1:(n:Int)<(k:Int):=by omega
 rw[<-hw4]
 refine wp_region_held_drew (S:=fun W'=>W'.cell? ⟨p,0,none⟩=some (.slice (some ⟨g,0,none⟩) k k)) (by kernel_rfl) (by exact d0) (fun hHeld=>?_)
 refine zq 0 (v:=?fv0) rfl (by kernel_rfl) (by kernel_rfl) (by kernel_rfl) (fun _ _ _ h=>h) (by rfl) ?fy0 (by assumption) ?fr0
 case fy0=>(intro w hSw;have ct:=hSw;go_simp);with_reducible rfl
 simp only[xPt]
 refine zq 1 (v:=?fv1) rfl (by kernel_rfl) (by kernel_rfl) (by kernel_rfl) (fun _ _ _ h=>h) (by rfl) ?fy1 (by assumption) ?fr1
 case fy1=>(intro w hSw;have ct:=hSw;go_simp);with_reducible rfl
 simp only[xPt]
 refine zq 2 (v:=?fv2) rfl (by kernel_rfl) (by kernel_rfl) (by kernel_rfl) (fun _ _ _ h=>h) (by rfl) ?fy2 (by assumption) ?fr2
 case fy2=>(intro w hSw;have ct:=hSw;go_simp);with_reducible rfl
 simp only[xPt]
 refine zq 3 (v:=?fv3) rfl (by kernel_rfl) (by kernel_rfl) (by kernel_rfl) (fun _ _ _ h=>h) (by rfl) ?fy3 (by assumption) ?fr3
 case fy3=>(intro w hSw;have ct:=hSw;go_simp);with_reducible rfl
 simp only[xPt]
 refine zq 4 (v:=?fv4) rfl (by kernel_rfl) (by kernel_rfl) (by kernel_rfl) (fun _ _ _ h=>h) (by rfl) ?fy4 (by assumption) ?fr4
 case fy4=>(intro w hSw;have ct:=hSw;go_simp);with_reducible rfl
 simp only[xPt]
 refine jf 5 rfl (by kernel_rfl) (by rfl) (fun K hK=>?_)
 refine wp_load_mid 149 (.tmp 4) rfl w3.heap.size 0 rfl (zx s.data.toList) (.array 64 5) HR4.out Tryz.underlying149 rfl (by rw[ye,zf,HS.out];exact z0t) ?_
 refine hK.out _ _ ?fhs5 (fun hHeld=>?frs5)
 case fhs5=>exact hHeld
 clear hK K
 try simp only[xPt]
 refine zq 6 (v:=?fv6) rfl (by kernel_rfl) (by kernel_rfl) (by kernel_rfl) (fun _ _ _ h=>h) (by rfl) ?fy6 (by assumption) ?fr6
 case fy6=>(intro w hSw;have ct:=hSw;go_simp);with_reducible rfl
 simp only[xPt]
 refine jf 7 rfl (by kernel_rfl) (by rfl) (fun K hK=>?_)
 refine wp_store_mid 149 (.tmp 24) (.tmp 23) rfl g (n*64) (zx s.data.toList).toArray rfl rfl (by rw[HCZ.out];exact z50 HG4.out (n*64) 64 (by rw[z1I HD64.out,HD.out];omega)) (by rw[HCZ.out];exact z0t) (all_oneCell_toArray (z1t _)) ?_
 refine hK.out _ _ ?fhs7 (fun hHeld=>?frs7)
 case fhs7=>exact(World.cell?_setCells_out g _ _ _ _ (fun h=>absurd h hpg)).trans hHeld
 clear hK K
 refine wpAnyH_done (by kernel_rfl) ?_ _
 obtain⟨w5,hw5⟩:∃w5,w5=w4.drew.setCells g (n*64) (zx s.data.toList).toArray.toList:=⟨_,rfl⟩
 rw[<-hw5]
 have hmod5:Mod id (fun b=>b=g) w4 w5:=by rw[hw5];exact Mod.setCells (own:=id) (C:=fun b=>b=g) (fun _=>rfl) _ _ (Mod.refl id (fun b=>b=g) w4).drew
 have hg5:Ob w5 own κ g 149 (z3f (d.set n s)):=by
  rw[hw5,<-zlb HD64.out (by rw[HD.out];exact hn) HS.out]
  exact Ob.setCells _ _ _ HG4.out.drew
 have hml3:m<w3.heap.size:=(Array.getElem?_eq_some_iff.1 HM3.out).1
 have hrl3:w1.heap.size<w3.heap.size:=(Array.getElem?_eq_some_iff.1 HR3.out).1
 have hm5:w5.heap[m]?=some (.map #[{key:=.int .i64 n,val:=.agg (zx s.data.toList).toArray,born:=clock}] (clock+1)):=(hmod5.block m (Nat.lt_of_lt_of_le hml3 hb4.size) (Ne.symm hgm)).trans ((hb4.block m hml3).trans HM3.out)
 have hr5:w5.heap[w1.heap.size]?=some (.mapIter (some m) (clock+1) #[clock] (clock+1)):=(hmod5.block _ (Nat.lt_of_lt_of_le hrl3 hb4.size) (Ne.symm hrg)).trans ((hb4.block _ hrl3).trans HR3.out)
 have hob5:Ob w5 own κ p 147 (z3p (.slice (some ⟨g,0,none⟩) k k) m (wrap64 (acts+1))):=⟨(hmod5.block p hob4.lt hpg).trans hob4.1,hob4.2⟩
 have hmod:Mod id (fun b=>b=p\/b=m\/b=g) w w5:=by
  have hs:w.heap.size=w1.heap.size:=by rw[HW1.out];simp[World.setCell]
  have h3:Mod id (fun b=>b=p\/b=m\/b=g) w w3:=by rw[HW3.out];exact z3Y HMOD2.out (fun hlt=>absurd hlt (by omega))
  exact(h3.below hb4).trans (hmod5.mono (fun b hb=>.inr (.inr hb))) (Ext.refl _ _)
 have hn2:=fun ty=>za7 (P:=Tryz.prog) hm5 hr5 (by simp) ty
 have hcl:=fun ty=>z4f (P:=Tryz.prog) (ty:=ty) Tryz.underlying145 hm5
 have c1:=hob5.cell 1 _ rfl
 have HM5:=Lib.hid hm5
 have HMOD:=Lib.hid hmod
 have HG5:=Lib.hid hg5
 have HOB5:=Lib.hid hob5
 clear hw5 hmod5 hg5 hm5 hr5 hob5 hmod hw4 hr4 hg4 hob4 d0 hHeld hn1 he3
 go_simp
 rw[rounds_succ]
 go_wp2
 go_ret
 exact⟨rfl,z04 HOB5.out hpm,z04 HG5.out hgm,z2L HM5.out,z3Y HMOD.out (fun _=>.inr (.inl rfl))⟩
theorem z7C {w:World} {own:Nat->Nat} {κ p m g clock:Nat} {acts:Int} (n k:Nat) (d:List ByteArray) (h:Ob w own κ p 147 (z3p (.slice (some ⟨g,0,none⟩) k k) m acts))
  (hg:Ob w own κ g 149 (z3f d)) (hm:w.heap[m]?=some (.map #[] clock)) (hn:n<k) (hd:d.length=k) (hd64:∀x∈d,x.size=64):
  Calls Tryz.prog 139 #[.pointer (some ⟨p,0,none⟩),.int .i64 n] w fun e w'=>e= .returned (.tuple #[.string (d[n]?.getD ByteArray.empty),.int .i64 0])/\Below w.heap.size w w':=by
 have hhas:(decide ((0:Int)<=(n:Int))&&decide ((n:Int)<(k:Int)))=true:=by simp;exact hn
 have HHAS:=Lib.hid hhas
 have HD:=Lib.hid hd
 have HD64:=Lib.hid hd64
 have HG:=Lib.hid hg
 have HH:=Lib.hid h
 have hzr:∀W,(zeroValue 149).run Tryz.prog W= .ok (.agg (zx (List.replicate 64 (0:UInt8))).toArray) W:=fun W=>by kernel_rfl
 obtain⟨cz,hcz⟩:∃cz,cz=(zx (List.replicate 64 (0:UInt8))).toArray:=⟨_,rfl⟩
 have hcs:cz.size=64:=by rw[hcz];simp[ye]
 have hc1:cz.all (·.oneCell')=true:=by rw[hcz];exact all_oneCell_toArray (z1t _)
 rw[<-hcz]at hzr
 have HCS:=Lib.hid hcs
 have HC1:=Lib.hid hc1
 have hlk:=fun W (hW:W.heap[m]?=some (.map #[] clock))=>z6w (P:=Tryz.prog) (w:=W) Tryz.underlying145 Tryz.underlying3 hW n _ (hzr W)
 have hlk0:=hlk w hm
 have hpl:=h.lt
 clear hlk hzr hcz hcs hc1
 have d0:=h.cell 0 _ rfl
 have d1:=h.cell 1 _ rfl
 have d2:=h.cell 2 _ rfl
 clear hhas hd hd64 hg
 go_enter Tryz.func139,Tryz.ntmps139
 go_upto_region 7 with first
  |(go_at_call 182;refine(z9e n _ k k h).mono ?_;rintro e w' ⟨rfl,rfl⟩;rw[HHAS.out])
  |(refine wpList_store_mid rfl 149 (.tmp 6) (.tmp 23) rfl w.heap.size 0 cz rfl rfl (by rw[HCS.out];exact z50 (Ob.new (κ:=0) w own _ (List.replicate 64 (.int .u8 0))) 0 64 (by simp)) (by rw[HCS.out];exact z0t) HC1.out ?_)
 obtain⟨w1,hw1⟩:∃w1,w1=(w.alloc (.cells #[Value.int .u8 0,Value.int .u8 0,Value.int .u8 0,Value.int .u8 0,Value.int .u8 0,Value.int .u8 0,Value.int .u8 0,Value.int .u8 0,Value.int .u8 0,Value.int .u8 0,Value.int .u8 0,Value.int .u8 0,Value.int .u8 0,Value.int .u8 0,Value.int .u8 0,Value.int .u8 0,Value.int .u8 0,Value.int .u8 0,Value.int .u8 0,Value.int .u8 0,Value.int .u8 0,Value.int .u8 0,Value.int .u8 0,Value.int .u8 0,Value.int .u8 0,Value.int .u8 0,Value.int .u8 0,Value.int .u8 0,Value.int .u8 0,Value.int .u8 0,Value.int .u8 0,Value.int .u8 0,Value.int .u8 0,Value.int .u8 0,Value.int .u8 0,Value.int .u8 0,Value.int .u8 0,Value.int .u8 0,Value.int .u8 0,Value.int .u8 0,Value.int .u8 0,Value.int .u8 0,Value.int .u8 0,Value.int .u8 0,Value.int .u8 0,Value.int .u8 0,Value.int .u8 0,Value.int .u8 0,Value.int .u8 0,Value.int .u8 0,Value.int .u8 0,Value.int .u8 0,Value.int .u8 0,Value.int .u8 0,Value.int .u8 0,Value.int .u8 0,Value.int .u8 0,Value.int .u8 0,Value.int .u8 0,Value.int .u8 0,Value.int .u8 0,Value.int .u8 0,Value.int .u8 0,Value.int .u8 0] 149)).setCells w.heap.size 0 cz.toList:=⟨_,rfl⟩
 rw[<-hw1]
 have hb1:Below w.heap.size w w1:=by rw[hw1];exact((Below.refl _ w).alloc (Nat.le_refl _) _).grown (z0k _ _ _ _) (by simp) (fun k e=>by cases e;exact Nat.le_refl _)
 have hob1:Ob w1 own κ p 147 (z3p (.slice (some ⟨g,0,none⟩) k k) m acts):=HH.out.below hb1
 have hg1:Ob w1 own κ g 149 (z3f d):=HG.out.below hb1
 have hth:w1.there w.heap.size 0 64:=by
  rw[hw1]
  have hx:=Ob.setCells cz.toList _ 0 (Ob.new (κ:=0) w own 149 (List.replicate 64 (.int .u8 0)))
  exact z50 hx 0 64 (by rw[zdk _ _ _ (by simp[HCS.out])];simp[HCS.out])
 have hfz:∃own' l',Ob w1 own' 0 w.heap.size 149 l':=by
  rw[hw1]
  exact⟨_,_,Ob.setCells cz.toList _ 0 (Ob.new (κ:=0) w own 149 (List.replicate 64 (.int .u8 0)))⟩
 have HFZ:=Lib.hid hfz
 have hnl:n<d.length:=by rw[HD.out];exact hn
 have hsn:(zx (d[n]'hnl).data.toList).length=64:=by rw[ye,zf,HD64.out _ (List.getElem_mem hnl)]
 have hsn2:(zx (d[n]'hnl).data.toList).toArray.size=64:=by rw[List.size_toArray,hsn]
 have hrd:w1.rangeAt g (n*64) (zx (d[n]'hnl).data.toList):=fun j v hv=>hg1.cell _ _ (zj4 HD64.out hnl hv)
 have e0:=hob1.cell 0 _ rfl
 have hpw:p≠w.heap.size:=by omega
 have HTH:=Lib.hid hth
 have HNL:=Lib.hid hnl
 have HSN:=Lib.hid hsn
 have HSN2:=Lib.hid hsn2
 have HRD:=Lib.hid hrd
 have HB1:=Lib.hid hb1
 have i0:(0:Int)<=(n:Int):=by omega
 have i1:(n:Int)<(k:Int):=by omega
 clear hth hfz hsn hsn2 hrd hb1 hw1 hlk0
 go_upto_region 8 with first
  |(refine wpList_load_mid rfl 149 (.tmp 32) rfl g (n*64) rfl (zx (d[n]'HNL.out).data.toList) (.array 64 5) HRD.out Tryz.underlying149 rfl (by rw[HSN.out];exact z0t) ?_)
  |(refine wpList_store_mid rfl 149 (.tmp 6) (.tmp 33) rfl w.heap.size 0 (zx (d[n]'HNL.out).data.toList).toArray rfl rfl (by rw[HSN2.out];exact HTH.out) (by rw[HSN2.out];exact z0t) (all_oneCell_toArray (z1t _)) ?_)
 obtain⟨w2,hw2⟩:∃w2,w2=w1.setCells w.heap.size 0 (zx (d[n]'HNL.out).data.toList):=⟨_,rfl⟩
 rw[<-hw2]
 have hb2:Below w.heap.size w w2:=by rw[hw2];exact HB1.out.grown (z0k _ _ _ _) HB1.out.size (fun k e=>by cases e;exact Nat.le_refl _)
 have hcv:(convert 101 9 (.slice (some ⟨w.heap.size,0,none⟩) 64 64)).run Tryz.prog w2= .ok (.string (d[n]'HNL.out)) w2:=by
  have h0:((d[n]'HNL.out).data.toList).length=64:=by rw[zf,HD64.out _ (List.getElem_mem HNL.out)]
  have h1:=World.rangeAt_setCells_same w1 w.heap.size 0 (zx (d[n]'HNL.out).data.toList) (by rw[HSN.out];exact HTH.out)
  obtain⟨own',l',hx⟩:=HFZ.out
  exact yw Tryz.underlying101 Tryz.underlying5 Tryz.underlying9 (l:=(d[n]'HNL.out).data.toList) (fun j b hb=>⟨by rw[hw2];simpa using h1 j (.int .u8 (b.toNat:Int)) (by simp[zx,hb]),by rw[hw2];exact(Ob.setCells _ _ 0 hx).free j⟩) 64 64 h0
 have hgd:d[n]?.getD ByteArray.empty=(d[n]'HNL.out):=by rw[List.getElem?_eq_getElem HNL.out];rfl
 have HB2:=Lib.hid hb2
 have HGD:=Lib.hid hgd
 clear hw2 hb2 hgd
 go_wp2
 go_ret2
 exact⟨by rw[HGD.out];rfl,HB2.out⟩
end
section
def Tidy (w:World) (own:Nat->Nat):Prop:=∀k,w.heap.size<=k->own k=0
def dye (own:Nat->Nat) (a b κ:Nat):Nat->Nat:=fun k=>if a<=k/\k<b then κ else own k
section
variable {w w':World} {own own':Nat->Nat} {κ κ' b b':Nat} {t t':TypeId} {l l':List Value}
theorem Ext.dye (w:World) (own:Nat->Nat) (b κ:Nat):Ext w own (dye own w.heap.size b κ):=fun k hk=>by
 unfold Go.Proofs.YtmfincpagnpkjaaGreat.dye
 rw[if_neg (by omega)]
theorem Tidy.mono (h:Tidy w own) (hs:w.heap.size<=w'.heap.size):Tidy w' own:=fun k hk=>h k (by omega)
theorem Tidy.dye (h:Tidy w own) (hs:w.heap.size<=w'.heap.size):Tidy w' (dye own w.heap.size w'.heap.size κ):=fun k hk=>by
 unfold Go.Proofs.YtmfincpagnpkjaaGreat.dye
 rw[if_neg (by omega)]
 exact h k (by omega)
theorem zlv {a c k:Nat} (h1:a<=k) (h2:k<c):dye own a c κ k=κ:=if_pos ⟨h1,h2⟩
theorem Ob.ne (h:Ob w own κ b t l) (h':Ob w own' κ' b' t' l') (ht:t≠t'):b≠b':=by
 rintro rfl
 have e:=h.1.symm.trans h'.1
 cases e
 exact ht rfl
theorem Ob.ne_map {es:Array MapEntry} {clock:Nat} (h:Ob w own κ b t l) (h':w.heap[b']?=some (.map es clock)):b≠b':=by
 rintro rfl
 cases h.1.symm.trans h'
theorem Ob.ofNew (own:Nat->Nat) (κ n:Nat) {w:World} {b:Nat} {a:Array Value} (hb:w.heap[b]?=some (.cells a t (0,0))) (ha:a.toList=l) {s:Nat} (hs:s<=b) (hn:b<n):Ob w (dye own s n κ) κ b t l:=by
 subst ha
 refine⟨?_,zlv hs hn⟩
 rw[hb,Array.toArray_toList]
theorem zcO.refl (κ:Nat) (w:World) (own:Nat->Nat):zcO κ w own w:=fun _ _ _=>rfl
theorem zcO.ofBelow (h:Below w.heap.size w w'):zcO κ w own w':=fun k hk _=>h.block k hk
end
structure DiskP (w:World) (own:Nat->Nat) (κ p m g:Nat) (d:List ByteArray) (acts:Int) (clock:Nat):Prop where
 ob:Ob w own κ p 147 (z3p (.slice (some ⟨g,0,none⟩) d.length d.length) m acts)
 row:Ob w own κ g 149 (z3f d)
 map:w.heap[m]?=some (.map #[] clock)
 col:own m=κ
 sz:∀x∈d,x.size=64
def jv (w:World) (own:Nat->Nat) (κ p:Nat) (d:List ByteArray):Prop:=∃m g acts clock,DiskP w own κ p m g d acts clock
section
variable {w w':World} {own own':Nat->Nat} {κ p m g clock:Nat} {d:List ByteArray} {acts:Int}
theorem DiskP.same (h:DiskP w own κ p m g d acts clock) (hs:zcO κ w own w') (he:Ext w own own'):DiskP w' own' κ p m g d acts clock:=
 ⟨h.ob.same hs he,h.row.same hs he,(hs m (Array.getElem?_eq_some_iff.1 h.map).1 h.col).trans h.map,(he m (Array.getElem?_eq_some_iff.1 h.map).1).trans h.col,h.sz⟩
theorem jv.same (h:jv w own κ p d) (hs:zcO κ w own w') (he:Ext w own own'):jv w' own' κ p d:=by
 obtain⟨m,g,acts,clock,h⟩:=h
 exact⟨m,g,acts,clock,h.same hs he⟩
theorem DiskP.pm (h:DiskP w own κ p m g d acts clock):p≠m:=h.ob.ne_map h.map
theorem DiskP.gm (h:DiskP w own κ p m g d acts clock):g≠m:=h.row.ne_map h.map
theorem DiskP.pg (h:DiskP w own κ p m g d acts clock):p≠g:=h.ob.ne h.row (by decide)
theorem DiskP.ml (h:DiskP w own κ p m g d acts clock):m<w.heap.size:=(Array.getElem?_eq_some_iff.1 h.map).1
theorem DiskP.mod (h:DiskP w own κ p m g d acts clock) (hm:Mod id (fun b=>b=p\/b=m\/b=g) w w'):Mod own (fun c=>c=κ) w w':=
 ⟨hm.os,hm.tape,hm.output,hm.size,fun k hk hC=>hm.block k hk (by
  rintro(e|e|e)
  ·exact hC (by rw[show k=p from e];exact h.ob.2)
  ·exact hC (by rw[show k=m from e];exact h.col)
  ·exact hC (by rw[show k=g from e];exact h.row.2))⟩
theorem zg4 (h:jv w own κ p d):
  Calls Tryz.prog 66 #[.pointer (some ⟨p,0,none⟩)] w fun e w'=>e= .returned (.bool false)/\w=w':=by
 obtain⟨m,g,acts,clock,h⟩:=h
 have c2:=h.ob.cell 2 _ rfl
 clear h
 go_enter Tryz.func66,Tryz.ntmps66
 go_wp2
 go_ret
 exact⟨rfl,rfl⟩
theorem z8C (h:jv w own κ p d):
  Calls Tryz.prog 109 #[.pointer (some ⟨p,0,none⟩)] w fun e w'=>e= .returned (.int .i64 d.length)/\w=w':=by
 obtain⟨m,g,acts,clock,h⟩:=h
 have c0:=h.ob.cell 0 _ rfl
 clear h
 go_enter Tryz.func109,Tryz.ntmps109
 go_wp2
 go_ret
 exact⟨rfl,rfl⟩
theorem z8p {P:Program} {w:World} {m r clock since c0:Nat} {seen:Array Nat} (hm:w.heap[m]?=some (.map #[] clock)) (hr:w.heap[r]?=some (.mapIter (some m) since seen c0)) (ty:TypeId):
  (Instr.next (.pointer (some ⟨r,0,none⟩)) false ty).run P w= .ok (.tuple #[.bool false]) w:=by
 have hf:(Question.mapNext 1).forced=true:=rfl
 simp[Instr.next,z2I hr,z0T hm,hf]
theorem zar (h:DiskP w own κ p m g d acts clock):
  Calls Tryz.prog 86 #[.pointer (some ⟨p,0,none⟩)] w fun e w'=>e= .returned (.slice none 0 0)/\Below w.heap.size w w':=by
 have c1:=h.ob.cell 1 _ rfl
 have hm:=h.map
 have hml:=h.ml
 have hrg:=run_range_map (P:=Tryz.prog) w 145 _ _ m _ _ Tryz.underlying145 hm
 have HM:=Lib.hid hm
 clear h hm
 go_enter Tryz.func86,Tryz.ntmps86
 go_wp2
 obtain⟨w2,hw2⟩:∃w2,w2=w.alloc (.mapIter (some m) clock #[] clock):=⟨_,rfl⟩
 rw[<-hw2]
 have hm2:w2.heap[m]?=some (.map #[] clock):=by rw[hw2];exact(Below.heap_alloc w _ m hml).trans HM.out
 have hr2:w2.heap[w.heap.size]?=some (.mapIter (some m) clock #[] clock):=by rw[hw2];show(w.heap.push _)[w.heap.size]?=_;simp
 have hb2:Below w.heap.size w w2:=by rw[hw2];exact(Below.refl _ _).alloc (Nat.le_refl _) _
 have hn:=fun ty=>z8p (P:=Tryz.prog) hm2 hr2 ty
 have HB:=Lib.hid hb2
 clear hw2 hm2 hr2 hb2 hrg
 refine wp_loop_rounds 1 ?_
 rw[rounds_succ]
 go_wp2_with (go_at_call 125;refine(Tryz.slices_Sort_int_none none 0 _).mono ?_;rintro e w' ⟨rfl,rfl⟩)
 go_ret
 exact⟨rfl,HB.out⟩
theorem z8D (keep:Value) (h:jv w own κ p d):
  Calls Tryz.prog 55 #[.pointer (some ⟨p,0,none⟩),keep] w fun e w'=>e= .returned (.tuple #[])/\jv w' own κ p d/\Mod own (fun c=>c=κ) w w':=by
 obtain⟨m,g,acts,clock,h⟩:=h
 have HH:=Lib.hid h
 clear h
 go_enter Tryz.func55,Tryz.ntmps55
 go_wp2_with (go_at_call 86;refine(zar HH.out).mono ?_;rintro e w1 ⟨rfl,hb1⟩)
 have h1:DiskP w1 own κ p m g d acts clock:=HH.out.same (zcO.ofBelow hb1) (Ext.refl _ _)
 have c1:=h1.ob.cell 1 _ rfl
 have hcl:=fun ty=>z4f (P:=Tryz.prog) (ty:=ty) Tryz.underlying145 h1.map
 have H1:=Lib.hid h1
 have hpl:=h1.ob.lt
 have HB:=Lib.hid hb1
 have hpm:=h1.pm
 have d2:=(z04 (o:=.map #[] clock) h1.ob h1.pm).cell 2 _ rfl
 have d4:=(z04 (o:=.map #[] clock) h1.ob h1.pm).cell 4 _ rfl
 have f2:=(z04 (o:=.map #[] clock) h1.ob h1.pm).free 2
 have f4:=(z04 (o:=.map #[] clock) h1.ob h1.pm).free 4
 clear h1 hb1
 refine wp_loop_rounds 1 ?_
 rw[rounds_succ]
 go_wp2
 go_end0
 have h1:=H1.out
 refine⟨rfl,⟨m,g,acts,clock, ?_, ?_, ?_,h1.col,h1.sz⟩, ?_⟩
 ·exact((z04 (o:=.map #[] clock) h1.ob h1.pm).set 2 _).set 4 _
 ·exact((z04 (o:=.map #[] clock) h1.row h1.gm).far _ _ h1.pg.symm).far _ _ h1.pg.symm
 ·exact(Below.heap_setCell _ _ _ m h1.pm.symm).trans ((Below.heap_setCell _ _ _ m h1.pm.symm).trans (z2L h1.map))
 ·refine((z3Y (Mod.ofBelow HB.out) (fun _=>h1.col)).setCell _ _ (fun _=>h1.ob.2)).setCell _ _ (fun _=>h1.ob.2)
end
end
end Go.Proofs.YtmfincpagnpkjaaGreat
