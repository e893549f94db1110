/- Part of the proof. -/
import Derived.Test.YtmfincpagnpkjaaGreatM03
import Derived.Test.YtmfincpagnpkjaaGreatM15
set_option linter.all false
set_option maxRecDepth 100000
set_option maxHeartbeats 100000000
namespace Go.Proofs.YtmfincpagnpkjaaGreat
open Go.RowKit
section
attribute [local go_sem] z2u z0W z0S z2E z44 z48 z5M z5I z43 z42 z2o z2n z41 z40 z3Z zmP zmM zlZ
def z0O (w:World) (own:Nat->Nat) (κ s p k:Nat):Prop:=Ob w own κ s 220 [.pointer (some ⟨p,0,none⟩),.int .i64 k]
section
variable {w w':World} {own own':Nat->Nat} {κ κs s p k:Nat} {d:List ByteArray}
theorem z3S (n:Int) (h:z0O w own κ s p k):
  Calls Tryz.prog 138 #[.pointer (some ⟨s,0,none⟩),.int .i64 n] w fun e w'=>e= .returned (.bool (decide (0<=n)&&decide (n<(k:Int))))/\w=w':=by
 have c1:=Ob.cell h 1 _ rfl
 clear h
 by_cases h0:0<=n
 ·go_enter Tryz.func138,Tryz.ntmps138
  go_wp2
  go_ret
  exact⟨by simp[h0],rfl⟩
 ·go_enter Tryz.func138,Tryz.ntmps138
  go_wp2
  go_ret
  exact⟨by simp;omega,rfl⟩
def z2j (d:List ByteArray) (n:Nat):Rec:=(jc n (d[n]?.getD ByteArray.empty)).1
theorem z6Y (x:Int) (t:ByteArray) (h:(jc x t).2≠0):(jc x t).1=Rec.nil/\(jc x t).2=80:=by
 unfold jc at*
 split
 ·exact⟨rfl,rfl⟩
 ·split
  ·rename_i h1 h2
   rw[if_neg h1,if_pos h2]at h
   exact absurd rfl h
  ·split
   ·rename_i h1 h2 h3
    rw[if_neg h1,if_neg h2,if_pos h3]at h
    exact absurd rfl h
   ·exact⟨rfl,rfl⟩
theorem zfH (n:Nat) (hs:z0O w own κs s p k) (hd:jv w own κ p d) (hk:d.length=k) (hn:n<k):
  Calls Tryz.prog 94 #[.pointer (some ⟨s,0,none⟩),.int .i64 n] w fun e w'=>e= .returned (.tuple #[(z2j d n).v,.int .i64 0])/\Below w.heap.size w w':=by
 obtain⟨m,g,acts,clock,hD⟩:=hd
 have hhas:(decide ((0:Int)<=(n:Int))&&decide ((n:Int)<(k:Int)))=true:=by simp;exact hn
 have HHAS:=Lib.hid hhas
 obtain⟨t,ht⟩:∃t,d[n]?.getD ByteArray.empty=t:=⟨_,rfl⟩
 obtain⟨r,hr⟩:∃r,(jc n t).1=r:=⟨_,rfl⟩
 obtain⟨er,her⟩:∃er,(jc n t).2=er:=⟨_,rfl⟩
 have hrec:z2j d n=r:=by unfold z2j;rw[ht];exact hr
 have hunp:∀w,Calls Tryz.prog 40 #[.int .i64 n,.string t] w fun e w'=>e= .returned (.tuple #[.agg #[.bool r.used,.int .i64 r.fence,.int .i64 r.de,.int .i64 r.ds,.string r.block,.bool r.opn,.int .i64 r.ie,.int .i64 r.iq,.int .i64 r.mask,.string r.staged],.int .i64 er])/\Below w.heap.size w w':=fun w=>by
  have h:=z3k n t w
  unfold z0R at h
  rw[hr,her]at h
  exact h
 have herr:er≠0->r=Rec.nil:=fun h=>by rw[<-hr];exact(z6Y n t (by rw[her];exact h)).1
 rw[hrec]
 have HS:=Lib.hid hs
 have HDD:=Lib.hid hD
 have HK:=Lib.hid hk
 have HT:=Lib.hid ht
 have HU:=Lib.hid hunp
 clear hhas hr her hrec hunp hs hD hk ht
 by_cases he:er=0
 ·subst he
  clear herr
  go_enter Tryz.func94,Tryz.ntmps94
  have c0:=(Ob.alloc HS.out (.cells #[.bool false,.int .i64 0,.int .i64 0,.int .i64 0,.string ⟨#[]⟩,.bool false,.int .i64 0,.int .i64 0,.int .i64 0,.string ⟨#[]⟩] 54)).cell 0 _ rfl
  go_wp2_with (first
   |(go_at_call 138;refine(z3S n (Ob.alloc HS.out _)).mono ?_;rintro e w' ⟨rfl,rfl⟩;rw[HHAS.out])
   |(go_at_call 139;refine(z7C n k d (HK.out▸HDD.out.ob.alloc _) (HDD.out.row.alloc _) (((Below.heap_alloc w _ _ HDD.out.ml)).trans HDD.out.map) (by assumption) HK.out HDD.out.sz).mono ?_;rintro e w1 ⟨rfl,hb1⟩;rw[HT.out];obtain⟨xs1,d1,rfl⟩:=zk hb1;clear hb1)
   |(go_at_call 40;refine(HU.out _).mono ?_;rintro e w2 ⟨rfl,hb2⟩;obtain⟨xs2,d2,rfl⟩:=zk hb2;clear hb2))
  refine bodyPost_ret (v:=.tuple #[.agg #[.bool r.used,.int .i64 r.fence,.int .i64 r.de,.int .i64 r.ds,.string r.block,.bool r.opn,.int .i64 r.ie,.int .i64 r.iq,.int .i64 r.mask,.string r.staged],.int .i64 0]) (by simp[results,Tryz.results94,go_sem]) rfl ⟨rfl, ?_⟩
  repeat (first|exact Below.refl _ _|refine j5 ?_|refine za ?_ _|refine Below.drew ?_)
 ·obtain rfl:=herr he
  have hne:(er !=0)=true:=by simpa using he
  clear he herr
  go_enter Tryz.func94,Tryz.ntmps94
  have c0:=(Ob.alloc HS.out (.cells #[.bool false,.int .i64 0,.int .i64 0,.int .i64 0,.string ⟨#[]⟩,.bool false,.int .i64 0,.int .i64 0,.int .i64 0,.string ⟨#[]⟩] 54)).cell 0 _ rfl
  go_wp2_with (first
   |(go_at_call 138;refine(z3S n (Ob.alloc HS.out _)).mono ?_;rintro e w' ⟨rfl,rfl⟩;rw[HHAS.out])
   |(go_at_call 139;refine(z7C n k d (HK.out▸HDD.out.ob.alloc _) (HDD.out.row.alloc _) (((Below.heap_alloc w _ _ HDD.out.ml)).trans HDD.out.map) (by assumption) HK.out HDD.out.sz).mono ?_;rintro e w1 ⟨rfl,hb1⟩;rw[HT.out];obtain⟨xs1,d1,rfl⟩:=zk hb1;clear hb1)
   |(go_at_call 40;refine(HU.out _).mono ?_;rintro e w2 ⟨rfl,hb2⟩;obtain⟨xs2,d2,rfl⟩:=zk hb2;clear hb2))
  refine bodyPost_ret (v:=.tuple #[.agg #[.bool false,.int .i64 0,.int .i64 0,.int .i64 0,.string ⟨#[]⟩,.bool false,.int .i64 0,.int .i64 0,.int .i64 0,.string ⟨#[]⟩],.int .i64 0]) (by simp[results,Tryz.results94,go_sem]) rfl ⟨rfl, ?_⟩
  repeat (first|exact Below.refl _ _|refine j5 ?_|refine za ?_ _|refine Below.drew ?_)
theorem zah:(Tryz.prog.info? 54).map (·.size)=some 10:=by kernel_rfl
theorem zg6 (x:Int) (r:Rec):(z2N x r).size=64:=by
 unfold z2N zmI z1l
 rw[z1w]
 simp[z3R,z10,zbG]
def setD (d:List ByteArray) (n:Nat) (r:Rec):List ByteArray:=if z1B n r then d.set n (z2N n r)else d
theorem z7i (d:List ByteArray) (n:Nat) (r:Rec):(setD d n r).length=d.length:=by
 unfold setD
 split<;>simp
theorem z95 (n:Nat) (r:Rec) (hs:z0O w own κs s p k) (hd:jv w own κ p d) (hk:d.length=k) (hn:n<k) (hb:r.block.size<=9223372036854775807) (hg:r.staged.size<=9223372036854775807):
  Calls Tryz.prog 96 #[.pointer (some ⟨s,0,none⟩),.int .i64 n,.agg #[.bool r.used,.int .i64 r.fence,.int .i64 r.de,.int .i64 r.ds,.string r.block,.bool r.opn,.int .i64 r.ie,.int .i64 r.iq,.int .i64 r.mask,.string r.staged]] w fun e w'=>
   e= .returned (.int .i64 (z4v n r))/\jv w' own κ p (setD d n r)/\Mod own (fun c=>c=κ) w w':=by
 obtain⟨m,g,acts,clock,hD⟩:=hd
 have hhas:(decide ((0:Int)<=(n:Int))&&decide ((n:Int)<(k:Int)))=true:=by simp;exact hn
 have HHAS:=Lib.hid hhas
 obtain⟨t,ht⟩:∃t,zdG n r=t:=⟨_,rfl⟩
 obtain⟨er,her⟩:∃er,z4v n r=er:=⟨_,rfl⟩
 have hpk:∀w,Calls Tryz.prog 76 #[.int .i64 n,.agg #[.bool r.used,.int .i64 r.fence,.int .i64 r.de,.int .i64 r.ds,.string r.block,.bool r.opn,.int .i64 r.ie,.int .i64 r.iq,.int .i64 r.mask,.string r.staged]] w fun e w'=>e= .returned (.tuple #[.string t,.int .i64 er])/\Below w.heap.size w w':=fun w=>by
  have h:=z1r n r w hb hg
  rw[zeK,ht,her]at h
  exact h
 have HS:=Lib.hid hs
 have HDD:=Lib.hid hD
 have HK:=Lib.hid hk
 have HPK:=Lib.hid hpk
 rw[her]
 by_cases hok:z1B n r=true
 ·have hset:setD d n r=d.set n t:=by unfold setD;rw[if_pos hok,<-ht];unfold zdG;rw[if_pos hok]
  have he0:er=0:=by rw[<-her];unfold z4v;rw[if_pos hok]
  have h64:t.size=64:=by rw[<-ht];unfold zdG;rw[if_pos hok];exact zg6 n r
  subst he0
  rw[hset]
  have H64:=Lib.hid h64
  clear hhas hs hD hk hpk hok hset her ht hb hg h64
  go_enter Tryz.func96,Tryz.ntmps96
  go_upto_region 1 with fail
  obtain⟨w0,hw0⟩:∃w0,w0=w.alloc (.cells #[.bool r.used,.int .i64 r.fence,.int .i64 r.de,.int .i64 r.ds,.string r.block,.bool r.opn,.int .i64 r.ie,.int .i64 r.iq,.int .i64 r.mask,.string r.staged] 54):=⟨_,rfl⟩
  have HS0:=Lib.hid (show z0O w0 own κs s p k by rw[hw0];exact Ob.alloc HS.out _)
  have HD0:=Lib.hid (show DiskP w0 own κ p m g d acts clock by rw[hw0];exact HDD.out.same (zcO.ofBelow (za (Below.refl _ _) _)) (Ext.refl _ _))
  have HM0:=Lib.hid (show Mod own (fun c=>c=κ) w w0 by rw[hw0];exact(Mod.refl _ _ _).alloc _)
  have hr0:w0.rangeAt w.heap.size 0 [.bool r.used,.int .i64 r.fence,.int .i64 r.de,.int .i64 r.ds,.string r.block,.bool r.opn,.int .i64 r.ie,.int .i64 r.iq,.int .i64 r.mask,.string r.staged]:=by rw[hw0];exact zi2 w [.bool r.used,.int .i64 r.fence,.int .i64 r.de,.int .i64 r.ds,.string r.block,.bool r.opn,.int .i64 r.ie,.int .i64 r.iq,.int .i64 r.mask,.string r.staged] _
  have HR0:=Lib.hid hr0
  rw[<-hw0]
  clear hr0 hw0
  have s0:=(Ob.cell HS0.out 0 _ rfl)
  go_upto_region 4 with(first
   |(refine wpList_load_mid rfl 54 (.tmp 5) rfl w.heap.size 0 rfl _ _ HR0.out Tryz.underlying54 rfl zah ?_)
   |(go_at_call 138;refine(z3S n HS0.out).mono ?_;rintro e w' ⟨rfl,rfl⟩;rw[HHAS.out])
   |(go_at_call 76;refine(HPK.out _).mono ?_;rintro e w1 ⟨rfl,hb1⟩;have HS1:=Lib.hid (Ob.below HS0.out hb1);have HD1:=Lib.hid (HD0.out.same (zcO.ofBelow hb1) (Ext.refl _ _));have HM1:=Lib.hid (HM0.out.below hb1);clear hb1;have s1:=HS1.out.cell 0 _ rfl))
  go_upto_region 7 with(go_at_call 141;refine(zbu n t _ k k (HK.out▸HD1.out.ob) HD1.out.map HD1.out.pm (by assumption) H64.out).mono ?_;rintro e w2 ⟨rfl,ho2,hm2,hmod2⟩;have HO2:=Lib.hid ho2;have HMAP2:=Lib.hid hm2;have HMOD2:=Lib.hid hmod2;clear ho2 hm2 hmod2)
  have hg2:Ob w2 own κ g 149 (z3f d):=⟨(HMOD2.out.block g HD1.out.row.lt (by rintro(e|e);exact HD1.out.pg e.symm;exact HD1.out.gm e)).trans HD1.out.row.1,HD1.out.row.2⟩
  have hs2:z0O w2 own κs s p k:=⟨(HMOD2.out.block s HS1.out.lt (by rintro(e|e);exact HS1.out.ne HD1.out.ob (by decide) e;exact HS1.out.ne_map HD1.out.map e)).trans HS1.out.1,HS1.out.2⟩
  have HG2:=Lib.hid hg2
  have s2:=Ob.cell hs2 0 _ rfl
  have hdz:=HD1.out.sz
  have HDZ:=Lib.hid hdz
  clear hg2 hs2 hdz
  go_wp2_with (go_at_call 142;refine(zbE n k t d HO2.out HG2.out HMAP2.out HD1.out.pm HD1.out.pg HD1.out.gm (by assumption) H64.out HK.out HDZ.out).mono ?_;rintro e w3 ⟨rfl,ho3,hg3,hm3,hmod3⟩;have HO3:=Lib.hid ho3;have HG3:=Lib.hid hg3;have HMAP3:=Lib.hid hm3;have HMOD3:=Lib.hid hmod3;clear ho3 hg3 hm3 hmod3)
  go_ret
  have hob3:=HO3.out
  have hsz3:∀x∈d.set n t,x.size=64:=by
   intro x hx
   rcases List.mem_or_eq_of_mem_set hx with h|h
   ·exact HDZ.out x h
   ·rw[h];exact H64.out
  have hlk:(d.set n t).length=k:=by rw[List.length_set];exact HK.out
  refine⟨rfl,⟨m,g,_,_,⟨(by rw[hlk];exact hob3),HG3.out,HMAP3.out,HD1.out.col,hsz3⟩⟩, ?_⟩
  ·have h2:Mod own (fun c=>c=κ) w1 w2:=HD1.out.mod (HMOD2.out.mono (fun b hb=>hb.elim .inl (fun e=>.inr (.inl e))))
   have h3:Mod own (fun c=>c=κ) w2 w3:=⟨HMOD3.out.os,HMOD3.out.tape,HMOD3.out.output,HMOD3.out.size,fun j hj hC=>HMOD3.out.block j hj (by
    rintro(e|e|e)
    ·exact hC (by rw[show j=p from e];exact HD1.out.ob.2)
    ·exact hC (by rw[show j=m from e];exact HD1.out.col)
    ·exact hC (by rw[show j=g from e];exact HD1.out.row.2))⟩
   exact(HM1.out.trans h2 (Ext.refl _ _)).trans h3 (Ext.refl _ _)
 ·have hset:setD d n r=d:=by unfold setD;rw[if_neg hok]
  have he0:er=80:=by rw[<-her];unfold z4v;rw[if_neg hok]
  subst he0
  rw[hset]
  clear hhas hs hD hk hpk hok hset her ht hb hg
  go_enter Tryz.func96,Tryz.ntmps96
  go_upto_region 1 with fail
  obtain⟨w0,hw0⟩:∃w0,w0=w.alloc (.cells #[.bool r.used,.int .i64 r.fence,.int .i64 r.de,.int .i64 r.ds,.string r.block,.bool r.opn,.int .i64 r.ie,.int .i64 r.iq,.int .i64 r.mask,.string r.staged] 54):=⟨_,rfl⟩
  have HS0:=Lib.hid (show z0O w0 own κs s p k by rw[hw0];exact Ob.alloc HS.out _)
  have HB0:=Lib.hid (show Below w.heap.size w w0 by rw[hw0];exact za (Below.refl _ _) _)
  have hr0:w0.rangeAt w.heap.size 0 [.bool r.used,.int .i64 r.fence,.int .i64 r.de,.int .i64 r.ds,.string r.block,.bool r.opn,.int .i64 r.ie,.int .i64 r.iq,.int .i64 r.mask,.string r.staged]:=by rw[hw0];exact zi2 w [.bool r.used,.int .i64 r.fence,.int .i64 r.de,.int .i64 r.ds,.string r.block,.bool r.opn,.int .i64 r.ie,.int .i64 r.iq,.int .i64 r.mask,.string r.staged] _
  have HR0:=Lib.hid hr0
  rw[<-hw0]
  clear hr0 hw0
  go_wp2_with (first
   |(refine wpList_load_mid rfl 54 (.tmp 5) rfl w.heap.size 0 rfl _ _ HR0.out Tryz.underlying54 rfl zah ?_)
   |(go_at_call 138;refine(z3S n HS0.out).mono ?_;rintro e w' ⟨rfl,rfl⟩;rw[HHAS.out])
   |(go_at_call 76;refine(HPK.out _).mono ?_;rintro e w1 ⟨rfl,hb1⟩;have HB1:=Lib.hid (zw HB0.out hb1);clear hb1))
  go_ret
  exact⟨rfl,⟨m,g,acts,clock,HDD.out.same (zcO.ofBelow HB1.out) (Ext.refl _ _)⟩,Mod.ofBelow HB1.out⟩
end
end
def zhT:Array Value:=(zx (List.replicate 64 (0:UInt8))).toArray
theorem zkl:(Tryz.prog.info? 149).map (fun i=>(i.zero,i.size,i.bytes))=some (some (.agg zhT),64,64):=by kernel_rfl
theorem z8d (n:Nat):zx (List.replicate n 0)=List.replicate n (.int .u8 0):=by simp[zx]
theorem zcj:∀k:Nat,z3f (List.replicate k z1f)=List.replicate (k*64) (.int .u8 0)
 |0=>rfl
 |k+1=>by
  rw[List.replicate_succ,z3L,zcj k]
  have e:z1f.data.toList=List.replicate 64 0:=by simp[z1f]
  rw[e,z8d,List.replicate_append_replicate]
  congr 1
  omega
theorem zkS (k:Nat):(madeCells (Value.agg zhT).cells (k*64)).toList=z3f (List.replicate k z1f):=by
 rw[zcj]
 apply List.eq_replicate_iff.2
 refine⟨by simp[madeCells], ?_⟩
 intro v hv
 simp only[madeCells,Value.cells,Array.toList_map,List.mem_map]at hv
 obtain⟨i,_,rfl⟩:=hv
 have hs:zhT.size=64:=by simp[zhT,ye]
 have hl:i % zhT.size<zhT.size:=Nat.mod_lt _ (by omega)
 rw[getElem!_pos zhT _ hl]
 have e:zhT=(List.replicate 64 (Value.int .u8 0)).toArray:=by unfold zhT;rw[z8d]
 have h2:∀(n:Nat) (a:Array Value) (_:a=(List.replicate n (Value.int .u8 0)).toArray) (j:Nat) (hj:j<a.size),a[j]= .int .u8 0:=by
  intro n a h j hj
  subst h
  simp
 exact h2 64 zhT e _ hl
theorem zdq (k:Nat) (hk:k<=64):∃cs:Array Value,cs.toList=z3f (List.replicate k z1f)/\∀W:World,(Instr.makeSlice 144 (.int .i64 (k:Int)) (.int .i64 (k:Int))).run Tryz.prog W= .ok (.slice (some ⟨W.heap.size,0,none⟩) k k) (W.alloc (.cells cs 149)):=by
 obtain⟨i8,hi,hz,hs,hb⟩:=info_parts zkl
 refine⟨_,zkS k,fun W=>?_⟩
 have hr:=run_make (P:=Tryz.prog) W 144 149 i8 (.agg zhT) Tryz.underlying144 hi hz .i64 .i64 k k (by omega) (by omega) (by rw[hb];omega) (by omega)
 rw[hr,hs]
 simp only[Int.toNat_natCast]
def z6R (k:Nat):List ByteArray:=List.replicate k z1f
theorem zcT:z1f.size=64:=by simp[z1f,ByteArray.size]
theorem z6P {w:World} {b:Nat} {o:Obj} (hb:b=w.heap.size):(w.alloc o).heap[b]?=some o:=by
 subst hb
 show(w.heap.push _)[w.heap.size]?=_
 simp
theorem zg5 (k:Nat) (own:Nat->Nat) (κ:Nat) (w:World) (h1:1<=k) (h8:k<=8):
  Calls Tryz.prog 46 #[.int .i64 k] w fun e w'=>e= .returned (.tuple #[.pointer (some ⟨w.heap.size+2,0,none⟩),.int .i64 0])/\jv w' (dye own w.heap.size w'.heap.size κ) κ (w.heap.size+2) (z6R k)/\Below w.heap.size w w'/\w'.heap.size=w.heap.size+3:=by
 obtain⟨cs,hcs,hmk⟩:=zdq k (by omega)
 have hmm:= @run_makeMap Tryz.prog
 have i1:(1:Int)<=(k:Int):=by omega
 have i8:(k:Int)<=64:=by omega
 have HCS:=Lib.hid hcs
 clear hcs h8
 go_enter Tryz.func46,Tryz.ntmps46
 go_wp2
 go_ret2
 refine⟨rfl,⟨w.heap.size+1,w.heap.size,0,0, ?_, ?_, ?_, ?_, ?_⟩,za (za (za (Below.refl _ _) _) _) _,by simp⟩
 ·refine Ob.ofNew own κ _ (a:=#[.slice (some ⟨w.heap.size,0,none⟩) k k,.map (some (w.heap.size+1)),.bool false,.int .i64 0,.int .i64 0]) ?_ (by simp[z3p,z6R]) (by omega) (by simp)
  exact z6P (by simp)
 ·refine Ob.ofNew own κ _ (a:=cs) ?_ HCS.out (Nat.le_refl _) (by simp only[World.size_alloc];omega)
  exact(Below.heap_alloc _ _ _ (by simp only[World.size_alloc];omega)).trans ((Below.heap_alloc _ _ _ (by simp)).trans (z6P rfl))
 ·exact(Below.heap_alloc _ _ _ (by simp)).trans (z6P (by simp))
 ·exact zlv (by omega) (by simp)
 ·intro x hx
  rw[List.eq_of_mem_replicate hx]
  exact zcT
section
def zf9 (w:World) (own:Nat->Nat) (κ q p k:Nat):Prop:=∃s,Ob w own κ q 165 [.pointer (some ⟨s,0,none⟩),.int .i64 k]/\z0O w own κ s p k
section
variable {w w':World} {own own':Nat->Nat} {κ κs q s p k:Nat} {d:List ByteArray}
theorem z0O.same (h:z0O w own κ s p k) (hs:zcO κ w own w') (he:Ext w own own'):z0O w' own' κ s p k:=Ob.same h hs he
theorem zf9.same (h:zf9 w own κ q p k) (hs:zcO κ w own w') (he:Ext w own own'):zf9 w' own' κ q p k:=by
 obtain⟨s,h1,h2⟩:=h
 exact⟨s,h1.same hs he,h2.same hs he⟩
def zhf:ByteArray:=⟨(List.replicate 16 0).toArray⟩
def zln:Rec:=⟨true,0,0,0,zhf,false,0,0,0,noB⟩
theorem zdH (i:Nat) (h:i<8):z1B i zln=true:=by
 have hr:jg zln=true:=by decide
 unfold z1B
 rw[hr]
 simp
 omega
def zeV (d:List ByteArray):Nat->List ByteArray
 |0=>d
 |i+1=>setD (zeV d i) i zln
theorem z4A (d:List ByteArray):∀i,(zeV d i).length=d.length
 |0=>rfl
 |i+1=>by rw[zeV,z7i,z4A d i]
theorem z9Z (hs:z0O w own κs s p k) (hd:jv w own κ p d) (hk:d.length=k) (h8:k<=8) (ht:Tidy w own) (h0:κ≠0) (hκ:κs≠κ):
  Calls Tryz.prog 79 #[.pointer (some ⟨s,0,none⟩)] w fun e w'=>e= .returned (.int .i64 0)/\jv w' own κ p (zeV d k)/\Mod own (fun c=>c=κ) w w':=by
 have hrep:∀w,Calls Tryz.prog 74 #[.string ⟨#[0]⟩,.int .i64 16] w fun e w'=>e= .returned (.string zhf)/\Below w.heap.size w w':=fun w=>z6e 16 w (by omega)
 have HREP:=Lib.hid hrep
 have HS:=Lib.hid hs
 have HD:=Lib.hid hd
 have HK:=Lib.hid hk
 have HT:=Lib.hid ht
 clear hs hd hk ht hrep
 go_enter Tryz.func79,Tryz.ntmps79
 go_upto_region 2 with(go_at_call 74;refine(HREP.out _).mono ?_;rintro e w1 ⟨rfl,hb1⟩;have HB1:=Lib.hid hb1;clear hb1)
 obtain⟨w2,hw2⟩:∃w2,w2=w1.alloc (.cells #[.bool true,.int .i64 0,.int .i64 0,.int .i64 0,.string zhf,.bool false,.int .i64 0,.int .i64 0,.int .i64 0,.string ⟨#[]⟩] 54):=⟨_,rfl⟩
 rw[<-hw2]
 have hb2:Below w.heap.size w w2:=by rw[hw2];exact za HB1.out _
 have hbx:Ob w2 own 0 w1.heap.size 54 zln.cells:=⟨by rw[hw2];exact z6P rfl,HT.out _ HB1.out.size⟩
 have HBX:=Lib.hid hbx
 have hs2:z0O w2 own κs s p k:=Ob.below HS.out hb2
 have hd2:jv w2 own κ p d:=HD.out.same (zcO.ofBelow hb2) (Ext.refl _ _)
 have HS2:=Lib.hid hs2
 have HD2:=Lib.hid hd2
 have HM2:=Lib.hid (show Mod own (fun c=>c=κ) w w2 from Mod.ofBelow hb2)
 have c1:=Ob.cell hs2 1 _ rfl
 clear hw2 hb2 hbx hs2 hd2
 go_wp2
 go_loopw [12] (fun t wr=>∃i:Nat,i<=k/\t= .int .i64 i/\Ob wr own 0 w1.heap.size 54 zln.cells/\z0O wr own κs s p k/\jv wr own κ p (zeV d i)/\Mod own (fun c=>c=κ) w wr) (fun t _=>k-(intOf t).toNat)
 case atStart=>exact⟨0,Nat.zero_le _,rfl,HBX.out,HS2.out,HD2.out,HM2.out⟩
 case round=>
  obtain⟨i,hi,rfl,hbx,hs,hd,hm⟩:=hrel
  have HBX':=Lib.hid hbx
  have HS':=Lib.hid hs
  have HD':=Lib.hid hd
  have HM':=Lib.hid hm
  clear hbx hs hd hm
  by_cases hlt:i<k
  ·have hpe:z4v i zln=0:=by unfold z4v;rw[if_pos (zdH i (by omega))]
   have HPE:=Lib.hid hpe
   clear hpe
   go_wp2_with (first
    |(refine wpList_load_mid rfl 54 (.tmp 3) rfl w1.heap.size 0 rfl zln.cells _ (fun j u h=>(by rw[Nat.zero_add];exact HBX'.out.cell j u h)) Tryz.underlying54 rfl zah ?_)
    |(go_at_call 96;refine(z95 i zln HS'.out HD'.out ((z4A d i).trans HK.out) hlt (by decide) (by decide)).mono ?_;rintro e w3 ⟨rfl,hd3,hm3⟩;rw[HPE.out];have HD3:=Lib.hid hd3;have HM3:=Lib.hid hm3;clear hd3 hm3))
   go_roundw
   case rel=>
    exact⟨i+1,by omega,by go_num,HBX'.out.same (HM3.out.same (Ne.symm h0)) (Ext.refl _ _),HS'.out.same (HM3.out.same hκ) (Ext.refl _ _),HD3.out,HM'.out.trans HM3.out (Ext.refl _ _)⟩
   case measure=>simp[intOf];omega
  ·obtain rfl:i=k:=by omega
   clear hi
   go_wp2
   go_ret
   exact⟨rfl,HD'.out,HM'.out⟩
theorem zax (hs:zf9 w own κs q p k) (hd:jv w own κ p d) (hk:d.length=k) (h8:k<=8) (ht:Tidy w own) (h0:κ≠0) (hκ:κs≠κ):
  Calls Tryz.prog 48 #[.pointer (some ⟨q,0,none⟩)] w fun e w'=>e= .returned (.int .i64 0)/\jv w' own κ p (zeV d k)/\Mod own (fun c=>c=κ) w w':=by
 obtain⟨s,hq,hs⟩:=hs
 have c0:=hq.cell 0 _ rfl
 have HC:=Lib.hid (fun(_:True)=>z9Z hs hd hk h8 ht h0 hκ)
 clear hs hd hk ht hq
 go_enter Tryz.func48,Tryz.ntmps48
 go_wp2_with (go_at_call 79;refine(HC.out trivial).mono ?_;rintro e w3 ⟨rfl,hd3,hm3⟩;have HD3:=Lib.hid hd3;have HM3:=Lib.hid hm3;clear hd3 hm3)
 go_ret
 exact⟨rfl,HD3.out,HM3.out⟩
end
end
section
structure LeaseM where
 ep:Int
 holder:Int
 til:Int
 out:Int
def LeaseM.cells (l:LeaseM):List Value:=[.int .i64 l.ep,.int .i64 l.holder,.int .i64 l.til,.int .i64 l.out]
theorem LeaseM.cells_length (l:LeaseM):l.cells.length=4:=rfl
theorem Mod.drewN {w w':World} {own:Nat->Nat} {C:Nat->Prop} (h:Mod own C w w') (n:Nat):Mod own C w (w'.drewN n):=⟨h.os,h.tape,h.output,h.size,h.block⟩
def z1D (l:LeaseM) (now frm:Int):LeaseM×Int:=
 if l.holder≠0/\l.holder≠frm/\now<l.til then(l,7)
 else if l.ep=16777215 then(l,6)
 else(⟨wrap64 (l.ep+1),frm,wrap64 (now+30),l.out⟩,1)
def zbJ (l:LeaseM) (now frm ep node:Int):LeaseM×Int:=
 if l.holder≠frm\/l.ep≠ep then(l,2)
 else if l.out≠-1/\l.out≠node then(l,4)
 else if l.ep=16777215 then(l,6)
 else(⟨wrap64 (l.ep+1),l.holder,wrap64 (now+30),node⟩,1)
def inL (l:LeaseM) (frm ep:Int):LeaseM×Int:=
 if l.holder≠frm\/l.ep≠ep then(l,2)else(⟨l.ep,l.holder,l.til,-1⟩,1)
section
variable {w w':World} {own own':Nat->Nat} {κ g:Nat} {t:TypeId} {ls:List LeaseM}
theorem zce (i:Nat) (l:LeaseM) (now frm:Int) (h:Ob w own κ g t (zd LeaseM.cells ls)) (hi:ls[i]?=some l):
  Calls Tryz.prog 134 #[.pointer (some ⟨g,i*4,none⟩),.int .i64 now,.int .i64 frm] w fun e w'=>e= .returned (.int .i64 (z1D l now frm).2)/\Ob w' own κ g t (zd LeaseM.cells (ls.set i (z1D l now frm).1))/\Mod id (fun b=>b=g) w w':=by
 have c0:=h.field LeaseM.cells_length hi 0 _ rfl
 have c1:=h.field LeaseM.cells_length hi 1 _ rfl
 have c2:=h.field LeaseM.cells_length hi 2 _ rfl
 have f0:=h.free (i*4+0)
 have f1:=h.free (i*4+1)
 have f2:=h.free (i*4+2)
 simp only[Nat.add_zero]at c0 f0
 have hset:ls.set i l=ls:=by
  obtain⟨hlt,rfl⟩:=List.getElem?_eq_some_iff.1 hi
  exact List.set_getElem_self hlt
 have HH:=Lib.hid h
 have HI:=Lib.hid hi
 have HSET:=Lib.hid hset
 clear h hi hset
 by_cases hh:l.holder≠0/\l.holder≠frm/\now<l.til
 ·have hv:z1D l now frm=(l,7):=by unfold z1D;rw[if_pos hh]
  rw[hv]
  obtain⟨h1,h2,h3⟩:=hh
  have b1:(l.holder !=0)=true:=by simpa using h1
  have b2:(l.holder !=frm)=true:=by simpa using h2
  clear hv h1 h2
  go_enter Tryz.func134,Tryz.ntmps134
  go_wp2
  go_ret
  exact⟨rfl,by rw[HSET.out];exact HH.out,Mod.refl _ _ _⟩
 ·have hc:(l.holder !=0)=false\/(l.holder !=0)=true/\(l.holder !=frm)=false\/(l.holder !=0)=true/\(l.holder !=frm)=true/\l.til<=now:=by
   by_cases h1:l.holder=0
   ·exact .inl (by simpa using h1)
   ·by_cases h2:l.holder=frm
    ·exact .inr (.inl ⟨by simpa using h1,by simpa using h2⟩)
    ·refine .inr (.inr ⟨by simpa using h1,by simpa using h2, ?_⟩)
     by_cases h3:now<l.til
     ·exact absurd ⟨h1,h2,h3⟩ hh
     ·omega
  by_cases he:l.ep=16777215
  ·have hv:z1D l now frm=(l,6):=by unfold z1D;rw[if_neg hh,if_pos he]
   have b0:(l.ep==16777215)=true:=by simpa using he
   rw[hv]
   clear hv hh he
   rcases hc with b1|⟨b1,b2⟩|⟨b1,b2,b3⟩
   all_goals
    go_enter Tryz.func134,Tryz.ntmps134
    go_wp2
    go_ret
    exact⟨rfl,by rw[HSET.out];exact HH.out,Mod.refl _ _ _⟩
  ·have hv:z1D l now frm=(⟨wrap64 (l.ep+1),frm,wrap64 (now+30),l.out⟩,1):=by unfold z1D;rw[if_neg hh,if_neg he]
   have b0:(l.ep==16777215)=false:=by simpa using he
   have h1:=HH.out.setField LeaseM.cells_length HI.out (j:=0) (v:=.int .i64 (wrap64 (l.ep+1))) (y:=⟨wrap64 (l.ep+1),l.holder,l.til,l.out⟩) (by omega) rfl
   have hi1:(ls.set i ⟨wrap64 (l.ep+1),l.holder,l.til,l.out⟩)[i]?=some ⟨wrap64 (l.ep+1),l.holder,l.til,l.out⟩:=List.getElem?_set_self (List.getElem?_eq_some_iff.1 HI.out).1
   have h2:=h1.setField LeaseM.cells_length hi1 (j:=1) (v:=.int .i64 frm) (y:=⟨wrap64 (l.ep+1),frm,l.til,l.out⟩) (by omega) rfl
   rw[List.set_set]at h2
   have hi2:(ls.set i ⟨wrap64 (l.ep+1),frm,l.til,l.out⟩)[i]?=some ⟨wrap64 (l.ep+1),frm,l.til,l.out⟩:=List.getElem?_set_self (List.getElem?_eq_some_iff.1 HI.out).1
   have h3:=h2.setField LeaseM.cells_length hi2 (j:=2) (v:=.int .i64 (wrap64 (now+30))) (y:=⟨wrap64 (l.ep+1),frm,wrap64 (now+30),l.out⟩) (by omega) rfl
   rw[List.set_set,Nat.add_zero]at h3
   rw[hv]
   have H3:=Lib.hid h3
   clear hv hh he h1 h2 h3 hi1 hi2
   rcases hc with b1|⟨b1,b2⟩|⟨b1,b2,b3⟩
   all_goals
    go_enter Tryz.func134,Tryz.ntmps134
    go_wp2
    go_ret
    exact⟨rfl,H3.out,by refine Mod.setCell (Mod.setCell (Mod.setCell (Mod.refl _ _ _) _ _ ?_) _ _ ?_) _ _ ?_<;>exact fun _=>rfl⟩
theorem zgz (i:Nat) (l:LeaseM) (now frm:Int) (qk qst qe qs qm qn oe oq:Int) (qb:ByteArray) (h:Ob w own κ g t (zd LeaseM.cells ls)) (hi:ls[i]?=some l):
  Calls Tryz.prog 135 #[.pointer (some ⟨g,i*4,none⟩),.int .i64 now,.int .i64 frm,.agg #[.int .i64 qk,.int .i64 qst,.int .i64 qe,.int .i64 qs,.int .i64 qm,.int .i64 qn,.int .i64 oe,.int .i64 oq,.string qb]] w fun e w'=>e= .returned (.int .i64 (zbJ l now frm qe qn).2)/\Ob w' own κ g t (zd LeaseM.cells (ls.set i (zbJ l now frm qe qn).1))/\Mod id (fun b=>b=g) w w':=by
 obtain⟨w0,hw0⟩:∃w0,w0=w.alloc (.cells #[.int .i64 qk,.int .i64 qst,.int .i64 qe,.int .i64 qs,.int .i64 qm,.int .i64 qn,.int .i64 oe,.int .i64 oq,.string qb] 110):=⟨_,rfl⟩
 have hgl:=h.lt
 have c0:=h.field LeaseM.cells_length hi 0 _ rfl
 have c1:=h.field LeaseM.cells_length hi 1 _ rfl
 have c3:=h.field LeaseM.cells_length hi 3 _ rfl
 have f0:=h.free (i*4+0)
 have f2:=h.free (i*4+2)
 have f3:=h.free (i*4+3)
 have c2:=h.field LeaseM.cells_length hi 2 _ rfl
 simp only[Nat.add_zero]at c0 f0
 have hset:ls.set i l=ls:=by
  obtain⟨hlt,rfl⟩:=List.getElem?_eq_some_iff.1 hi
  exact List.set_getElem_self hlt
 have HH:=Lib.hid (h.alloc (.cells #[.int .i64 qk,.int .i64 qst,.int .i64 qe,.int .i64 qs,.int .i64 qm,.int .i64 qn,.int .i64 oe,.int .i64 oq,.string qb] 110))
 have HI:=Lib.hid hi
 have HSET:=Lib.hid hset
 have hne:g≠w.heap.size:=by omega
 clear h hi hset hw0 w0
 by_cases hh:l.holder≠frm\/l.ep≠qe
 ·have hv:zbJ l now frm qe qn=(l,2):=by unfold zbJ;rw[if_pos hh]
  have hc:(l.holder !=frm)=true\/(l.holder !=frm)=false/\(l.ep !=qe)=true:=by
   by_cases h1:l.holder=frm
   ·refine .inr ⟨by simpa using h1, ?_⟩
    rcases hh with h2|h2
    ·exact absurd h1 h2
    ·simpa using h2
   ·exact .inl (by simpa using h1)
  rw[hv]
  clear hv hh
  rcases hc with b1|⟨b1,b2⟩
  all_goals
   go_enter Tryz.func135,Tryz.ntmps135
   go_wp2
   go_quiet (fail)
   go_wp2
   go_ret
   refine⟨rfl,by rw[HSET.out];exact HH.out, ?_⟩
   first|exact((Mod.refl _ _ _).alloc _).drewN _|exact(((Mod.refl _ _ _).alloc _).drewN _).drewN _
 ·have b1:(l.holder !=frm)=false:=by simp;exact Classical.byContradiction fun h=>hh (.inl h)
  have b2:(l.ep !=qe)=false:=by simp;exact Classical.byContradiction fun h=>hh (.inr h)
  by_cases ho:l.out≠-1/\l.out≠qn
  ·have hv:zbJ l now frm qe qn=(l,4):=by unfold zbJ;rw[if_neg hh,if_pos ho]
   have b3:(l.out != -1)=true:=by simpa using ho.1
   have b4:(l.out !=qn)=true:=by simpa using ho.2
   rw[hv]
   clear hv hh ho
   go_enter Tryz.func135,Tryz.ntmps135
   go_wp2
   go_quiet (fail)
   go_wp2
   go_quiet (fail)
   go_wp2
   go_ret
   refine⟨rfl,by rw[HSET.out];exact HH.out, ?_⟩
   first|exact((Mod.refl _ _ _).alloc _).drewN _|exact(((Mod.refl _ _ _).alloc _).drewN _).drewN _
  ·have hc:(l.out != -1)=false\/(l.out != -1)=true/\(l.out !=qn)=false:=by
    by_cases h1:l.out= -1
    ·exact .inl (by simpa using h1)
    ·refine .inr ⟨by simpa using h1, ?_⟩
     simp
     exact Classical.byContradiction fun h=>ho ⟨h1,h⟩
   by_cases he:l.ep=16777215
   ·have hv:zbJ l now frm qe qn=(l,6):=by unfold zbJ;rw[if_neg hh,if_neg ho,if_pos he]
    have b0:(l.ep==16777215)=true:=by simpa using he
    rw[hv]
    clear hv hh he ho
    rcases hc with b3|⟨b3,b4⟩
    all_goals
     go_enter Tryz.func135,Tryz.ntmps135
     go_wp2
     go_quiet (fail)
     go_wp2
     go_quiet (fail)
     go_wp2
     go_ret
     refine⟨rfl,by rw[HSET.out];exact HH.out, ?_⟩
     first|exact((Mod.refl _ _ _).alloc _).drewN _|exact(((Mod.refl _ _ _).alloc _).drewN _).drewN _
   ·have hv:zbJ l now frm qe qn=(⟨wrap64 (l.ep+1),l.holder,wrap64 (now+30),qn⟩,1):=by unfold zbJ;rw[if_neg hh,if_neg ho,if_neg he]
    have b0:(l.ep==16777215)=false:=by simpa using he
    have hlt:=(List.getElem?_eq_some_iff.1 HI.out).1
    have h1:=HH.out.setField LeaseM.cells_length HI.out (j:=3) (v:=.int .i64 qn) (y:=⟨l.ep,l.holder,l.til,qn⟩) (by omega) rfl
    have h2:=h1.setField LeaseM.cells_length (List.getElem?_set_self hlt) (j:=0) (v:=.int .i64 (wrap64 (l.ep+1))) (y:=⟨wrap64 (l.ep+1),l.holder,l.til,qn⟩) (by omega) rfl
    rw[List.set_set]at h2
    have h3:=h2.setField LeaseM.cells_length (List.getElem?_set_self hlt) (j:=2) (v:=.int .i64 (wrap64 (now+30))) (y:=⟨wrap64 (l.ep+1),l.holder,wrap64 (now+30),qn⟩) (by omega) rfl
    rw[List.set_set,Nat.add_zero]at h3
    rw[hv]
    have H3:=Lib.hid h3
    clear hv hh he ho h1 h2 h3 hlt
    rcases hc with b3|⟨b3,b4⟩
    all_goals
     go_enter Tryz.func135,Tryz.ntmps135
     go_wp2
     go_quiet (fail)
     go_wp2
     go_quiet (fail)
     go_wp2
     go_ret
     refine⟨rfl, ?_, ?_⟩
     ·exact H3.out
     ·refine Mod.drewN (Mod.setCell (Mod.setCell (Mod.setCell (Mod.alloc (Mod.refl _ _ _) _) _ _ ?_) _ _ ?_) _ _ ?_) _<;>exact fun _=>rfl
theorem ziZ (i:Nat) (l:LeaseM) (frm:Int) (qk qst qe qs qm qn oe oq:Int) (qb:ByteArray) (h:Ob w own κ g t (zd LeaseM.cells ls)) (hi:ls[i]?=some l):
  Calls Tryz.prog 136 #[.pointer (some ⟨g,i*4,none⟩),.int .i64 frm,.agg #[.int .i64 qk,.int .i64 qst,.int .i64 qe,.int .i64 qs,.int .i64 qm,.int .i64 qn,.int .i64 oe,.int .i64 oq,.string qb]] w fun e w'=>e= .returned (.int .i64 (inL l frm qe).2)/\Ob w' own κ g t (zd LeaseM.cells (ls.set i (inL l frm qe).1))/\Mod id (fun b=>b=g) w w':=by
 have hgl:=h.lt
 have c0:=h.field LeaseM.cells_length hi 0 _ rfl
 have c1:=h.field LeaseM.cells_length hi 1 _ rfl
 have c3:=h.field LeaseM.cells_length hi 3 _ rfl
 have f3:=h.free (i*4+3)
 simp only[Nat.add_zero]at c0
 have hset:ls.set i l=ls:=by
  obtain⟨hlt,rfl⟩:=List.getElem?_eq_some_iff.1 hi
  exact List.set_getElem_self hlt
 have HH:=Lib.hid (h.alloc (.cells #[.int .i64 qk,.int .i64 qst,.int .i64 qe,.int .i64 qs,.int .i64 qm,.int .i64 qn,.int .i64 oe,.int .i64 oq,.string qb] 110))
 have HI:=Lib.hid hi
 have HSET:=Lib.hid hset
 have hne:g≠w.heap.size:=by omega
 clear h hi hset
 by_cases hh:l.holder≠frm\/l.ep≠qe
 ·have hv:inL l frm qe=(l,2):=by unfold inL;rw[if_pos hh]
  have hc:(l.holder !=frm)=true\/(l.holder !=frm)=false/\(l.ep !=qe)=true:=by
   by_cases h1:l.holder=frm
   ·refine .inr ⟨by simpa using h1, ?_⟩
    rcases hh with h2|h2
    ·exact absurd h1 h2
    ·simpa using h2
   ·exact .inl (by simpa using h1)
  rw[hv]
  clear hv hh
  rcases hc with b1|⟨b1,b2⟩
  all_goals
   go_enter Tryz.func136,Tryz.ntmps136
   go_wp2
   go_quiet (fail)
   go_wp2
   go_ret
   exact⟨rfl,by rw[HSET.out];exact HH.out,((Mod.refl _ _ _).alloc _).drewN _⟩
 ·have b1:(l.holder !=frm)=false:=by simp;exact Classical.byContradiction fun h=>hh (.inl h)
  have b2:(l.ep !=qe)=false:=by simp;exact Classical.byContradiction fun h=>hh (.inr h)
  have hv:inL l frm qe=(⟨l.ep,l.holder,l.til,-1⟩,1):=by unfold inL;rw[if_neg hh]
  have h1:=HH.out.setField LeaseM.cells_length HI.out (j:=3) (v:=.int .i64 (-1)) (y:=⟨l.ep,l.holder,l.til,-1⟩) (by omega) rfl
  rw[hv]
  have H3:=Lib.hid h1
  clear hv hh h1
  go_enter Tryz.func136,Tryz.ntmps136
  go_wp2
  go_quiet (fail)
  go_wp2
  go_ret
  refine⟨rfl,H3.out, ?_⟩
  refine Mod.drewN (Mod.setCell (Mod.alloc (Mod.refl _ _ _) _) _ _ ?_) _
  exact fun _=>rfl
end
end
end Go.Proofs.YtmfincpagnpkjaaGreat
