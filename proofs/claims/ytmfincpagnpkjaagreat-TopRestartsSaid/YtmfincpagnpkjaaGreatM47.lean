/- Part of the proof. -/
import Derived.Test.YtmfincpagnpkjaaGreatM46
set_option linter.all false
set_option maxRecDepth 100000
set_option maxHeartbeats 100000000
namespace Go.Proofs.YtmfincpagnpkjaaGreat
open Go.RowKit
def z8l (s:ByteArray) (w:World) (e:Ending) (w':World):Prop:=
 ∃(k a c:Int) (d:ByteArray) (ok:Bool),e= .returned (.tuple #[.int .i64 k,.int .i64 a,.int .i64 c,.string d,.bool ok])/\(ok=true->z0E k a c d/\s=z6D (z5x k a c d))/\(ok=false->¬zaS s)/\Below w.heap.size w w'
theorem ziV (s:ByteArray) (w:World) (h:z1N s.data.toList≠0\/(z0G s.data.toList).length≠4):
  Calls Tryz.prog 123 #[.string s] w (z8l s w):=by
 have hno:¬zaS s:=fun h'=>by
  obtain⟨h1,h2⟩:=zkC h'
  rcases h with h|h
  ·exact h h1
  ·exact h h2
 have HNO:=Lib.hid hno
 obtain⟨n,hn⟩:∃n,n=(z0G s.data.toList).length:=⟨_,rfl⟩
 obtain⟨er,her⟩:∃er,er=z1N s.data.toList:=⟨_,rfl⟩
 rw[<-hn,<-her]at h
 have HN:=Lib.hid hn
 have HE:=Lib.hid her
 have h30:er=0\/er=30:=by rw[her];rcases zmB s.data.toList with h|h;exact .inl h;exact .inr h.1
 have hq:(er !=0)=true\/((er !=0)=false/\((n:Int) !=4)=true):=by
  by_cases h0:er=0
  ·refine .inr ⟨by rw[h0];rfl, ?_⟩
   rw[bne_iff_ne]
   rcases h with h|h
   ·exact absurd h0 h
   ·omega
  ·exact .inl (by rw[bne_iff_ne];exact h0)
 clear hno hn her h h30
 rcases hq with hq|⟨hq,hq2⟩
 all_goals
  go_enter Tryz.func123,Tryz.ntmps123
  go_wp2_with (go_at_call 88;(refine(z1q s _).mono ?_);rw[<-HN.out,<-HE.out];rintro e w1 ⟨v,rfl,hown,hb⟩;obtain⟨A,cc,rfl,-,-⟩:=z0I hown;clear hown)
  refine bodyPost_ret (v:=.tuple #[.int .i64 0,.int .i64 0,.int .i64 0,.string ⟨#[]⟩,.bool false]) (by simp[results,Tryz.results123,go_sem]) rfl ?_
  exact⟨0,0,0,⟨#[]⟩,false,rfl,(fun h=>by cases h),(fun _=>HNO.out),hb⟩
def Arr (w:World) (g:Nat) (x y z:Int):Prop:=g<w.heap.size/\w.cell? ⟨g,0,none⟩=some (.int .i64 x)/\w.cell? ⟨g,1,none⟩=some (.int .i64 y)/\w.cell? ⟨g,2,none⟩=some (.int .i64 z)/\∀j,w.frozen? ⟨g,j,none⟩=false
theorem Arr.call {w w':World} {g:Nat} {x y z:Int} (h:Arr w g x y z) (hb:Below w.heap.size w w'):Arr w' g x y z:=by
 obtain⟨h0,h1,h2,h3,h4⟩:=h
 exact⟨Nat.lt_of_lt_of_le h0 hb.size,(hb.cell (p:=⟨g,0,none⟩) h0).trans h1,(hb.cell (p:=⟨g,1,none⟩) h0).trans h2,(hb.cell (p:=⟨g,2,none⟩) h0).trans h3,fun j=>(hb.frozen (p:=⟨g,j,none⟩) h0).trans (h4 j)⟩
theorem Arr.new (w:World) (x y z:Int) (t:TypeId):Arr (w.alloc (.cells #[.int .i64 x,.int .i64 y,.int .i64 z] t)) w.heap.size x y z:=by
 refine⟨by simp, ?_, ?_, ?_,fun j=>?_⟩
 ·exact World.cell?_alloc_mark w _ _ _ 0
 ·exact World.cell?_alloc_mark w _ _ _ 1
 ·exact World.cell?_alloc_mark w _ _ _ 2
 ·rw[World.frozen?_alloc_mark];simp
theorem z3c {g i j:Nat} (h:i≠j):(⟨g,i,none⟩:Addr)≠⟨g,j,none⟩:=by intro e;injection e with _ e1;exact h e1
theorem Arr.set0 {w:World} {g:Nat} {x y z:Int} (h:Arr w g x y z) (v:Int):Arr (w.setCell ⟨g,0,none⟩ (.int .i64 v)) g v y z:=by
 obtain⟨h0,h1,h2,h3,h4⟩:=h
 exact⟨by rw[World.size_setCell];exact h0,World.cell?_setCell_same w _ _ h1,(World.cell?_setCell_other w _ _ _ (by first|exact z3c (by decide)|exact(z3c (by decide)).symm)).trans h2,(World.cell?_setCell_other w _ _ _ (by first|exact z3c (by decide)|exact(z3c (by decide)).symm)).trans h3,fun j=>by rw[World.frozen?_setCell];exact h4 j⟩
theorem Arr.set1 {w:World} {g:Nat} {x y z:Int} (h:Arr w g x y z) (v:Int):Arr (w.setCell ⟨g,1,none⟩ (.int .i64 v)) g x v z:=by
 obtain⟨h0,h1,h2,h3,h4⟩:=h
 exact⟨by rw[World.size_setCell];exact h0,(World.cell?_setCell_other w _ _ _ (by first|exact z3c (by decide)|exact(z3c (by decide)).symm)).trans h1,World.cell?_setCell_same w _ _ h2,(World.cell?_setCell_other w _ _ _ (by first|exact z3c (by decide)|exact(z3c (by decide)).symm)).trans h3,fun j=>by rw[World.frozen?_setCell];exact h4 j⟩
theorem Arr.set2 {w:World} {g:Nat} {x y z:Int} (h:Arr w g x y z) (v:Int):Arr (w.setCell ⟨g,2,none⟩ (.int .i64 v)) g x y v:=by
 obtain⟨h0,h1,h2,h3,h4⟩:=h
 exact⟨by rw[World.size_setCell];exact h0,(World.cell?_setCell_other w _ _ _ (by first|exact z3c (by decide)|exact(z3c (by decide)).symm)).trans h1,(World.cell?_setCell_other w _ _ _ (by first|exact z3c (by decide)|exact(z3c (by decide)).symm)).trans h2,World.cell?_setCell_same w _ _ h3,fun j=>by rw[World.frozen?_setCell];exact h4 j⟩
theorem zgx (s:ByteArray) (i0 i1 i2 i3:Int) (t0 t1 t2 d:ByteArray) (w:World) (he:z1N s.data.toList=0) (hF:z0G s.data.toList=[(i0,t0),(i1,t1),(i2,t2),(i3,d)]):
  Calls Tryz.prog 123 #[.string s] w (z8l s w):=by
 have hok:=(zk9 he).2.1
 rw[hF]at hok
 have hd:d.size<=140737488351232:=by have:=(z2c.1 (hok (i3,d) (by simp))).2.2;show d.size<=_;have h2:d.size<=400:=this;omega
 have hag:=zi6 hF
 obtain⟨k,hk⟩:∃k,k=z8O t0.data.toList:=⟨_,rfl⟩
 obtain⟨a,ha⟩:∃a,a=z8O t1.data.toList:=⟨_,rfl⟩
 obtain⟨c,hc⟩:∃c,c=z8O t2.data.toList:=⟨_,rfl⟩
 rw[<-hk,<-ha,<-hc]at hag
 have HAG:=Lib.hid hag
 have HF:=Lib.hid hF
 have HE:=Lib.hid he
 clear hok hag hF he
 have e0:=zma t0.data.toList
 have e1:=zma t1.data.toList
 have e2:=zma t2.data.toList
 obtain⟨r0,h0⟩:∃r,r=z8P t0.data.toList:=⟨_,rfl⟩
 obtain⟨r1,h1⟩:∃r,r=z8P t1.data.toList:=⟨_,rfl⟩
 obtain⟨r2,h2⟩:∃r,r=z8P t2.data.toList:=⟨_,rfl⟩
 rw[<-h0]at e0
 rw[<-h1]at e1
 rw[<-h2]at e2
 have H0:=Lib.hid h0
 have H1:=Lib.hid h1
 have H2:=Lib.hid h2
 have HK:=Lib.hid hk
 have HA:=Lib.hid ha
 have HC:=Lib.hid hc
 clear h0 h1 h2 hk ha hc
 rcases e0 with rfl|rfl
 ·rcases e1 with rfl|rfl
  ·rcases e2 with rfl|rfl
   ·go_enter Tryz.func123,Tryz.ntmps123
    go_wp2_with (go_at_call 88;(refine(z1q s _).mono ?_);rw[HF.out,HE.out];rintro e w1 ⟨v,rfl,hown,hb⟩;obtain⟨A,cc,rfl,-,-⟩:=z0I hown;obtain⟨b,off,rfl,hbB,hc0⟩:=(Rd.of_own hown).at_ (k:=1) (u:=.string t0) rfl;have hc1:=(Rd.of_own hown).cell_ (k:=3) (u:=.string t1) rfl;have hc2:=(Rd.of_own hown).cell_ (k:=5) (u:=.string t2) rfl;have hc3:=(Rd.of_own hown).cell_ (k:=7) (u:=.string d) rfl;clear hown)
    refine wp_loop_rounds 4 ?_
    rw[rounds_succ]
    go_wp2_with fail
    refine(z0l t0 _).mono ?_
    rw[<-HK.out,<-H0.out]
    rintro e w2 ⟨rfl,hk⟩
    have HA2:=Lib.hid ((Arr.new w1 0 0 0 286).call hk)
    have hb2:Below w1.heap.size w1 w2:=zw (za (Below.refl _ _) _) hk
    have HB2:=Lib.hid hb2
    obtain⟨hA0,hA1,hA2,hA3,hA4⟩:=HA2.out
    have hf:=hA4 0
    have hd1:=(hb2.cell (p:=⟨b,off+3,none⟩) hbB).trans hc1
    clear hA4 hk hb2 hA0
    go_wp2_with fail
    rw[rounds_succ]
    go_wp2_with fail
    refine(z0l t1 _).mono ?_
    rw[<-HA.out,<-H1.out]
    rintro e w3 ⟨rfl,hk⟩
    have HA3:=Lib.hid ((HA2.out.set0 k).call hk)
    have hb3:Below w1.heap.size w1 w3:=zw (HB2.out.setCell (p:=⟨w1.heap.size,0,none⟩) (Nat.le_refl _) _) hk
    have HB3:=Lib.hid hb3
    clear hA1 hA2 hA3 hf hd1
    obtain⟨hA0,hA1,hA2,hA3,hA4⟩:=HA3.out
    have hf:=hA4 1
    have hd2:=(hb3.cell (p:=⟨b,off+5,none⟩) hbB).trans hc2
    clear hA4 hk hb3 hA0
    go_wp2_with fail
    rw[rounds_succ]
    go_wp2_with fail
    refine(z0l t2 _).mono ?_
    rw[<-HC.out,<-H2.out]
    rintro e w4 ⟨rfl,hk⟩
    have HA4:=Lib.hid ((HA3.out.set1 a).call hk)
    have hb4:Below w1.heap.size w1 w4:=zw (HB3.out.setCell (p:=⟨w1.heap.size,1,none⟩) (Nat.le_refl _) _) hk
    have HB4:=Lib.hid hb4
    clear hA1 hA2 hA3 hf hd2
    obtain⟨hA0,hA1,hA2,hA3,hA4⟩:=HA4.out
    have hf:=hA4 2
    have hb5:Below w1.heap.size w1 (w4.setCell ⟨w1.heap.size,2,none⟩ (.int .i64 c)):=hb4.setCell (p:=⟨w1.heap.size,2,none⟩) (Nat.le_refl _) _
    obtain⟨wz,hwz⟩:∃wz,wz=w4.setCell ⟨w1.heap.size,2,none⟩ (.int .i64 c):=⟨_,rfl⟩
    have HZ:=Lib.hid hwz
    have HB5:=Lib.hid hb5
    clear hA4 hk hb4 hA0 hwz hb5
    go_wp2_with fail
    rw[rounds_succ]
    clear hA1 hA2 hA3 hf
    have hA:=HA4.out.set2 c
    have hb5:=HB5.out
    rw[<-HZ.out]at hA hb5⊢
    have hd3:=(hb5.cell (p:=⟨b,off+7,none⟩) hbB).trans hc3
    have HB6:=Lib.hid hb5
    obtain⟨hA0,hA1,hA2,hA3,-⟩:=hA
    clear hb5 hc0 hc1 hc2 hc3 hA0 HB5 HZ
    go_wp2_with fail
    go_quiet (fail)
    have hbq:Below w1.heap.size w1 (wz.drewN nq):=z2Y HB6.out nq
    have HBQ:=Lib.hid hbq
    clear hbq hA1 hA2 hA3 hd3
    by_cases hR:z0E k a c d
    ·obtain⟨sb,hsb⟩:∃sb,sb=z6D (z5x k a c d):=⟨_,rfl⟩
     have HSB:=Lib.hid hsb
     have HRP:=Lib.hid hR
     by_cases hs:sb=s
     ·have hfin:z0E k a c d/\s=z6D (z5x k a c d):=⟨hR,by rw[<-hs,hsb]⟩
      have HFIN:=Lib.hid hfin
      subst hs
      clear hfin hR hsb
      go_wp2_with (go_at_call 171;(refine(zc7 k a c d sb _ hd HRP.out HSB.out).mono ?_);rintro e w5 ⟨rfl,hk⟩;have HK5:=Lib.hid hk;clear hk)
      refine bodyPost_ret (v:=.tuple #[.int .i64 k,.int .i64 a,.int .i64 c,.string d,.bool true]) (by simp[results,Tryz.results123,go_sem]) rfl ?_
      exact⟨k,a,c,d,true,rfl,(fun _=>HFIN.out),(fun h=>by cases h),zw (zw hb HBQ.out) HK5.out⟩
     ·have hno:¬zaS s:=fun h=>hs (by rw[hsb];exact(HAG.out.1 h).2.2.2.2)
      have HNO:=Lib.hid hno
      have hne2:(sb.toList==s.toList)=false:=by
       rw[beq_eq_false_iff_ne]
       intro h
       rw[Lib.toList_data,Lib.toList_data]at h
       exact hs (znv h)
      clear hno hR hsb hs
      go_wp2_with (go_at_call 171;(refine(zc7 k a c d sb _ hd HRP.out HSB.out).mono ?_);rintro e w5 ⟨rfl,hk⟩;have HK5:=Lib.hid hk;clear hk)
      refine bodyPost_ret (v:=.tuple #[.int .i64 k,.int .i64 a,.int .i64 c,.string d,.bool false]) (by simp[results,Tryz.results123,go_sem]) rfl ?_
      exact⟨k,a,c,d,false,rfl,(fun h=>by cases h),(fun _=>HNO.out),zw (zw hb HBQ.out) HK5.out⟩
    ·have hno:¬zaS s:=fun h=>hR (HAG.out.1 h).2.2.2.1
     have HNO:=Lib.hid hno
     have HRN:=Lib.hid hR
     clear hno hR
     go_wp2_with (go_at_call 171;(refine(zkY k a c d _ hd HRN.out).mono ?_);rintro e w5 ⟨rfl,hk⟩;have HK5:=Lib.hid hk;clear hk)
     refine bodyPost_ret (v:=.tuple #[.int .i64 k,.int .i64 a,.int .i64 c,.string d,.bool false]) (by simp[results,Tryz.results123,go_sem]) rfl ?_
     exact⟨k,a,c,d,false,rfl,(fun h=>by cases h),(fun _=>HNO.out),zw (zw hb HBQ.out) HK5.out⟩
   ·have hno:¬zaS s:=fun h=>by have h1:=(HAG.out.1 h).2.2.1;have h2:=H2.out;omega
    have HNO:=Lib.hid hno
    clear hno
    go_enter Tryz.func123,Tryz.ntmps123
    go_wp2_with (go_at_call 88;(refine(z1q s _).mono ?_);rw[HF.out,HE.out];rintro e w1 ⟨v,rfl,hown,hb⟩;obtain⟨A,cc,rfl,-,-⟩:=z0I hown;obtain⟨b,off,rfl,hbB,hc0⟩:=(Rd.of_own hown).at_ (k:=1) (u:=.string t0) rfl;have hc1:=(Rd.of_own hown).cell_ (k:=3) (u:=.string t1) rfl;have hc2:=(Rd.of_own hown).cell_ (k:=5) (u:=.string t2) rfl;have hc3:=(Rd.of_own hown).cell_ (k:=7) (u:=.string d) rfl;clear hown)
    refine wp_loop_rounds 4 ?_
    rw[rounds_succ]
    go_wp2_with fail
    refine(z0l t0 _).mono ?_
    rw[<-HK.out,<-H0.out]
    rintro e w2 ⟨rfl,hk⟩
    have HA2:=Lib.hid ((Arr.new w1 0 0 0 286).call hk)
    have hb2:Below w1.heap.size w1 w2:=zw (za (Below.refl _ _) _) hk
    have HB2:=Lib.hid hb2
    obtain⟨hA0,hA1,hA2,hA3,hA4⟩:=HA2.out
    have hf:=hA4 0
    have hd1:=(hb2.cell (p:=⟨b,off+3,none⟩) hbB).trans hc1
    clear hA4 hk hb2 hA0
    go_wp2_with fail
    rw[rounds_succ]
    go_wp2_with fail
    refine(z0l t1 _).mono ?_
    rw[<-HA.out,<-H1.out]
    rintro e w3 ⟨rfl,hk⟩
    have HA3:=Lib.hid ((HA2.out.set0 k).call hk)
    have hb3:Below w1.heap.size w1 w3:=zw (HB2.out.setCell (p:=⟨w1.heap.size,0,none⟩) (Nat.le_refl _) _) hk
    have HB3:=Lib.hid hb3
    clear hA1 hA2 hA3 hf hd1
    obtain⟨hA0,hA1,hA2,hA3,hA4⟩:=HA3.out
    have hf:=hA4 1
    have hd2:=(hb3.cell (p:=⟨b,off+5,none⟩) hbB).trans hc2
    clear hA4 hk hb3 hA0
    go_wp2_with fail
    rw[rounds_succ]
    go_wp2_with fail
    refine(z0l t2 _).mono ?_
    rw[<-HC.out,<-H2.out]
    rintro e w4 ⟨rfl,hk⟩
    have HBf:=Lib.hid (zw (HB3.out.setCell (p:=⟨w1.heap.size,1,none⟩) (Nat.le_refl _) _) hk)
    clear hk
    go_wp2_with fail
    refine bodyPost_ret (v:=.tuple #[.int .i64 0,.int .i64 0,.int .i64 0,.string ⟨#[]⟩,.bool false]) (by simp[results,Tryz.results123,go_sem]) rfl ?_
    exact⟨0,0,0,⟨#[]⟩,false,rfl,(fun h=>by cases h),(fun _=>HNO.out),zw hb HBf.out⟩
  ·have hno:¬zaS s:=fun h=>by have h1:=(HAG.out.1 h).2.1;have h2:=H1.out;omega
   have HNO:=Lib.hid hno
   clear hno
   go_enter Tryz.func123,Tryz.ntmps123
   go_wp2_with (go_at_call 88;(refine(z1q s _).mono ?_);rw[HF.out,HE.out];rintro e w1 ⟨v,rfl,hown,hb⟩;obtain⟨A,cc,rfl,-,-⟩:=z0I hown;obtain⟨b,off,rfl,hbB,hc0⟩:=(Rd.of_own hown).at_ (k:=1) (u:=.string t0) rfl;have hc1:=(Rd.of_own hown).cell_ (k:=3) (u:=.string t1) rfl;have hc2:=(Rd.of_own hown).cell_ (k:=5) (u:=.string t2) rfl;have hc3:=(Rd.of_own hown).cell_ (k:=7) (u:=.string d) rfl;clear hown)
   refine wp_loop_rounds 4 ?_
   rw[rounds_succ]
   go_wp2_with fail
   refine(z0l t0 _).mono ?_
   rw[<-HK.out,<-H0.out]
   rintro e w2 ⟨rfl,hk⟩
   have HA2:=Lib.hid ((Arr.new w1 0 0 0 286).call hk)
   have hb2:Below w1.heap.size w1 w2:=zw (za (Below.refl _ _) _) hk
   have HB2:=Lib.hid hb2
   obtain⟨hA0,hA1,hA2,hA3,hA4⟩:=HA2.out
   have hf:=hA4 0
   have hd1:=(hb2.cell (p:=⟨b,off+3,none⟩) hbB).trans hc1
   clear hA4 hk hb2 hA0
   go_wp2_with fail
   rw[rounds_succ]
   go_wp2_with fail
   refine(z0l t1 _).mono ?_
   rw[<-HA.out,<-H1.out]
   rintro e w3 ⟨rfl,hk⟩
   have HBf:=Lib.hid (zw (HB2.out.setCell (p:=⟨w1.heap.size,0,none⟩) (Nat.le_refl _) _) hk)
   clear hk
   go_wp2_with fail
   refine bodyPost_ret (v:=.tuple #[.int .i64 0,.int .i64 0,.int .i64 0,.string ⟨#[]⟩,.bool false]) (by simp[results,Tryz.results123,go_sem]) rfl ?_
   exact⟨0,0,0,⟨#[]⟩,false,rfl,(fun h=>by cases h),(fun _=>HNO.out),zw hb HBf.out⟩
 ·have hno:¬zaS s:=fun h=>by have h1:=(HAG.out.1 h).1;have h2:=H0.out;omega
  have HNO:=Lib.hid hno
  clear hno
  go_enter Tryz.func123,Tryz.ntmps123
  go_wp2_with (go_at_call 88;(refine(z1q s _).mono ?_);rw[HF.out,HE.out];rintro e w1 ⟨v,rfl,hown,hb⟩;obtain⟨A,cc,rfl,-,-⟩:=z0I hown;obtain⟨b,off,rfl,hbB,hc0⟩:=(Rd.of_own hown).at_ (k:=1) (u:=.string t0) rfl;have hc1:=(Rd.of_own hown).cell_ (k:=3) (u:=.string t1) rfl;have hc2:=(Rd.of_own hown).cell_ (k:=5) (u:=.string t2) rfl;have hc3:=(Rd.of_own hown).cell_ (k:=7) (u:=.string d) rfl;clear hown)
  refine wp_loop_rounds 4 ?_
  rw[rounds_succ]
  go_wp2_with fail
  refine(z0l t0 _).mono ?_
  rw[<-HK.out,<-H0.out]
  rintro e w2 ⟨rfl,hk⟩
  have HBf:Hid (Below w1.heap.size w1 w2):=Lib.hid (zw (za (Below.refl _ _) _) hk)
  clear hk
  go_wp2_with fail
  refine bodyPost_ret (v:=.tuple #[.int .i64 0,.int .i64 0,.int .i64 0,.string ⟨#[]⟩,.bool false]) (by simp[results,Tryz.results123,go_sem]) rfl ?_
  exact⟨0,0,0,⟨#[]⟩,false,rfl,(fun h=>by cases h),(fun _=>HNO.out),zw hb HBf.out⟩
theorem zdY (s:ByteArray) (w:World):Calls Tryz.prog 123 #[.string s] w (z8l s w):=by
 by_cases h:z1N s.data.toList≠0\/(z0G s.data.toList).length≠4
 ·exact ziV s w h
 ·obtain⟨i0,t0,i1,t1,i2,t2,i3,d,hF⟩:=zmb (l:=z0G s.data.toList) (by omega)
  exact zgx s i0 i1 i2 i3 t0 t1 t2 d w (by omega) hF
theorem zgW (N S:Int):0<=yl N S/\yl N S<=40:=by
 unfold yl
 by_cases h:yn N S=true
 ·rw[if_pos h]
  obtain⟨h1,h2,h3,h4⟩:=yc.1 h
  have:=z4u h1 h2 h3 h4
  omega
 ·rw[if_neg h];omega
theorem z7f (N S a c:Int) (w:World) (a1:0<=a) (c1:1<=c) (c2:c<=4) (h:a+c<=yl N S):
  Calls Tryz.prog 124 #[.agg #[.int .i64 N,.int .i64 S],.int .i64 a,.int .i64 c] w fun e w'=>∃v,e= .returned (.tuple #[v,.int .i64 0])/\Below w.heap.size w w':=by
 unfold yl at h
 by_cases hr:yn N S=true
 ·rw[if_pos hr]at h
  obtain⟨h1,h2,h3,h4⟩:=yc.1 hr
  obtain⟨n,rfl⟩:=Int.eq_ofNat_of_zero_le (show 0<=N by omega)
  obtain⟨s,rfl⟩:=Int.eq_ofNat_of_zero_le (show 0<=S by omega)
  obtain⟨x,rfl⟩:=Int.eq_ofNat_of_zero_le a1
  obtain⟨k,rfl⟩:=Int.eq_ofNat_of_zero_le (show 0<=c by omega)
  have e:(s:Int)*((n:Int)-1)=((s*(n-1):Nat):Int):=by
   rw[show(n:Int)-1=((n-1:Nat):Int) by omega]
   exact(Int.natCast_mul s (n-1)).symm
  rw[e]at h
  refine(zhJ n s x k w (by omega) (by omega) (by omega) (by omega) (by omega) (by omega) (by omega)).mono ?_
  rintro e w' ⟨A,cc,rfl,-,hb⟩
  exact⟨_,rfl,hb⟩
 ·rw[if_neg hr]at h;omega
theorem zaw {n m:Int} (h1:z1d n=true) (h2:z1d m=true) (h:z5D n=z5D m):n=m:=by
 have e1:=(z1Y h1).1
 rw[h,(z1Y h2).1]at e1
 exact e1.symm
theorem zkD {k a c k' a' c':Int} {d d':ByteArray} (h:z0E k a c d) (h':z0E k' a' c' d') (he:z6D (z5x k a c d)=z6D (z5x k' a' c' d')):k=k'/\a=a'/\c=c'/\d=d':=by
 have e:=zkX (z7w h) (z7w h') (by simp[z5x]) (by simp[z5x]) he
 simp only[z5x,List.cons.injEq,Prod.mk.injEq,true_and,and_true]at e
 obtain⟨e1,e2,e3,e4⟩:=e
 obtain⟨n1,n2,n3,-⟩:=z1z h
 obtain⟨m1,m2,m3,-⟩:=z1z h'
 exact⟨zaw n1 m1 e1,zaw n2 m2 e2,zaw n3 m3 e3,e4⟩
theorem zcc (k a c:Int) (d s:ByteArray) (w:World) (h:z0E k a c d) (hs:s=z6D (z5x k a c d)):
  Calls Tryz.prog 123 #[.string s] w fun e w'=>e= .returned (.tuple #[.int .i64 k,.int .i64 a,.int .i64 c,.string d,.bool true])/\Below w.heap.size w w':=by
 refine(zdY s w).mono ?_
 rintro e w' ⟨k',a',c',d',ok,rfl,h1,h2,hb⟩
 cases ok with
 |false=>exact absurd ⟨k,a,c,d,h,hs⟩ (h2 rfl)
 |true=>
  obtain⟨h3,h4⟩:=h1 rfl
  obtain⟨rfl,rfl,rfl,rfl⟩:=zkD h h3 (by rw[<-hs,h4])
  exact⟨rfl,hb⟩
abbrev Opr:=Int×Int×ByteArray
def z0e:List Opr->List Value
 |[]=>[]
 |p::l=>.int .i64 p.1:: .int .i64 p.2.1:: .string p.2.2::z0e l
theorem z4j (a b:List Opr):z0e (a++b)=z0e a++z0e b:=by
 induction a with
 |nil=>rfl
 |cons p l ih=>simp only[z0e,List.cons_append,ih]
def zn9 (k a:Int) (d:ByteArray) (i:Nat):Opr:=(k,a+i,if k=2 then d.extract (i*16) ((i+1)*16)else⟨#[]⟩)
def zga (k a:Int) (d:ByteArray) (n:Nat):List Opr:=(List.range n).map (zn9 k a d)
theorem zbM (k a:Int) (d:ByteArray) (n:Nat):zga k a d (n+1)=zga k a d n++[zn9 k a d n]:=by simp[zga,List.range_succ]
theorem zdJ (k a:Int) (d:ByteArray) (n:Nat):(zga k a d n).length=n:=by simp[zga]
theorem zlU:(Tryz.prog.info? 173).map (fun i=>(i.zero,i.size,i.bytes))=some (some (.agg #[.int .i64 0,.int .i64 0,.string ⟨#[]⟩]),3,32):=by kernel_rfl
theorem zig {w:World} {base base':Nat} {e:TypeId} {size:Nat} {v:Value} {n:Nat} {xs:List Value} (h:w.ownsRow base e size v n xs) (hb:base'<=base):w.ownsRow base' e size v n xs:=by
 obtain⟨h1,h2⟩:=h
 refine⟨h1,h2.imp id ?_⟩
 rintro⟨g,cap,cur,hv,hg,h⟩
 exact⟨g,cap,cur,hv,by omega,h⟩
theorem zk5 (N S k a c:Int) (n:Nat) (d s:ByteArray) (w:World) (hc:c=n) (h:z0E k a c d) (hs:s=z6D (z5x k a c d)) (h3:k≠3) (hb:a+c<=yl N S):
  Calls Tryz.prog 85 #[.agg #[.int .i64 N,.int .i64 S],.string s] w fun e w'=>∃(A:Option Addr) (cc:Nat),e= .returned (.tuple #[.slice A n cc,.int .i64 0])/\w'.ownsRow w.heap.size 173 3 (.slice A n cc) n (z0e (zga k a d n))/\Below w.heap.size w w':=by
 obtain⟨-,-,-,hd64,k1,k2,c1,c2⟩:=z1z h
 obtain⟨ha1,ha2⟩:=h.1
 have H:=Lib.hid h
 have HS:=Lib.hid hs
 ·have q1:(k==3)=false:=by rw[beq_eq_false_iff_ne];exact h3
  have HB:=Lib.hid hb
  have hk12:k=1\/k=2:=by omega
  have hdk:k=2->d.size=16*n:=fun hk=>by have:=h.2;omega
  subst hc
  obtain⟨iO,hiO,hzO,hsO,hbO⟩:=info_parts zlU
  clear h hs h3 hb
  rcases hk12 with rfl|rfl
  ·go_enter Tryz.func85,Tryz.ntmps85
   go_wp2_with (first
    |(go_at_call 123;(refine(zcc 1 a n d s _ H.out HS.out).mono ?_);rintro e w1 ⟨rfl,hk⟩;have hG:Below (w.alloc (jb N S)).heap.size (w.alloc (jb N S)) w1:=hk;have g0:=ze2 hG;have g1:=zgA hG;clear hk)
    |(go_at_call 124;(refine(z7f N S a n _ ha1 c1 c2 HB.out).mono ?_);rintro e w2 ⟨v,rfl,hk⟩;replace hG:=zw hG hk;clear hk))
   go_loopw [13,51] (fun v i wr=>∃j:Nat,j<=n/\i= .int .i64 j/\wr.ownsRow (w.alloc (jb N S)).heap.size 173 3 v j (z0e (zga 1 a d j))/\Below (w.alloc (jb N S)).heap.size (w.alloc (jb N S)) wr) (fun _ i _=>n-(intOf i).toNat)
   case atStart=>exact⟨0,Nat.zero_le _,rfl,World.ownsRow_nil _ _ _ _,hG⟩
   case round=>
    clear hG
    obtain⟨j,hj,rfl,hown,hG⟩:=hrel
    have HO:=Lib.hid hown
    clear hown
    by_cases hjt:j<n
    ·have hoo:z0e (zga 1 a d (j+1))=z0e (zga 1 a d j)++[.int .i64 1,.int .i64 (a+j),.string ⟨#[]⟩]:=by rw[zbM,z4j];simp[zn9,z0e]
     have HOO:=Lib.hid hoo
     have hbsz:=hG.size
     clear hoo
     go_wp2_with (at_builtin;(refine z0n rfl (.tmp 69) (.tmp 71) 67 rfl (w.alloc (jb N S)).heap.size 173 iO _ 3 32 Tryz.underlying67 hiO hzO hsO hbO rfl (by decide) _ j _ rfl ((HO.out.alloc _).alloc _) _ (some ⟨wr.heap.size+1,0,none⟩) 1 1 [.int .i64 1,.int .i64 (a+j),.string ⟨#[]⟩] rfl (zai _ #[.int .i64 1,.int .i64 (a+j),.string ⟨#[]⟩] 173 _ (by simp)) rfl (by simp[Value.oneCell']) (by unfold maxLen;omega) (by omega) (by simp at*;omega) ?_);intro v3 w3 hown3 hg3;have HO3:=Lib.hid hown3;have HG3:=Lib.hid hg3;clear hown3 hg3)
     go_roundw
     case rel=>exact⟨j+1,by omega,by go_num,by rw[HOO.out];exact HO3.out,(za (za hG _) _).grown HG3.out (by simp at*;omega) (fun i hi=>(HO.out.lt i hi).1)⟩
     case measure=>simp[intOf];omega
    ·obtain rfl:j=n:=by omega
     have hlt2:decide (j<j)=false:=by simp
     obtain⟨A,cc,rfl,-,-⟩:=z0I HO.out
     go_wp2
     go_ret2
     exact⟨A,cc,rfl,zig HO.out (by simp),ja hG⟩
  ·have hsz:d.size=16*n:=hdk rfl
   clear hdk
   go_enter Tryz.func85,Tryz.ntmps85
   go_wp2_with (first
    |(go_at_call 123;(refine(zcc 2 a n d s _ H.out HS.out).mono ?_);rintro e w1 ⟨rfl,hk⟩;have hG:Below (w.alloc (jb N S)).heap.size (w.alloc (jb N S)) w1:=hk;have g0:=ze2 hG;have g1:=zgA hG;clear hk)
    |(go_at_call 124;(refine(z7f N S a n _ ha1 c1 c2 HB.out).mono ?_);rintro e w2 ⟨v,rfl,hk⟩;replace hG:=zw hG hk;clear hk))
   go_loopw [13,51] (fun v i wr=>∃j:Nat,j<=n/\i= .int .i64 j/\wr.ownsRow (w.alloc (jb N S)).heap.size 173 3 v j (z0e (zga 2 a d j))/\Below (w.alloc (jb N S)).heap.size (w.alloc (jb N S)) wr) (fun _ i _=>n-(intOf i).toNat)
   case atStart=>exact⟨0,Nat.zero_le _,rfl,World.ownsRow_nil _ _ _ _,hG⟩
   case round=>
    clear hG
    obtain⟨j,hj,rfl,hown,hG⟩:=hrel
    have HO:=Lib.hid hown
    clear hown
    by_cases hjt:j<n
    ·have hoo:z0e (zga 2 a d (j+1))=z0e (zga 2 a d j)++[.int .i64 2,.int .i64 (a+j),.string (d.extract (j*16) ((j+1)*16))]:=by rw[zbM,z4j];simp[zn9,z0e]
     have HOO:=Lib.hid hoo
     have hj1:(j+1)*16<=d.size:=by omega
     have hj0:j*16<=(j+1)*16:=by omega
     have hbsz:=hG.size
     clear hoo
     go_wp2_with (at_builtin;(refine z0n rfl (.tmp 69) (.tmp 71) 67 rfl (w.alloc (jb N S)).heap.size 173 iO _ 3 32 Tryz.underlying67 hiO hzO hsO hbO rfl (by decide) _ j _ rfl ((HO.out.alloc _).alloc _) _ (some ⟨wr.heap.size+1,0,none⟩) 1 1 [.int .i64 2,.int .i64 (a+j),.string (d.extract (j*16) ((j+1)*16))] rfl (zai _ #[.int .i64 2,.int .i64 (a+j),.string (d.extract (j*16) ((j+1)*16))] 173 _ (by simp)) rfl (by simp[Value.oneCell']) (by unfold maxLen;omega) (by omega) (by simp at*;omega) ?_);intro v3 w3 hown3 hg3;have HO3:=Lib.hid hown3;have HG3:=Lib.hid hg3;clear hown3 hg3)
     go_roundw
     case rel=>exact⟨j+1,by omega,by go_num,by rw[HOO.out];exact HO3.out,(za (za hG _) _).grown HG3.out (by simp at*;omega) (fun i hi=>(HO.out.lt i hi).1)⟩
     case measure=>simp[intOf];omega
    ·obtain rfl:j=n:=by omega
     have hlt2:decide (j<j)=false:=by simp
     obtain⟨A,cc,rfl,-,-⟩:=z0I HO.out
     go_wp2
     go_ret2
     exact⟨A,cc,rfl,zig HO.out (by simp),ja hG⟩
def okA (p:Int×ByteArray):Bool:=decide (0<=p.1/\p.1<=1000/\p.2.size<=16)
theorem zau {p:Int×ByteArray}:okA p=true↔0<=p.1/\p.1<=1000/\p.2.size<=16:=decide_eq_true_iff
def z4N (l:List (Int×ByteArray)):List Fld:=l.flatMap fun p=>[(5,z5D p.1),(6,p.2)]
def zba (E:List Int) (D:List ByteArray):Bool:=decide (1<=E.length/\E.length<=4/\D.length=E.length)&&(E.zip D).all okA
def zcM (E:List Int) (D:List ByteArray):Prop:=(1<=E.length/\E.length<=4/\D.length=E.length)/\∀p∈E.zip D,okA p=true
theorem z8Y {E:List Int} {D:List ByteArray}:zba E D=true↔zcM E D:=by
 unfold zba zcM
 rw[Bool.and_eq_true,decide_eq_true_iff,List.all_eq_true]
def z1j (E:List Int) (D:List ByteArray):ByteArray:=if zba E D then z6D (z4N (E.zip D))else⟨#[]⟩
def z8n (E:List Int) (D:List ByteArray):Int:=if zba E D then 0 else 200
theorem zev {E:List Int} {D:List ByteArray} (h:zcM E D):z1j E D=z6D (z4N (E.zip D))/\z8n E D=0:=by
 have h':=z8Y.2 h
 unfold z1j z8n
 rw[if_pos h',if_pos h']
 exact⟨rfl,rfl⟩
theorem z9S {E:List Int} {D:List ByteArray} (h:¬zcM E D):z1j E D=⟨#[]⟩/\z8n E D=200:=by
 have h':¬zba E D=true:=fun h'=>h (z8Y.1 h')
 unfold z1j z8n
 rw[if_neg h',if_neg h']
 exact⟨rfl,rfl⟩
theorem zbb (l:List (Int×ByteArray)):(z4N l).length=2*l.length:=by
 unfold z4N
 induction l with
 |nil=>rfl
 |cons p l ih=>rw[List.flatMap_cons,List.length_append,ih];simp;omega
theorem zfs (l:List (Int×ByteArray)) (p:Int×ByteArray):z4N (l++[p])=z4N l++[(5,z5D p.1),(6,p.2)]:=by
 unfold z4N
 rw[List.flatMap_append]
 simp
theorem zlW {p:Int×ByteArray} (h:okA p=true):z1d p.1=true:=by
 have:=zau.1 h
 rw[z0J];omega
theorem zk4 {l:List (Int×ByteArray)} (h:∀p∈l,okA p=true):z2w (z4N l):=by
 intro f hf
 obtain⟨p,hp,hf⟩:=List.mem_flatMap.1 hf
 have h1:=zau.1 (h p hp)
 have h2:=z54 p.1
 simp only[List.mem_cons,List.not_mem_nil,or_false]at hf
 rcases hf with rfl|rfl<;>rw[z2c]
 ·exact⟨show(1:Int)<=5 by decide,show(5:Int)<=255 by decide,show(z5D p.1).size<=400 by omega⟩
 ·exact⟨show(1:Int)<=6 by decide,show(6:Int)<=255 by decide,show p.2.size<=400 by omega⟩
theorem zmz {E:List Int} {D:List ByteArray} {k:Nat} (h1:k<E.length) (h2:k<D.length):(E.zip D)[k]?=some (E[k],D[k]):=by
 simp[List.getElem?_zip_eq_some,h1,h2]
theorem zhx {α:Type} {l:List α} {k:Nat} {x:α} (h:l[k]?=some x):l.take (k+1)=l.take k++[x]:=by
 have hk:=(List.getElem?_eq_some_iff.1 h).1
 have hv:=(List.getElem?_eq_some_iff.1 h).2
 rw[List.take_succ_eq_append_getElem hk,hv]
theorem tlS {wr w':World} {b off:Nat} {x:Value} (hb:b<wr.heap.size) (h0:wr.cell? ⟨b,off,none⟩=some x) (h:Below wr.heap.size wr w'):w'.cell? ⟨b,off,none⟩=some x/\Below wr.heap.size wr w':=⟨(h.cell hb).trans h0,h⟩
theorem zfq (E:List Int) (D:List ByteArray) (A B:Option Addr) (n m c cb:Nat) (w:World) (hE:E.length=n) (hD:D.length=m) (h:n=0\/4<n\/m≠n):
  Calls Tryz.prog 120 #[.slice A n c,.slice B m cb] w fun e w'=>e= .returned (.tuple #[.string (z1j E D),.int .i64 (z8n E D)])/\Below w.heap.size w w':=by
 have hn:¬zcM E D:=by unfold zcM;rw[hE,hD];rintro⟨h1,-⟩;omega
 rw[(z9S hn).1,(z9S hn).2]
 clear hE hD hn
 have hcase:(decide ((n:Int)<1)=true)\/(decide ((n:Int)<1)=false/\decide (4<(n:Int))=true)\/(decide ((n:Int)<1)=false/\decide (4<(n:Int))=false/\((m:Int) !=(n:Int))=true):=by
  by_cases h0:n=0
  ·exact .inl (decide_eq_true (by omega))
  ·by_cases h4:4<n
   ·exact .inr (.inl ⟨decide_eq_false (by omega),decide_eq_true (by omega)⟩)
   ·exact .inr (.inr ⟨decide_eq_false (by omega),decide_eq_false (by omega),by rw[bne_iff_ne];omega⟩)
 clear h
 rcases hcase with q1|⟨q1,q2⟩|⟨q1,q2,q3⟩
 all_goals
  go_enter Tryz.func120,Tryz.ntmps120
  go_wp2
  go_ret2
  exact⟨rfl,Below.refl _ _⟩
theorem zhw (E:List Int) (D:List ByteArray) (A B:Option Addr) (n c cb:Nat) (w:World) (hra:Rd w w.heap.size A (z1W E)) (hrb:Rd w w.heap.size B (D.map Value.string)) (hE:E.length=n) (hD:D.length=n) (h1:1<=n) (h4:n<=4) (hs:∀s∈D,s.size<=9223372036854775807):
  Calls Tryz.prog 120 #[.slice A n c,.slice B n cb] w fun e w'=>e= .returned (.tuple #[.string (z1j E D),.int .i64 (z8n E D)])/\Below w.heap.size w w':=by
 obtain⟨iF,hiF,hzF,hsF,hbF⟩:=info_parts zeW
 obtain⟨rb,hrb'⟩:∃r,r=z1j E D:=⟨_,rfl⟩
 obtain⟨re,hre'⟩:∃r,r=z8n E D:=⟨_,rfl⟩
 rw[<-hrb',<-hre']
 have HRB:=Lib.hid hrb'
 have HRE:=Lib.hid hre'
 obtain⟨Z,hZ⟩:∃Z,Z=E.zip D:=⟨_,rfl⟩
 have hZl:Z.length=n:=by rw[hZ,List.length_zip,hE,hD];exact Nat.min_self _
 have HZ:=Lib.hid hZ
 have HZL:=Lib.hid hZl
 have HA:=Lib.hid hra
 have HB:=Lib.hid hrb
 have HE:=Lib.hid hE
 have HD:=Lib.hid hD
 have HS:=Lib.hid hs
 have q1:decide ((n:Int)<1)=false:=decide_eq_false (by omega)
 have q2:decide (4<(n:Int))=false:=decide_eq_false (by omega)
 have q3:((n:Int) !=(n:Int))=false:=by simp
 clear hra hrb hE hD hs hZ hZl hrb' hre'
 go_enter Tryz.func120,Tryz.ntmps120
 go_wp2
 go_loopw [6,26] (fun v i wr=>∃k:Nat,k<=n/\i= .int .i64 k/\(∀p∈Z.take k,okA p=true)/\wr.ownsRow w.heap.size 79 2 v (2*k) (zo (z4N (Z.take k)))/\Below w.heap.size w wr) (fun _ i _=>n-(intOf i).toNat)
 case atStart=>exact⟨0,Nat.zero_le _,rfl,by simp,World.ownsRow_nil _ _ _ _,Below.refl _ _⟩
 case round=>
  obtain⟨k,hk,rfl,hall,hown,hb⟩:=hrel
  have HALL:=Lib.hid hall
  have HO:=Lib.hid hown
  have hbsz:=hb.size
  clear hall hown
  by_cases hlt:k<n
  ·have hkE:k<E.length:=by rw[HE.out];exact hlt
   have hkD:k<D.length:=by rw[HD.out];exact hlt
   have hkn:(k:Int)<(n:Int):=by omega
   obtain⟨b,off,rfl,hbB,hc0⟩:=(HA.out.below hb).at_ (zdV hkE)
   obtain⟨b',off',rfl,hbB',hd0⟩:=(HB.out.below hb).at_ (k:=k) (u:=.string D[k]) (by simp[hkD])
   have hz:Z[k]?=some (E[k],D[k]):=by rw[HZ.out];exact zmz hkE hkD
   have hds:=HS.out _ (List.getElem_mem hkD)
   obtain⟨x,hx⟩:∃x,x=E[k]:=⟨_,rfl⟩
   obtain⟨d,hd⟩:∃d,d=D[k]:=⟨_,rfl⟩
   rw[<-hx]at hc0 hz
   rw[<-hd]at hd0 hz hds
   have hmem:(x,d)∈E.zip D:=by rw[<-HZ.out];exact List.mem_of_getElem? hz
   have hts:=zhx hz
   clear hx hd
   by_cases ho:okA (x,d)=true
   ·obtain⟨o1,o2,o3⟩:=zau.1 ho
    have o1':0<=x:=o1
    have o2':x<=1000:=o2
    have o3':d.size<=16:=o3
    have d1:decide (x<0)=false:=decide_eq_false (by omega)
    have d2:decide (1000<x)=false:=decide_eq_false (by omega)
    have d3:decide (16<(d.size:Int))=false:=decide_eq_false (by omega)
    have hall2:∀p∈Z.take (k+1),okA p=true:=by
     intro p hp
     rw[hts]at hp
     rcases List.mem_append.1 hp with h|h
     ·exact HALL.out p h
     ·rw[List.mem_singleton.1 h];exact ho
    have HALL2:=Lib.hid hall2
    obtain⟨sx,hsx⟩:∃s,s=z5D x:=⟨_,rfl⟩
    have hfl:zo (z4N (Z.take (k+1)))=zo (z4N (Z.take k))++[.int .i64 5,.string sx,.int .i64 6,.string d]:=by
     rw[hts,zfs,z06,hsx];rfl
    have HFL:=Lib.hid hfl
    have HSX:=Lib.hid hsx
    have HNX:Hid (z1d x=true):=Lib.hid (zlW ho)
    have hdw:=(hb.cell (p:=⟨b',off'+k,none⟩) hbB').symm.trans hd0
    have HDW:=Lib.hid hdw
    clear o1 o2 o3 ho hall2 hfl hsx hts hz hmem hdw
    go_wp2
    go_region_held3 (fun w'=>w'.cell? ⟨b',off'+k,none⟩=some (.string d)/\Below w.heap.size w w')
     (first
      |exact tlS hbB' HDW.out hb.drew
      |exact tlS hbB' HDW.out hb6
      |exact tlS hbB' HDW.out (za hb6 _)
      |exact tlS hbB' HDW.out hb3)
     (first
      |(go_at_call 168;go_split_ands;(refine(z3X 5 x _ HNX.out).mono ?_);rw[<-HSX.out];rintro e w6 ⟨rfl,hk⟩;have hbx:Below wr.heap.size wr w6:=zw (Below.refl _ wr).drew hk;have hb6:=zw hb hbx;clear hk)
      |(go_split_ands;refine z4e (by rfl) (.tmp 45) (.tmp 53) 81 (by rfl) w.heap.size 79 iF _ 2 24 Tryz.underlying81 hiF hzF hsF hbF rfl (by decide) _ (2*k) _ (by rfl) (z0j HO.out (za hbx _) (Nat.le_refl _)) _ _ 2 2 [.int .i64 5,.string sx,.int .i64 6,.string d] (by rfl) (Rd.new _ _ _ (0,0)) (by rfl) (by simp[Value.oneCell']) (by unfold maxLen;omega) (by omega) (za hb6 _).size ?_;intro v3 w3 hown3 hg3;have hb3:Below w.heap.size w w3:=(za hb6 _).grown hg3 (za hb6 _).size (fun j hj=>(HO.out.lt j hj).1);have HO3:=Lib.hid hown3;clear hown3 hg3))
    all_goals go_wp2_with fail
    all_goals
     go_roundw
     case rel=>exact⟨k+1,by omega,by go_num,HALL2.out,by rw[HFL.out,show 2*(k+1)=2*k+2 by omega];exact HO3.out,hb3⟩
     case measure=>simp[intOf];omega
   ·have hno:¬zcM E D:=fun h=>ho (h.2 _ hmem)
    have hrb:rb=⟨#[]⟩:=by rw[HRB.out];exact(z9S hno).1
    have hre:re=200:=by rw[HRE.out];exact(z9S hno).2
    have hcase:decide (x<0)=true\/(decide (x<0)=false/\decide (1000<x)=true)\/(decide (x<0)=false/\decide (1000<x)=false/\decide (16<(d.size:Int))=true):=by
     by_cases x0:x<0
     ·exact .inl (decide_eq_true x0)
     ·by_cases x1:1000<x
      ·exact .inr (.inl ⟨decide_eq_false x0,decide_eq_true x1⟩)
      ·refine .inr (.inr ⟨decide_eq_false x0,decide_eq_false x1,decide_eq_true ?_⟩)
       have h:=fun h3=>ho (zau.2 ⟨show 0<=x by omega,show x<=1000 by omega,h3⟩)
       have h2:¬d.size<=16:=h
       omega
    subst hrb hre
    clear hno ho hts hz hmem
    rcases hcase with d1|⟨d1,d2⟩|⟨d1,d2,d3⟩
    all_goals
     go_wp2
     go_ret2
     exact⟨rfl,hb⟩
  ·obtain rfl:k=n:=by omega
   have hlt2:decide (k<k)=false:=by simp
   have htk:Z.take k=Z:=List.take_of_length_le (by rw[HZL.out];exact Nat.le_refl _)
   have hall:=HALL.out
   rw[htk]at hall
   have hP:zcM E D:=⟨by rw[HE.out,HD.out];exact⟨h1,h4,rfl⟩,by rw[<-HZ.out];exact hall⟩
   have hrb:rb=z6D (z4N Z):=by rw[HRB.out,HZ.out];exact(zev hP).1
   have hre:re=0:=by rw[HRE.out];exact(zev hP).2
   have HRBB:=Lib.hid hrb
   have HOK:=Lib.hid (zk4 hall)
   have HTL:Hid ((z4N Z).length=2*k):=Lib.hid (by rw[zbb,HZL.out])
   have ho:=HO.out
   rw[htk]at ho
   obtain⟨A2,c2,rfl,-,-⟩:=z0I ho
   have HR2:=Lib.hid (Rd.of_own ho)
   subst hre
   clear htk hall hP hrb ho hlt
   go_wp2_with (go_at_call 169;(refine(zeS (z4N Z) A2 (2*k) c2 rb _ HR2.out HTL.out (by omega) HOK.out HRBB.out).mono ?_);rintro e w5 ⟨rfl,hk5⟩)
   go_ret2
   exact⟨rfl,zw hb hk5⟩
theorem zfr (E:List Int) (D:List ByteArray) (A B:Option Addr) (n m c cb:Nat) (w:World) (hra:Rd w w.heap.size A (z1W E)) (hrb:Rd w w.heap.size B (D.map Value.string)) (hE:E.length=n) (hD:D.length=m) (hs:∀s∈D,s.size<=9223372036854775807):
  Calls Tryz.prog 120 #[.slice A n c,.slice B m cb] w fun e w'=>e= .returned (.tuple #[.string (z1j E D),.int .i64 (z8n E D)])/\Below w.heap.size w w':=by
 by_cases h:n=0\/4<n\/m≠n
 ·exact zfq E D A B n m c cb w hE hD h
 ·obtain rfl:m=n:=by omega
  exact zhw E D A B m c cb w hra hrb hE hD (by omega) (by omega) hs
end Go.Proofs.YtmfincpagnpkjaaGreat
