/- Part of the proof of one statement: what the program's functions compute. -/
import Derived.Test.YtmfincpagnpkjaaGreatM03
set_option linter.all false
set_option maxRecDepth 100000
set_option maxHeartbeats 100000000
namespace Go.Proofs.YtmfincpagnpkjaaGreat
open Go.RowKit
section
attribute [local go_sem] z2u z0W z0S z2E z44 z48 z5M z5I z43 z42 z7P z56 z55 z3u z41 z3C z40 z3B z2o z3Z z3A z2n z5a z3z z3F z59 z3y z3E z58 z3x z3D
def rk1 (q:AskM):Bool:=(yx q.epoch 1 16777215&&(q.seq==0&&(q.mask==0&&(q.node==0&&(q.oe==0&&(q.oq==0&&(q.block.toList==noB.toList)))))))
def rk2 (q:AskM):Bool:=(yx q.epoch 1 16777215&&(q.seq==0&&(q.mask==0&&(q.node==0&&(q.oe==0&&(q.oq==0&&(q.block.toList==noB.toList)))))))
def rk3 (q:AskM):Bool:=(yx q.epoch 1 16777215&&(q.seq==0&&(q.mask==0&&(q.node==0&&(q.oe==0&&(q.oq==0&&(q.block.toList==noB.toList)))))))
def zlL (q:AskM):Bool:=(yx q.epoch 1 16777215&&(q.seq==0&&(q.mask==0&&(q.node==0&&(q.oe==0&&(q.oq==0&&(q.block.toList==noB.toList)))))))
def rk8 (q:AskM):Bool:=(q.epoch==0&&(q.seq==0&&(q.mask==0&&(q.node==0&&(q.oe==0&&(q.oq==0&&(q.block.toList==noB.toList)))))))
def rk4 (q:AskM):Bool:=(yx q.epoch 1 16777215&&(yx q.seq 1 16777215&&(yx q.mask 1 63&&(((q.block.size:Int)==16)&&(q.node==0&&(q.oe==0&&(q.oq==0)))))))
def rk5 (q:AskM):Bool:=(yx q.epoch 1 16777215&&(yx q.seq 1 16777215&&(q.mask==0&&(q.node==0&&(q.oe==0&&(q.oq==0&&(q.block.toList==noB.toList)))))))
def rk7 (q:AskM):Bool:=(yx q.epoch 1 16777215&&(yx q.seq 1 16777215&&(((q.block.size:Int)==16)&&(q.mask==0&&(q.node==0&&(q.oe==0&&(q.oq==0)))))))
def rk6 (q:AskM):Bool:=(yx q.epoch 1 16777215&&(yx q.mask 0 1&&(yx q.oe 0 16777215&&(yx q.oq 0 16777215&&(decide (q.oe<q.epoch)&&(q.seq==0&&(q.node==0&&(q.block.toList==noB.toList))))))))
def rk9 (q:AskM):Bool:=(yx q.epoch 1 16777215&&(yx q.node 0 5&&(q.seq==0&&(q.mask==0&&(q.oe==0&&(q.oq==0&&(q.block.toList==noB.toList)))))))
def yb (q:AskM):Bool:=yx q.stripe 0 7&&(if q.kind=1 then rk1 q else if q.kind=2 then rk2 q else if q.kind=3 then rk3 q else if q.kind=10 then zlL q else if q.kind=8 then rk8 q else if q.kind=4 then rk4 q else if q.kind=5 then rk5 q else if q.kind=7 then rk7 q else if q.kind=6 then rk6 q else if q.kind=9 then rk9 q else false)
theorem zkp (qk qst qe qs qm qn oe oq:Int) (qb:ByteArray) (w:World):
  Calls Tryz.prog 93 #[.agg #[.int .i64 qk,.int .i64 qst,.int .i64 qe,.int .i64 qs,.int .i64 qm,.int .i64 qn,.int .i64 oe,.int .i64 oq,.string qb]] w fun e w'=>e= .returned (.bool (yb ⟨qk,qst,qe,qs,qm,qn,oe,oq,qb⟩))/\Below w.heap.size w w':=by
 cases hst:yx qst 0 7 with
 |false=>
  have hv:yb ⟨qk,qst,qe,qs,qm,qn,oe,oq,qb⟩=false:=by unfold yb;rw[hst];rfl
  rw[hv]
  exact zbm _ _ _ _ _ _ _ _ _ w hst
 |true=>
  by_cases k1:qk=1
  ·subst k1
   have hq:yb ⟨1,qst,qe,qs,qm,qn,oe,oq,qb⟩=rk1 ⟨1,qst,qe,qs,qm,qn,oe,oq,qb⟩:=by unfold yb;simp[hst]
   rw[hq]
   cases hep:yx qe 1 16777215 with
   |false=>
    have hv:rk1 ⟨1,qst,qe,qs,qm,qn,oe,oq,qb⟩=false:=by unfold rk1;simp only[hep,Bool.false_and]
    rw[hv]
    exact z8A _ _ _ _ _ _ _ _ w hst hep
   |true=>
    unfold rk1
    simp only[hep,Bool.true_and]
    exact zkB _ _ _ _ _ _ _ _ w hst hep
  by_cases k2:qk=2
  ·subst k2
   have hq:yb ⟨2,qst,qe,qs,qm,qn,oe,oq,qb⟩=rk2 ⟨2,qst,qe,qs,qm,qn,oe,oq,qb⟩:=by unfold yb;simp[hst]
   rw[hq]
   cases hep:yx qe 1 16777215 with
   |false=>
    have hv:rk2 ⟨2,qst,qe,qs,qm,qn,oe,oq,qb⟩=false:=by unfold rk2;simp only[hep,Bool.false_and]
    rw[hv]
    exact z8z _ _ _ _ _ _ _ _ w hst hep
   |true=>
    unfold rk2
    simp only[hep,Bool.true_and]
    exact zkA _ _ _ _ _ _ _ _ w hst hep
  by_cases k3:qk=3
  ·subst k3
   have hq:yb ⟨3,qst,qe,qs,qm,qn,oe,oq,qb⟩=rk3 ⟨3,qst,qe,qs,qm,qn,oe,oq,qb⟩:=by unfold yb;simp[hst]
   rw[hq]
   cases hep:yx qe 1 16777215 with
   |false=>
    have hv:rk3 ⟨3,qst,qe,qs,qm,qn,oe,oq,qb⟩=false:=by unfold rk3;simp only[hep,Bool.false_and]
    rw[hv]
    exact z8y _ _ _ _ _ _ _ _ w hst hep
   |true=>
    unfold rk3
    simp only[hep,Bool.true_and]
    exact zkz _ _ _ _ _ _ _ _ w hst hep
  by_cases k10:qk=10
  ·subst k10
   have hq:yb ⟨10,qst,qe,qs,qm,qn,oe,oq,qb⟩=zlL ⟨10,qst,qe,qs,qm,qn,oe,oq,qb⟩:=by unfold yb;simp[hst]
   rw[hq]
   cases hep:yx qe 1 16777215 with
   |false=>
    have hv:zlL ⟨10,qst,qe,qs,qm,qn,oe,oq,qb⟩=false:=by unfold zlL;simp only[hep,Bool.false_and]
    rw[hv]
    exact z7v _ _ _ _ _ _ _ _ w hst hep
   |true=>
    unfold zlL
    simp only[hep,Bool.true_and]
    exact zi4 _ _ _ _ _ _ _ _ w hst hep
  by_cases k8:qk=8
  ·subst k8
   have hq:yb ⟨8,qst,qe,qs,qm,qn,oe,oq,qb⟩=rk8 ⟨8,qst,qe,qs,qm,qn,oe,oq,qb⟩:=by unfold yb;simp[hst]
   rw[hq]
   unfold rk8
   exact zku _ _ _ _ _ _ _ _ w hst
  by_cases k4:qk=4
  ·subst k4
   have hq:yb ⟨4,qst,qe,qs,qm,qn,oe,oq,qb⟩=rk4 ⟨4,qst,qe,qs,qm,qn,oe,oq,qb⟩:=by unfold yb;simp[hst]
   rw[hq]
   cases hep:yx qe 1 16777215 with
   |false=>
    have hv:rk4 ⟨4,qst,qe,qs,qm,qn,oe,oq,qb⟩=false:=by unfold rk4;simp only[hep,Bool.false_and]
    rw[hv]
    exact z8x _ _ _ _ _ _ _ _ w hst hep
   |true=>
    cases hseq:yx qs 1 16777215 with
    |false=>
     have hv:rk4 ⟨4,qst,qe,qs,qm,qn,oe,oq,qb⟩=false:=by unfold rk4;simp only[hep,hseq,Bool.false_and,Bool.true_and]
     rw[hv]
     exact z7t _ _ _ _ _ _ _ _ w hst hep hseq
    |true=>
     cases hmask:yx qm 1 63 with
     |false=>
      have hv:rk4 ⟨4,qst,qe,qs,qm,qn,oe,oq,qb⟩=false:=by unfold rk4;simp only[hep,hseq,hmask,Bool.false_and,Bool.true_and]
      rw[hv]
      exact z6y _ _ _ _ _ _ _ _ w hst hep hseq hmask
     |true=>
      cases hlen:((qb.size:Int)==16)with
      |false=>
       have hv:rk4 ⟨4,qst,qe,qs,qm,qn,oe,oq,qb⟩=false:=by unfold rk4;simp only[hep,hseq,hmask,hlen,Bool.false_and,Bool.true_and]
       rw[hv]
       exact z7u _ _ _ _ _ _ _ _ w hst hep hseq hmask hlen
      |true=>
       unfold rk4
       simp only[hep,hseq,hmask,hlen,Bool.true_and]
       exact zky _ _ _ _ _ _ _ _ w hst hep hseq hmask hlen
  by_cases k5:qk=5
  ·subst k5
   have hq:yb ⟨5,qst,qe,qs,qm,qn,oe,oq,qb⟩=rk5 ⟨5,qst,qe,qs,qm,qn,oe,oq,qb⟩:=by unfold yb;simp[hst]
   rw[hq]
   cases hep:yx qe 1 16777215 with
   |false=>
    have hv:rk5 ⟨5,qst,qe,qs,qm,qn,oe,oq,qb⟩=false:=by unfold rk5;simp only[hep,Bool.false_and]
    rw[hv]
    exact z8w _ _ _ _ _ _ _ _ w hst hep
   |true=>
    cases hseq:yx qs 1 16777215 with
    |false=>
     have hv:rk5 ⟨5,qst,qe,qs,qm,qn,oe,oq,qb⟩=false:=by unfold rk5;simp only[hep,hseq,Bool.false_and,Bool.true_and]
     rw[hv]
     exact z7s _ _ _ _ _ _ _ _ w hst hep hseq
    |true=>
     unfold rk5
     simp only[hep,hseq,Bool.true_and]
     exact zkx _ _ _ _ _ _ _ _ w hst hep hseq
  by_cases k7:qk=7
  ·subst k7
   have hq:yb ⟨7,qst,qe,qs,qm,qn,oe,oq,qb⟩=rk7 ⟨7,qst,qe,qs,qm,qn,oe,oq,qb⟩:=by unfold yb;simp[hst]
   rw[hq]
   cases hep:yx qe 1 16777215 with
   |false=>
    have hv:rk7 ⟨7,qst,qe,qs,qm,qn,oe,oq,qb⟩=false:=by unfold rk7;simp only[hep,Bool.false_and]
    rw[hv]
    exact z8s _ _ _ _ _ _ _ _ w hst hep
   |true=>
    cases hseq:yx qs 1 16777215 with
    |false=>
     have hv:rk7 ⟨7,qst,qe,qs,qm,qn,oe,oq,qb⟩=false:=by unfold rk7;simp only[hep,hseq,Bool.false_and,Bool.true_and]
     rw[hv]
     exact z7o _ _ _ _ _ _ _ _ w hst hep hseq
    |true=>
     cases hlen:((qb.size:Int)==16)with
     |false=>
      have hv:rk7 ⟨7,qst,qe,qs,qm,qn,oe,oq,qb⟩=false:=by unfold rk7;simp only[hep,hseq,hlen,Bool.false_and,Bool.true_and]
      rw[hv]
      exact z7p _ _ _ _ _ _ _ _ w hst hep hseq hlen
     |true=>
      unfold rk7
      simp only[hep,hseq,hlen,Bool.true_and]
      exact zkv _ _ _ _ _ _ _ _ w hst hep hseq hlen
  by_cases k6:qk=6
  ·subst k6
   have hq:yb ⟨6,qst,qe,qs,qm,qn,oe,oq,qb⟩=rk6 ⟨6,qst,qe,qs,qm,qn,oe,oq,qb⟩:=by unfold yb;simp[hst]
   rw[hq]
   cases hep:yx qe 1 16777215 with
   |false=>
    have hv:rk6 ⟨6,qst,qe,qs,qm,qn,oe,oq,qb⟩=false:=by unfold rk6;simp only[hep,Bool.false_and]
    rw[hv]
    exact z8v _ _ _ _ _ _ _ _ w hst hep
   |true=>
    cases hm01:yx qm 0 1 with
    |false=>
     have hv:rk6 ⟨6,qst,qe,qs,qm,qn,oe,oq,qb⟩=false:=by unfold rk6;simp only[hep,hm01,Bool.false_and,Bool.true_and]
     rw[hv]
     exact z7r _ _ _ _ _ _ _ _ w hst hep hm01
    |true=>
     cases hoe:yx oe 0 16777215 with
     |false=>
      have hv:rk6 ⟨6,qst,qe,qs,qm,qn,oe,oq,qb⟩=false:=by unfold rk6;simp only[hep,hm01,hoe,Bool.false_and,Bool.true_and]
      rw[hv]
      exact z8u _ _ _ _ _ _ _ _ w hst hep hm01 hoe
     |true=>
      cases hoq:yx oq 0 16777215 with
      |false=>
       have hv:rk6 ⟨6,qst,qe,qs,qm,qn,oe,oq,qb⟩=false:=by unfold rk6;simp only[hep,hm01,hoe,hoq,Bool.false_and,Bool.true_and]
       rw[hv]
       exact z8t _ _ _ _ _ _ _ _ w hst hep hm01 hoe hoq
      |true=>
       cases hold:decide (oe<qe)with
       |false=>
        have hv:rk6 ⟨6,qst,qe,qs,qm,qn,oe,oq,qb⟩=false:=by unfold rk6;simp only[hep,hm01,hoe,hoq,hold,Bool.false_and,Bool.true_and]
        rw[hv]
        exact z7q _ _ _ _ _ _ _ _ w hst hep hm01 hoe hoq hold
       |true=>
        unfold rk6
        simp only[hep,hm01,hoe,hoq,hold,Bool.true_and]
        exact zkw _ _ _ _ _ _ _ _ w hst hep hm01 hoe hoq hold
  by_cases k9:qk=9
  ·subst k9
   have hq:yb ⟨9,qst,qe,qs,qm,qn,oe,oq,qb⟩=rk9 ⟨9,qst,qe,qs,qm,qn,oe,oq,qb⟩:=by unfold yb;simp[hst]
   rw[hq]
   cases hep:yx qe 1 16777215 with
   |false=>
    have hv:rk9 ⟨9,qst,qe,qs,qm,qn,oe,oq,qb⟩=false:=by unfold rk9;simp only[hep,Bool.false_and]
    rw[hv]
    exact z8r _ _ _ _ _ _ _ _ w hst hep
   |true=>
    cases hnode:yx qn 0 5 with
    |false=>
     have hv:rk9 ⟨9,qst,qe,qs,qm,qn,oe,oq,qb⟩=false:=by unfold rk9;simp only[hep,hnode,Bool.false_and,Bool.true_and]
     rw[hv]
     exact z6x _ _ _ _ _ _ _ _ w hst hep hnode
    |true=>
     unfold rk9
     simp only[hep,hnode,Bool.true_and]
     exact zkt _ _ _ _ _ _ _ _ w hst hep hnode
  have hv:yb ⟨qk,qst,qe,qs,qm,qn,oe,oq,qb⟩=false:=by unfold yb;simp[k1,k2,k3,k10,k8,k4,k5,k7,k6,k9]
  rw[hv]
  exact zbo _ _ _ _ _ _ _ _ _ w hst (by simpa using k1) (by simpa using k2) (by simpa using k3) (by simpa using k10) (by simpa using k8) (by simpa using k4) (by simpa using k5) (by simpa using k7) (by simpa using k6) (by simpa using k9) (by simpa using k8)
end
end Go.Proofs.YtmfincpagnpkjaaGreat
