/- Part of the proof. -/
import Derived.Test.YtmfincpagnpkjaaGreatM45
set_option linter.all false
set_option maxRecDepth 100000
set_option maxHeartbeats 100000000
namespace Go.Proofs.YtmfincpagnpkjaaGreat
open Go.RowKit
theorem zfU (N S:Int) (w:World) (h1:3<=N) (h2:N<=6) (h3:1<=S) (h4:S<=8):
  Calls Tryz.prog 49 #[.agg #[.int .i64 N,.int .i64 S]] w fun e w'=>e= .returned (.bool true)/\Below w.heap.size w w':=by
 go_enter Tryz.func49,Tryz.ntmps49
 go_wp2
 go_ret
 exact⟨rfl,za (Below.refl _ _) _⟩
theorem zhX (N S:Int) (w:World) (h:yn N S=false):
  Calls Tryz.prog 49 #[.agg #[.int .i64 N,.int .i64 S]] w fun e w'=>e= .returned (.bool false)/\Below w.heap.size w w':=by
 have h':=zbS h
 clear h
 rcases(show N<3\/6<N\/(3<=N/\N<=6/\S<1)\/(3<=N/\N<=6/\8<S) by omega)with g|g|⟨g1,g2,g⟩|⟨g1,g2,g⟩
 all_goals
  clear h'
  by_cases k1:S<1<;>by_cases k2:8<S
  all_goals first|(exfalso;omega)|skip
  all_goals
   go_enter Tryz.func49,Tryz.ntmps49
   go_wp2
   go_ret
   refine⟨?_,za (Below.refl _ _) _⟩
   first|rfl|(simp;omega)
theorem zaj (N S:Int) (w:World):
  Calls Tryz.prog 21 #[.agg #[.int .i64 N,.int .i64 S]] w fun e w'=>e= .returned (.int .i64 (yl N S))/\Below w.heap.size w w':=by
 cases h:yn N S with
 |true=>
  obtain⟨h1,h2,h3,h4⟩:=yc.1 h
  unfold yl
  rw[if_pos h]
  have k1:=z4u h1 h2 h3 h4
  go_enter Tryz.func21,Tryz.ntmps21
  go_wp2_with (go_at_call 49;refine(zfU N S _ h1 h2 h3 h4).mono ?_;rintro e w1 ⟨rfl,hb⟩;have hc0:=ze2 hb;have hc1:=zgA hb)
  go_ret
  exact⟨rfl,ja hb⟩
 |false=>
  unfold yl
  rw[if_neg (by rw[h];simp)]
  go_enter Tryz.func21,Tryz.ntmps21
  go_wp2_with (go_at_call 49;refine(zhX N S _ h).mono ?_;rintro e w1 ⟨rfl,hb⟩)
  go_ret
  exact⟨rfl,ja hb⟩
def z0E (k a c:Int) (d:ByteArray):Prop:=(0<=a/\a<=1099511627776)/\((k=1/\1<=c/\c<=4/\d.size=0)\/(k=2/\1<=c/\c<=4/\(d.size:Int)=16*c)\/(k=3/\c=1/\d.size=0))
def jn (k a c:Int) (d:ByteArray):Bool:=decide ((0<=a/\a<=1099511627776)/\((k=1/\1<=c/\c<=4/\d.size=0)\/(k=2/\1<=c/\c<=4/\(d.size:Int)=16*c)\/(k=3/\c=1/\d.size=0)))
theorem z15 {k a c:Int} {d:ByteArray}:jn k a c d=true↔z0E k a c d:=decide_eq_true_iff
theorem yh {k a c:Int} {d:ByteArray} (h:¬z0E k a c d):jn k a c d=false:=decide_eq_false h
def z5D (n:Int):ByteArray:=⟨(z6z n).toArray⟩
theorem zit (n:Int):(z5D n).data.toList=z6z n:=z71 _
theorem z54 (n:Int):(z5D n).size<=6:=by
 have:=z6M n
 rw[z5D,z1w]
 exact this
def z5x (k a c:Int) (d:ByteArray):List Fld:=[(1,z5D k),(2,z5D a),(3,z5D c),(4,d)]
theorem z1z {k a c:Int} {d:ByteArray} (h:z0E k a c d):z1d k=true/\z1d a=true/\z1d c=true/\d.size<=64/\1<=k/\k<=3/\1<=c/\c<=4:=by
 obtain⟨⟨h1,h2⟩,h3⟩:=h
 simp only[z0J]
 omega
theorem z7w {k a c:Int} {d:ByteArray} (h:z0E k a c d):z2w (z5x k a c d):=by
 obtain⟨h1,h2,h3,h4,-⟩:=z1z h
 intro f hf
 simp only[z5x,List.mem_cons,List.not_mem_nil,or_false]at hf
 have e1:=z54 k
 have e2:=z54 a
 have e3:=z54 c
 rcases hf with rfl|rfl|rfl|rfl<;>rw[z2c]
 ·exact⟨show(1:Int)<=1 by decide,show(1:Int)<=255 by decide,show(z5D k).size<=400 by omega⟩
 ·exact⟨show(1:Int)<=2 by decide,show(2:Int)<=255 by decide,show(z5D a).size<=400 by omega⟩
 ·exact⟨show(1:Int)<=3 by decide,show(3:Int)<=255 by decide,show(z5D c).size<=400 by omega⟩
 ·exact⟨show(1:Int)<=4 by decide,show(4:Int)<=255 by decide,show d.size<=400 by omega⟩
def z6D (l:List Fld):ByteArray:=⟨(z5b l).toArray⟩
theorem z7X (l:List Fld):(z6D l).data.toList=z5b l:=z71 _
theorem znv {a b:ByteArray} (h:a.data.toList=b.data.toList):a=b:=by
 cases a;cases b
 simp only[ByteArray.mk.injEq]
 exact Array.toList_inj.1 h
def zaS (s:ByteArray):Prop:=∃k a c d,z0E k a c d/\s=z6D (z5x k a c d)
theorem zdb {l:List Fld} (h:z2w l) (hl:l.length<=64):z0G (z6D l).data.toList=l/\z1N (z6D l).data.toList=0:=by
 rw[z7X]
 unfold z0G z1N
 rw[z7c h hl]
 exact⟨rfl,rfl⟩
theorem zk9 {s:ByteArray} (h:z1N s.data.toList=0):z5b (z0G s.data.toList)=s.data.toList/\z2w (z0G s.data.toList)/\(z0G s.data.toList).length<=64:=by
 unfold z1N at h
 cases ht:jx 64 s.data.toList with
 |none=>rw[ht]at h;simp at h
 |some l=>
  have:=zdd ht
  unfold z0G
  rw[ht]
  exact this
theorem zmB (s:List UInt8):z1N s=0\/(z1N s=30/\z0G s=[]):=by
 unfold z1N z0G
 cases jx 64 s with
 |none=>right;exact⟨rfl,rfl⟩
 |some l=>left;rfl
theorem z1Y {n:Int} (h:z1d n=true):z8O (z5D n).data.toList=n/\z8P (z5D n).data.toList=0:=by
 rw[zit]
 obtain⟨h1,h2⟩:=zm8 h
 refine⟨h2, ?_⟩
 unfold z8P
 rw[if_pos h1]
theorem zma (l:List UInt8):z8P l=0\/z8P l=30:=by unfold z8P;split<;>simp
theorem zeF {k a c:Int} {d s:ByteArray} (h:z0E k a c d) (hs:s=z6D (z5x k a c d)):z0G s.data.toList=z5x k a c d/\z1N s.data.toList=0:=by
 subst hs
 exact zdb (z7w h) (by simp[z5x])
theorem zi6 {s t0 t1 t2 d:ByteArray} {i0 i1 i2 i3:Int} (hF:z0G s.data.toList=[(i0,t0),(i1,t1),(i2,t2),(i3,d)]):
  zaS s↔(z8P t0.data.toList=0/\z8P t1.data.toList=0/\z8P t2.data.toList=0/\z0E (z8O t0.data.toList) (z8O t1.data.toList) (z8O t2.data.toList) d/\z6D (z5x (z8O t0.data.toList) (z8O t1.data.toList) (z8O t2.data.toList) d)=s):=by
 constructor
 ·rintro⟨k,a,c,d',h,hs⟩
  obtain⟨h1,h2⟩:=zeF h hs
  rw[hF]at h1
  simp only[z5x,List.cons.injEq,Prod.mk.injEq,and_true]at h1
  obtain⟨⟨-,rfl⟩,⟨-,rfl⟩,⟨-,rfl⟩,-,rfl⟩:=h1
  obtain⟨n1,n2,n3,-⟩:=z1z h
  rw[(z1Y n1).1,(z1Y n2).1,(z1Y n3).1]
  exact⟨(z1Y n1).2,(z1Y n2).2,(z1Y n3).2,h,hs.symm⟩
 ·rintro⟨-,-,-,h,hs⟩
  exact⟨_,_,_,_,h,hs.symm⟩
theorem zkC {s:ByteArray} (h:zaS s):z1N s.data.toList=0/\(z0G s.data.toList).length=4:=by
 obtain⟨k,a,c,d,h,hs⟩:=h
 obtain⟨h1,h2⟩:=zeF h hs
 exact⟨h2,by rw[h1];rfl⟩
theorem zmb {l:List Fld} (h:l.length=4):∃i0 t0 i1 t1 i2 t2 i3 d,l=[(i0,t0),(i1,t1),(i2,t2),(i3,d)]:=by
 match l,h with
 |[(i0,t0),(i1,t1),(i2,t2),(i3,d)],_=>exact⟨i0,t0,i1,t1,i2,t2,i3,d,rfl⟩
theorem zkX {a b:List Fld} (ha:z2w a) (hb:z2w b) (h1:a.length<=64) (h2:b.length<=64) (h:z6D a=z6D b):a=b:=
 zm2 ha hb h1 h2 (by rw[<-z7X,<-z7X,h])
theorem zf1 {d:ByteArray} (h:d.size=0):d.toList.isEmpty=true:=by rw[zf2 h,ByteArray.toList_eq];rfl
theorem z4T (k a c:Int) (d:ByteArray) (w:World) (hd:d.size<=140737488351232):
  Calls Tryz.prog 212 #[.int .i64 k,.int .i64 a,.int .i64 c,.string d] w fun e w'=>e= .returned (.bool (jn k a c d))/\w=w':=by
 rcases(show a<0\/1099511627776<a\/(0<=a/\a<=1099511627776) by omega)with h|h|⟨a1,a2⟩
 ·have ha:decide (a<0)=true:=decide_eq_true h
  have hf:jn k a c d=false:=yh (by unfold z0E;omega)
  rw[hf]
  clear hf
  go_enter Tryz.func212,Tryz.ntmps212
  go_wp2
  go_ret
  exact⟨rfl,rfl⟩
 ·have ha:decide (1099511627776<a)=true:=decide_eq_true h
  have hf:jn k a c d=false:=yh (by unfold z0E;omega)
  have h0:decide (a<0)=false:=decide_eq_false (by omega)
  rw[hf]
  clear hf
  go_enter Tryz.func212,Tryz.ntmps212
  go_wp2
  go_ret
  exact⟨rfl,rfl⟩
 ·have h0:decide (a<0)=false:=decide_eq_false (by omega)
  have h1:decide (1099511627776<a)=false:=decide_eq_false (by omega)
  rcases(show c<1\/4<c\/(1<=c/\c<=4) by omega)with hc|hc|⟨c1,c2⟩
  ·skip
   rcases(show k=1\/k=2\/k=3\/(k≠1/\k≠2/\k≠3) by omega)with rfl|rfl|rfl|⟨kn1,kn2,kn3⟩
   ·skip
    have hf:jn 1 a c d=false:=yh (by unfold z0E;omega)
    have q1:decide (1<=c)=false:=decide_eq_false (by omega)
    have q2:decide (c<1)=true:=decide_eq_true hc
    have q3:(c==1)=false:=by rw[beq_eq_false_iff_ne];omega
    rw[hf]
    clear hf
    go_enter Tryz.func212,Tryz.ntmps212
    go_wp2
    go_ret
    exact⟨rfl,rfl⟩
   ·skip
    have hf:jn 2 a c d=false:=yh (by unfold z0E;omega)
    have q1:decide (1<=c)=false:=decide_eq_false (by omega)
    have q2:decide (c<1)=true:=decide_eq_true hc
    have q3:(c==1)=false:=by rw[beq_eq_false_iff_ne];omega
    rw[hf]
    clear hf
    go_enter Tryz.func212,Tryz.ntmps212
    go_wp2
    go_ret
    exact⟨rfl,rfl⟩
   ·skip
    have hf:jn 3 a c d=false:=yh (by unfold z0E;omega)
    have q1:decide (1<=c)=false:=decide_eq_false (by omega)
    have q2:decide (c<1)=true:=decide_eq_true hc
    have q3:(c==1)=false:=by rw[beq_eq_false_iff_ne];omega
    rw[hf]
    clear hf
    go_enter Tryz.func212,Tryz.ntmps212
    go_wp2
    go_ret
    exact⟨rfl,rfl⟩
   ·skip
    have k1:(k==1)=false:=by rw[beq_eq_false_iff_ne];exact kn1
    have k2:(k==2)=false:=by rw[beq_eq_false_iff_ne];exact kn2
    have k3:(k==3)=false:=by rw[beq_eq_false_iff_ne];exact kn3
    have hf:jn k a c d=false:=yh (by unfold z0E;omega)
    rw[hf]
    clear hf kn1 kn2 kn3
    go_enter Tryz.func212,Tryz.ntmps212
    go_wp2
    go_ret
    exact⟨rfl,rfl⟩
  ·skip
   rcases(show k=1\/k=2\/k=3\/(k≠1/\k≠2/\k≠3) by omega)with rfl|rfl|rfl|⟨kn1,kn2,kn3⟩
   ·skip
    have hf:jn 1 a c d=false:=yh (by unfold z0E;omega)
    have q1:decide (1<=c)=true:=decide_eq_true (by omega)
    have q2:decide (c<1)=false:=decide_eq_false (by omega)
    have q3:(c==1)=false:=by rw[beq_eq_false_iff_ne];omega
    have q4:decide (c<=4)=false:=decide_eq_false (by omega)
    have q5:decide (4<c)=true:=decide_eq_true hc
    rw[hf]
    clear hf
    go_enter Tryz.func212,Tryz.ntmps212
    go_wp2
    go_ret
    exact⟨rfl,rfl⟩
   ·skip
    have hf:jn 2 a c d=false:=yh (by unfold z0E;omega)
    have q1:decide (1<=c)=true:=decide_eq_true (by omega)
    have q2:decide (c<1)=false:=decide_eq_false (by omega)
    have q3:(c==1)=false:=by rw[beq_eq_false_iff_ne];omega
    have q4:decide (c<=4)=false:=decide_eq_false (by omega)
    have q5:decide (4<c)=true:=decide_eq_true hc
    rw[hf]
    clear hf
    go_enter Tryz.func212,Tryz.ntmps212
    go_wp2
    go_ret
    exact⟨rfl,rfl⟩
   ·skip
    have hf:jn 3 a c d=false:=yh (by unfold z0E;omega)
    have q1:decide (1<=c)=true:=decide_eq_true (by omega)
    have q2:decide (c<1)=false:=decide_eq_false (by omega)
    have q3:(c==1)=false:=by rw[beq_eq_false_iff_ne];omega
    have q4:decide (c<=4)=false:=decide_eq_false (by omega)
    have q5:decide (4<c)=true:=decide_eq_true hc
    rw[hf]
    clear hf
    go_enter Tryz.func212,Tryz.ntmps212
    go_wp2
    go_ret
    exact⟨rfl,rfl⟩
   ·skip
    have k1:(k==1)=false:=by rw[beq_eq_false_iff_ne];exact kn1
    have k2:(k==2)=false:=by rw[beq_eq_false_iff_ne];exact kn2
    have k3:(k==3)=false:=by rw[beq_eq_false_iff_ne];exact kn3
    have hf:jn k a c d=false:=yh (by unfold z0E;omega)
    rw[hf]
    clear hf kn1 kn2 kn3
    go_enter Tryz.func212,Tryz.ntmps212
    go_wp2
    go_ret
    exact⟨rfl,rfl⟩
  ·skip
   rcases(show k=1\/k=2\/k=3\/(k≠1/\k≠2/\k≠3) by omega)with rfl|rfl|rfl|⟨kn1,kn2,kn3⟩
   ·skip
    by_cases he:d.size=0
    ·skip
     have hf:jn 1 a c d=true:=z15.2 (by unfold z0E;omega)
     have q1:decide (1<=c)=true:=decide_eq_true c1
     have q2:decide (c<1)=false:=decide_eq_false (by omega)
     have q4:decide (c<=4)=true:=decide_eq_true c2
     have q5:decide (4<c)=false:=decide_eq_false (by omega)
     have z1:=zf1 he
     rw[hf]
     clear hf he
     go_enter Tryz.func212,Tryz.ntmps212
     go_wp2
     go_ret
     exact⟨rfl,rfl⟩
    ·skip
     have hf:jn 1 a c d=false:=yh (by unfold z0E;omega)
     have q1:decide (1<=c)=true:=decide_eq_true c1
     have q2:decide (c<1)=false:=decide_eq_false (by omega)
     have q4:decide (c<=4)=true:=decide_eq_true c2
     have q5:decide (4<c)=false:=decide_eq_false (by omega)
     have z1:=z1V (s:=d) (by omega)
     rw[hf]
     clear hf he
     go_enter Tryz.func212,Tryz.ntmps212
     go_wp2
     go_ret
     exact⟨rfl,rfl⟩
   ·skip
    by_cases he:(d.size:Int)=16*c
    ·skip
     have hf:jn 2 a c d=true:=z15.2 (by unfold z0E;omega)
     have q1:decide (1<=c)=true:=decide_eq_true c1
     have q2:decide (c<1)=false:=decide_eq_false (by omega)
     have q4:decide (c<=4)=true:=decide_eq_true c2
     have q5:decide (4<c)=false:=decide_eq_false (by omega)
     have z1:((d.size:Int)==c*16)=true:=by rw[beq_iff_eq];omega
     have z2:((d.size:Int)==16*c)=true:=by rw[beq_iff_eq];omega
     rw[hf]
     clear hf he
     go_enter Tryz.func212,Tryz.ntmps212
     go_wp2
     go_ret
     exact⟨rfl,rfl⟩
    ·skip
     have hf:jn 2 a c d=false:=yh (by unfold z0E;omega)
     have q1:decide (1<=c)=true:=decide_eq_true c1
     have q2:decide (c<1)=false:=decide_eq_false (by omega)
     have q4:decide (c<=4)=true:=decide_eq_true c2
     have q5:decide (4<c)=false:=decide_eq_false (by omega)
     have z1:((d.size:Int)==c*16)=false:=by rw[beq_eq_false_iff_ne];omega
     have z2:((d.size:Int)==16*c)=false:=by rw[beq_eq_false_iff_ne];omega
     rw[hf]
     clear hf he
     go_enter Tryz.func212,Tryz.ntmps212
     go_wp2
     go_ret
     exact⟨rfl,rfl⟩
   ·skip
    by_cases he:d.size=0
    ·have z1:=zf1 he
     by_cases hc1:c=1
     ·have q3:(c==1)=true:=by rw[beq_iff_eq];exact hc1
      have hf:jn 3 a c d=true:=z15.2 (by unfold z0E;omega)
      have q1:decide (1<=c)=true:=decide_eq_true c1
      have q2:decide (c<1)=false:=decide_eq_false (by omega)
      have q4:decide (c<=4)=true:=decide_eq_true c2
      have q5:decide (4<c)=false:=decide_eq_false (by omega)
      rw[hf]
      clear hf he hc1
      go_enter Tryz.func212,Tryz.ntmps212
      go_wp2
      go_ret
      exact⟨rfl,rfl⟩
     ·have q3:(c==1)=false:=by rw[beq_eq_false_iff_ne];exact hc1
      have hf:jn 3 a c d=false:=yh (by unfold z0E;omega)
      have q1:decide (1<=c)=true:=decide_eq_true c1
      have q2:decide (c<1)=false:=decide_eq_false (by omega)
      have q4:decide (c<=4)=true:=decide_eq_true c2
      have q5:decide (4<c)=false:=decide_eq_false (by omega)
      rw[hf]
      clear hf he hc1
      go_enter Tryz.func212,Tryz.ntmps212
      go_wp2
      go_ret
      exact⟨rfl,rfl⟩
    ·have z1:=z1V (s:=d) (by omega)
     by_cases hc1:c=1
     ·have q3:(c==1)=true:=by rw[beq_iff_eq];exact hc1
      have hf:jn 3 a c d=false:=yh (by unfold z0E;omega)
      have q1:decide (1<=c)=true:=decide_eq_true c1
      have q2:decide (c<1)=false:=decide_eq_false (by omega)
      have q4:decide (c<=4)=true:=decide_eq_true c2
      have q5:decide (4<c)=false:=decide_eq_false (by omega)
      rw[hf]
      clear hf he hc1
      go_enter Tryz.func212,Tryz.ntmps212
      go_wp2
      go_ret
      exact⟨rfl,rfl⟩
     ·have q3:(c==1)=false:=by rw[beq_eq_false_iff_ne];exact hc1
      have hf:jn 3 a c d=false:=yh (by unfold z0E;omega)
      have q1:decide (1<=c)=true:=decide_eq_true c1
      have q2:decide (c<1)=false:=decide_eq_false (by omega)
      have q4:decide (c<=4)=true:=decide_eq_true c2
      have q5:decide (4<c)=false:=decide_eq_false (by omega)
      rw[hf]
      clear hf he hc1
      go_enter Tryz.func212,Tryz.ntmps212
      go_wp2
      go_ret
      exact⟨rfl,rfl⟩
   ·skip
    have k1:(k==1)=false:=by rw[beq_eq_false_iff_ne];exact kn1
    have k2:(k==2)=false:=by rw[beq_eq_false_iff_ne];exact kn2
    have k3:(k==3)=false:=by rw[beq_eq_false_iff_ne];exact kn3
    have hf:jn k a c d=false:=yh (by unfold z0E;omega)
    rw[hf]
    clear hf kn1 kn2 kn3
    go_enter Tryz.func212,Tryz.ntmps212
    go_wp2
    go_ret
    exact⟨rfl,rfl⟩
theorem z8q (k a c:Int) (d:ByteArray) (w:World) (hd:d.size<=140737488351232):
  Calls Tryz.prog 35 #[.int .i64 k,.int .i64 a,.int .i64 c,.string d] w fun e w'=>e= .returned (.bool (jn k a c d))/\w=w':=by
 rcases(show a<0\/1099511627776<a\/(0<=a/\a<=1099511627776) by omega)with h|h|⟨a1,a2⟩
 ·have ha:decide (a<0)=true:=decide_eq_true h
  have hf:jn k a c d=false:=yh (by unfold z0E;omega)
  rw[hf]
  clear hf
  go_enter Tryz.func35,Tryz.ntmps35
  go_wp2
  go_ret
  exact⟨rfl,rfl⟩
 ·have ha:decide (1099511627776<a)=true:=decide_eq_true h
  have hf:jn k a c d=false:=yh (by unfold z0E;omega)
  have h0:decide (a<0)=false:=decide_eq_false (by omega)
  rw[hf]
  clear hf
  go_enter Tryz.func35,Tryz.ntmps35
  go_wp2
  go_ret
  exact⟨rfl,rfl⟩
 ·have h0:decide (a<0)=false:=decide_eq_false (by omega)
  have h1:decide (1099511627776<a)=false:=decide_eq_false (by omega)
  rcases(show c<1\/4<c\/(1<=c/\c<=4) by omega)with hc|hc|⟨c1,c2⟩
  ·skip
   rcases(show k=1\/k=2\/k=3\/(k≠1/\k≠2/\k≠3) by omega)with rfl|rfl|rfl|⟨kn1,kn2,kn3⟩
   ·skip
    have hf:jn 1 a c d=false:=yh (by unfold z0E;omega)
    have q1:decide (1<=c)=false:=decide_eq_false (by omega)
    have q2:decide (c<1)=true:=decide_eq_true hc
    have q3:(c==1)=false:=by rw[beq_eq_false_iff_ne];omega
    rw[hf]
    clear hf
    go_enter Tryz.func35,Tryz.ntmps35
    go_wp2
    go_ret
    exact⟨rfl,rfl⟩
   ·skip
    have hf:jn 2 a c d=false:=yh (by unfold z0E;omega)
    have q1:decide (1<=c)=false:=decide_eq_false (by omega)
    have q2:decide (c<1)=true:=decide_eq_true hc
    have q3:(c==1)=false:=by rw[beq_eq_false_iff_ne];omega
    rw[hf]
    clear hf
    go_enter Tryz.func35,Tryz.ntmps35
    go_wp2
    go_ret
    exact⟨rfl,rfl⟩
   ·skip
    have hf:jn 3 a c d=false:=yh (by unfold z0E;omega)
    have q1:decide (1<=c)=false:=decide_eq_false (by omega)
    have q2:decide (c<1)=true:=decide_eq_true hc
    have q3:(c==1)=false:=by rw[beq_eq_false_iff_ne];omega
    rw[hf]
    clear hf
    go_enter Tryz.func35,Tryz.ntmps35
    go_wp2
    go_ret
    exact⟨rfl,rfl⟩
   ·skip
    have k1:(k==1)=false:=by rw[beq_eq_false_iff_ne];exact kn1
    have k2:(k==2)=false:=by rw[beq_eq_false_iff_ne];exact kn2
    have k3:(k==3)=false:=by rw[beq_eq_false_iff_ne];exact kn3
    have hf:jn k a c d=false:=yh (by unfold z0E;omega)
    rw[hf]
    clear hf kn1 kn2 kn3
    go_enter Tryz.func35,Tryz.ntmps35
    go_wp2
    go_ret
    exact⟨rfl,rfl⟩
  ·skip
   rcases(show k=1\/k=2\/k=3\/(k≠1/\k≠2/\k≠3) by omega)with rfl|rfl|rfl|⟨kn1,kn2,kn3⟩
   ·skip
    have hf:jn 1 a c d=false:=yh (by unfold z0E;omega)
    have q1:decide (1<=c)=true:=decide_eq_true (by omega)
    have q2:decide (c<1)=false:=decide_eq_false (by omega)
    have q3:(c==1)=false:=by rw[beq_eq_false_iff_ne];omega
    have q4:decide (c<=4)=false:=decide_eq_false (by omega)
    have q5:decide (4<c)=true:=decide_eq_true hc
    rw[hf]
    clear hf
    go_enter Tryz.func35,Tryz.ntmps35
    go_wp2
    go_ret
    exact⟨rfl,rfl⟩
   ·skip
    have hf:jn 2 a c d=false:=yh (by unfold z0E;omega)
    have q1:decide (1<=c)=true:=decide_eq_true (by omega)
    have q2:decide (c<1)=false:=decide_eq_false (by omega)
    have q3:(c==1)=false:=by rw[beq_eq_false_iff_ne];omega
    have q4:decide (c<=4)=false:=decide_eq_false (by omega)
    have q5:decide (4<c)=true:=decide_eq_true hc
    rw[hf]
    clear hf
    go_enter Tryz.func35,Tryz.ntmps35
    go_wp2
    go_ret
    exact⟨rfl,rfl⟩
   ·skip
    have hf:jn 3 a c d=false:=yh (by unfold z0E;omega)
    have q1:decide (1<=c)=true:=decide_eq_true (by omega)
    have q2:decide (c<1)=false:=decide_eq_false (by omega)
    have q3:(c==1)=false:=by rw[beq_eq_false_iff_ne];omega
    have q4:decide (c<=4)=false:=decide_eq_false (by omega)
    have q5:decide (4<c)=true:=decide_eq_true hc
    rw[hf]
    clear hf
    go_enter Tryz.func35,Tryz.ntmps35
    go_wp2
    go_ret
    exact⟨rfl,rfl⟩
   ·skip
    have k1:(k==1)=false:=by rw[beq_eq_false_iff_ne];exact kn1
    have k2:(k==2)=false:=by rw[beq_eq_false_iff_ne];exact kn2
    have k3:(k==3)=false:=by rw[beq_eq_false_iff_ne];exact kn3
    have hf:jn k a c d=false:=yh (by unfold z0E;omega)
    rw[hf]
    clear hf kn1 kn2 kn3
    go_enter Tryz.func35,Tryz.ntmps35
    go_wp2
    go_ret
    exact⟨rfl,rfl⟩
  ·skip
   rcases(show k=1\/k=2\/k=3\/(k≠1/\k≠2/\k≠3) by omega)with rfl|rfl|rfl|⟨kn1,kn2,kn3⟩
   ·skip
    by_cases he:d.size=0
    ·skip
     have hf:jn 1 a c d=true:=z15.2 (by unfold z0E;omega)
     have q1:decide (1<=c)=true:=decide_eq_true c1
     have q2:decide (c<1)=false:=decide_eq_false (by omega)
     have q4:decide (c<=4)=true:=decide_eq_true c2
     have q5:decide (4<c)=false:=decide_eq_false (by omega)
     have z1:=zf1 he
     rw[hf]
     clear hf he
     go_enter Tryz.func35,Tryz.ntmps35
     go_wp2
     go_ret
     exact⟨rfl,rfl⟩
    ·skip
     have hf:jn 1 a c d=false:=yh (by unfold z0E;omega)
     have q1:decide (1<=c)=true:=decide_eq_true c1
     have q2:decide (c<1)=false:=decide_eq_false (by omega)
     have q4:decide (c<=4)=true:=decide_eq_true c2
     have q5:decide (4<c)=false:=decide_eq_false (by omega)
     have z1:=z1V (s:=d) (by omega)
     rw[hf]
     clear hf he
     go_enter Tryz.func35,Tryz.ntmps35
     go_wp2
     go_ret
     exact⟨rfl,rfl⟩
   ·skip
    by_cases he:(d.size:Int)=16*c
    ·skip
     have hf:jn 2 a c d=true:=z15.2 (by unfold z0E;omega)
     have q1:decide (1<=c)=true:=decide_eq_true c1
     have q2:decide (c<1)=false:=decide_eq_false (by omega)
     have q4:decide (c<=4)=true:=decide_eq_true c2
     have q5:decide (4<c)=false:=decide_eq_false (by omega)
     have z1:((d.size:Int)==c*16)=true:=by rw[beq_iff_eq];omega
     have z2:((d.size:Int)==16*c)=true:=by rw[beq_iff_eq];omega
     rw[hf]
     clear hf he
     go_enter Tryz.func35,Tryz.ntmps35
     go_wp2
     go_ret
     exact⟨rfl,rfl⟩
    ·skip
     have hf:jn 2 a c d=false:=yh (by unfold z0E;omega)
     have q1:decide (1<=c)=true:=decide_eq_true c1
     have q2:decide (c<1)=false:=decide_eq_false (by omega)
     have q4:decide (c<=4)=true:=decide_eq_true c2
     have q5:decide (4<c)=false:=decide_eq_false (by omega)
     have z1:((d.size:Int)==c*16)=false:=by rw[beq_eq_false_iff_ne];omega
     have z2:((d.size:Int)==16*c)=false:=by rw[beq_eq_false_iff_ne];omega
     rw[hf]
     clear hf he
     go_enter Tryz.func35,Tryz.ntmps35
     go_wp2
     go_ret
     exact⟨rfl,rfl⟩
   ·skip
    by_cases he:d.size=0
    ·have z1:=zf1 he
     by_cases hc1:c=1
     ·have q3:(c==1)=true:=by rw[beq_iff_eq];exact hc1
      have hf:jn 3 a c d=true:=z15.2 (by unfold z0E;omega)
      have q1:decide (1<=c)=true:=decide_eq_true c1
      have q2:decide (c<1)=false:=decide_eq_false (by omega)
      have q4:decide (c<=4)=true:=decide_eq_true c2
      have q5:decide (4<c)=false:=decide_eq_false (by omega)
      rw[hf]
      clear hf he hc1
      go_enter Tryz.func35,Tryz.ntmps35
      go_wp2
      go_ret
      exact⟨rfl,rfl⟩
     ·have q3:(c==1)=false:=by rw[beq_eq_false_iff_ne];exact hc1
      have hf:jn 3 a c d=false:=yh (by unfold z0E;omega)
      have q1:decide (1<=c)=true:=decide_eq_true c1
      have q2:decide (c<1)=false:=decide_eq_false (by omega)
      have q4:decide (c<=4)=true:=decide_eq_true c2
      have q5:decide (4<c)=false:=decide_eq_false (by omega)
      rw[hf]
      clear hf he hc1
      go_enter Tryz.func35,Tryz.ntmps35
      go_wp2
      go_ret
      exact⟨rfl,rfl⟩
    ·have z1:=z1V (s:=d) (by omega)
     by_cases hc1:c=1
     ·have q3:(c==1)=true:=by rw[beq_iff_eq];exact hc1
      have hf:jn 3 a c d=false:=yh (by unfold z0E;omega)
      have q1:decide (1<=c)=true:=decide_eq_true c1
      have q2:decide (c<1)=false:=decide_eq_false (by omega)
      have q4:decide (c<=4)=true:=decide_eq_true c2
      have q5:decide (4<c)=false:=decide_eq_false (by omega)
      rw[hf]
      clear hf he hc1
      go_enter Tryz.func35,Tryz.ntmps35
      go_wp2
      go_ret
      exact⟨rfl,rfl⟩
     ·have q3:(c==1)=false:=by rw[beq_eq_false_iff_ne];exact hc1
      have hf:jn 3 a c d=false:=yh (by unfold z0E;omega)
      have q1:decide (1<=c)=true:=decide_eq_true c1
      have q2:decide (c<1)=false:=decide_eq_false (by omega)
      have q4:decide (c<=4)=true:=decide_eq_true c2
      have q5:decide (4<c)=false:=decide_eq_false (by omega)
      rw[hf]
      clear hf he hc1
      go_enter Tryz.func35,Tryz.ntmps35
      go_wp2
      go_ret
      exact⟨rfl,rfl⟩
   ·skip
    have k1:(k==1)=false:=by rw[beq_eq_false_iff_ne];exact kn1
    have k2:(k==2)=false:=by rw[beq_eq_false_iff_ne];exact kn2
    have k3:(k==3)=false:=by rw[beq_eq_false_iff_ne];exact kn3
    have hf:jn k a c d=false:=yh (by unfold z0E;omega)
    rw[hf]
    clear hf kn1 kn2 kn3
    go_enter Tryz.func35,Tryz.ntmps35
    go_wp2
    go_ret
    exact⟨rfl,rfl⟩
theorem fl0 {w w1:World} {t:Int} {s:ByteArray} (hb:Below (w.alloc (z1H t s)).heap.size (w.alloc (z1H t s)) w1):w1.cell? ⟨w.heap.size,0,none⟩=some (.int .i64 t):=
 (hb.cell (p:=⟨w.heap.size,0,none⟩) (by simp)).trans (by unfold z1H;rw[World.cell?_alloc_mark];rfl)
theorem fl1 {w w1:World} {t:Int} {s:ByteArray} (hb:Below (w.alloc (z1H t s)).heap.size (w.alloc (z1H t s)) w1):w1.cell? ⟨w.heap.size,1,none⟩=some (.string s):=
 (hb.cell (p:=⟨w.heap.size,1,none⟩) (by simp)).trans (by unfold z1H;rw[World.cell?_alloc_mark];rfl)
theorem flf {w w1:World} {t:Int} {s:ByteArray} (hb:Below (w.alloc (z1H t s)).heap.size (w.alloc (z1H t s)) w1) (j:Nat):w1.frozen? ⟨w.heap.size,j,none⟩=false:=
 (hb.frozen (p:=⟨w.heap.size,j,none⟩) (by simp)).trans (by unfold z1H;rw[World.frozen?_alloc_mark];simp)
theorem z3X (t n:Int) (w:World) (hn:z1d n=true):
  Calls Tryz.prog 168 #[.int .i64 t,.int .i64 n] w fun e w'=>e= .returned (.agg #[.int .i64 t,.string (z5D n)])/\Below w.heap.size w w':=by
 obtain⟨s,hs⟩:∃s,s=z5D n:=⟨_,rfl⟩
 rw[<-hs]
 have HS:Hid ((⟨(z6z n).toArray⟩:ByteArray)=s):=Lib.hid (by rw[hs];rfl)
 have HN:=Lib.hid hn
 clear hs hn
 go_enter Tryz.func168,Tryz.ntmps168
 go_wp2_with (go_at_call 211;(refine(zin n _ HN.out).mono ?_);rw[HS.out];rintro e w1 ⟨rfl,hk⟩;have hb:Below (w.alloc (z1H 0 ⟨#[]⟩)).heap.size (w.alloc (z1H 0 ⟨#[]⟩)) w1:=hk;have hc0:=fl0 hb;have hc1:=fl1 hb;have hf0:=flf hb 0;have hf1:=flf hb 1;clear hk)
 have hbw:Below w.heap.size w w1:=zw (za (Below.refl _ _) _) hb
 refine bodyPost_ret (v:=.agg #[.int .i64 t,.string s]) (by simp[results,Tryz.results168,go_sem,hc0,hc1]) rfl ⟨rfl, ?_⟩
 exact(hbw.setCell (p:=⟨w.heap.size,0,none⟩) (Nat.le_refl _) _).setCell (p:=⟨w.heap.size,1,none⟩) (Nat.le_refl _) _
theorem z5w (t n:Int) (w:World) (hn:z1d n=true):
  Calls Tryz.prog 37 #[.int .i64 t,.int .i64 n] w fun e w'=>e= .returned (.agg #[.int .i64 t,.string (z5D n)])/\Below w.heap.size w w':=by
 obtain⟨s,hs⟩:∃s,s=z5D n:=⟨_,rfl⟩
 rw[<-hs]
 have HS:Hid ((⟨(z6z n).toArray⟩:ByteArray)=s):=Lib.hid (by rw[hs];rfl)
 have HN:=Lib.hid hn
 clear hs hn
 go_enter Tryz.func37,Tryz.ntmps37
 go_wp2_with (go_at_call 69;(refine(zkr n _ HN.out).mono ?_);rw[HS.out];rintro e w1 ⟨rfl,hk⟩;have hb:Below (w.alloc (z1H 0 ⟨#[]⟩)).heap.size (w.alloc (z1H 0 ⟨#[]⟩)) w1:=hk;have hc0:=fl0 hb;have hc1:=fl1 hb;have hf0:=flf hb 0;have hf1:=flf hb 1;clear hk)
 have hbw:Below w.heap.size w w1:=zw (za (Below.refl _ _) _) hb
 refine bodyPost_ret (v:=.agg #[.int .i64 t,.string s]) (by simp[results,Tryz.results37,go_sem,hc0,hc1]) rfl ⟨rfl, ?_⟩
 exact(hbw.setCell (p:=⟨w.heap.size,0,none⟩) (Nat.le_refl _) _).setCell (p:=⟨w.heap.size,1,none⟩) (Nat.le_refl _) _
theorem zeS (l:List Fld) (A:Option Addr) (n c:Nat) (s:ByteArray) (w:World) (hr:Rd w w.heap.size A (zo l)) (hln:l.length=n) (h64:n<=64) (hok:z2w l) (hs:s=z6D l):
  Calls Tryz.prog 169 #[.slice A n c] w fun e w'=>e= .returned (.tuple #[.string s,.int .i64 0])/\Below w.heap.size w w':=by
 subst hln
 have HR:=Lib.hid hr
 have HO:=Lib.hid hok
 have HS:=Lib.hid hs
 clear hr hok hs
 go_enter Tryz.func169,Tryz.ntmps169
 go_wp2_with (go_at_call 131;(refine(znq l A c s _ HS.out h64 HO.out HR.out).mono ?_);rintro e w1 ⟨rfl,hk⟩)
 go_ret2
 exact⟨rfl,hk⟩
theorem zai (w:World) (cs:Array Value) (t:TypeId) (g:Nat) (hg:w.heap.size=g):Rd (w.alloc (.cells cs t)) (w.alloc (.cells cs t)).heap.size (some ⟨g,0,none⟩) cs.toList:=by
 subst hg
 have h:=Rd.new w cs t (0,0)
 rw[World.size_alloc]
 exact h
theorem zc7 (k a c:Int) (d s:ByteArray) (w:World) (hd:d.size<=140737488351232) (h:z0E k a c d) (hs:s=z6D (z5x k a c d)):
  Calls Tryz.prog 171 #[.int .i64 k,.int .i64 a,.int .i64 c,.string d] w fun e w'=>e= .returned (.tuple #[.string s,.int .i64 0])/\Below w.heap.size w w':=by
 obtain⟨n1,n2,n3,-⟩:=z1z h
 have HT:=Lib.hid (z15.2 h)
 have HO:=Lib.hid (z7w h)
 have N1:=Lib.hid n1
 have N2:=Lib.hid n2
 have N3:=Lib.hid n3
 obtain⟨sk,hsk⟩:∃s,s=z5D k:=⟨_,rfl⟩
 obtain⟨sa,hsa⟩:∃s,s=z5D a:=⟨_,rfl⟩
 obtain⟨sc,hsc⟩:∃s,s=z5D c:=⟨_,rfl⟩
 have hF:zo (z5x k a c d)=[.int .i64 1,.string sk,.int .i64 2,.string sa,.int .i64 3,.string sc,.int .i64 4,.string d]:=by rw[hsk,hsa,hsc];rfl
 have HK:=Lib.hid hsk
 have HA:=Lib.hid hsa
 have HC:=Lib.hid hsc
 have HF:=Lib.hid hF
 have HS:=Lib.hid hs
 clear n1 n2 n3 h hF hsk hsa hsc hs
 go_enter Tryz.func171,Tryz.ntmps171
 go_wp2_with (first
  |(go_at_call 212;(refine(z4T k a c d _ hd).mono ?_);rw[HT.out];rintro e w' ⟨rfl,rfl⟩)
  |(go_at_call_of 168 (Value.int .i64 1);(refine(z3X 1 k _ N1.out).mono ?_);rw[<-HK.out];rintro e w1 ⟨rfl,hb⟩)
  |(go_at_call_of 168 (Value.int .i64 2);(refine(z3X 2 a _ N2.out).mono ?_);rw[<-HA.out];rintro e w2 ⟨rfl,hk⟩;replace hb:=zw hb hk;clear hk)
  |(go_at_call_of 168 (Value.int .i64 3);(refine(z3X 3 c _ N3.out).mono ?_);rw[<-HC.out];rintro e w3 ⟨rfl,hk⟩;replace hb:=zw hb hk;clear hk)
  |(go_at_call 169;(refine(zeS (z5x k a c d) _ 4 4 s _ (by rw[HF.out];exact zai w3 #[.int .i64 1,.string sk,.int .i64 2,.string sa,.int .i64 3,.string sc,.int .i64 4,.string d] 79 _ rfl) rfl (by decide) HO.out HS.out).mono ?_);rintro e w4 ⟨rfl,hk⟩;replace hb:=zw (za hb _) hk;clear hk))
 go_ret2
 exact⟨rfl,hb⟩
theorem zkY (k a c:Int) (d:ByteArray) (w:World) (hd:d.size<=140737488351232) (h:¬z0E k a c d):
  Calls Tryz.prog 171 #[.int .i64 k,.int .i64 a,.int .i64 c,.string d] w fun e w'=>e= .returned (.tuple #[.string ⟨#[]⟩,.int .i64 200])/\Below w.heap.size w w':=by
 have HT:=Lib.hid (yh h)
 clear h
 go_enter Tryz.func171,Tryz.ntmps171
 go_wp2_with (go_at_call 212;(refine(z4T k a c d _ hd).mono ?_);rw[HT.out];rintro e w' ⟨rfl,rfl⟩)
 go_ret2
 exact⟨rfl,Below.refl _ _⟩
theorem zmF (l:List Fld) (A:Option Addr) (n c:Nat) (s:ByteArray) (w:World) (hr:Rd w w.heap.size A (zo l)) (hln:l.length=n) (h64:n<=64) (hok:z2w l) (hs:s=z6D l):
  Calls Tryz.prog 36 #[.slice A n c] w fun e w'=>e= .returned (.tuple #[.string s,.int .i64 0])/\Below w.heap.size w w':=by
 have h:=zfX l A n c w hr hln
 have hk:=z1E.2 ⟨by rw[hln];exact h64,hok⟩
 unfold z6m z7W at h
 rw[if_pos hk,if_pos hk]at h
 rw[hs]
 exact h
theorem zfZ (k a c:Int) (d s:ByteArray) (w:World) (hd:d.size<=140737488351232) (h:z0E k a c d) (hs:s=z6D (z5x k a c d)):
  Calls Tryz.prog 11 #[.int .i64 k,.int .i64 a,.int .i64 c,.string d] w fun e w'=>e= .returned (.tuple #[.string s,.int .i64 0])/\Below w.heap.size w w':=by
 obtain⟨n1,n2,n3,-⟩:=z1z h
 have HT:=Lib.hid (z15.2 h)
 have HO:=Lib.hid (z7w h)
 have N1:=Lib.hid n1
 have N2:=Lib.hid n2
 have N3:=Lib.hid n3
 obtain⟨sk,hsk⟩:∃s,s=z5D k:=⟨_,rfl⟩
 obtain⟨sa,hsa⟩:∃s,s=z5D a:=⟨_,rfl⟩
 obtain⟨sc,hsc⟩:∃s,s=z5D c:=⟨_,rfl⟩
 have hF:zo (z5x k a c d)=[.int .i64 1,.string sk,.int .i64 2,.string sa,.int .i64 3,.string sc,.int .i64 4,.string d]:=by rw[hsk,hsa,hsc];rfl
 have HK:=Lib.hid hsk
 have HA:=Lib.hid hsa
 have HC:=Lib.hid hsc
 have HF:=Lib.hid hF
 have HS:=Lib.hid hs
 clear n1 n2 n3 h hF hsk hsa hsc hs
 go_enter Tryz.func11,Tryz.ntmps11
 go_wp2_with (first
  |(go_at_call 35;(refine(z8q k a c d _ hd).mono ?_);rw[HT.out];rintro e w' ⟨rfl,rfl⟩)
  |(go_at_call_of 37 (Value.int .i64 1);(refine(z5w 1 k _ N1.out).mono ?_);rw[<-HK.out];rintro e w1 ⟨rfl,hb⟩)
  |(go_at_call_of 37 (Value.int .i64 2);(refine(z5w 2 a _ N2.out).mono ?_);rw[<-HA.out];rintro e w2 ⟨rfl,hk⟩;replace hb:=zw hb hk;clear hk)
  |(go_at_call_of 37 (Value.int .i64 3);(refine(z5w 3 c _ N3.out).mono ?_);rw[<-HC.out];rintro e w3 ⟨rfl,hk⟩;replace hb:=zw hb hk;clear hk)
  |(go_at_call 36;(refine(zmF (z5x k a c d) _ 4 4 s _ (by rw[HF.out];exact zai w3 #[.int .i64 1,.string sk,.int .i64 2,.string sa,.int .i64 3,.string sc,.int .i64 4,.string d] 79 _ rfl) rfl (by decide) HO.out HS.out).mono ?_);rintro e w4 ⟨rfl,hk⟩;replace hb:=zw (za hb _) hk;clear hk))
 go_ret2
 exact⟨rfl,hb⟩
end Go.Proofs.YtmfincpagnpkjaaGreat
