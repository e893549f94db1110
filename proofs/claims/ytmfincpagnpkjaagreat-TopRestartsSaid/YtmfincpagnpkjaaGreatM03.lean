/- Part of the proof of one statement: what the program's functions compute. -/
import Derived.Test.YtmfincpagnpkjaaGreatM01
set_option linter.all false
set_option maxRecDepth 100000
set_option maxHeartbeats 100000000
namespace Go.Proofs.YtmfincpagnpkjaaGreat
open Go.RowKit
section
attribute [local go_sem] z2u z0W z0S z2E z44 z48 z5M z5I z43 z42 z7P z56 z55 z3u z41 z3C z40 z3B z2o z3Z z3A z2n z5a z3z z3F z59 z3y z3E z58 z3x z3D
theorem zbm (qk qst qe qs qm qn oe oq:Int) (qb:ByteArray) (w:World) (hst:yx qst 0 7=false):
  Calls Tryz.prog 93 #[.agg #[.int .i64 qk,.int .i64 qst,.int .i64 qe,.int .i64 qs,.int .i64 qm,.int .i64 qn,.int .i64 oe,.int .i64 oq,.string qb]] w fun e w'=>e= .returned (.bool (false))/\Below w.heap.size w w':=by
 have HST:=Lib.hid hst
 clear hst
 go_enter Tryz.func93,Tryz.ntmps93
 go_wp2_with (go_at_call 137;refine(zu _ _ _ _).mono ?_;rintro e w' ⟨rfl,rfl⟩;(first|rw[HST.out]))
 refine bodyPost_ret (v:=.bool false) (by simp[results,Tryz.results93,go_sem]) rfl ⟨rfl, ?_⟩
 repeat (first|exact Below.refl _ _|refine za ?_ _|refine Below.drew ?_)
theorem zbo (qk qst qe qs qm qn oe oq:Int) (qb:ByteArray) (w:World) (hst:yx qst 0 7=true) (k1:(qk==1)=false) (k2:(qk==2)=false) (k3:(qk==3)=false) (k10:(qk==10)=false) (k8:(qk==8)=false) (k4:(qk==4)=false) (k5:(qk==5)=false) (k7:(qk==7)=false) (k6:(qk==6)=false) (k9:(qk==9)=false) (k8n:(qk !=8)=true):
  Calls Tryz.prog 93 #[.agg #[.int .i64 qk,.int .i64 qst,.int .i64 qe,.int .i64 qs,.int .i64 qm,.int .i64 qn,.int .i64 oe,.int .i64 oq,.string qb]] w fun e w'=>e= .returned (.bool (false))/\Below w.heap.size w w':=by
 have HST:=Lib.hid hst
 clear hst
 go_enter Tryz.func93,Tryz.ntmps93
 go_wp2_with (go_at_call 137;refine(zu _ _ _ _).mono ?_;rintro e w' ⟨rfl,rfl⟩;(first|rw[HST.out]|skip))
 refine bodyPost_ret (v:=.bool false) (by simp[results,Tryz.results93,go_sem]) rfl ⟨rfl, ?_⟩
 repeat (first|exact Below.refl _ _|refine za ?_ _|refine Below.drew ?_)
theorem zkB (qst qe qs qm qn oe oq:Int) (qb:ByteArray) (w:World) (hst:yx qst 0 7=true) (hep:yx qe 1 16777215=true):
  Calls Tryz.prog 93 #[.agg #[.int .i64 1,.int .i64 qst,.int .i64 qe,.int .i64 qs,.int .i64 qm,.int .i64 qn,.int .i64 oe,.int .i64 oq,.string qb]] w fun e w'=>e= .returned (.bool (qs==0&&(qm==0&&(qn==0&&(oe==0&&(oq==0&&(qb.toList==noB.toList)))))))/\Below w.heap.size w w':=by
 have HST:=Lib.hid hst
 clear hst
 have Hep:=Lib.hid hep
 clear hep
 go_enter Tryz.func93,Tryz.ntmps93
 go_wp2_with (go_at_call 137;refine(zu _ _ _ _).mono ?_;rintro e w' ⟨rfl,rfl⟩;(first|rw[HST.out]|rw[Hep.out]))
 all_goals
  first
  |(refine bodyPost_ret (v:=.bool true) ?_ rfl ⟨?_, ?_⟩;·simp[results,Tryz.results93,go_sem])
  |(refine bodyPost_ret (v:=.bool false) ?_ rfl ⟨?_, ?_⟩;·simp[results,Tryz.results93,go_sem])
  ·simp[noB, *]
  ·repeat (first|exact Below.refl _ _|refine za ?_ _|refine Below.drew ?_)
theorem z8A (qst qe qs qm qn oe oq:Int) (qb:ByteArray) (w:World) (hst:yx qst 0 7=true) (hep:yx qe 1 16777215=false):
  Calls Tryz.prog 93 #[.agg #[.int .i64 1,.int .i64 qst,.int .i64 qe,.int .i64 qs,.int .i64 qm,.int .i64 qn,.int .i64 oe,.int .i64 oq,.string qb]] w fun e w'=>e= .returned (.bool (false))/\Below w.heap.size w w':=by
 have HST:=Lib.hid hst
 clear hst
 have Hep:=Lib.hid hep
 clear hep
 go_enter Tryz.func93,Tryz.ntmps93
 go_wp2_with (go_at_call 137;refine(zu _ _ _ _).mono ?_;rintro e w' ⟨rfl,rfl⟩;(first|rw[HST.out]|rw[Hep.out]))
 refine bodyPost_ret (v:=.bool false) (by simp[results,Tryz.results93,go_sem]) rfl ⟨rfl, ?_⟩
 repeat (first|exact Below.refl _ _|refine za ?_ _|refine Below.drew ?_)
theorem zkA (qst qe qs qm qn oe oq:Int) (qb:ByteArray) (w:World) (hst:yx qst 0 7=true) (hep:yx qe 1 16777215=true):
  Calls Tryz.prog 93 #[.agg #[.int .i64 2,.int .i64 qst,.int .i64 qe,.int .i64 qs,.int .i64 qm,.int .i64 qn,.int .i64 oe,.int .i64 oq,.string qb]] w fun e w'=>e= .returned (.bool (qs==0&&(qm==0&&(qn==0&&(oe==0&&(oq==0&&(qb.toList==noB.toList)))))))/\Below w.heap.size w w':=by
 have HST:=Lib.hid hst
 clear hst
 have Hep:=Lib.hid hep
 clear hep
 go_enter Tryz.func93,Tryz.ntmps93
 go_wp2_with (go_at_call 137;refine(zu _ _ _ _).mono ?_;rintro e w' ⟨rfl,rfl⟩;(first|rw[HST.out]|rw[Hep.out]))
 all_goals
  first
  |(refine bodyPost_ret (v:=.bool true) ?_ rfl ⟨?_, ?_⟩;·simp[results,Tryz.results93,go_sem])
  |(refine bodyPost_ret (v:=.bool false) ?_ rfl ⟨?_, ?_⟩;·simp[results,Tryz.results93,go_sem])
  ·simp[noB, *]
  ·repeat (first|exact Below.refl _ _|refine za ?_ _|refine Below.drew ?_)
theorem z8z (qst qe qs qm qn oe oq:Int) (qb:ByteArray) (w:World) (hst:yx qst 0 7=true) (hep:yx qe 1 16777215=false):
  Calls Tryz.prog 93 #[.agg #[.int .i64 2,.int .i64 qst,.int .i64 qe,.int .i64 qs,.int .i64 qm,.int .i64 qn,.int .i64 oe,.int .i64 oq,.string qb]] w fun e w'=>e= .returned (.bool (false))/\Below w.heap.size w w':=by
 have HST:=Lib.hid hst
 clear hst
 have Hep:=Lib.hid hep
 clear hep
 go_enter Tryz.func93,Tryz.ntmps93
 go_wp2_with (go_at_call 137;refine(zu _ _ _ _).mono ?_;rintro e w' ⟨rfl,rfl⟩;(first|rw[HST.out]|rw[Hep.out]))
 refine bodyPost_ret (v:=.bool false) (by simp[results,Tryz.results93,go_sem]) rfl ⟨rfl, ?_⟩
 repeat (first|exact Below.refl _ _|refine za ?_ _|refine Below.drew ?_)
theorem zkz (qst qe qs qm qn oe oq:Int) (qb:ByteArray) (w:World) (hst:yx qst 0 7=true) (hep:yx qe 1 16777215=true):
  Calls Tryz.prog 93 #[.agg #[.int .i64 3,.int .i64 qst,.int .i64 qe,.int .i64 qs,.int .i64 qm,.int .i64 qn,.int .i64 oe,.int .i64 oq,.string qb]] w fun e w'=>e= .returned (.bool (qs==0&&(qm==0&&(qn==0&&(oe==0&&(oq==0&&(qb.toList==noB.toList)))))))/\Below w.heap.size w w':=by
 have HST:=Lib.hid hst
 clear hst
 have Hep:=Lib.hid hep
 clear hep
 go_enter Tryz.func93,Tryz.ntmps93
 go_wp2_with (go_at_call 137;refine(zu _ _ _ _).mono ?_;rintro e w' ⟨rfl,rfl⟩;(first|rw[HST.out]|rw[Hep.out]))
 all_goals
  first
  |(refine bodyPost_ret (v:=.bool true) ?_ rfl ⟨?_, ?_⟩;·simp[results,Tryz.results93,go_sem])
  |(refine bodyPost_ret (v:=.bool false) ?_ rfl ⟨?_, ?_⟩;·simp[results,Tryz.results93,go_sem])
  ·simp[noB, *]
  ·repeat (first|exact Below.refl _ _|refine za ?_ _|refine Below.drew ?_)
theorem z8y (qst qe qs qm qn oe oq:Int) (qb:ByteArray) (w:World) (hst:yx qst 0 7=true) (hep:yx qe 1 16777215=false):
  Calls Tryz.prog 93 #[.agg #[.int .i64 3,.int .i64 qst,.int .i64 qe,.int .i64 qs,.int .i64 qm,.int .i64 qn,.int .i64 oe,.int .i64 oq,.string qb]] w fun e w'=>e= .returned (.bool (false))/\Below w.heap.size w w':=by
 have HST:=Lib.hid hst
 clear hst
 have Hep:=Lib.hid hep
 clear hep
 go_enter Tryz.func93,Tryz.ntmps93
 go_wp2_with (go_at_call 137;refine(zu _ _ _ _).mono ?_;rintro e w' ⟨rfl,rfl⟩;(first|rw[HST.out]|rw[Hep.out]))
 refine bodyPost_ret (v:=.bool false) (by simp[results,Tryz.results93,go_sem]) rfl ⟨rfl, ?_⟩
 repeat (first|exact Below.refl _ _|refine za ?_ _|refine Below.drew ?_)
theorem zi4 (qst qe qs qm qn oe oq:Int) (qb:ByteArray) (w:World) (hst:yx qst 0 7=true) (hep:yx qe 1 16777215=true):
  Calls Tryz.prog 93 #[.agg #[.int .i64 10,.int .i64 qst,.int .i64 qe,.int .i64 qs,.int .i64 qm,.int .i64 qn,.int .i64 oe,.int .i64 oq,.string qb]] w fun e w'=>e= .returned (.bool (qs==0&&(qm==0&&(qn==0&&(oe==0&&(oq==0&&(qb.toList==noB.toList)))))))/\Below w.heap.size w w':=by
 have HST:=Lib.hid hst
 clear hst
 have Hep:=Lib.hid hep
 clear hep
 go_enter Tryz.func93,Tryz.ntmps93
 go_wp2_with (go_at_call 137;refine(zu _ _ _ _).mono ?_;rintro e w' ⟨rfl,rfl⟩;(first|rw[HST.out]|rw[Hep.out]))
 all_goals
  first
  |(refine bodyPost_ret (v:=.bool true) ?_ rfl ⟨?_, ?_⟩;·simp[results,Tryz.results93,go_sem])
  |(refine bodyPost_ret (v:=.bool false) ?_ rfl ⟨?_, ?_⟩;·simp[results,Tryz.results93,go_sem])
  ·simp[noB, *]
  ·repeat (first|exact Below.refl _ _|refine za ?_ _|refine Below.drew ?_)
theorem z7v (qst qe qs qm qn oe oq:Int) (qb:ByteArray) (w:World) (hst:yx qst 0 7=true) (hep:yx qe 1 16777215=false):
  Calls Tryz.prog 93 #[.agg #[.int .i64 10,.int .i64 qst,.int .i64 qe,.int .i64 qs,.int .i64 qm,.int .i64 qn,.int .i64 oe,.int .i64 oq,.string qb]] w fun e w'=>e= .returned (.bool (false))/\Below w.heap.size w w':=by
 have HST:=Lib.hid hst
 clear hst
 have Hep:=Lib.hid hep
 clear hep
 go_enter Tryz.func93,Tryz.ntmps93
 go_wp2_with (go_at_call 137;refine(zu _ _ _ _).mono ?_;rintro e w' ⟨rfl,rfl⟩;(first|rw[HST.out]|rw[Hep.out]))
 refine bodyPost_ret (v:=.bool false) (by simp[results,Tryz.results93,go_sem]) rfl ⟨rfl, ?_⟩
 repeat (first|exact Below.refl _ _|refine za ?_ _|refine Below.drew ?_)
theorem zku (qst qe qs qm qn oe oq:Int) (qb:ByteArray) (w:World) (hst:yx qst 0 7=true):
  Calls Tryz.prog 93 #[.agg #[.int .i64 8,.int .i64 qst,.int .i64 qe,.int .i64 qs,.int .i64 qm,.int .i64 qn,.int .i64 oe,.int .i64 oq,.string qb]] w fun e w'=>e= .returned (.bool (qe==0&&(qs==0&&(qm==0&&(qn==0&&(oe==0&&(oq==0&&(qb.toList==noB.toList))))))))/\Below w.heap.size w w':=by
 have HST:=Lib.hid hst
 clear hst
 go_enter Tryz.func93,Tryz.ntmps93
 go_wp2_with (go_at_call 137;refine(zu _ _ _ _).mono ?_;rintro e w' ⟨rfl,rfl⟩;(first|rw[HST.out]))
 all_goals
  first
  |(refine bodyPost_ret (v:=.bool true) ?_ rfl ⟨?_, ?_⟩;·simp[results,Tryz.results93,go_sem])
  |(refine bodyPost_ret (v:=.bool false) ?_ rfl ⟨?_, ?_⟩;·simp[results,Tryz.results93,go_sem])
  ·simp[noB, *]
  ·repeat (first|exact Below.refl _ _|refine za ?_ _|refine Below.drew ?_)
theorem zky (qst qe qs qm qn oe oq:Int) (qb:ByteArray) (w:World) (hst:yx qst 0 7=true) (hep:yx qe 1 16777215=true) (hseq:yx qs 1 16777215=true) (hmask:yx qm 1 63=true) (hlen:((qb.size:Int)==16)=true):
  Calls Tryz.prog 93 #[.agg #[.int .i64 4,.int .i64 qst,.int .i64 qe,.int .i64 qs,.int .i64 qm,.int .i64 qn,.int .i64 oe,.int .i64 oq,.string qb]] w fun e w'=>e= .returned (.bool (qn==0&&(oe==0&&(oq==0))))/\Below w.heap.size w w':=by
 have HST:=Lib.hid hst
 clear hst
 have Hep:=Lib.hid hep
 clear hep
 have Hseq:=Lib.hid hseq
 clear hseq
 have Hmask:=Lib.hid hmask
 clear hmask
 go_enter Tryz.func93,Tryz.ntmps93
 go_wp2_with (go_at_call 137;refine(zu _ _ _ _).mono ?_;rintro e w' ⟨rfl,rfl⟩;(first|rw[HST.out]|rw[Hep.out]|rw[Hseq.out]|rw[Hmask.out]))
 all_goals
  first
  |(refine bodyPost_ret (v:=.bool true) ?_ rfl ⟨?_, ?_⟩;·simp[results,Tryz.results93,go_sem])
  |(refine bodyPost_ret (v:=.bool false) ?_ rfl ⟨?_, ?_⟩;·simp[results,Tryz.results93,go_sem])
  ·simp[*]
  ·repeat (first|exact Below.refl _ _|refine za ?_ _|refine Below.drew ?_)
theorem z8x (qst qe qs qm qn oe oq:Int) (qb:ByteArray) (w:World) (hst:yx qst 0 7=true) (hep:yx qe 1 16777215=false):
  Calls Tryz.prog 93 #[.agg #[.int .i64 4,.int .i64 qst,.int .i64 qe,.int .i64 qs,.int .i64 qm,.int .i64 qn,.int .i64 oe,.int .i64 oq,.string qb]] w fun e w'=>e= .returned (.bool (false))/\Below w.heap.size w w':=by
 have HST:=Lib.hid hst
 clear hst
 have Hep:=Lib.hid hep
 clear hep
 go_enter Tryz.func93,Tryz.ntmps93
 go_wp2_with (go_at_call 137;refine(zu _ _ _ _).mono ?_;rintro e w' ⟨rfl,rfl⟩;(first|rw[HST.out]|rw[Hep.out]))
 refine bodyPost_ret (v:=.bool false) (by simp[results,Tryz.results93,go_sem]) rfl ⟨rfl, ?_⟩
 repeat (first|exact Below.refl _ _|refine za ?_ _|refine Below.drew ?_)
theorem z7t (qst qe qs qm qn oe oq:Int) (qb:ByteArray) (w:World) (hst:yx qst 0 7=true) (hep:yx qe 1 16777215=true) (hseq:yx qs 1 16777215=false):
  Calls Tryz.prog 93 #[.agg #[.int .i64 4,.int .i64 qst,.int .i64 qe,.int .i64 qs,.int .i64 qm,.int .i64 qn,.int .i64 oe,.int .i64 oq,.string qb]] w fun e w'=>e= .returned (.bool (false))/\Below w.heap.size w w':=by
 have HST:=Lib.hid hst
 clear hst
 have Hep:=Lib.hid hep
 clear hep
 have Hseq:=Lib.hid hseq
 clear hseq
 go_enter Tryz.func93,Tryz.ntmps93
 go_wp2_with (go_at_call 137;refine(zu _ _ _ _).mono ?_;rintro e w' ⟨rfl,rfl⟩;(first|rw[HST.out]|rw[Hep.out]|rw[Hseq.out]))
 refine bodyPost_ret (v:=.bool false) (by simp[results,Tryz.results93,go_sem]) rfl ⟨rfl, ?_⟩
 repeat (first|exact Below.refl _ _|refine za ?_ _|refine Below.drew ?_)
theorem z6y (qst qe qs qm qn oe oq:Int) (qb:ByteArray) (w:World) (hst:yx qst 0 7=true) (hep:yx qe 1 16777215=true) (hseq:yx qs 1 16777215=true) (hmask:yx qm 1 63=false):
  Calls Tryz.prog 93 #[.agg #[.int .i64 4,.int .i64 qst,.int .i64 qe,.int .i64 qs,.int .i64 qm,.int .i64 qn,.int .i64 oe,.int .i64 oq,.string qb]] w fun e w'=>e= .returned (.bool (false))/\Below w.heap.size w w':=by
 have HST:=Lib.hid hst
 clear hst
 have Hep:=Lib.hid hep
 clear hep
 have Hseq:=Lib.hid hseq
 clear hseq
 have Hmask:=Lib.hid hmask
 clear hmask
 go_enter Tryz.func93,Tryz.ntmps93
 go_wp2_with (go_at_call 137;refine(zu _ _ _ _).mono ?_;rintro e w' ⟨rfl,rfl⟩;(first|rw[HST.out]|rw[Hep.out]|rw[Hseq.out]|rw[Hmask.out]))
 refine bodyPost_ret (v:=.bool false) (by simp[results,Tryz.results93,go_sem]) rfl ⟨rfl, ?_⟩
 repeat (first|exact Below.refl _ _|refine za ?_ _|refine Below.drew ?_)
theorem z7u (qst qe qs qm qn oe oq:Int) (qb:ByteArray) (w:World) (hst:yx qst 0 7=true) (hep:yx qe 1 16777215=true) (hseq:yx qs 1 16777215=true) (hmask:yx qm 1 63=true) (hlen:((qb.size:Int)==16)=false):
  Calls Tryz.prog 93 #[.agg #[.int .i64 4,.int .i64 qst,.int .i64 qe,.int .i64 qs,.int .i64 qm,.int .i64 qn,.int .i64 oe,.int .i64 oq,.string qb]] w fun e w'=>e= .returned (.bool (false))/\Below w.heap.size w w':=by
 have HST:=Lib.hid hst
 clear hst
 have Hep:=Lib.hid hep
 clear hep
 have Hseq:=Lib.hid hseq
 clear hseq
 have Hmask:=Lib.hid hmask
 clear hmask
 go_enter Tryz.func93,Tryz.ntmps93
 go_wp2_with (go_at_call 137;refine(zu _ _ _ _).mono ?_;rintro e w' ⟨rfl,rfl⟩;(first|rw[HST.out]|rw[Hep.out]|rw[Hseq.out]|rw[Hmask.out]))
 refine bodyPost_ret (v:=.bool false) (by simp[results,Tryz.results93,go_sem]) rfl ⟨rfl, ?_⟩
 repeat (first|exact Below.refl _ _|refine za ?_ _|refine Below.drew ?_)
theorem zkx (qst qe qs qm qn oe oq:Int) (qb:ByteArray) (w:World) (hst:yx qst 0 7=true) (hep:yx qe 1 16777215=true) (hseq:yx qs 1 16777215=true):
  Calls Tryz.prog 93 #[.agg #[.int .i64 5,.int .i64 qst,.int .i64 qe,.int .i64 qs,.int .i64 qm,.int .i64 qn,.int .i64 oe,.int .i64 oq,.string qb]] w fun e w'=>e= .returned (.bool (qm==0&&(qn==0&&(oe==0&&(oq==0&&(qb.toList==noB.toList))))))/\Below w.heap.size w w':=by
 have HST:=Lib.hid hst
 clear hst
 have Hep:=Lib.hid hep
 clear hep
 have Hseq:=Lib.hid hseq
 clear hseq
 go_enter Tryz.func93,Tryz.ntmps93
 go_wp2_with (go_at_call 137;refine(zu _ _ _ _).mono ?_;rintro e w' ⟨rfl,rfl⟩;(first|rw[HST.out]|rw[Hep.out]|rw[Hseq.out]))
 all_goals
  first
  |(refine bodyPost_ret (v:=.bool true) ?_ rfl ⟨?_, ?_⟩;·simp[results,Tryz.results93,go_sem])
  |(refine bodyPost_ret (v:=.bool false) ?_ rfl ⟨?_, ?_⟩;·simp[results,Tryz.results93,go_sem])
  ·simp[noB, *]
  ·repeat (first|exact Below.refl _ _|refine za ?_ _|refine Below.drew ?_)
theorem z8w (qst qe qs qm qn oe oq:Int) (qb:ByteArray) (w:World) (hst:yx qst 0 7=true) (hep:yx qe 1 16777215=false):
  Calls Tryz.prog 93 #[.agg #[.int .i64 5,.int .i64 qst,.int .i64 qe,.int .i64 qs,.int .i64 qm,.int .i64 qn,.int .i64 oe,.int .i64 oq,.string qb]] w fun e w'=>e= .returned (.bool (false))/\Below w.heap.size w w':=by
 have HST:=Lib.hid hst
 clear hst
 have Hep:=Lib.hid hep
 clear hep
 go_enter Tryz.func93,Tryz.ntmps93
 go_wp2_with (go_at_call 137;refine(zu _ _ _ _).mono ?_;rintro e w' ⟨rfl,rfl⟩;(first|rw[HST.out]|rw[Hep.out]))
 refine bodyPost_ret (v:=.bool false) (by simp[results,Tryz.results93,go_sem]) rfl ⟨rfl, ?_⟩
 repeat (first|exact Below.refl _ _|refine za ?_ _|refine Below.drew ?_)
theorem z7s (qst qe qs qm qn oe oq:Int) (qb:ByteArray) (w:World) (hst:yx qst 0 7=true) (hep:yx qe 1 16777215=true) (hseq:yx qs 1 16777215=false):
  Calls Tryz.prog 93 #[.agg #[.int .i64 5,.int .i64 qst,.int .i64 qe,.int .i64 qs,.int .i64 qm,.int .i64 qn,.int .i64 oe,.int .i64 oq,.string qb]] w fun e w'=>e= .returned (.bool (false))/\Below w.heap.size w w':=by
 have HST:=Lib.hid hst
 clear hst
 have Hep:=Lib.hid hep
 clear hep
 have Hseq:=Lib.hid hseq
 clear hseq
 go_enter Tryz.func93,Tryz.ntmps93
 go_wp2_with (go_at_call 137;refine(zu _ _ _ _).mono ?_;rintro e w' ⟨rfl,rfl⟩;(first|rw[HST.out]|rw[Hep.out]|rw[Hseq.out]))
 refine bodyPost_ret (v:=.bool false) (by simp[results,Tryz.results93,go_sem]) rfl ⟨rfl, ?_⟩
 repeat (first|exact Below.refl _ _|refine za ?_ _|refine Below.drew ?_)
theorem zkv (qst qe qs qm qn oe oq:Int) (qb:ByteArray) (w:World) (hst:yx qst 0 7=true) (hep:yx qe 1 16777215=true) (hseq:yx qs 1 16777215=true) (hlen:((qb.size:Int)==16)=true):
  Calls Tryz.prog 93 #[.agg #[.int .i64 7,.int .i64 qst,.int .i64 qe,.int .i64 qs,.int .i64 qm,.int .i64 qn,.int .i64 oe,.int .i64 oq,.string qb]] w fun e w'=>e= .returned (.bool (qm==0&&(qn==0&&(oe==0&&(oq==0)))))/\Below w.heap.size w w':=by
 have HST:=Lib.hid hst
 clear hst
 have Hep:=Lib.hid hep
 clear hep
 have Hseq:=Lib.hid hseq
 clear hseq
 go_enter Tryz.func93,Tryz.ntmps93
 go_wp2_with (go_at_call 137;refine(zu _ _ _ _).mono ?_;rintro e w' ⟨rfl,rfl⟩;(first|rw[HST.out]|rw[Hep.out]|rw[Hseq.out]))
 all_goals
  first
  |(refine bodyPost_ret (v:=.bool true) ?_ rfl ⟨?_, ?_⟩;·simp[results,Tryz.results93,go_sem])
  |(refine bodyPost_ret (v:=.bool false) ?_ rfl ⟨?_, ?_⟩;·simp[results,Tryz.results93,go_sem])
  ·simp[*]
  ·repeat (first|exact Below.refl _ _|refine za ?_ _|refine Below.drew ?_)
theorem z8s (qst qe qs qm qn oe oq:Int) (qb:ByteArray) (w:World) (hst:yx qst 0 7=true) (hep:yx qe 1 16777215=false):
  Calls Tryz.prog 93 #[.agg #[.int .i64 7,.int .i64 qst,.int .i64 qe,.int .i64 qs,.int .i64 qm,.int .i64 qn,.int .i64 oe,.int .i64 oq,.string qb]] w fun e w'=>e= .returned (.bool (false))/\Below w.heap.size w w':=by
 have HST:=Lib.hid hst
 clear hst
 have Hep:=Lib.hid hep
 clear hep
 go_enter Tryz.func93,Tryz.ntmps93
 go_wp2_with (go_at_call 137;refine(zu _ _ _ _).mono ?_;rintro e w' ⟨rfl,rfl⟩;(first|rw[HST.out]|rw[Hep.out]))
 refine bodyPost_ret (v:=.bool false) (by simp[results,Tryz.results93,go_sem]) rfl ⟨rfl, ?_⟩
 repeat (first|exact Below.refl _ _|refine za ?_ _|refine Below.drew ?_)
theorem z7o (qst qe qs qm qn oe oq:Int) (qb:ByteArray) (w:World) (hst:yx qst 0 7=true) (hep:yx qe 1 16777215=true) (hseq:yx qs 1 16777215=false):
  Calls Tryz.prog 93 #[.agg #[.int .i64 7,.int .i64 qst,.int .i64 qe,.int .i64 qs,.int .i64 qm,.int .i64 qn,.int .i64 oe,.int .i64 oq,.string qb]] w fun e w'=>e= .returned (.bool (false))/\Below w.heap.size w w':=by
 have HST:=Lib.hid hst
 clear hst
 have Hep:=Lib.hid hep
 clear hep
 have Hseq:=Lib.hid hseq
 clear hseq
 go_enter Tryz.func93,Tryz.ntmps93
 go_wp2_with (go_at_call 137;refine(zu _ _ _ _).mono ?_;rintro e w' ⟨rfl,rfl⟩;(first|rw[HST.out]|rw[Hep.out]|rw[Hseq.out]))
 refine bodyPost_ret (v:=.bool false) (by simp[results,Tryz.results93,go_sem]) rfl ⟨rfl, ?_⟩
 repeat (first|exact Below.refl _ _|refine za ?_ _|refine Below.drew ?_)
theorem z7p (qst qe qs qm qn oe oq:Int) (qb:ByteArray) (w:World) (hst:yx qst 0 7=true) (hep:yx qe 1 16777215=true) (hseq:yx qs 1 16777215=true) (hlen:((qb.size:Int)==16)=false):
  Calls Tryz.prog 93 #[.agg #[.int .i64 7,.int .i64 qst,.int .i64 qe,.int .i64 qs,.int .i64 qm,.int .i64 qn,.int .i64 oe,.int .i64 oq,.string qb]] w fun e w'=>e= .returned (.bool (false))/\Below w.heap.size w w':=by
 have HST:=Lib.hid hst
 clear hst
 have Hep:=Lib.hid hep
 clear hep
 have Hseq:=Lib.hid hseq
 clear hseq
 go_enter Tryz.func93,Tryz.ntmps93
 go_wp2_with (go_at_call 137;refine(zu _ _ _ _).mono ?_;rintro e w' ⟨rfl,rfl⟩;(first|rw[HST.out]|rw[Hep.out]|rw[Hseq.out]))
 refine bodyPost_ret (v:=.bool false) (by simp[results,Tryz.results93,go_sem]) rfl ⟨rfl, ?_⟩
 repeat (first|exact Below.refl _ _|refine za ?_ _|refine Below.drew ?_)
theorem zkw (qst qe qs qm qn oe oq:Int) (qb:ByteArray) (w:World) (hst:yx qst 0 7=true) (hep:yx qe 1 16777215=true) (hm01:yx qm 0 1=true) (hoe:yx oe 0 16777215=true) (hoq:yx oq 0 16777215=true) (hold:decide (oe<qe)=true):
  Calls Tryz.prog 93 #[.agg #[.int .i64 6,.int .i64 qst,.int .i64 qe,.int .i64 qs,.int .i64 qm,.int .i64 qn,.int .i64 oe,.int .i64 oq,.string qb]] w fun e w'=>e= .returned (.bool (qs==0&&(qn==0&&(qb.toList==noB.toList))))/\Below w.heap.size w w':=by
 have HST:=Lib.hid hst
 clear hst
 have Hep:=Lib.hid hep
 clear hep
 have Hm01:=Lib.hid hm01
 clear hm01
 have Hoe:=Lib.hid hoe
 clear hoe
 have Hoq:=Lib.hid hoq
 clear hoq
 go_enter Tryz.func93,Tryz.ntmps93
 go_wp2_with (go_at_call 137;refine(zu _ _ _ _).mono ?_;rintro e w' ⟨rfl,rfl⟩;(first|rw[HST.out]|rw[Hep.out]|rw[Hm01.out]|rw[Hoe.out]|rw[Hoq.out]))
 all_goals
  first
  |(refine bodyPost_ret (v:=.bool true) ?_ rfl ⟨?_, ?_⟩;·simp[results,Tryz.results93,go_sem])
  |(refine bodyPost_ret (v:=.bool false) ?_ rfl ⟨?_, ?_⟩;·simp[results,Tryz.results93,go_sem])
  ·simp[noB, *]
  ·repeat (first|exact Below.refl _ _|refine za ?_ _|refine Below.drew ?_)
theorem z8v (qst qe qs qm qn oe oq:Int) (qb:ByteArray) (w:World) (hst:yx qst 0 7=true) (hep:yx qe 1 16777215=false):
  Calls Tryz.prog 93 #[.agg #[.int .i64 6,.int .i64 qst,.int .i64 qe,.int .i64 qs,.int .i64 qm,.int .i64 qn,.int .i64 oe,.int .i64 oq,.string qb]] w fun e w'=>e= .returned (.bool (false))/\Below w.heap.size w w':=by
 have HST:=Lib.hid hst
 clear hst
 have Hep:=Lib.hid hep
 clear hep
 go_enter Tryz.func93,Tryz.ntmps93
 go_wp2_with (go_at_call 137;refine(zu _ _ _ _).mono ?_;rintro e w' ⟨rfl,rfl⟩;(first|rw[HST.out]|rw[Hep.out]))
 refine bodyPost_ret (v:=.bool false) (by simp[results,Tryz.results93,go_sem]) rfl ⟨rfl, ?_⟩
 repeat (first|exact Below.refl _ _|refine za ?_ _|refine Below.drew ?_)
theorem z7r (qst qe qs qm qn oe oq:Int) (qb:ByteArray) (w:World) (hst:yx qst 0 7=true) (hep:yx qe 1 16777215=true) (hm01:yx qm 0 1=false):
  Calls Tryz.prog 93 #[.agg #[.int .i64 6,.int .i64 qst,.int .i64 qe,.int .i64 qs,.int .i64 qm,.int .i64 qn,.int .i64 oe,.int .i64 oq,.string qb]] w fun e w'=>e= .returned (.bool (false))/\Below w.heap.size w w':=by
 have HST:=Lib.hid hst
 clear hst
 have Hep:=Lib.hid hep
 clear hep
 have Hm01:=Lib.hid hm01
 clear hm01
 go_enter Tryz.func93,Tryz.ntmps93
 go_wp2_with (go_at_call 137;refine(zu _ _ _ _).mono ?_;rintro e w' ⟨rfl,rfl⟩;(first|rw[HST.out]|rw[Hep.out]|rw[Hm01.out]))
 refine bodyPost_ret (v:=.bool false) (by simp[results,Tryz.results93,go_sem]) rfl ⟨rfl, ?_⟩
 repeat (first|exact Below.refl _ _|refine za ?_ _|refine Below.drew ?_)
theorem z8u (qst qe qs qm qn oe oq:Int) (qb:ByteArray) (w:World) (hst:yx qst 0 7=true) (hep:yx qe 1 16777215=true) (hm01:yx qm 0 1=true) (hoe:yx oe 0 16777215=false):
  Calls Tryz.prog 93 #[.agg #[.int .i64 6,.int .i64 qst,.int .i64 qe,.int .i64 qs,.int .i64 qm,.int .i64 qn,.int .i64 oe,.int .i64 oq,.string qb]] w fun e w'=>e= .returned (.bool (false))/\Below w.heap.size w w':=by
 have HST:=Lib.hid hst
 clear hst
 have Hep:=Lib.hid hep
 clear hep
 have Hm01:=Lib.hid hm01
 clear hm01
 have Hoe:=Lib.hid hoe
 clear hoe
 go_enter Tryz.func93,Tryz.ntmps93
 go_wp2_with (go_at_call 137;refine(zu _ _ _ _).mono ?_;rintro e w' ⟨rfl,rfl⟩;(first|rw[HST.out]|rw[Hep.out]|rw[Hm01.out]|rw[Hoe.out]))
 refine bodyPost_ret (v:=.bool false) (by simp[results,Tryz.results93,go_sem]) rfl ⟨rfl, ?_⟩
 repeat (first|exact Below.refl _ _|refine za ?_ _|refine Below.drew ?_)
theorem z8t (qst qe qs qm qn oe oq:Int) (qb:ByteArray) (w:World) (hst:yx qst 0 7=true) (hep:yx qe 1 16777215=true) (hm01:yx qm 0 1=true) (hoe:yx oe 0 16777215=true) (hoq:yx oq 0 16777215=false):
  Calls Tryz.prog 93 #[.agg #[.int .i64 6,.int .i64 qst,.int .i64 qe,.int .i64 qs,.int .i64 qm,.int .i64 qn,.int .i64 oe,.int .i64 oq,.string qb]] w fun e w'=>e= .returned (.bool (false))/\Below w.heap.size w w':=by
 have HST:=Lib.hid hst
 clear hst
 have Hep:=Lib.hid hep
 clear hep
 have Hm01:=Lib.hid hm01
 clear hm01
 have Hoe:=Lib.hid hoe
 clear hoe
 have Hoq:=Lib.hid hoq
 clear hoq
 go_enter Tryz.func93,Tryz.ntmps93
 go_wp2_with (go_at_call 137;refine(zu _ _ _ _).mono ?_;rintro e w' ⟨rfl,rfl⟩;(first|rw[HST.out]|rw[Hep.out]|rw[Hm01.out]|rw[Hoe.out]|rw[Hoq.out]))
 refine bodyPost_ret (v:=.bool false) (by simp[results,Tryz.results93,go_sem]) rfl ⟨rfl, ?_⟩
 repeat (first|exact Below.refl _ _|refine za ?_ _|refine Below.drew ?_)
theorem z7q (qst qe qs qm qn oe oq:Int) (qb:ByteArray) (w:World) (hst:yx qst 0 7=true) (hep:yx qe 1 16777215=true) (hm01:yx qm 0 1=true) (hoe:yx oe 0 16777215=true) (hoq:yx oq 0 16777215=true) (hold:decide (oe<qe)=false):
  Calls Tryz.prog 93 #[.agg #[.int .i64 6,.int .i64 qst,.int .i64 qe,.int .i64 qs,.int .i64 qm,.int .i64 qn,.int .i64 oe,.int .i64 oq,.string qb]] w fun e w'=>e= .returned (.bool (false))/\Below w.heap.size w w':=by
 have HST:=Lib.hid hst
 clear hst
 have Hep:=Lib.hid hep
 clear hep
 have Hm01:=Lib.hid hm01
 clear hm01
 have Hoe:=Lib.hid hoe
 clear hoe
 have Hoq:=Lib.hid hoq
 clear hoq
 go_enter Tryz.func93,Tryz.ntmps93
 go_wp2_with (go_at_call 137;refine(zu _ _ _ _).mono ?_;rintro e w' ⟨rfl,rfl⟩;(first|rw[HST.out]|rw[Hep.out]|rw[Hm01.out]|rw[Hoe.out]|rw[Hoq.out]))
 refine bodyPost_ret (v:=.bool false) (by simp[results,Tryz.results93,go_sem]) rfl ⟨rfl, ?_⟩
 repeat (first|exact Below.refl _ _|refine za ?_ _|refine Below.drew ?_)
theorem zkt (qst qe qs qm qn oe oq:Int) (qb:ByteArray) (w:World) (hst:yx qst 0 7=true) (hep:yx qe 1 16777215=true) (hnode:yx qn 0 5=true):
  Calls Tryz.prog 93 #[.agg #[.int .i64 9,.int .i64 qst,.int .i64 qe,.int .i64 qs,.int .i64 qm,.int .i64 qn,.int .i64 oe,.int .i64 oq,.string qb]] w fun e w'=>e= .returned (.bool (qs==0&&(qm==0&&(oe==0&&(oq==0&&(qb.toList==noB.toList))))))/\Below w.heap.size w w':=by
 have HST:=Lib.hid hst
 clear hst
 have Hep:=Lib.hid hep
 clear hep
 have Hnode:=Lib.hid hnode
 clear hnode
 go_enter Tryz.func93,Tryz.ntmps93
 go_wp2_with (go_at_call 137;refine(zu _ _ _ _).mono ?_;rintro e w' ⟨rfl,rfl⟩;(first|rw[HST.out]|rw[Hep.out]|rw[Hnode.out]))
 all_goals
  first
  |(refine bodyPost_ret (v:=.bool true) ?_ rfl ⟨?_, ?_⟩;·simp[results,Tryz.results93,go_sem])
  |(refine bodyPost_ret (v:=.bool false) ?_ rfl ⟨?_, ?_⟩;·simp[results,Tryz.results93,go_sem])
  ·simp[noB, *]
  ·repeat (first|exact Below.refl _ _|refine za ?_ _|refine Below.drew ?_)
theorem z8r (qst qe qs qm qn oe oq:Int) (qb:ByteArray) (w:World) (hst:yx qst 0 7=true) (hep:yx qe 1 16777215=false):
  Calls Tryz.prog 93 #[.agg #[.int .i64 9,.int .i64 qst,.int .i64 qe,.int .i64 qs,.int .i64 qm,.int .i64 qn,.int .i64 oe,.int .i64 oq,.string qb]] w fun e w'=>e= .returned (.bool (false))/\Below w.heap.size w w':=by
 have HST:=Lib.hid hst
 clear hst
 have Hep:=Lib.hid hep
 clear hep
 go_enter Tryz.func93,Tryz.ntmps93
 go_wp2_with (go_at_call 137;refine(zu _ _ _ _).mono ?_;rintro e w' ⟨rfl,rfl⟩;(first|rw[HST.out]|rw[Hep.out]))
 refine bodyPost_ret (v:=.bool false) (by simp[results,Tryz.results93,go_sem]) rfl ⟨rfl, ?_⟩
 repeat (first|exact Below.refl _ _|refine za ?_ _|refine Below.drew ?_)
theorem z6x (qst qe qs qm qn oe oq:Int) (qb:ByteArray) (w:World) (hst:yx qst 0 7=true) (hep:yx qe 1 16777215=true) (hnode:yx qn 0 5=false):
  Calls Tryz.prog 93 #[.agg #[.int .i64 9,.int .i64 qst,.int .i64 qe,.int .i64 qs,.int .i64 qm,.int .i64 qn,.int .i64 oe,.int .i64 oq,.string qb]] w fun e w'=>e= .returned (.bool (false))/\Below w.heap.size w w':=by
 have HST:=Lib.hid hst
 clear hst
 have Hep:=Lib.hid hep
 clear hep
 have Hnode:=Lib.hid hnode
 clear hnode
 go_enter Tryz.func93,Tryz.ntmps93
 go_wp2_with (go_at_call 137;refine(zu _ _ _ _).mono ?_;rintro e w' ⟨rfl,rfl⟩;(first|rw[HST.out]|rw[Hep.out]|rw[Hnode.out]))
 refine bodyPost_ret (v:=.bool false) (by simp[results,Tryz.results93,go_sem]) rfl ⟨rfl, ?_⟩
 repeat (first|exact Below.refl _ _|refine za ?_ _|refine Below.drew ?_)
end
end Go.Proofs.YtmfincpagnpkjaaGreat
