/- Part of the proof of one statement: what the program's functions compute. -/
import Derived.Test.YtmfincpagnpkjaaGreatM01
set_option linter.all false
set_option maxRecDepth 100000
set_option maxHeartbeats 100000000
namespace Go.Proofs.YtmfincpagnpkjaaGreat
open Go.RowKit
section
attribute [local go_sem] z2u z0W z0S z2E z44 z48 z5M z5I z43 z42 z7P z56 z55 z3u z41 z3C z40 z3B z2o z3Z z3A z2n z5a z3z z3F z59 z3y z3E z58 z3x z3D
theorem z3m {a b c d:Int} (h:(a==c&&b==d)=true):(a==c)=true/\(b==d)=true:=by simpa using h
theorem z35 {a b c d:Int} (h:(a==c&&b==d)=false):(a==c)=false\/(a==c)=true/\(b==d)=false:=by
 cases h1:(a==c)
 ·exact .inl rfl
 ·rw[h1]at h
  exact .inr ⟨rfl,by simpa using h⟩
theorem zhs:(Tryz.prog.info? 256).map (·.size)=some 21:=by kernel_rfl
theorem zi8 (w:World) (l:List Value) (t:TypeId):(w.alloc (.cells l.toArray t)).rangeAt w.heap.size 0 l:=fun j v hv=>by
 rw[Nat.zero_add,World.cell?_alloc_mark]
 simpa using hv
theorem z99 {w:World} {b o:Nat} {l:List Value} (h:w.rangeAt b o l) (hb:b<w.heap.size) (x:Obj):(w.alloc x).rangeAt b o l:=fun j v hv=>(World.cell?_alloc_lt w x _ hb).trans (h j v hv)
theorem zgH (u o:Bool) (f de ds ie iq m:Int) (b s:ByteArray) (qk qst qe qs qm qn oe oq:Int) (qb:ByteArray) (w:World) (h:qe<f):
  Calls Tryz.prog 183 #[.agg #[.bool u,.int .i64 f,.int .i64 de,.int .i64 ds,.string b,.bool o,.int .i64 ie,.int .i64 iq,.int .i64 m,.string s,.int .i64 qk,.int .i64 qst,.int .i64 qe,.int .i64 qs,.int .i64 qm,.int .i64 qn,.int .i64 oe,.int .i64 oq,.string qb,.int .i64 qe,.int .i64 qs]] w fun e w'=>e= .returned (.tuple #[.agg #[.bool u,.int .i64 f,.int .i64 de,.int .i64 ds,.string b,.bool o,.int .i64 ie,.int .i64 iq,.int .i64 m,.string s],.agg #[.int .i64 2,.int .i64 f,.int .i64 0,.bool false,.int .i64 0,.int .i64 0,.int .i64 0,.string noB,.bool false,.int .i64 0,.int .i64 0,.int .i64 0,.string noB]])/\Below w.heap.size w w':=by
 have hr:(((w.alloc (.cells #[.bool u,.int .i64 f,.int .i64 de,.int .i64 ds,.string b,.bool o,.int .i64 ie,.int .i64 iq,.int .i64 m,.string s,.int .i64 qk,.int .i64 qst,.int .i64 qe,.int .i64 qs,.int .i64 qm,.int .i64 qn,.int .i64 oe,.int .i64 oq,.string qb,.int .i64 qe,.int .i64 qs] 256)).alloc (.cells #[.bool false,.int .i64 0,.int .i64 0,.int .i64 0,.string ⟨#[]⟩,.bool false,.int .i64 0,.int .i64 0,.int .i64 0,.string ⟨#[]⟩] 54)).alloc (.cells #[.int .i64 0,.int .i64 0,.int .i64 0,.bool false,.int .i64 0,.int .i64 0,.int .i64 0,.string ⟨#[]⟩,.bool false,.int .i64 0,.int .i64 0,.int .i64 0,.string ⟨#[]⟩] 112)).rangeAt w.heap.size 0 [.bool u,.int .i64 f,.int .i64 de,.int .i64 ds,.string b,.bool o,.int .i64 ie,.int .i64 iq,.int .i64 m,.string s,.int .i64 qk,.int .i64 qst,.int .i64 qe,.int .i64 qs,.int .i64 qm,.int .i64 qn,.int .i64 oe,.int .i64 oq,.string qb,.int .i64 qe,.int .i64 qs]:=
  z99 (z99 (zi8 w [.bool u,.int .i64 f,.int .i64 de,.int .i64 ds,.string b,.bool o,.int .i64 ie,.int .i64 iq,.int .i64 m,.string s,.int .i64 qk,.int .i64 qst,.int .i64 qe,.int .i64 qs,.int .i64 qm,.int .i64 qn,.int .i64 oe,.int .i64 oq,.string qb,.int .i64 qe,.int .i64 qs] _) (by simp only[World.size_alloc];omega) _) (by simp only[World.size_alloc];omega) _
 have HR:=Lib.hid hr
 clear hr
 go_enter Tryz.func183,Tryz.ntmps183
 go_wp2_with (first|(refine wpList_load_mid rfl 256 (.tmp 1) rfl w.heap.size 0 rfl [.bool u,.int .i64 f,.int .i64 de,.int .i64 ds,.string b,.bool o,.int .i64 ie,.int .i64 iq,.int .i64 m,.string s,.int .i64 qk,.int .i64 qst,.int .i64 qe,.int .i64 qs,.int .i64 qm,.int .i64 qn,.int .i64 oe,.int .i64 oq,.string qb,.int .i64 qe,.int .i64 qs] _ HR.out Tryz.underlying256 rfl zhs ?_)|(go_at_call 184;refine(zhF _ _ _ _ _ _ _ _ _ _ _ _ _ _ _ _ _ _ _ _).mono ?_;rintro e w1 ⟨rfl,hb1⟩;obtain⟨xs1,d1,rfl⟩:=zk hb1;clear hb1))
 refine bodyPost_ret (v:=.tuple #[.agg #[.bool u,.int .i64 f,.int .i64 de,.int .i64 ds,.string b,.bool o,.int .i64 ie,.int .i64 iq,.int .i64 m,.string s],.agg #[.int .i64 2,.int .i64 f,.int .i64 0,.bool false,.int .i64 0,.int .i64 0,.int .i64 0,.string noB,.bool false,.int .i64 0,.int .i64 0,.int .i64 0,.string noB]]) (by simp[results,Tryz.results183,go_sem];try rfl) rfl ⟨rfl, ?_⟩
 repeat (first|exact Below.refl _ _|refine j5 ?_|refine za ?_ _|refine Below.drew ?_)
theorem zld (u o:Bool) (f de ds ie iq m:Int) (b s:ByteArray) (qk qst qe qs qm qn oe oq:Int) (qb:ByteArray) (w:World) (h:f<=qe):
  Calls Tryz.prog 183 #[.agg #[.bool u,.int .i64 f,.int .i64 de,.int .i64 ds,.string b,.bool o,.int .i64 ie,.int .i64 iq,.int .i64 m,.string s,.int .i64 qk,.int .i64 qst,.int .i64 qe,.int .i64 qs,.int .i64 qm,.int .i64 qn,.int .i64 oe,.int .i64 oq,.string qb,.int .i64 qe,.int .i64 qs]] w fun e w'=>e= .returned (.tuple #[.agg #[.bool u,.int .i64 qe,.int .i64 de,.int .i64 ds,.string b,.bool o,.int .i64 ie,.int .i64 iq,.int .i64 m,.string s],.agg #[.int .i64 1,.int .i64 qe,.int .i64 0,.bool u,.int .i64 qe,.int .i64 de,.int .i64 ds,.string b,.bool o,.int .i64 ie,.int .i64 iq,.int .i64 m,.string s]])/\Below w.heap.size w w':=by
 go_enter Tryz.func183,Tryz.ntmps183
 go_wp2_with (go_at_call 225;refine(zmD _ _ _ _ _ _ _ _ _ _ _ _).mono ?_;rintro e w1 ⟨rfl,rfl⟩)
 go_region
 go_wp2
 refine bodyPost_ret (v:=.tuple #[.agg #[.bool u,.int .i64 qe,.int .i64 de,.int .i64 ds,.string b,.bool o,.int .i64 ie,.int .i64 iq,.int .i64 m,.string s],.agg #[.int .i64 1,.int .i64 qe,.int .i64 0,.bool u,.int .i64 qe,.int .i64 de,.int .i64 ds,.string b,.bool o,.int .i64 ie,.int .i64 iq,.int .i64 m,.string s]]) (by simp[results,Tryz.results183,go_sem];try rfl) rfl ⟨rfl, ?_⟩
 repeat (first|exact Below.refl _ _|refine j5 ?_|refine za ?_ _|refine Below.drew ?_)
theorem zmG (u o:Bool) (f de ds ie iq m:Int) (b s:ByteArray) (qk qst qe qs qm qn oe oq:Int) (qb:ByteArray) (w:World):
  Calls Tryz.prog 187 #[.agg #[.bool u,.int .i64 f,.int .i64 de,.int .i64 ds,.string b,.bool o,.int .i64 ie,.int .i64 iq,.int .i64 m,.string s,.int .i64 qk,.int .i64 qst,.int .i64 qe,.int .i64 qs,.int .i64 qm,.int .i64 qn,.int .i64 oe,.int .i64 oq,.string qb,.int .i64 qe,.int .i64 qs]] w fun e w'=>e= .returned (.tuple #[.agg #[.bool u,.int .i64 f,.int .i64 de,.int .i64 ds,.string b,.bool o,.int .i64 ie,.int .i64 iq,.int .i64 m,.string s],.agg #[.int .i64 1,.int .i64 f,.int .i64 0,.bool u,.int .i64 f,.int .i64 de,.int .i64 ds,.string b,.bool false,.int .i64 0,.int .i64 0,.int .i64 0,.string noB]])/\Below w.heap.size w w':=by
 go_enter Tryz.func187,Tryz.ntmps187
 go_wp2_with (go_at_call 225;refine(zmD _ _ _ _ _ _ _ _ _ _ _ _).mono ?_;rintro e w1 ⟨rfl,rfl⟩)
 go_region
 go_wp2
 refine bodyPost_ret (v:=.tuple #[.agg #[.bool u,.int .i64 f,.int .i64 de,.int .i64 ds,.string b,.bool o,.int .i64 ie,.int .i64 iq,.int .i64 m,.string s],.agg #[.int .i64 1,.int .i64 f,.int .i64 0,.bool u,.int .i64 f,.int .i64 de,.int .i64 ds,.string b,.bool false,.int .i64 0,.int .i64 0,.int .i64 0,.string noB]]) (by simp[results,Tryz.results187,go_sem];try rfl) rfl ⟨rfl, ?_⟩
 repeat (first|exact Below.refl _ _|refine j5 ?_|refine za ?_ _|refine Below.drew ?_)
theorem zkI (o:Bool) (f de ds ie iq m:Int) (b s:ByteArray) (qk qst qe qs qm qn oe oq:Int) (qb:ByteArray) (w:World) (h:(de==qe&&ds==qs)=true):
  Calls Tryz.prog 185 #[.agg #[.bool true,.int .i64 f,.int .i64 de,.int .i64 ds,.string b,.bool o,.int .i64 ie,.int .i64 iq,.int .i64 m,.string s,.int .i64 qk,.int .i64 qst,.int .i64 qe,.int .i64 qs,.int .i64 qm,.int .i64 qn,.int .i64 oe,.int .i64 oq,.string qb,.int .i64 qe,.int .i64 qs]] w fun e w'=>e= .returned (.tuple #[.agg #[.bool true,.int .i64 f,.int .i64 de,.int .i64 ds,.string b,.bool o,.int .i64 ie,.int .i64 iq,.int .i64 m,.string s],.agg #[.int .i64 1,.int .i64 f,.int .i64 0,.bool false,.int .i64 0,.int .i64 0,.int .i64 0,.string noB,.bool false,.int .i64 0,.int .i64 0,.int .i64 0,.string noB]])/\Below w.heap.size w w':=by
 obtain⟨ha,hb⟩:=z3m h
 clear h
 go_enter Tryz.func185,Tryz.ntmps185
 go_wp2_with (first|(go_at_call 225;refine(z29 _ _ _ _ _ _ _ _ _ _ _ _).mono ?_;rintro e w1 ⟨rfl,hb1⟩;obtain⟨xs1,d1,rfl⟩:=zk hb1;clear hb1))
 refine bodyPost_ret (v:=.tuple #[.agg #[.bool true,.int .i64 f,.int .i64 de,.int .i64 ds,.string b,.bool o,.int .i64 ie,.int .i64 iq,.int .i64 m,.string s],.agg #[.int .i64 1,.int .i64 f,.int .i64 0,.bool false,.int .i64 0,.int .i64 0,.int .i64 0,.string noB,.bool false,.int .i64 0,.int .i64 0,.int .i64 0,.string noB]]) (by simp[results,Tryz.results185,go_sem];try rfl) rfl ⟨rfl, ?_⟩
 repeat (first|exact Below.refl _ _|refine j5 ?_|refine za ?_ _|refine Below.drew ?_)
theorem zlO (o:Bool) (f de ds ie iq m:Int) (b s:ByteArray) (qk qst qe qs qm qn oe oq:Int) (qb:ByteArray) (w:World) (h:(de==qe&&ds==qs)=false) (hbef:z0A de ds qe qs=false):
  Calls Tryz.prog 185 #[.agg #[.bool true,.int .i64 f,.int .i64 de,.int .i64 ds,.string b,.bool o,.int .i64 ie,.int .i64 iq,.int .i64 m,.string s,.int .i64 qk,.int .i64 qst,.int .i64 qe,.int .i64 qs,.int .i64 qm,.int .i64 qn,.int .i64 oe,.int .i64 oq,.string qb,.int .i64 qe,.int .i64 qs]] w fun e w'=>e= .returned (.tuple #[.agg #[.bool true,.int .i64 f,.int .i64 de,.int .i64 ds,.string b,.bool o,.int .i64 ie,.int .i64 iq,.int .i64 m,.string s],.agg #[.int .i64 4,.int .i64 f,.int .i64 0,.bool false,.int .i64 0,.int .i64 0,.int .i64 0,.string noB,.bool false,.int .i64 0,.int .i64 0,.int .i64 0,.string noB]])/\Below w.heap.size w w':=by
 have HBEF:=Lib.hid hbef
 clear hbef
 rcases z35 h with⟨ha⟩|⟨ha,hb⟩<;>clear h
 all_goals
  go_enter Tryz.func185,Tryz.ntmps185
  go_wp2_with (first|(go_at_call 226;refine(z0D _ _ _ _ _).mono ?_;rintro e w1 ⟨rfl,hb1⟩;obtain⟨xs1,d1,rfl⟩:=zk hb1;clear hb1;rw[HBEF.out])|(go_at_call 225;refine(z29 _ _ _ _ _ _ _ _ _ _ _ _).mono ?_;rintro e w2 ⟨rfl,hb2⟩;obtain⟨xs2,d2,rfl⟩:=zk hb2;clear hb2))
  refine bodyPost_ret (v:=.tuple #[.agg #[.bool true,.int .i64 f,.int .i64 de,.int .i64 ds,.string b,.bool o,.int .i64 ie,.int .i64 iq,.int .i64 m,.string s],.agg #[.int .i64 4,.int .i64 f,.int .i64 0,.bool false,.int .i64 0,.int .i64 0,.int .i64 0,.string noB,.bool false,.int .i64 0,.int .i64 0,.int .i64 0,.string noB]]) (by simp[results,Tryz.results185,go_sem];try rfl) rfl ⟨rfl, ?_⟩
  repeat (first|exact Below.refl _ _|refine j5 ?_|refine za ?_ _|refine Below.drew ?_)
theorem zlP (o:Bool) (f de ds ie iq m:Int) (b s:ByteArray) (qk qst qe qs qm qn oe oq:Int) (qb:ByteArray) (w:World) (h:(de==qe&&ds==qs)=false) (hbef:z0A de ds qe qs=true):
  Calls Tryz.prog 185 #[.agg #[.bool true,.int .i64 f,.int .i64 de,.int .i64 ds,.string b,.bool o,.int .i64 ie,.int .i64 iq,.int .i64 m,.string s,.int .i64 qk,.int .i64 qst,.int .i64 qe,.int .i64 qs,.int .i64 qm,.int .i64 qn,.int .i64 oe,.int .i64 oq,.string qb,.int .i64 qe,.int .i64 qs]] w fun e w'=>e= .returned (.tuple #[.agg #[.bool true,.int .i64 f,.int .i64 qe,.int .i64 qs,.string qb,.bool false,.int .i64 0,.int .i64 0,.int .i64 0,.string noB],.agg #[.int .i64 1,.int .i64 f,.int .i64 0,.bool false,.int .i64 0,.int .i64 0,.int .i64 0,.string noB,.bool false,.int .i64 0,.int .i64 0,.int .i64 0,.string noB]])/\Below w.heap.size w w':=by
 have HBEF:=Lib.hid hbef
 clear hbef
 rcases z35 h with⟨ha⟩|⟨ha,hb⟩<;>clear h
 all_goals
  go_enter Tryz.func185,Tryz.ntmps185
  go_wp2_with (first|(go_at_call 226;refine(z0D _ _ _ _ _).mono ?_;rintro e w1 ⟨rfl,hb1⟩;obtain⟨xs1,d1,rfl⟩:=zk hb1;clear hb1;rw[HBEF.out])|(go_at_call 225;refine(z29 _ _ _ _ _ _ _ _ _ _ _ _).mono ?_;rintro e w2 ⟨rfl,hb2⟩;obtain⟨xs2,d2,rfl⟩:=zk hb2;clear hb2))
  refine bodyPost_ret (v:=.tuple #[.agg #[.bool true,.int .i64 f,.int .i64 qe,.int .i64 qs,.string qb,.bool false,.int .i64 0,.int .i64 0,.int .i64 0,.string noB],.agg #[.int .i64 1,.int .i64 f,.int .i64 0,.bool false,.int .i64 0,.int .i64 0,.int .i64 0,.string noB,.bool false,.int .i64 0,.int .i64 0,.int .i64 0,.string noB]]) (by simp[results,Tryz.results185,go_sem];try rfl) rfl ⟨rfl, ?_⟩
  repeat (first|exact Below.refl _ _|refine j5 ?_|refine za ?_ _|refine Below.drew ?_)
theorem zi9 (o:Bool) (f de ds ie iq m:Int) (b s:ByteArray) (qk qst qe qs qm qn oe oq:Int) (qb:ByteArray) (w:World):
  Calls Tryz.prog 185 #[.agg #[.bool false,.int .i64 f,.int .i64 de,.int .i64 ds,.string b,.bool o,.int .i64 ie,.int .i64 iq,.int .i64 m,.string s,.int .i64 qk,.int .i64 qst,.int .i64 qe,.int .i64 qs,.int .i64 qm,.int .i64 qn,.int .i64 oe,.int .i64 oq,.string qb,.int .i64 qe,.int .i64 qs]] w fun e w'=>e= .returned (.tuple #[.agg #[.bool true,.int .i64 f,.int .i64 qe,.int .i64 qs,.string qb,.bool false,.int .i64 0,.int .i64 0,.int .i64 0,.string noB],.agg #[.int .i64 1,.int .i64 f,.int .i64 0,.bool false,.int .i64 0,.int .i64 0,.int .i64 0,.string noB,.bool false,.int .i64 0,.int .i64 0,.int .i64 0,.string noB]])/\Below w.heap.size w w':=by
 go_enter Tryz.func185,Tryz.ntmps185
 go_wp2_with (first|(go_at_call 225;refine(z29 _ _ _ _ _ _ _ _ _ _ _ _).mono ?_;rintro e w1 ⟨rfl,hb1⟩;obtain⟨xs1,d1,rfl⟩:=zk hb1;clear hb1))
 refine bodyPost_ret (v:=.tuple #[.agg #[.bool true,.int .i64 f,.int .i64 qe,.int .i64 qs,.string qb,.bool false,.int .i64 0,.int .i64 0,.int .i64 0,.string noB],.agg #[.int .i64 1,.int .i64 f,.int .i64 0,.bool false,.int .i64 0,.int .i64 0,.int .i64 0,.string noB,.bool false,.int .i64 0,.int .i64 0,.int .i64 0,.string noB]]) (by simp[results,Tryz.results185,go_sem];try rfl) rfl ⟨rfl, ?_⟩
 repeat (first|exact Below.refl _ _|refine j5 ?_|refine za ?_ _|refine Below.drew ?_)
theorem zbz (u:Bool) (o:Bool) (f de ds ie iq m:Int) (b s:ByteArray) (qk qst qe qs qm qn oe oq:Int) (qb:ByteArray) (w:World) (h:(de==qe&&ds==qs)=true):
  Calls Tryz.prog 188 #[.agg #[.bool u,.int .i64 f,.int .i64 de,.int .i64 ds,.string b,.bool o,.int .i64 ie,.int .i64 iq,.int .i64 m,.string s,.int .i64 qk,.int .i64 qst,.int .i64 qe,.int .i64 qs,.int .i64 qm,.int .i64 qn,.int .i64 oe,.int .i64 oq,.string qb,.int .i64 qe,.int .i64 qs]] w fun e w'=>e= .returned (.tuple #[.agg #[.bool u,.int .i64 f,.int .i64 de,.int .i64 ds,.string b,.bool o,.int .i64 ie,.int .i64 iq,.int .i64 m,.string s],.agg #[.int .i64 1,.int .i64 f,.int .i64 0,.bool false,.int .i64 0,.int .i64 0,.int .i64 0,.string noB,.bool false,.int .i64 0,.int .i64 0,.int .i64 0,.string noB]])/\Below w.heap.size w w':=by
 obtain⟨ha,hb⟩:=z3m h
 clear h
 go_enter Tryz.func188,Tryz.ntmps188
 go_wp2_with (first|(go_at_call 225;refine(z29 _ _ _ _ _ _ _ _ _ _ _ _).mono ?_;rintro e w1 ⟨rfl,hb1⟩;obtain⟨xs1,d1,rfl⟩:=zk hb1;clear hb1))
 refine bodyPost_ret (v:=.tuple #[.agg #[.bool u,.int .i64 f,.int .i64 de,.int .i64 ds,.string b,.bool o,.int .i64 ie,.int .i64 iq,.int .i64 m,.string s],.agg #[.int .i64 1,.int .i64 f,.int .i64 0,.bool false,.int .i64 0,.int .i64 0,.int .i64 0,.string noB,.bool false,.int .i64 0,.int .i64 0,.int .i64 0,.string noB]]) (by simp[results,Tryz.results188,go_sem];try rfl) rfl ⟨rfl, ?_⟩
 repeat (first|exact Below.refl _ _|refine j5 ?_|refine za ?_ _|refine Below.drew ?_)
theorem zdx (u:Bool) (o:Bool) (f de ds ie iq m:Int) (b s:ByteArray) (qk qst qe qs qm qn oe oq:Int) (qb:ByteArray) (w:World) (h:(de==qe&&ds==qs)=false) (hbef:z0A de ds qe qs=false):
  Calls Tryz.prog 188 #[.agg #[.bool u,.int .i64 f,.int .i64 de,.int .i64 ds,.string b,.bool o,.int .i64 ie,.int .i64 iq,.int .i64 m,.string s,.int .i64 qk,.int .i64 qst,.int .i64 qe,.int .i64 qs,.int .i64 qm,.int .i64 qn,.int .i64 oe,.int .i64 oq,.string qb,.int .i64 qe,.int .i64 qs]] w fun e w'=>e= .returned (.tuple #[.agg #[.bool u,.int .i64 f,.int .i64 de,.int .i64 ds,.string b,.bool o,.int .i64 ie,.int .i64 iq,.int .i64 m,.string s],.agg #[.int .i64 4,.int .i64 f,.int .i64 0,.bool false,.int .i64 0,.int .i64 0,.int .i64 0,.string noB,.bool false,.int .i64 0,.int .i64 0,.int .i64 0,.string noB]])/\Below w.heap.size w w':=by
 have HBEF:=Lib.hid hbef
 clear hbef
 rcases z35 h with⟨ha⟩|⟨ha,hb⟩<;>clear h
 all_goals
  go_enter Tryz.func188,Tryz.ntmps188
  go_wp2_with (first|(go_at_call 226;refine(z0D _ _ _ _ _).mono ?_;rintro e w1 ⟨rfl,hb1⟩;obtain⟨xs1,d1,rfl⟩:=zk hb1;clear hb1;rw[HBEF.out])|(go_at_call 225;refine(z29 _ _ _ _ _ _ _ _ _ _ _ _).mono ?_;rintro e w2 ⟨rfl,hb2⟩;obtain⟨xs2,d2,rfl⟩:=zk hb2;clear hb2))
  refine bodyPost_ret (v:=.tuple #[.agg #[.bool u,.int .i64 f,.int .i64 de,.int .i64 ds,.string b,.bool o,.int .i64 ie,.int .i64 iq,.int .i64 m,.string s],.agg #[.int .i64 4,.int .i64 f,.int .i64 0,.bool false,.int .i64 0,.int .i64 0,.int .i64 0,.string noB,.bool false,.int .i64 0,.int .i64 0,.int .i64 0,.string noB]]) (by simp[results,Tryz.results188,go_sem];try rfl) rfl ⟨rfl, ?_⟩
  repeat (first|exact Below.refl _ _|refine j5 ?_|refine za ?_ _|refine Below.drew ?_)
theorem zan (u:Bool) (f de ds ie iq m:Int) (b s:ByteArray) (qk qst qe qs qm qn oe oq:Int) (qb:ByteArray) (w:World) (h:(de==qe&&ds==qs)=false) (h2:(ie==qe&&iq==qs)=true) (hbef:z0A de ds qe qs=true):
  Calls Tryz.prog 188 #[.agg #[.bool u,.int .i64 f,.int .i64 de,.int .i64 ds,.string b,.bool true,.int .i64 ie,.int .i64 iq,.int .i64 m,.string s,.int .i64 qk,.int .i64 qst,.int .i64 qe,.int .i64 qs,.int .i64 qm,.int .i64 qn,.int .i64 oe,.int .i64 oq,.string qb,.int .i64 qe,.int .i64 qs]] w fun e w'=>e= .returned (.tuple #[.agg #[.bool u,.int .i64 f,.int .i64 de,.int .i64 ds,.string b,.bool true,.int .i64 ie,.int .i64 iq,.int .i64 m,.string s],.agg #[.int .i64 1,.int .i64 f,.int .i64 0,.bool false,.int .i64 0,.int .i64 0,.int .i64 0,.string noB,.bool false,.int .i64 0,.int .i64 0,.int .i64 0,.string noB]])/\Below w.heap.size w w':=by
 have HBEF:=Lib.hid hbef
 clear hbef
 obtain⟨h2a,h2b⟩:=z3m h2
 clear h2
 rcases z35 h with⟨ha⟩|⟨ha,hb⟩<;>clear h
 all_goals
  go_enter Tryz.func188,Tryz.ntmps188
  go_wp2_with (first|(go_at_call 226;refine(z0D _ _ _ _ _).mono ?_;rintro e w1 ⟨rfl,hb1⟩;obtain⟨xs1,d1,rfl⟩:=zk hb1;clear hb1;rw[HBEF.out])|(go_at_call 225;refine(z29 _ _ _ _ _ _ _ _ _ _ _ _).mono ?_;rintro e w2 ⟨rfl,hb2⟩;obtain⟨xs2,d2,rfl⟩:=zk hb2;clear hb2))
  refine bodyPost_ret (v:=.tuple #[.agg #[.bool u,.int .i64 f,.int .i64 de,.int .i64 ds,.string b,.bool true,.int .i64 ie,.int .i64 iq,.int .i64 m,.string s],.agg #[.int .i64 1,.int .i64 f,.int .i64 0,.bool false,.int .i64 0,.int .i64 0,.int .i64 0,.string noB,.bool false,.int .i64 0,.int .i64 0,.int .i64 0,.string noB]]) (by simp[results,Tryz.results188,go_sem];try rfl) rfl ⟨rfl, ?_⟩
  repeat (first|exact Below.refl _ _|refine j5 ?_|refine za ?_ _|refine Below.drew ?_)
theorem zbA (u:Bool) (f de ds ie iq m:Int) (b s:ByteArray) (qk qst qe qs qm qn oe oq:Int) (qb:ByteArray) (w:World) (h:(de==qe&&ds==qs)=false) (h2:(ie==qe&&iq==qs)=false) (hbef:z0A de ds qe qs=true):
  Calls Tryz.prog 188 #[.agg #[.bool u,.int .i64 f,.int .i64 de,.int .i64 ds,.string b,.bool true,.int .i64 ie,.int .i64 iq,.int .i64 m,.string s,.int .i64 qk,.int .i64 qst,.int .i64 qe,.int .i64 qs,.int .i64 qm,.int .i64 qn,.int .i64 oe,.int .i64 oq,.string qb,.int .i64 qe,.int .i64 qs]] w fun e w'=>e= .returned (.tuple #[.agg #[.bool u,.int .i64 f,.int .i64 de,.int .i64 ds,.string b,.bool true,.int .i64 ie,.int .i64 iq,.int .i64 m,.string s],.agg #[.int .i64 3,.int .i64 f,.int .i64 0,.bool false,.int .i64 0,.int .i64 0,.int .i64 0,.string noB,.bool false,.int .i64 0,.int .i64 0,.int .i64 0,.string noB]])/\Below w.heap.size w w':=by
 have HBEF:=Lib.hid hbef
 clear hbef
 rcases z35 h with⟨ha⟩|⟨ha,hb⟩<;>clear h
 all_goals rcases z35 h2 with⟨h2a⟩|⟨h2a,h2b⟩<;>clear h2
 all_goals
  go_enter Tryz.func188,Tryz.ntmps188
  go_wp2_with (first|(go_at_call 226;refine(z0D _ _ _ _ _).mono ?_;rintro e w1 ⟨rfl,hb1⟩;obtain⟨xs1,d1,rfl⟩:=zk hb1;clear hb1;rw[HBEF.out])|(go_at_call 225;refine(z29 _ _ _ _ _ _ _ _ _ _ _ _).mono ?_;rintro e w2 ⟨rfl,hb2⟩;obtain⟨xs2,d2,rfl⟩:=zk hb2;clear hb2))
  refine bodyPost_ret (v:=.tuple #[.agg #[.bool u,.int .i64 f,.int .i64 de,.int .i64 ds,.string b,.bool true,.int .i64 ie,.int .i64 iq,.int .i64 m,.string s],.agg #[.int .i64 3,.int .i64 f,.int .i64 0,.bool false,.int .i64 0,.int .i64 0,.int .i64 0,.string noB,.bool false,.int .i64 0,.int .i64 0,.int .i64 0,.string noB]]) (by simp[results,Tryz.results188,go_sem];try rfl) rfl ⟨rfl, ?_⟩
  repeat (first|exact Below.refl _ _|refine j5 ?_|refine za ?_ _|refine Below.drew ?_)
theorem zdy (u:Bool) (f de ds ie iq m:Int) (b s:ByteArray) (qk qst qe qs qm qn oe oq:Int) (qb:ByteArray) (w:World) (h:(de==qe&&ds==qs)=false) (hbef:z0A de ds qe qs=true):
  Calls Tryz.prog 188 #[.agg #[.bool u,.int .i64 f,.int .i64 de,.int .i64 ds,.string b,.bool false,.int .i64 ie,.int .i64 iq,.int .i64 m,.string s,.int .i64 qk,.int .i64 qst,.int .i64 qe,.int .i64 qs,.int .i64 qm,.int .i64 qn,.int .i64 oe,.int .i64 oq,.string qb,.int .i64 qe,.int .i64 qs]] w fun e w'=>e= .returned (.tuple #[.agg #[.bool u,.int .i64 f,.int .i64 de,.int .i64 ds,.string b,.bool true,.int .i64 qe,.int .i64 qs,.int .i64 qm,.string qb],.agg #[.int .i64 1,.int .i64 f,.int .i64 0,.bool false,.int .i64 0,.int .i64 0,.int .i64 0,.string noB,.bool false,.int .i64 0,.int .i64 0,.int .i64 0,.string noB]])/\Below w.heap.size w w':=by
 have HBEF:=Lib.hid hbef
 clear hbef
 rcases z35 h with⟨ha⟩|⟨ha,hb⟩<;>clear h
 all_goals
  go_enter Tryz.func188,Tryz.ntmps188
  go_wp2_with (first|(go_at_call 226;refine(z0D _ _ _ _ _).mono ?_;rintro e w1 ⟨rfl,hb1⟩;obtain⟨xs1,d1,rfl⟩:=zk hb1;clear hb1;rw[HBEF.out])|(go_at_call 225;refine(z29 _ _ _ _ _ _ _ _ _ _ _ _).mono ?_;rintro e w2 ⟨rfl,hb2⟩;obtain⟨xs2,d2,rfl⟩:=zk hb2;clear hb2))
  refine bodyPost_ret (v:=.tuple #[.agg #[.bool u,.int .i64 f,.int .i64 de,.int .i64 ds,.string b,.bool true,.int .i64 qe,.int .i64 qs,.int .i64 qm,.string qb],.agg #[.int .i64 1,.int .i64 f,.int .i64 0,.bool false,.int .i64 0,.int .i64 0,.int .i64 0,.string noB,.bool false,.int .i64 0,.int .i64 0,.int .i64 0,.string noB]]) (by simp[results,Tryz.results188,go_sem];try rfl) rfl ⟨rfl, ?_⟩
  repeat (first|exact Below.refl _ _|refine j5 ?_|refine za ?_ _|refine Below.drew ?_)
theorem zee (u:Bool) (f de ds ie iq m:Int) (b s:ByteArray) (qk qst qe qs qm qn oe oq:Int) (qb:ByteArray) (w:World) (h:(ie==qe&&iq==qs)=true):
  Calls Tryz.prog 189 #[.agg #[.bool u,.int .i64 f,.int .i64 de,.int .i64 ds,.string b,.bool true,.int .i64 ie,.int .i64 iq,.int .i64 m,.string s,.int .i64 qk,.int .i64 qst,.int .i64 qe,.int .i64 qs,.int .i64 qm,.int .i64 qn,.int .i64 oe,.int .i64 oq,.string qb,.int .i64 qe,.int .i64 qs]] w fun e w'=>e= .returned (.tuple #[.agg #[.bool u,.int .i64 f,.int .i64 ie,.int .i64 iq,.string s,.bool false,.int .i64 0,.int .i64 0,.int .i64 0,.string noB],.agg #[.int .i64 1,.int .i64 f,.int .i64 0,.bool false,.int .i64 0,.int .i64 0,.int .i64 0,.string noB,.bool false,.int .i64 0,.int .i64 0,.int .i64 0,.string noB]])/\Below w.heap.size w w':=by
 obtain⟨ha,hb⟩:=z3m h
 clear h
 go_enter Tryz.func189,Tryz.ntmps189
 go_wp2_with (first|(go_at_call 227;refine(zlw _ _ _ _ _ _ _ _ _ _ _).mono ?_;rintro e w1 ⟨rfl,hb1⟩;obtain⟨xs1,d1,rfl⟩:=zk hb1;clear hb1)|(go_at_call 225;refine(z29 _ _ _ _ _ _ _ _ _ _ _ _).mono ?_;rintro e w2 ⟨rfl,hb2⟩;obtain⟨xs2,d2,rfl⟩:=zk hb2;clear hb2))
 refine bodyPost_ret (v:=.tuple #[.agg #[.bool u,.int .i64 f,.int .i64 ie,.int .i64 iq,.string s,.bool false,.int .i64 0,.int .i64 0,.int .i64 0,.string noB],.agg #[.int .i64 1,.int .i64 f,.int .i64 0,.bool false,.int .i64 0,.int .i64 0,.int .i64 0,.string noB,.bool false,.int .i64 0,.int .i64 0,.int .i64 0,.string noB]]) (by simp[results,Tryz.results189,go_sem];try rfl) rfl ⟨rfl, ?_⟩
 repeat (first|exact Below.refl _ _|refine j5 ?_|refine za ?_ _|refine Below.drew ?_)
theorem z5T (u:Bool) (f de ds ie iq m:Int) (b s:ByteArray) (qk qst qe qs qm qn oe oq:Int) (qb:ByteArray) (w:World) (h:(ie==qe&&iq==qs)=false) (h2:(de==qe&&ds==qs)=true):
  Calls Tryz.prog 189 #[.agg #[.bool u,.int .i64 f,.int .i64 de,.int .i64 ds,.string b,.bool true,.int .i64 ie,.int .i64 iq,.int .i64 m,.string s,.int .i64 qk,.int .i64 qst,.int .i64 qe,.int .i64 qs,.int .i64 qm,.int .i64 qn,.int .i64 oe,.int .i64 oq,.string qb,.int .i64 qe,.int .i64 qs]] w fun e w'=>e= .returned (.tuple #[.agg #[.bool u,.int .i64 f,.int .i64 de,.int .i64 ds,.string b,.bool true,.int .i64 ie,.int .i64 iq,.int .i64 m,.string s],.agg #[.int .i64 1,.int .i64 f,.int .i64 0,.bool false,.int .i64 0,.int .i64 0,.int .i64 0,.string noB,.bool false,.int .i64 0,.int .i64 0,.int .i64 0,.string noB]])/\Below w.heap.size w w':=by
 obtain⟨h2a,h2b⟩:=z3m h2
 clear h2
 rcases z35 h with⟨ha⟩|⟨ha,hb⟩<;>clear h
 all_goals
  go_enter Tryz.func189,Tryz.ntmps189
  go_wp2_with (first|(go_at_call 225;refine(z29 _ _ _ _ _ _ _ _ _ _ _ _).mono ?_;rintro e w1 ⟨rfl,hb1⟩;obtain⟨xs1,d1,rfl⟩:=zk hb1;clear hb1))
  refine bodyPost_ret (v:=.tuple #[.agg #[.bool u,.int .i64 f,.int .i64 de,.int .i64 ds,.string b,.bool true,.int .i64 ie,.int .i64 iq,.int .i64 m,.string s],.agg #[.int .i64 1,.int .i64 f,.int .i64 0,.bool false,.int .i64 0,.int .i64 0,.int .i64 0,.string noB,.bool false,.int .i64 0,.int .i64 0,.int .i64 0,.string noB]]) (by simp[results,Tryz.results189,go_sem];try rfl) rfl ⟨rfl, ?_⟩
  repeat (first|exact Below.refl _ _|refine j5 ?_|refine za ?_ _|refine Below.drew ?_)
theorem z5U (u:Bool) (f de ds ie iq m:Int) (b s:ByteArray) (qk qst qe qs qm qn oe oq:Int) (qb:ByteArray) (w:World) (h:(ie==qe&&iq==qs)=false) (h2:(de==qe&&ds==qs)=false):
  Calls Tryz.prog 189 #[.agg #[.bool u,.int .i64 f,.int .i64 de,.int .i64 ds,.string b,.bool true,.int .i64 ie,.int .i64 iq,.int .i64 m,.string s,.int .i64 qk,.int .i64 qst,.int .i64 qe,.int .i64 qs,.int .i64 qm,.int .i64 qn,.int .i64 oe,.int .i64 oq,.string qb,.int .i64 qe,.int .i64 qs]] w fun e w'=>e= .returned (.tuple #[.agg #[.bool u,.int .i64 f,.int .i64 de,.int .i64 ds,.string b,.bool true,.int .i64 ie,.int .i64 iq,.int .i64 m,.string s],.agg #[.int .i64 4,.int .i64 f,.int .i64 0,.bool false,.int .i64 0,.int .i64 0,.int .i64 0,.string noB,.bool false,.int .i64 0,.int .i64 0,.int .i64 0,.string noB]])/\Below w.heap.size w w':=by
 rcases z35 h with⟨ha⟩|⟨ha,hb⟩<;>clear h
 all_goals rcases z35 h2 with⟨h2a⟩|⟨h2a,h2b⟩<;>clear h2
 all_goals
  go_enter Tryz.func189,Tryz.ntmps189
  go_wp2_with (first|(go_at_call 225;refine(z29 _ _ _ _ _ _ _ _ _ _ _ _).mono ?_;rintro e w1 ⟨rfl,hb1⟩;obtain⟨xs1,d1,rfl⟩:=zk hb1;clear hb1))
  refine bodyPost_ret (v:=.tuple #[.agg #[.bool u,.int .i64 f,.int .i64 de,.int .i64 ds,.string b,.bool true,.int .i64 ie,.int .i64 iq,.int .i64 m,.string s],.agg #[.int .i64 4,.int .i64 f,.int .i64 0,.bool false,.int .i64 0,.int .i64 0,.int .i64 0,.string noB,.bool false,.int .i64 0,.int .i64 0,.int .i64 0,.string noB]]) (by simp[results,Tryz.results189,go_sem];try rfl) rfl ⟨rfl, ?_⟩
  repeat (first|exact Below.refl _ _|refine j5 ?_|refine za ?_ _|refine Below.drew ?_)
theorem z6F (u:Bool) (f de ds ie iq m:Int) (b s:ByteArray) (qk qst qe qs qm qn oe oq:Int) (qb:ByteArray) (w:World) (h2:(de==qe&&ds==qs)=true):
  Calls Tryz.prog 189 #[.agg #[.bool u,.int .i64 f,.int .i64 de,.int .i64 ds,.string b,.bool false,.int .i64 ie,.int .i64 iq,.int .i64 m,.string s,.int .i64 qk,.int .i64 qst,.int .i64 qe,.int .i64 qs,.int .i64 qm,.int .i64 qn,.int .i64 oe,.int .i64 oq,.string qb,.int .i64 qe,.int .i64 qs]] w fun e w'=>e= .returned (.tuple #[.agg #[.bool u,.int .i64 f,.int .i64 de,.int .i64 ds,.string b,.bool false,.int .i64 ie,.int .i64 iq,.int .i64 m,.string s],.agg #[.int .i64 1,.int .i64 f,.int .i64 0,.bool false,.int .i64 0,.int .i64 0,.int .i64 0,.string noB,.bool false,.int .i64 0,.int .i64 0,.int .i64 0,.string noB]])/\Below w.heap.size w w':=by
 obtain⟨h2a,h2b⟩:=z3m h2
 clear h2
 go_enter Tryz.func189,Tryz.ntmps189
 go_wp2_with (first|(go_at_call 225;refine(z29 _ _ _ _ _ _ _ _ _ _ _ _).mono ?_;rintro e w1 ⟨rfl,hb1⟩;obtain⟨xs1,d1,rfl⟩:=zk hb1;clear hb1))
 refine bodyPost_ret (v:=.tuple #[.agg #[.bool u,.int .i64 f,.int .i64 de,.int .i64 ds,.string b,.bool false,.int .i64 ie,.int .i64 iq,.int .i64 m,.string s],.agg #[.int .i64 1,.int .i64 f,.int .i64 0,.bool false,.int .i64 0,.int .i64 0,.int .i64 0,.string noB,.bool false,.int .i64 0,.int .i64 0,.int .i64 0,.string noB]]) (by simp[results,Tryz.results189,go_sem];try rfl) rfl ⟨rfl, ?_⟩
 repeat (first|exact Below.refl _ _|refine j5 ?_|refine za ?_ _|refine Below.drew ?_)
theorem z6G (u:Bool) (f de ds ie iq m:Int) (b s:ByteArray) (qk qst qe qs qm qn oe oq:Int) (qb:ByteArray) (w:World) (h2:(de==qe&&ds==qs)=false):
  Calls Tryz.prog 189 #[.agg #[.bool u,.int .i64 f,.int .i64 de,.int .i64 ds,.string b,.bool false,.int .i64 ie,.int .i64 iq,.int .i64 m,.string s,.int .i64 qk,.int .i64 qst,.int .i64 qe,.int .i64 qs,.int .i64 qm,.int .i64 qn,.int .i64 oe,.int .i64 oq,.string qb,.int .i64 qe,.int .i64 qs]] w fun e w'=>e= .returned (.tuple #[.agg #[.bool u,.int .i64 f,.int .i64 de,.int .i64 ds,.string b,.bool false,.int .i64 ie,.int .i64 iq,.int .i64 m,.string s],.agg #[.int .i64 4,.int .i64 f,.int .i64 0,.bool false,.int .i64 0,.int .i64 0,.int .i64 0,.string noB,.bool false,.int .i64 0,.int .i64 0,.int .i64 0,.string noB]])/\Below w.heap.size w w':=by
 rcases z35 h2 with⟨h2a⟩|⟨h2a,h2b⟩<;>clear h2
 all_goals
  go_enter Tryz.func189,Tryz.ntmps189
  go_wp2_with (first|(go_at_call 225;refine(z29 _ _ _ _ _ _ _ _ _ _ _ _).mono ?_;rintro e w1 ⟨rfl,hb1⟩;obtain⟨xs1,d1,rfl⟩:=zk hb1;clear hb1))
  refine bodyPost_ret (v:=.tuple #[.agg #[.bool u,.int .i64 f,.int .i64 de,.int .i64 ds,.string b,.bool false,.int .i64 ie,.int .i64 iq,.int .i64 m,.string s],.agg #[.int .i64 4,.int .i64 f,.int .i64 0,.bool false,.int .i64 0,.int .i64 0,.int .i64 0,.string noB,.bool false,.int .i64 0,.int .i64 0,.int .i64 0,.string noB]]) (by simp[results,Tryz.results189,go_sem];try rfl) rfl ⟨rfl, ?_⟩
  repeat (first|exact Below.refl _ _|refine j5 ?_|refine za ?_ _|refine Below.drew ?_)
theorem zdm (u:Bool) (f de ds ie iq m:Int) (b s:ByteArray) (qk qst qe qs qm qn oe oq:Int) (qb:ByteArray) (w:World):
  Calls Tryz.prog 190 #[.agg #[.bool u,.int .i64 f,.int .i64 de,.int .i64 ds,.string b,.bool false,.int .i64 ie,.int .i64 iq,.int .i64 m,.string s,.int .i64 qk,.int .i64 qst,.int .i64 qe,.int .i64 qs,.int .i64 qm,.int .i64 qn,.int .i64 oe,.int .i64 oq,.string qb,.int .i64 qe,.int .i64 qs]] w fun e w'=>e= .returned (.tuple #[.agg #[.bool u,.int .i64 f,.int .i64 de,.int .i64 ds,.string b,.bool false,.int .i64 ie,.int .i64 iq,.int .i64 m,.string s],.agg #[.int .i64 1,.int .i64 f,.int .i64 0,.bool false,.int .i64 0,.int .i64 0,.int .i64 0,.string noB,.bool false,.int .i64 0,.int .i64 0,.int .i64 0,.string noB]])/\Below w.heap.size w w':=by
 go_enter Tryz.func190,Tryz.ntmps190
 go_wp2_with (first|(go_at_call 225;refine(z29 _ _ _ _ _ _ _ _ _ _ _ _).mono ?_;rintro e w1 ⟨rfl,hb1⟩;obtain⟨xs1,d1,rfl⟩:=zk hb1;clear hb1))
 refine bodyPost_ret (v:=.tuple #[.agg #[.bool u,.int .i64 f,.int .i64 de,.int .i64 ds,.string b,.bool false,.int .i64 ie,.int .i64 iq,.int .i64 m,.string s],.agg #[.int .i64 1,.int .i64 f,.int .i64 0,.bool false,.int .i64 0,.int .i64 0,.int .i64 0,.string noB,.bool false,.int .i64 0,.int .i64 0,.int .i64 0,.string noB]]) (by simp[results,Tryz.results190,go_sem];try rfl) rfl ⟨rfl, ?_⟩
 repeat (first|exact Below.refl _ _|refine j5 ?_|refine za ?_ _|refine Below.drew ?_)
theorem zbf (u:Bool) (f de ds ie iq m:Int) (b s:ByteArray) (qk qst qe qs qm qn oe oq:Int) (qb:ByteArray) (w:World) (h:(ie==oe&&iq==oq)=false):
  Calls Tryz.prog 190 #[.agg #[.bool u,.int .i64 f,.int .i64 de,.int .i64 ds,.string b,.bool true,.int .i64 ie,.int .i64 iq,.int .i64 m,.string s,.int .i64 qk,.int .i64 qst,.int .i64 qe,.int .i64 qs,.int .i64 qm,.int .i64 qn,.int .i64 oe,.int .i64 oq,.string qb,.int .i64 qe,.int .i64 qs]] w fun e w'=>e= .returned (.tuple #[.agg #[.bool u,.int .i64 f,.int .i64 de,.int .i64 ds,.string b,.bool true,.int .i64 ie,.int .i64 iq,.int .i64 m,.string s],.agg #[.int .i64 1,.int .i64 f,.int .i64 0,.bool false,.int .i64 0,.int .i64 0,.int .i64 0,.string noB,.bool false,.int .i64 0,.int .i64 0,.int .i64 0,.string noB]])/\Below w.heap.size w w':=by
 rcases z35 h with⟨ha⟩|⟨ha,hb⟩<;>clear h
 all_goals
  go_enter Tryz.func190,Tryz.ntmps190
  go_wp2_with (first|(go_at_call 225;refine(z29 _ _ _ _ _ _ _ _ _ _ _ _).mono ?_;rintro e w1 ⟨rfl,hb1⟩;obtain⟨xs1,d1,rfl⟩:=zk hb1;clear hb1))
  refine bodyPost_ret (v:=.tuple #[.agg #[.bool u,.int .i64 f,.int .i64 de,.int .i64 ds,.string b,.bool true,.int .i64 ie,.int .i64 iq,.int .i64 m,.string s],.agg #[.int .i64 1,.int .i64 f,.int .i64 0,.bool false,.int .i64 0,.int .i64 0,.int .i64 0,.string noB,.bool false,.int .i64 0,.int .i64 0,.int .i64 0,.string noB]]) (by simp[results,Tryz.results190,go_sem];try rfl) rfl ⟨rfl, ?_⟩
  repeat (first|exact Below.refl _ _|refine j5 ?_|refine za ?_ _|refine Below.drew ?_)
theorem zdn (u:Bool) (f de ds ie iq m:Int) (b s:ByteArray) (qk qst qe qs qm qn oe oq:Int) (qb:ByteArray) (w:World) (h:(ie==oe&&iq==oq)=true) (hm:(qm==1)=true):
  Calls Tryz.prog 190 #[.agg #[.bool u,.int .i64 f,.int .i64 de,.int .i64 ds,.string b,.bool true,.int .i64 ie,.int .i64 iq,.int .i64 m,.string s,.int .i64 qk,.int .i64 qst,.int .i64 qe,.int .i64 qs,.int .i64 qm,.int .i64 qn,.int .i64 oe,.int .i64 oq,.string qb,.int .i64 qe,.int .i64 qs]] w fun e w'=>e= .returned (.tuple #[.agg #[.bool u,.int .i64 f,.int .i64 ie,.int .i64 iq,.string s,.bool false,.int .i64 0,.int .i64 0,.int .i64 0,.string noB],.agg #[.int .i64 1,.int .i64 f,.int .i64 0,.bool false,.int .i64 0,.int .i64 0,.int .i64 0,.string noB,.bool false,.int .i64 0,.int .i64 0,.int .i64 0,.string noB]])/\Below w.heap.size w w':=by
 obtain⟨ha,hb⟩:=z3m h
 clear h
 go_enter Tryz.func190,Tryz.ntmps190
 go_wp2_with (first|(go_at_call 227;refine(zlw _ _ _ _ _ _ _ _ _ _ _).mono ?_;rintro e w1 ⟨rfl,hb1⟩;obtain⟨xs1,d1,rfl⟩:=zk hb1;clear hb1)|(go_at_call 225;refine(z29 _ _ _ _ _ _ _ _ _ _ _ _).mono ?_;rintro e w2 ⟨rfl,hb2⟩;obtain⟨xs2,d2,rfl⟩:=zk hb2;clear hb2))
 refine bodyPost_ret (v:=.tuple #[.agg #[.bool u,.int .i64 f,.int .i64 ie,.int .i64 iq,.string s,.bool false,.int .i64 0,.int .i64 0,.int .i64 0,.string noB],.agg #[.int .i64 1,.int .i64 f,.int .i64 0,.bool false,.int .i64 0,.int .i64 0,.int .i64 0,.string noB,.bool false,.int .i64 0,.int .i64 0,.int .i64 0,.string noB]]) (by simp[results,Tryz.results190,go_sem];try rfl) rfl ⟨rfl, ?_⟩
 repeat (first|exact Below.refl _ _|refine j5 ?_|refine za ?_ _|refine Below.drew ?_)
theorem za0 (u:Bool) (f de ds ie iq m:Int) (b s:ByteArray) (qk qst qe qs qm qn oe oq:Int) (qb:ByteArray) (w:World) (h:(ie==oe&&iq==oq)=true) (hm:(qm==1)=false):
  Calls Tryz.prog 190 #[.agg #[.bool u,.int .i64 f,.int .i64 de,.int .i64 ds,.string b,.bool true,.int .i64 ie,.int .i64 iq,.int .i64 m,.string s,.int .i64 qk,.int .i64 qst,.int .i64 qe,.int .i64 qs,.int .i64 qm,.int .i64 qn,.int .i64 oe,.int .i64 oq,.string qb,.int .i64 qe,.int .i64 qs]] w fun e w'=>e= .returned (.tuple #[.agg #[.bool u,.int .i64 f,.int .i64 de,.int .i64 ds,.string b,.bool false,.int .i64 0,.int .i64 0,.int .i64 0,.string noB],.agg #[.int .i64 1,.int .i64 f,.int .i64 0,.bool false,.int .i64 0,.int .i64 0,.int .i64 0,.string noB,.bool false,.int .i64 0,.int .i64 0,.int .i64 0,.string noB]])/\Below w.heap.size w w':=by
 obtain⟨ha,hb⟩:=z3m h
 clear h
 go_enter Tryz.func190,Tryz.ntmps190
 go_wp2_with (first|(go_at_call 228;refine(zf4 _ _ _ _ _ _ _ _ _ _ _).mono ?_;rintro e w1 ⟨rfl,hb1⟩;obtain⟨xs1,d1,rfl⟩:=zk hb1;clear hb1)|(go_at_call 225;refine(z29 _ _ _ _ _ _ _ _ _ _ _ _).mono ?_;rintro e w2 ⟨rfl,hb2⟩;obtain⟨xs2,d2,rfl⟩:=zk hb2;clear hb2))
 refine bodyPost_ret (v:=.tuple #[.agg #[.bool u,.int .i64 f,.int .i64 de,.int .i64 ds,.string b,.bool false,.int .i64 0,.int .i64 0,.int .i64 0,.string noB],.agg #[.int .i64 1,.int .i64 f,.int .i64 0,.bool false,.int .i64 0,.int .i64 0,.int .i64 0,.string noB,.bool false,.int .i64 0,.int .i64 0,.int .i64 0,.string noB]]) (by simp[results,Tryz.results190,go_sem];try rfl) rfl ⟨rfl, ?_⟩
 repeat (first|exact Below.refl _ _|refine j5 ?_|refine za ?_ _|refine Below.drew ?_)
end
end Go.Proofs.YtmfincpagnpkjaaGreat
