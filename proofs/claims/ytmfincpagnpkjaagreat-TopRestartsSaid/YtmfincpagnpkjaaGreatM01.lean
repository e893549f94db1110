/- Part of the proof of one statement: what the program's functions compute. -/
import Derived.RegionTactic
import Derived.ChangeAlike
import Derived.BigRegion
import Derived.Deep.QuietTactic
import Derived.BigQuiet
import Derived.Outline
import Derived.Test.YtmfincpagnpkjaaGreatProg
import Derived.Test.YtmfincpagnpkjaaGreatM00
set_option linter.all false
set_option maxRecDepth 100000
set_option maxHeartbeats 100000000
namespace Go.Proofs.YtmfincpagnpkjaaGreat
open Go.RowKit
structure Rec where
 used:Bool
 fence:Int
 de:Int
 ds:Int
 block:ByteArray
 opn:Bool
 ie:Int
 iq:Int
 mask:Int
 staged:ByteArray
structure AskM where
 kind:Int
 stripe:Int
 epoch:Int
 seq:Int
 mask:Int
 node:Int
 oe:Int
 oq:Int
 block:ByteArray
structure SayM where
 status:Int
 epoch:Int
 out:Int
 rcd:Rec
structure Letter where
 frm:Int
 to:Int
 id:Int
 answer:Bool
 ask:AskM
 say:SayM
def noB:ByteArray:=⟨#[]⟩
def Rec.nil:Rec:=⟨false,0,0,0,noB,false,0,0,0,noB⟩
def AskM.nil:AskM:=⟨0,0,0,0,0,0,0,0,noB⟩
def SayM.nil:SayM:=⟨0,0,0,Rec.nil⟩
def Letter.nil:Letter:=⟨0,0,0,false,AskM.nil,SayM.nil⟩
def Rec.cells (r:Rec):List Value:=
 [.bool r.used,.int .i64 r.fence,.int .i64 r.de,.int .i64 r.ds,.string r.block,.bool r.opn,.int .i64 r.ie,.int .i64 r.iq,.int .i64 r.mask,.string r.staged]
def AskM.cells (q:AskM):List Value:=
 [.int .i64 q.kind,.int .i64 q.stripe,.int .i64 q.epoch,.int .i64 q.seq,.int .i64 q.mask,.int .i64 q.node,.int .i64 q.oe,.int .i64 q.oq,.string q.block]
def SayM.cells (s:SayM):List Value:=
 [.int .i64 s.status,.int .i64 s.epoch,.int .i64 s.out,.bool s.rcd.used,.int .i64 s.rcd.fence,.int .i64 s.rcd.de,.int .i64 s.rcd.ds,.string s.rcd.block,.bool s.rcd.opn,.int .i64 s.rcd.ie,.int .i64 s.rcd.iq,.int .i64 s.rcd.mask,.string s.rcd.staged]
def Letter.cells (l:Letter):List Value:=
 [.int .i64 l.frm,.int .i64 l.to,.int .i64 l.id,.bool l.answer]++l.ask.cells++l.say.cells
def Rec.v (r:Rec):Value:=.agg r.cells.toArray
def AskM.v (q:AskM):Value:=.agg q.cells.toArray
def SayM.v (s:SayM):Value:=.agg s.cells.toArray
def Letter.v (l:Letter):Value:=.agg l.cells.toArray
theorem Rec.ext' {a b:Rec} (h1:a.used=b.used) (h2:a.fence=b.fence) (h3:a.de=b.de) (h4:a.ds=b.ds) (h5:a.block=b.block) (h6:a.opn=b.opn) (h7:a.ie=b.ie) (h8:a.iq=b.iq) (h9:a.mask=b.mask) (h10:a.staged=b.staged):a=b:=by
 cases a;cases b;simp_all
def Rec.same (a b:Rec):Bool:=a.used==b.used&&(a.fence==b.fence&&(a.de==b.de&&(a.ds==b.ds&&(a.block.toList==b.block.toList&&(a.opn==b.opn&&(a.ie==b.ie&&(a.iq==b.iq&&(a.mask==b.mask&&a.staged.toList==b.staged.toList))))))))
theorem z0N {x y:ByteArray} (h:x.toList=y.toList):x=y:=by
 rw[ByteArray.toList_eq,ByteArray.toList_eq]at h
 cases x;cases y;simp_all
theorem Rec.same_iff {a b:Rec}:a.same b=true↔a=b:=by
 constructor
 ·intro h
  simp only[Rec.same,Bool.and_eq_true,beq_iff_eq]at h
  obtain⟨h1,h2,h3,h4,h5,h6,h7,h8,h9,h10⟩:=h
  exact Rec.ext' h1 h2 h3 h4 (z0N h5) h6 h7 h8 h9 (z0N h10)
 ·rintro rfl
  simp[Rec.same]
instance:DecidableEq Rec:=fun _ _=>decidable_of_iff _ Rec.same_iff
def AskM.same (a b:AskM):Bool:=a.kind==b.kind&&(a.stripe==b.stripe&&(a.epoch==b.epoch&&(a.seq==b.seq&&(a.mask==b.mask&&(a.node==b.node&&(a.oe==b.oe&&(a.oq==b.oq&&a.block.toList==b.block.toList)))))))
theorem AskM.same_iff {a b:AskM}:a.same b=true↔a=b:=by
 constructor
 ·intro h
  simp only[AskM.same,Bool.and_eq_true,beq_iff_eq]at h
  obtain⟨h1,h2,h3,h4,h5,h6,h7,h8,h9⟩:=h
  have h9:=z0N h9
  cases a;cases b;simp_all
 ·rintro rfl
  simp[AskM.same]
instance:DecidableEq AskM:=fun _ _=>decidable_of_iff _ AskM.same_iff
def SayM.same (a b:SayM):Bool:=a.status==b.status&&(a.epoch==b.epoch&&(a.out==b.out&&a.rcd.same b.rcd))
theorem SayM.same_iff {a b:SayM}:a.same b=true↔a=b:=by
 constructor
 ·intro h
  simp only[SayM.same,Bool.and_eq_true,beq_iff_eq,Rec.same_iff]at h
  obtain⟨h1,h2,h3,h4⟩:=h
  cases a;cases b;simp_all
 ·rintro rfl
  simp[SayM.same,Rec.same_iff]
instance:DecidableEq SayM:=fun _ _=>decidable_of_iff _ SayM.same_iff
section
attribute [local go_sem] z2u z0W z0S z2E z44 z48 z5M z5I z43 z42 z7P z56 z55 z3u z41 z3C z40 z3B z2o z3Z z3A z2n z5a z3z z3F z59 z3y z3E z58 z3x z3D
theorem z29 (u o:Bool) (f de ds ie iq m:Int) (b s:ByteArray) (k:Int) (w:World):
  Calls Tryz.prog 225 #[.agg #[.bool u,.int .i64 f,.int .i64 de,.int .i64 ds,.string b,.bool o,.int .i64 ie,.int .i64 iq,.int .i64 m,.string s],.int .i64 k] w fun e w'=>e= .returned (.tuple #[.agg #[.bool u,.int .i64 f,.int .i64 de,.int .i64 ds,.string b,.bool o,.int .i64 ie,.int .i64 iq,.int .i64 m,.string s],.agg #[.int .i64 k,.int .i64 f,.int .i64 0,.bool false,.int .i64 0,.int .i64 0,.int .i64 0,.string noB,.bool false,.int .i64 0,.int .i64 0,.int .i64 0,.string noB]])/\Below w.heap.size w w':=by
 go_enter Tryz.func225,Tryz.ntmps225
 go_wp2
 go_region
 go_wp2
 refine bodyPost_ret (v:=.tuple #[.agg #[.bool u,.int .i64 f,.int .i64 de,.int .i64 ds,.string b,.bool o,.int .i64 ie,.int .i64 iq,.int .i64 m,.string s],.agg #[.int .i64 k,.int .i64 f,.int .i64 0,.bool false,.int .i64 0,.int .i64 0,.int .i64 0,.string noB,.bool false,.int .i64 0,.int .i64 0,.int .i64 0,.string noB]]) (by simp[results,Tryz.results225,go_sem];try rfl) rfl ⟨rfl, ?_⟩
 exact(za (za (za (Below.refl _ _) _) _) _).drew
theorem zmD (u o:Bool) (f de ds ie iq m:Int) (b s:ByteArray) (k:Int) (w:World):
  Calls Tryz.prog 225 #[.agg #[.bool u,.int .i64 f,.int .i64 de,.int .i64 ds,.string b,.bool o,.int .i64 ie,.int .i64 iq,.int .i64 m,.string s],.int .i64 k] w fun e w'=>e= .returned (.tuple #[.agg #[.bool u,.int .i64 f,.int .i64 de,.int .i64 ds,.string b,.bool o,.int .i64 ie,.int .i64 iq,.int .i64 m,.string s],.agg #[.int .i64 k,.int .i64 f,.int .i64 0,.bool false,.int .i64 0,.int .i64 0,.int .i64 0,.string noB,.bool false,.int .i64 0,.int .i64 0,.int .i64 0,.string noB]])/\w'=(((w.alloc (.cells #[.bool u,.int .i64 f,.int .i64 de,.int .i64 ds,.string b,.bool o,.int .i64 ie,.int .i64 iq,.int .i64 m,.string s] 54)).alloc (.cells #[.bool u,.int .i64 f,.int .i64 de,.int .i64 ds,.string b,.bool o,.int .i64 ie,.int .i64 iq,.int .i64 m,.string s] 54)).alloc (.cells #[.int .i64 k,.int .i64 f,.int .i64 0,.bool false,.int .i64 0,.int .i64 0,.int .i64 0,.string noB,.bool false,.int .i64 0,.int .i64 0,.int .i64 0,.string noB] 112)).drew:=by
 go_enter Tryz.func225,Tryz.ntmps225
 go_wp2
 go_region
 go_wp2
 refine bodyPost_ret (v:=.tuple #[.agg #[.bool u,.int .i64 f,.int .i64 de,.int .i64 ds,.string b,.bool o,.int .i64 ie,.int .i64 iq,.int .i64 m,.string s],.agg #[.int .i64 k,.int .i64 f,.int .i64 0,.bool false,.int .i64 0,.int .i64 0,.int .i64 0,.string noB,.bool false,.int .i64 0,.int .i64 0,.int .i64 0,.string noB]]) (by simp[results,Tryz.results225,go_sem];try rfl) rfl ⟨rfl,rfl⟩
theorem zf4 (u o:Bool) (f de ds ie iq m:Int) (b s:ByteArray) (w:World):
  Calls Tryz.prog 228 #[.agg #[.bool u,.int .i64 f,.int .i64 de,.int .i64 ds,.string b,.bool o,.int .i64 ie,.int .i64 iq,.int .i64 m,.string s]] w fun e w'=>e= .returned (.agg #[.bool u,.int .i64 f,.int .i64 de,.int .i64 ds,.string b,.bool false,.int .i64 0,.int .i64 0,.int .i64 0,.string noB])/\Below w.heap.size w w':=by
 go_enter Tryz.func228,Tryz.ntmps228
 go_wp2
 refine bodyPost_ret (v:=.agg #[.bool u,.int .i64 f,.int .i64 de,.int .i64 ds,.string b,.bool false,.int .i64 0,.int .i64 0,.int .i64 0,.string noB]) (by simp[results,Tryz.results228,go_sem];try rfl) rfl ⟨rfl, ?_⟩
 exact za (za (Below.refl _ _) _) _
theorem zlw (u o:Bool) (f de ds ie iq m:Int) (b s:ByteArray) (w:World):
  Calls Tryz.prog 227 #[.agg #[.bool u,.int .i64 f,.int .i64 de,.int .i64 ds,.string b,.bool o,.int .i64 ie,.int .i64 iq,.int .i64 m,.string s]] w fun e w'=>e= .returned (.agg #[.bool u,.int .i64 f,.int .i64 ie,.int .i64 iq,.string s,.bool false,.int .i64 0,.int .i64 0,.int .i64 0,.string noB])/\Below w.heap.size w w':=by
 go_enter Tryz.func227,Tryz.ntmps227
 go_wp2_with (go_at_call 228;refine(zf4 _ _ _ _ _ _ _ _ _ _ _).mono ?_;rintro e w1 ⟨rfl,hb1⟩;obtain⟨xs1,d1,rfl⟩:=zk hb1;clear hb1)
 refine bodyPost_ret (v:=.agg #[.bool u,.int .i64 f,.int .i64 ie,.int .i64 iq,.string s,.bool false,.int .i64 0,.int .i64 0,.int .i64 0,.string noB]) (by simp[results,Tryz.results227,go_sem];try rfl) rfl ⟨rfl, ?_⟩
 repeat (first|exact Below.refl _ _|refine j5 ?_|refine za ?_ _|refine Below.drew ?_)
end
section
attribute [local go_sem] z2u z0W z0S z2E z44 z48 z5M z5I z43 z42 z7P z56 z55 z3u z41 z3C z40 z3B z2o z3Z z3A z2n z5a z3z z3F z59 z3y z3E z58 z3x z3D
def yx (n a b:Int):Bool:=decide (a<=n)&&decide (n<=b)
theorem zu (n a b:Int) (w:World):
  Calls Tryz.prog 137 #[.int .i64 n,.int .i64 a,.int .i64 b] w fun e w'=>e= .returned (.bool (yx n a b))/\w=w':=by
 by_cases h:a<=n
 ·go_enter Tryz.func137,Tryz.ntmps137
  go_wp2
  go_ret
  exact⟨by simp[yx,h],rfl⟩
 ·go_enter Tryz.func137,Tryz.ntmps137
  go_wp2
  go_ret
  exact⟨by simp[yx];omega,rfl⟩
def z0A (a b c d:Int):Bool:=decide (a<c)||(a==c&&decide (b<d))
theorem z0D (a b c d:Int) (w:World):
  Calls Tryz.prog 226 #[.agg #[.int .i64 a,.int .i64 b],.agg #[.int .i64 c,.int .i64 d]] w fun e w'=>e= .returned (.bool (z0A a b c d))/\Below w.heap.size w w':=by
 by_cases h:a<c
 ·go_enter Tryz.func226,Tryz.ntmps226
  go_wp2
  go_ret
  exact⟨by simp[z0A,h],za (za (Below.refl _ _) _) _⟩
 ·have h1:decide (a<c)=false:=by simpa using h
  by_cases h2:a=c
  ·have h3:(a==c)=true:=by simpa using h2
   clear h2 h
   go_enter Tryz.func226,Tryz.ntmps226
   go_wp2
   go_ret
   exact⟨by simp[z0A,h1,h3],za (za (Below.refl _ _) _) _⟩
  ·have h3:(a==c)=false:=by simpa using h2
   go_enter Tryz.func226,Tryz.ntmps226
   go_wp2
   go_ret
   exact⟨by simp[z0A,h1,h3],za (za (Below.refl _ _) _) _⟩
theorem zhF (u:Bool) (o:Bool) (f de ds ie iq m:Int) (b s:ByteArray) (qk qst qe qs qm qn oe oq:Int) (qb:ByteArray) (w:World):
  Calls Tryz.prog 184 #[.agg #[.bool u,.int .i64 f,.int .i64 de,.int .i64 ds,.string b,.bool o,.int .i64 ie,.int .i64 iq,.int .i64 m,.string s,.int .i64 qk,.int .i64 qst,.int .i64 qe,.int .i64 qs,.int .i64 qm,.int .i64 qn,.int .i64 oe,.int .i64 oq,.string qb,.int .i64 qe,.int .i64 qs]] w fun e w'=>e= .returned (.tuple #[.agg #[.bool u,.int .i64 f,.int .i64 de,.int .i64 ds,.string b,.bool o,.int .i64 ie,.int .i64 iq,.int .i64 m,.string s],.agg #[.int .i64 2,.int .i64 f,.int .i64 0,.bool false,.int .i64 0,.int .i64 0,.int .i64 0,.string noB,.bool false,.int .i64 0,.int .i64 0,.int .i64 0,.string noB]])/\Below w.heap.size w w':=by
 go_enter Tryz.func184,Tryz.ntmps184
 go_wp2_with (first|(go_at_call 225;refine(z29 _ _ _ _ _ _ _ _ _ _ _ _).mono ?_;rintro e w1 ⟨rfl,hb1⟩;obtain⟨xs1,d1,rfl⟩:=zk hb1;clear hb1))
 refine bodyPost_ret (v:=.tuple #[.agg #[.bool u,.int .i64 f,.int .i64 de,.int .i64 ds,.string b,.bool o,.int .i64 ie,.int .i64 iq,.int .i64 m,.string s],.agg #[.int .i64 2,.int .i64 f,.int .i64 0,.bool false,.int .i64 0,.int .i64 0,.int .i64 0,.string noB,.bool false,.int .i64 0,.int .i64 0,.int .i64 0,.string noB]]) (by simp[results,Tryz.results184,go_sem];try rfl) rfl ⟨rfl, ?_⟩
 repeat (first|exact Below.refl _ _|refine j5 ?_|refine za ?_ _|refine Below.drew ?_)
theorem zmq (u:Bool) (o:Bool) (f de ds ie iq m:Int) (b s:ByteArray) (qk qst qe qs qm qn oe oq:Int) (qb:ByteArray) (w:World):
  Calls Tryz.prog 186 #[.agg #[.bool u,.int .i64 f,.int .i64 de,.int .i64 ds,.string b,.bool o,.int .i64 ie,.int .i64 iq,.int .i64 m,.string s,.int .i64 qk,.int .i64 qst,.int .i64 qe,.int .i64 qs,.int .i64 qm,.int .i64 qn,.int .i64 oe,.int .i64 oq,.string qb,.int .i64 qe,.int .i64 qs]] w fun e w'=>e= .returned (.tuple #[.agg #[.bool u,.int .i64 f,.int .i64 de,.int .i64 ds,.string b,.bool o,.int .i64 ie,.int .i64 iq,.int .i64 m,.string s],.agg #[.int .i64 5,.int .i64 f,.int .i64 0,.bool false,.int .i64 0,.int .i64 0,.int .i64 0,.string noB,.bool false,.int .i64 0,.int .i64 0,.int .i64 0,.string noB]])/\Below w.heap.size w w':=by
 go_enter Tryz.func186,Tryz.ntmps186
 go_wp2_with (first|(go_at_call 225;refine(z29 _ _ _ _ _ _ _ _ _ _ _ _).mono ?_;rintro e w1 ⟨rfl,hb1⟩;obtain⟨xs1,d1,rfl⟩:=zk hb1;clear hb1))
 refine bodyPost_ret (v:=.tuple #[.agg #[.bool u,.int .i64 f,.int .i64 de,.int .i64 ds,.string b,.bool o,.int .i64 ie,.int .i64 iq,.int .i64 m,.string s],.agg #[.int .i64 5,.int .i64 f,.int .i64 0,.bool false,.int .i64 0,.int .i64 0,.int .i64 0,.string noB,.bool false,.int .i64 0,.int .i64 0,.int .i64 0,.string noB]]) (by simp[results,Tryz.results186,go_sem];try rfl) rfl ⟨rfl, ?_⟩
 repeat (first|exact Below.refl _ _|refine j5 ?_|refine za ?_ _|refine Below.drew ?_)
theorem zmo (u:Bool) (o:Bool) (f de ds ie iq m:Int) (b s:ByteArray) (qk qst qe qs qm qn oe oq:Int) (qb:ByteArray) (w:World):
  Calls Tryz.prog 191 #[.agg #[.bool u,.int .i64 f,.int .i64 de,.int .i64 ds,.string b,.bool o,.int .i64 ie,.int .i64 iq,.int .i64 m,.string s,.int .i64 qk,.int .i64 qst,.int .i64 qe,.int .i64 qs,.int .i64 qm,.int .i64 qn,.int .i64 oe,.int .i64 oq,.string qb,.int .i64 qe,.int .i64 qs]] w fun e w'=>e= .returned (.tuple #[.agg #[.bool u,.int .i64 f,.int .i64 de,.int .i64 ds,.string b,.bool o,.int .i64 ie,.int .i64 iq,.int .i64 m,.string s],.agg #[.int .i64 1,.int .i64 f,.int .i64 0,.bool false,.int .i64 0,.int .i64 0,.int .i64 0,.string noB,.bool false,.int .i64 0,.int .i64 0,.int .i64 0,.string noB]])/\Below w.heap.size w w':=by
 go_enter Tryz.func191,Tryz.ntmps191
 go_wp2_with (first|(go_at_call 225;refine(z29 _ _ _ _ _ _ _ _ _ _ _ _).mono ?_;rintro e w1 ⟨rfl,hb1⟩;obtain⟨xs1,d1,rfl⟩:=zk hb1;clear hb1))
 refine bodyPost_ret (v:=.tuple #[.agg #[.bool u,.int .i64 f,.int .i64 de,.int .i64 ds,.string b,.bool o,.int .i64 ie,.int .i64 iq,.int .i64 m,.string s],.agg #[.int .i64 1,.int .i64 f,.int .i64 0,.bool false,.int .i64 0,.int .i64 0,.int .i64 0,.string noB,.bool false,.int .i64 0,.int .i64 0,.int .i64 0,.string noB]]) (by simp[results,Tryz.results191,go_sem];try rfl) rfl ⟨rfl, ?_⟩
 repeat (first|exact Below.refl _ _|refine j5 ?_|refine za ?_ _|refine Below.drew ?_)
end
end Go.Proofs.YtmfincpagnpkjaaGreat
