/- Part of the proof. -/
import Derived.Test.YtmfincpagnpkjaaGreatM28
set_option linter.all false
set_option maxRecDepth 100000
set_option maxHeartbeats 100000000
namespace Go.Proofs.YtmfincpagnpkjaaGreat
open Go.RowKit
def z39 (n:Int):Bool:=(decide (0<=n)&&decide (n<6))||((decide (200<=n)&&decide (n<202))||n==100)
def z14 (s:SayM):Bool:=decide (1<=s.status)&&(decide (s.status<=7)&&(decide (0<=s.epoch)&&(decide (s.epoch<=16777215)&&(decide (-1<=s.out)&&(decide (s.out<6)&&jg s.rcd)))))
def z03 (l:Letter):Bool:=z39 l.frm&&(z39 l.to&&(decide (1<=l.id)&&(decide (l.id<=1099511627776)&&(if l.answer then l.ask.same AskM.nil&&z14 l.say else l.say.same SayM.nil&&yb l.ask))))
theorem zdj (r:Rec) (hb:r.block.size<=9223372036854775807) (hs:r.staged.size<=9223372036854775807):zi Tryz.prog 107 #[r.v] [] fun v K=>v= .bool (jg r)/\K=[]:=zm fun w=>z1P r w hb hs
theorem ifB {α β:Type} [BEq α] [LawfulBEq α] {a b:α} [Decidable (a=b)] {f:Bool->β} {x:β} {c:Bool} (h:x=f c):(if a=b then x else f false)=f (a==b&&c):=by
 by_cases hab:a=b
 ·subst hab;simp[h]
 ·have:(a==b)=false:=by simpa using hab
  simp[hab,this]
theorem znE {α β:Type} [BEq α] [LawfulBEq α] {a b:α} [Decidable (a=b)] {f:Bool->β}:(if a=b then f true else f false)=f (a==b):=by
 by_cases hab:a=b
 ·subst hab;simp
 ·have:(a==b)=false:=by simpa using hab
  simp[hab,this]
theorem zmg (a b:AskM) (x y:Operand) (W:World):(do eqGuard .eql 110 x y (.agg a.cells.toArray) (.agg b.cells.toArray);binOp .eql 110 (.agg a.cells.toArray) (.agg b.cells.toArray):Sem Value).run Tryz.prog W= .ok (.bool (a.same b)) W:=by
 obtain⟨k,st,e,s,m,n,oe,oq,bl⟩:=a
 obtain⟨k',st',e',s',m',n',oe',oq',bl'⟩:=b
 simp only[AskM.cells,AskM.same]
 go_simp
 iterate 8 refine ifB (f:=fun t=>Result.ok (Value.bool t) W) ?_
 exact znE (f:=fun t=>Result.ok (Value.bool t) W)
theorem zmf (a b:SayM) (x y:Operand) (W:World):(do eqGuard .eql 112 x y (.agg a.cells.toArray) (.agg b.cells.toArray);binOp .eql 112 (.agg a.cells.toArray) (.agg b.cells.toArray):Sem Value).run Tryz.prog W= .ok (.bool (a.same b)) W:=by
 obtain⟨k,st,e,u,f,de,ds,b1,o,ie,iq,m,s⟩:=a
 obtain⟨k',st',e',u',f',de',ds',b1',o',ie',iq',m',s'⟩:=b
 simp only[SayM.cells,SayM.same,Rec.same]
 go_simp
 iterate 12 refine ifB (f:=fun t=>Result.ok (Value.bool t) W) ?_
 exact znE (f:=fun t=>Result.ok (Value.bool t) W)
theorem z9h (n:Int):zi Tryz.prog 177 #[.int .i64 n] [] fun v K=>v= .bool (z39 n)/\K=[]:=by
 intro F0 w0 w R H
 try simp only[xNf]at H
 unfold z39
 have hc:(0<=n/\n<6)\/(200<=n/\n<202)\/(202<=n)\/(6<=n/\n<200)\/(n<0):=by omega
 rcases hc with h|h|h|h|h
 ·have q:((decide ((0:Int)<=n)&&decide (n<6))||((decide ((200:Int)<=n)&&decide (n<202))||n==100))=true:=by
   have e0:decide ((0:Int)<=n)=true:=by simp;omega
   have e1:decide (n<(6:Int))=true:=by simp;omega
   have e2:decide ((200:Int)<=n)=false:=by simp;omega
   have e3:decide (n<(202:Int))=true:=by simp;omega
   rw[e0,e1,e2,e3];simp
  rw[q]
  have d0:decide ((0:Int)<=n)=true:=by simp;omega
  have d1:decide (n<(6:Int))=true:=by simp;omega
  have d2:decide ((200:Int)<=n)=false:=by simp;omega
  clear h q
  go_enter Tryz.func177,Tryz.ntmps177
  go_wp2_with (first|refine xLd H ?_|(refine xSt H ?_;clear H;intro w H;try dsimp only[List.set]at H)|(refine xNw H ?_;clear H;intro b w H)|(refine xAp H ?_;clear H;intro A' k' w H))
  refine xR1 H ?_
  exact xF H
 ·have q:((decide ((0:Int)<=n)&&decide (n<6))||((decide ((200:Int)<=n)&&decide (n<202))||n==100))=true:=by
   have e0:decide ((0:Int)<=n)=true:=by simp;omega
   have e1:decide (n<(6:Int))=false:=by simp;omega
   have e2:decide ((200:Int)<=n)=true:=by simp;omega
   have e3:decide (n<(202:Int))=true:=by simp;omega
   rw[e0,e1,e2,e3];simp
  rw[q]
  have d0:decide ((0:Int)<=n)=true:=by simp;omega
  have d1:decide (n<(6:Int))=false:=by simp;omega
  have d2:decide ((200:Int)<=n)=true:=by simp;omega
  have d3:decide (n<(202:Int))=true:=by simp;omega
  clear h q
  go_enter Tryz.func177,Tryz.ntmps177
  go_wp2_with (first|refine xLd H ?_|(refine xSt H ?_;clear H;intro w H;try dsimp only[List.set]at H)|(refine xNw H ?_;clear H;intro b w H)|(refine xAp H ?_;clear H;intro A' k' w H))
  refine xR1 H ?_
  exact xF H
 ·have q:((decide ((0:Int)<=n)&&decide (n<6))||((decide ((200:Int)<=n)&&decide (n<202))||n==100))=(n==100):=by
   have e0:decide ((0:Int)<=n)=true:=by simp;omega
   have e1:decide (n<(6:Int))=false:=by simp;omega
   have e2:decide ((200:Int)<=n)=true:=by simp;omega
   have e3:decide (n<(202:Int))=false:=by simp;omega
   rw[e0,e1,e2,e3];simp
  rw[q]
  have d0:decide ((0:Int)<=n)=true:=by simp;omega
  have d1:decide (n<(6:Int))=false:=by simp;omega
  have d2:decide ((200:Int)<=n)=true:=by simp;omega
  have d3:decide (n<(202:Int))=false:=by simp;omega
  clear h q
  go_enter Tryz.func177,Tryz.ntmps177
  go_wp2_with (first|refine xLd H ?_|(refine xSt H ?_;clear H;intro w H;try dsimp only[List.set]at H)|(refine xNw H ?_;clear H;intro b w H)|(refine xAp H ?_;clear H;intro A' k' w H))
  refine xR1 H ?_
  exact xF H
 ·have q:((decide ((0:Int)<=n)&&decide (n<6))||((decide ((200:Int)<=n)&&decide (n<202))||n==100))=(n==100):=by
   have e0:decide ((0:Int)<=n)=true:=by simp;omega
   have e1:decide (n<(6:Int))=false:=by simp;omega
   have e2:decide ((200:Int)<=n)=false:=by simp;omega
   have e3:decide (n<(202:Int))=true:=by simp;omega
   rw[e0,e1,e2,e3];simp
  rw[q]
  have d0:decide ((0:Int)<=n)=true:=by simp;omega
  have d1:decide (n<(6:Int))=false:=by simp;omega
  have d2:decide ((200:Int)<=n)=false:=by simp;omega
  clear h q
  go_enter Tryz.func177,Tryz.ntmps177
  go_wp2_with (first|refine xLd H ?_|(refine xSt H ?_;clear H;intro w H;try dsimp only[List.set]at H)|(refine xNw H ?_;clear H;intro b w H)|(refine xAp H ?_;clear H;intro A' k' w H))
  refine xR1 H ?_
  exact xF H
 ·have q:((decide ((0:Int)<=n)&&decide (n<6))||((decide ((200:Int)<=n)&&decide (n<202))||n==100))=(n==100):=by
   have e0:decide ((0:Int)<=n)=false:=by simp;omega
   have e1:decide (n<(6:Int))=true:=by simp;omega
   have e2:decide ((200:Int)<=n)=false:=by simp;omega
   have e3:decide (n<(202:Int))=true:=by simp;omega
   rw[e0,e1,e2,e3];simp
  rw[q]
  have d0:decide ((0:Int)<=n)=false:=by simp;omega
  have d2:decide ((200:Int)<=n)=false:=by simp;omega
  clear h q
  go_enter Tryz.func177,Tryz.ntmps177
  go_wp2_with (first|refine xLd H ?_|(refine xSt H ?_;clear H;intro w H;try dsimp only[List.set]at H)|(refine xNw H ?_;clear H;intro b w H)|(refine xAp H ?_;clear H;intro A' k' w H))
  refine xR1 H ?_
  exact xF H
theorem zaf (s:SayM) (hb:s.rcd.block.size<=9223372036854775807) (hs:s.rcd.staged.size<=9223372036854775807):zi Tryz.prog 178 #[s.v] [] fun v K=>v= .bool (z14 s)/\K=[]:=by
 intro F0 w0 w R H
 try simp only[xNf]at H
 have HR:=Lib.hid (zdj s.rcd hb hs)
 unfold z14
 obtain⟨r,hr⟩:=xG (jg s.rcd)
 rw[hr]at HR⊢
 obtain⟨st,ep,out,u,f,de,ds,bl,op,ie,iq,m,sg⟩:=s
 simp only at*
 clear hb hs hr
 by_cases c0:1<=st
 rotate_left
 ·have m0:decide (1<=st)=false:=by simpa using c0
  rw[m0]
  simp only[Bool.false_and,Bool.and_false]
  have d0:decide (st<(1:Int))=true:=by simp;omega
  clear c0 m0
  go_enter Tryz.func178,Tryz.ntmps178
  go_wp2_with (first|(go_at_call 107;revert H;refine zi.use HR.out pks ?_;rintro _ _ w ⟨rfl,rfl⟩ H;try simp only[xNf]at H)|(refine ldr H (cs:=(Rec.mk u f de ds bl op ie iq m sg).cells) (hh:=by first|exact zg 10 pk (by rfl) (ze (by rfl))) ?_)|first|refine xLd H ?_|(refine xSt H ?_;clear H;intro w H;try dsimp only[List.set]at H)|(refine xNw H ?_;clear H;intro b w H)|(refine xAp H ?_;clear H;intro A' k' w H))
  refine xR1 H ?_
  exact xF H
 have m0:decide (1<=st)=true:=by simpa using c0
 rw[m0,Bool.true_and]
 have d0:decide (st<(1:Int))=false:=by simp;omega
 clear c0 m0
 by_cases c1:st<=7
 rotate_left
 ·have m1:decide (st<=7)=false:=by simpa using c1
  rw[m1]
  simp only[Bool.false_and,Bool.and_false]
  have d1:decide ((7:Int)<st)=true:=by simp;omega
  clear c1 m1
  go_enter Tryz.func178,Tryz.ntmps178
  go_wp2_with (first|(go_at_call 107;revert H;refine zi.use HR.out pks ?_;rintro _ _ w ⟨rfl,rfl⟩ H;try simp only[xNf]at H)|(refine ldr H (cs:=(Rec.mk u f de ds bl op ie iq m sg).cells) (hh:=by first|exact zg 10 pk (by rfl) (ze (by rfl))) ?_)|first|refine xLd H ?_|(refine xSt H ?_;clear H;intro w H;try dsimp only[List.set]at H)|(refine xNw H ?_;clear H;intro b w H)|(refine xAp H ?_;clear H;intro A' k' w H))
  refine xR1 H ?_
  exact xF H
 have m1:decide (st<=7)=true:=by simpa using c1
 rw[m1,Bool.true_and]
 have d1:decide ((7:Int)<st)=false:=by simp;omega
 clear c1 m1
 by_cases c2:0<=ep
 rotate_left
 ·have m2:decide (0<=ep)=false:=by simpa using c2
  rw[m2]
  simp only[Bool.false_and,Bool.and_false]
  have d2:decide (ep<(0:Int))=true:=by simp;omega
  clear c2 m2
  go_enter Tryz.func178,Tryz.ntmps178
  go_wp2_with (first|(go_at_call 107;revert H;refine zi.use HR.out pks ?_;rintro _ _ w ⟨rfl,rfl⟩ H;try simp only[xNf]at H)|(refine ldr H (cs:=(Rec.mk u f de ds bl op ie iq m sg).cells) (hh:=by first|exact zg 10 pk (by rfl) (ze (by rfl))) ?_)|first|refine xLd H ?_|(refine xSt H ?_;clear H;intro w H;try dsimp only[List.set]at H)|(refine xNw H ?_;clear H;intro b w H)|(refine xAp H ?_;clear H;intro A' k' w H))
  refine xR1 H ?_
  exact xF H
 have m2:decide (0<=ep)=true:=by simpa using c2
 rw[m2,Bool.true_and]
 have d2:decide (ep<(0:Int))=false:=by simp;omega
 clear c2 m2
 by_cases c3:ep<=16777215
 rotate_left
 ·have m3:decide (ep<=16777215)=false:=by simpa using c3
  rw[m3]
  simp only[Bool.false_and,Bool.and_false]
  have d3:decide ((16777215:Int)<ep)=true:=by simp;omega
  clear c3 m3
  go_enter Tryz.func178,Tryz.ntmps178
  go_wp2_with (first|(go_at_call 107;revert H;refine zi.use HR.out pks ?_;rintro _ _ w ⟨rfl,rfl⟩ H;try simp only[xNf]at H)|(refine ldr H (cs:=(Rec.mk u f de ds bl op ie iq m sg).cells) (hh:=by first|exact zg 10 pk (by rfl) (ze (by rfl))) ?_)|first|refine xLd H ?_|(refine xSt H ?_;clear H;intro w H;try dsimp only[List.set]at H)|(refine xNw H ?_;clear H;intro b w H)|(refine xAp H ?_;clear H;intro A' k' w H))
  refine xR1 H ?_
  exact xF H
 have m3:decide (ep<=16777215)=true:=by simpa using c3
 rw[m3,Bool.true_and]
 have d3:decide ((16777215:Int)<ep)=false:=by simp;omega
 clear c3 m3
 by_cases c4:-1<=out
 rotate_left
 ·have m4:decide (-1<=out)=false:=by simpa using c4
  rw[m4]
  simp only[Bool.false_and,Bool.and_false]
  have d4:decide ((-1:Int)<=out)=false:=by simp;omega
  clear c4 m4
  go_enter Tryz.func178,Tryz.ntmps178
  go_wp2_with (first|(go_at_call 107;revert H;refine zi.use HR.out pks ?_;rintro _ _ w ⟨rfl,rfl⟩ H;try simp only[xNf]at H)|(refine ldr H (cs:=(Rec.mk u f de ds bl op ie iq m sg).cells) (hh:=by first|exact zg 10 pk (by rfl) (ze (by rfl))) ?_)|first|refine xLd H ?_|(refine xSt H ?_;clear H;intro w H;try dsimp only[List.set]at H)|(refine xNw H ?_;clear H;intro b w H)|(refine xAp H ?_;clear H;intro A' k' w H))
  refine xR1 H ?_
  exact xF H
 have m4:decide (-1<=out)=true:=by simpa using c4
 rw[m4,Bool.true_and]
 have d4:decide ((-1:Int)<=out)=true:=by simp;omega
 clear c4 m4
 by_cases c5:out<6
 rotate_left
 ·have m5:decide (out<6)=false:=by simpa using c5
  rw[m5]
  simp only[Bool.false_and,Bool.and_false]
  have d5:decide (out<(6:Int))=false:=by simp;omega
  clear c5 m5
  go_enter Tryz.func178,Tryz.ntmps178
  go_wp2_with (first|(go_at_call 107;revert H;refine zi.use HR.out pks ?_;rintro _ _ w ⟨rfl,rfl⟩ H;try simp only[xNf]at H)|(refine ldr H (cs:=(Rec.mk u f de ds bl op ie iq m sg).cells) (hh:=by first|exact zg 10 pk (by rfl) (ze (by rfl))) ?_)|first|refine xLd H ?_|(refine xSt H ?_;clear H;intro w H;try dsimp only[List.set]at H)|(refine xNw H ?_;clear H;intro b w H)|(refine xAp H ?_;clear H;intro A' k' w H))
  refine xR1 H ?_
  exact xF H
 have m5:decide (out<6)=true:=by simpa using c5
 rw[m5,Bool.true_and]
 have d5:decide (out<(6:Int))=true:=by simp;omega
 clear c5 m5
 go_enter Tryz.func178,Tryz.ntmps178
 go_wp2_with (first|(go_at_call 107;revert H;refine zi.use HR.out pks ?_;rintro _ _ w ⟨rfl,rfl⟩ H;try simp only[xNf]at H)|(refine ldr H (cs:=(Rec.mk u f de ds bl op ie iq m sg).cells) (hh:=by first|exact zg 10 pk (by rfl) (ze (by rfl))) ?_)|first|refine xLd H ?_|(refine xSt H ?_;clear H;intro w H;try dsimp only[List.set]at H)|(refine xNw H ?_;clear H;intro b w H)|(refine xAp H ?_;clear H;intro A' k' w H))
 refine xR1 H ?_
 exact xF H
theorem z7Q (l:Letter) (hb:l.say.rcd.block.size<=9223372036854775807) (hs:l.say.rcd.staged.size<=9223372036854775807):zi Tryz.prog 129 #[l.v] [] fun v K=>v= .bool (z03 l)/\K=[]:=by
 intro F0 w0 w R H
 try simp only[xNf]at H
 have HS:=Lib.hid (zaf l.say hb hs)
 have HQ:=Lib.hid (jy l.ask)
 have HF:=Lib.hid (z9h l.frm)
 have HT:=Lib.hid (z9h l.to)
 unfold z03
 obtain⟨pf,hpf⟩:=xG (z39 l.frm)
 obtain⟨pt,hpt⟩:=xG (z39 l.to)
 obtain⟨rs,hrs⟩:=xG (z14 l.say)
 obtain⟨rq,hrq⟩:=xG (yb l.ask)
 obtain⟨ea,hea⟩:=xG (l.ask.same AskM.nil)
 obtain⟨es,hes⟩:=xG (l.say.same SayM.nil)
 have hEA:=zmg l.ask AskM.nil (.tmp 26) (.tmp 27)
 have hES:=zmf l.say SayM.nil (.tmp 35) (.tmp 36)
 rw[hea]at hEA
 rw[hes]at hES
 have HEA:=Lib.hid hEA
 have HES:=Lib.hid hES
 rw[hpf,hpt,hrs,hrq,hea,hes]
 rw[hpf]at HF
 rw[hpt]at HT
 rw[hrs]at HS
 rw[hrq]at HQ
 clear hpf hpt hrs hrq hea hes hEA hES hb hs
 obtain⟨lf,lt,id,la,lq,ls⟩:=l
 simp only at*
 cases pf
 ·simp only[Bool.false_and]
  go_enter Tryz.func129,Tryz.ntmps129
  go_wp2_with (first|(go_at_call_of 177 (Value.int IntKind.i64 lf);revert H;refine zi.use HF.out pks ?_;rintro _ _ w ⟨rfl,rfl⟩ H;try simp only[xNf]at H)|(go_at_call_of 177 (Value.int IntKind.i64 lt);revert H;refine zi.use HT.out pks ?_;rintro _ _ w ⟨rfl,rfl⟩ H;try simp only[xNf]at H)|(go_at_call 178;refine xT2 (HS.out) H ?_;clear H;intro w H)|(go_at_call 93;refine xT2 (HQ.out) H ?_;clear H;intro w H)|(refine z8 (by rfl) (yg (v1:=.agg lq.cells.toArray) (v2:=.agg AskM.nil.cells.toArray) rfl rfl rfl (HEA.out _)) ?_)|(refine z8 (by rfl) (yg (v1:=.agg ls.cells.toArray) (v2:=.agg SayM.nil.cells.toArray) rfl rfl rfl (HES.out _)) ?_)|(refine z8 (v:=.agg AskM.nil.cells.toArray) (by rfl) (zb (t:=110) rfl ?_) ?_;(·simp only[List.map_cons,List.map_nil];exact jr _))|(refine z8 (v:=.agg SayM.nil.cells.toArray) (by rfl) (zb (t:=112) rfl ?_) ?_;(·simp only[List.map_cons,List.map_nil];exact jk _))|(refine ldr H (ty:=110) (cs:=lq.cells) (hh:=by exact zg 9 pk (by rfl) (ze (by rfl))) ?_)|(refine ldr H (ty:=112) (cs:=ls.cells) (hh:=by exact zg 13 pk (by rfl) (ze (by rfl))) ?_)|first|refine xLd H ?_|(refine xEf H ?_;clear H;intro b A' w H))
  refine xR1 H ?_
  exact xF H
 rw[Bool.true_and]
 cases pt
 ·simp only[Bool.false_and]
  go_enter Tryz.func129,Tryz.ntmps129
  go_wp2_with (first|(go_at_call_of 177 (Value.int IntKind.i64 lf);revert H;refine zi.use HF.out pks ?_;rintro _ _ w ⟨rfl,rfl⟩ H;try simp only[xNf]at H)|(go_at_call_of 177 (Value.int IntKind.i64 lt);revert H;refine zi.use HT.out pks ?_;rintro _ _ w ⟨rfl,rfl⟩ H;try simp only[xNf]at H)|(go_at_call 178;refine xT2 (HS.out) H ?_;clear H;intro w H)|(go_at_call 93;refine xT2 (HQ.out) H ?_;clear H;intro w H)|(refine z8 (by rfl) (yg (v1:=.agg lq.cells.toArray) (v2:=.agg AskM.nil.cells.toArray) rfl rfl rfl (HEA.out _)) ?_)|(refine z8 (by rfl) (yg (v1:=.agg ls.cells.toArray) (v2:=.agg SayM.nil.cells.toArray) rfl rfl rfl (HES.out _)) ?_)|(refine z8 (v:=.agg AskM.nil.cells.toArray) (by rfl) (zb (t:=110) rfl ?_) ?_;(·simp only[List.map_cons,List.map_nil];exact jr _))|(refine z8 (v:=.agg SayM.nil.cells.toArray) (by rfl) (zb (t:=112) rfl ?_) ?_;(·simp only[List.map_cons,List.map_nil];exact jk _))|(refine ldr H (ty:=110) (cs:=lq.cells) (hh:=by exact zg 9 pk (by rfl) (ze (by rfl))) ?_)|(refine ldr H (ty:=112) (cs:=ls.cells) (hh:=by exact zg 13 pk (by rfl) (ze (by rfl))) ?_)|first|refine xLd H ?_|(refine xEf H ?_;clear H;intro b A' w H))
  refine xR1 H ?_
  exact xF H
 rw[Bool.true_and]
 by_cases c0:1<=id
 rotate_left
 ·have m0:decide (1<=id)=false:=by simpa using c0
  rw[m0]
  simp only[Bool.false_and]
  have d0:decide (id<(1:Int))=true:=by simp;omega
  clear c0 m0
  go_enter Tryz.func129,Tryz.ntmps129
  go_wp2_with (first|(go_at_call_of 177 (Value.int IntKind.i64 lf);revert H;refine zi.use HF.out pks ?_;rintro _ _ w ⟨rfl,rfl⟩ H;try simp only[xNf]at H)|(go_at_call_of 177 (Value.int IntKind.i64 lt);revert H;refine zi.use HT.out pks ?_;rintro _ _ w ⟨rfl,rfl⟩ H;try simp only[xNf]at H)|(go_at_call 178;refine xT2 (HS.out) H ?_;clear H;intro w H)|(go_at_call 93;refine xT2 (HQ.out) H ?_;clear H;intro w H)|(refine z8 (by rfl) (yg (v1:=.agg lq.cells.toArray) (v2:=.agg AskM.nil.cells.toArray) rfl rfl rfl (HEA.out _)) ?_)|(refine z8 (by rfl) (yg (v1:=.agg ls.cells.toArray) (v2:=.agg SayM.nil.cells.toArray) rfl rfl rfl (HES.out _)) ?_)|(refine z8 (v:=.agg AskM.nil.cells.toArray) (by rfl) (zb (t:=110) rfl ?_) ?_;(·simp only[List.map_cons,List.map_nil];exact jr _))|(refine z8 (v:=.agg SayM.nil.cells.toArray) (by rfl) (zb (t:=112) rfl ?_) ?_;(·simp only[List.map_cons,List.map_nil];exact jk _))|(refine ldr H (ty:=110) (cs:=lq.cells) (hh:=by exact zg 9 pk (by rfl) (ze (by rfl))) ?_)|(refine ldr H (ty:=112) (cs:=ls.cells) (hh:=by exact zg 13 pk (by rfl) (ze (by rfl))) ?_)|first|refine xLd H ?_|(refine xEf H ?_;clear H;intro b A' w H))
  refine xR1 H ?_
  exact xF H
 have m0:decide (1<=id)=true:=by simpa using c0
 rw[m0,Bool.true_and]
 have d0:decide (id<(1:Int))=false:=by simp;omega
 clear c0 m0
 by_cases c1:id<=1099511627776
 rotate_left
 ·have m1:decide (id<=1099511627776)=false:=by simpa using c1
  rw[m1]
  simp only[Bool.false_and]
  have d1:decide ((1099511627776:Int)<id)=true:=by simp;omega
  clear c1 m1
  go_enter Tryz.func129,Tryz.ntmps129
  go_wp2_with (first|(go_at_call_of 177 (Value.int IntKind.i64 lf);revert H;refine zi.use HF.out pks ?_;rintro _ _ w ⟨rfl,rfl⟩ H;try simp only[xNf]at H)|(go_at_call_of 177 (Value.int IntKind.i64 lt);revert H;refine zi.use HT.out pks ?_;rintro _ _ w ⟨rfl,rfl⟩ H;try simp only[xNf]at H)|(go_at_call 178;refine xT2 (HS.out) H ?_;clear H;intro w H)|(go_at_call 93;refine xT2 (HQ.out) H ?_;clear H;intro w H)|(refine z8 (by rfl) (yg (v1:=.agg lq.cells.toArray) (v2:=.agg AskM.nil.cells.toArray) rfl rfl rfl (HEA.out _)) ?_)|(refine z8 (by rfl) (yg (v1:=.agg ls.cells.toArray) (v2:=.agg SayM.nil.cells.toArray) rfl rfl rfl (HES.out _)) ?_)|(refine z8 (v:=.agg AskM.nil.cells.toArray) (by rfl) (zb (t:=110) rfl ?_) ?_;(·simp only[List.map_cons,List.map_nil];exact jr _))|(refine z8 (v:=.agg SayM.nil.cells.toArray) (by rfl) (zb (t:=112) rfl ?_) ?_;(·simp only[List.map_cons,List.map_nil];exact jk _))|(refine ldr H (ty:=110) (cs:=lq.cells) (hh:=by exact zg 9 pk (by rfl) (ze (by rfl))) ?_)|(refine ldr H (ty:=112) (cs:=ls.cells) (hh:=by exact zg 13 pk (by rfl) (ze (by rfl))) ?_)|first|refine xLd H ?_|(refine xEf H ?_;clear H;intro b A' w H))
  refine xR1 H ?_
  exact xF H
 have m1:decide (id<=1099511627776)=true:=by simpa using c1
 rw[m1,Bool.true_and]
 have d1:decide ((1099511627776:Int)<id)=false:=by simp;omega
 clear c1 m1
 cases la
 ·simp only[Bool.false_eq_true,if_false]
  cases es
  ·simp only[Bool.false_and]
   go_enter Tryz.func129,Tryz.ntmps129
   go_wp2_with (first|(go_at_call_of 177 (Value.int IntKind.i64 lf);revert H;refine zi.use HF.out pks ?_;rintro _ _ w ⟨rfl,rfl⟩ H;try simp only[xNf]at H)|(go_at_call_of 177 (Value.int IntKind.i64 lt);revert H;refine zi.use HT.out pks ?_;rintro _ _ w ⟨rfl,rfl⟩ H;try simp only[xNf]at H)|(go_at_call 178;refine xT2 (HS.out) H ?_;clear H;intro w H)|(go_at_call 93;refine xT2 (HQ.out) H ?_;clear H;intro w H)|(refine z8 (by rfl) (yg (v1:=.agg lq.cells.toArray) (v2:=.agg AskM.nil.cells.toArray) rfl rfl rfl (HEA.out _)) ?_)|(refine z8 (by rfl) (yg (v1:=.agg ls.cells.toArray) (v2:=.agg SayM.nil.cells.toArray) rfl rfl rfl (HES.out _)) ?_)|(refine z8 (v:=.agg AskM.nil.cells.toArray) (by rfl) (zb (t:=110) rfl ?_) ?_;(·simp only[List.map_cons,List.map_nil];exact jr _))|(refine z8 (v:=.agg SayM.nil.cells.toArray) (by rfl) (zb (t:=112) rfl ?_) ?_;(·simp only[List.map_cons,List.map_nil];exact jk _))|(refine ldr H (ty:=110) (cs:=lq.cells) (hh:=by exact zg 9 pk (by rfl) (ze (by rfl))) ?_)|(refine ldr H (ty:=112) (cs:=ls.cells) (hh:=by exact zg 13 pk (by rfl) (ze (by rfl))) ?_)|first|refine xLd H ?_|(refine xEf H ?_;clear H;intro b A' w H))
   refine xR1 H ?_
   exact xF H
  ·rw[Bool.true_and]
   go_enter Tryz.func129,Tryz.ntmps129
   go_wp2_with (first|(go_at_call_of 177 (Value.int IntKind.i64 lf);revert H;refine zi.use HF.out pks ?_;rintro _ _ w ⟨rfl,rfl⟩ H;try simp only[xNf]at H)|(go_at_call_of 177 (Value.int IntKind.i64 lt);revert H;refine zi.use HT.out pks ?_;rintro _ _ w ⟨rfl,rfl⟩ H;try simp only[xNf]at H)|(go_at_call 178;refine xT2 (HS.out) H ?_;clear H;intro w H)|(go_at_call 93;refine xT2 (HQ.out) H ?_;clear H;intro w H)|(refine z8 (by rfl) (yg (v1:=.agg lq.cells.toArray) (v2:=.agg AskM.nil.cells.toArray) rfl rfl rfl (HEA.out _)) ?_)|(refine z8 (by rfl) (yg (v1:=.agg ls.cells.toArray) (v2:=.agg SayM.nil.cells.toArray) rfl rfl rfl (HES.out _)) ?_)|(refine z8 (v:=.agg AskM.nil.cells.toArray) (by rfl) (zb (t:=110) rfl ?_) ?_;(·simp only[List.map_cons,List.map_nil];exact jr _))|(refine z8 (v:=.agg SayM.nil.cells.toArray) (by rfl) (zb (t:=112) rfl ?_) ?_;(·simp only[List.map_cons,List.map_nil];exact jk _))|(refine ldr H (ty:=110) (cs:=lq.cells) (hh:=by exact zg 9 pk (by rfl) (ze (by rfl))) ?_)|(refine ldr H (ty:=112) (cs:=ls.cells) (hh:=by exact zg 13 pk (by rfl) (ze (by rfl))) ?_)|first|refine xLd H ?_|(refine xEf H ?_;clear H;intro b A' w H))
   refine xR1 H ?_
   exact xF H
 ·simp only[if_true]
  cases ea
  ·simp only[Bool.false_and]
   go_enter Tryz.func129,Tryz.ntmps129
   go_wp2_with (first|(go_at_call_of 177 (Value.int IntKind.i64 lf);revert H;refine zi.use HF.out pks ?_;rintro _ _ w ⟨rfl,rfl⟩ H;try simp only[xNf]at H)|(go_at_call_of 177 (Value.int IntKind.i64 lt);revert H;refine zi.use HT.out pks ?_;rintro _ _ w ⟨rfl,rfl⟩ H;try simp only[xNf]at H)|(go_at_call 178;refine xT2 (HS.out) H ?_;clear H;intro w H)|(go_at_call 93;refine xT2 (HQ.out) H ?_;clear H;intro w H)|(refine z8 (by rfl) (yg (v1:=.agg lq.cells.toArray) (v2:=.agg AskM.nil.cells.toArray) rfl rfl rfl (HEA.out _)) ?_)|(refine z8 (by rfl) (yg (v1:=.agg ls.cells.toArray) (v2:=.agg SayM.nil.cells.toArray) rfl rfl rfl (HES.out _)) ?_)|(refine z8 (v:=.agg AskM.nil.cells.toArray) (by rfl) (zb (t:=110) rfl ?_) ?_;(·simp only[List.map_cons,List.map_nil];exact jr _))|(refine z8 (v:=.agg SayM.nil.cells.toArray) (by rfl) (zb (t:=112) rfl ?_) ?_;(·simp only[List.map_cons,List.map_nil];exact jk _))|(refine ldr H (ty:=110) (cs:=lq.cells) (hh:=by exact zg 9 pk (by rfl) (ze (by rfl))) ?_)|(refine ldr H (ty:=112) (cs:=ls.cells) (hh:=by exact zg 13 pk (by rfl) (ze (by rfl))) ?_)|first|refine xLd H ?_|(refine xEf H ?_;clear H;intro b A' w H))
   refine xR1 H ?_
   exact xF H
  ·rw[Bool.true_and]
   go_enter Tryz.func129,Tryz.ntmps129
   go_wp2_with (first|(go_at_call_of 177 (Value.int IntKind.i64 lf);revert H;refine zi.use HF.out pks ?_;rintro _ _ w ⟨rfl,rfl⟩ H;try simp only[xNf]at H)|(go_at_call_of 177 (Value.int IntKind.i64 lt);revert H;refine zi.use HT.out pks ?_;rintro _ _ w ⟨rfl,rfl⟩ H;try simp only[xNf]at H)|(go_at_call 178;refine xT2 (HS.out) H ?_;clear H;intro w H)|(go_at_call 93;refine xT2 (HQ.out) H ?_;clear H;intro w H)|(refine z8 (by rfl) (yg (v1:=.agg lq.cells.toArray) (v2:=.agg AskM.nil.cells.toArray) rfl rfl rfl (HEA.out _)) ?_)|(refine z8 (by rfl) (yg (v1:=.agg ls.cells.toArray) (v2:=.agg SayM.nil.cells.toArray) rfl rfl rfl (HES.out _)) ?_)|(refine z8 (v:=.agg AskM.nil.cells.toArray) (by rfl) (zb (t:=110) rfl ?_) ?_;(·simp only[List.map_cons,List.map_nil];exact jr _))|(refine z8 (v:=.agg SayM.nil.cells.toArray) (by rfl) (zb (t:=112) rfl ?_) ?_;(·simp only[List.map_cons,List.map_nil];exact jk _))|(refine ldr H (ty:=110) (cs:=lq.cells) (hh:=by exact zg 9 pk (by rfl) (ze (by rfl))) ?_)|(refine ldr H (ty:=112) (cs:=ls.cells) (hh:=by exact zg 13 pk (by rfl) (ze (by rfl))) ?_)|first|refine xLd H ?_|(refine xEf H ?_;clear H;intro b A' w H))
   refine xR1 H ?_
   exact xF H
section
def znh:List (Nat×Nat):=[(81,79),(176,4),(177,54),(41,38),(67,173),(64,89),(297,141)]
def znC (t:Nat):Option Nat:=(znh.find? fun x=>x.1==t).map (·.2)
theorem zlF:(znh.all fun x=>match Tryz.prog.underlying x.1 with|some (.slice e)=>e==x.2|_=>false)=true:=by kernel_rfl
theorem zb6 {t e:TypeId} (h:znC t=some e:=by rfl):Tryz.prog.underlying t=some (.slice e):=by
 unfold znC at h
 cases hf:znh.find? (fun x=>x.1==t)with
 |none=>rw[hf]at h;cases h
 |some x=>
  rw[hf]at h
  have h2:=List.all_eq_true.1 zlF x (List.mem_of_find?_eq_some hf)
  have h3:=List.find?_some hf
  simp only[beq_iff_eq]at h3
  subst h3
  simp only[Option.map_some,Option.some.injEq]at h
  subst h
  revert h2
  cases Tryz.prog.underlying x.1 with
  |none=>intro h2;cases h2
  |some d=>cases d<;>intro h2<;>first|(cases h2;done)|(simp only[beq_iff_eq]at h2;rw[h2])
def znr:List (Nat×Nat×Nat):=[(79,2,24),(4,1,1),(54,10,96),(38,1,8),(173,3,32),(89,2,16),(141,1,8)]
def znD (t:Nat):Option (Nat×Nat):=(znr.find? fun x=>x.1==t).map (·.2)
theorem zm7:(znr.all fun x=>(Tryz.prog.info? x.1).map (fun i=>(i.size,i.bytes))==some x.2)=true:=by kernel_rfl
theorem zdW {t:TypeId} {p:Nat×Nat} (h:znD t=some p:=by rfl):(Tryz.prog.info? t).map (fun i=>(i.size,i.bytes))=some p:=by
 unfold znD at h
 cases hf:znr.find? (fun x=>x.1==t)with
 |none=>rw[hf]at h;cases h
 |some x=>
  rw[hf]at h
  have h2:=List.all_eq_true.1 zm7 x (List.mem_of_find?_eq_some hf)
  have h3:=List.find?_some hf
  simp only[beq_iff_eq]at h3
  subst h3
  simp only[Option.map_some,Option.some.injEq]at h
  subst h
  simpa using h2
section
variable {op:Oper} {a:Act} {w w' w0:World} {F0:Nat->Prop} {Q:Exit->Act->World->Prop} {K':Act->World->Prop} {L L':List Assn} {t e n:Nat} {ps:Array (Nat×Operand)} {vs:List Value}
theorem z5o (n:Nat) (H:Sep F0 w0 w L) (h:∀b w',Sep F0 w0 w' (zh e 1 (.slice (some ⟨b,0,none⟩) n n) n vs::L)->K' (a.put op.dst (.slice (some ⟨b,0,none⟩) n n)) w') (ho:op.op= .buildSlice t n ps:=by exact rfl) (ht:Tryz.prog.underlying t=some (.slice e):=by exact und)
  (hb:(execOp a.eval op).run Tryz.prog w= .ok (.value (.slice (some ⟨w.heap.size,0,none⟩) n n)) (w.alloc (.cells vs.toArray e)):=by first|(go_simp;done)|(go_simp;rfl)) (hl:vs.length=n:=by rfl) (hn:n<=1000:=by exact Nat.le_of_ble_eq_true rfl):op.wp Tryz.prog a w K' Q:=by
 refine jp hb (h _ _ ?_)
 refine Sep.conv ?_ (H.newC vs.toArray e)
 rintro F w ⟨h1,h2⟩
 refine⟨⟨by rw[hl,Nat.mul_one],.inr ⟨_,n,_,rfl,Nat.zero_le _,h2,Nat.le_refl _,by unfold maxLen;omega,by simp[hl],by simp[<-hl]⟩⟩,fun k hk=>by cases hk;exact h1⟩
end
end
def z3q (c n:Int):Int:=(if c<0 then-(c+1)else c).tmod n
theorem z4W (c n:Int) (hn:1<=n):0<=z3q c n/\z3q c n<n:=by
 unfold z3q
 have h:0<=(if c<0 then-(c+1)else c):=by split<;>omega
 generalize (if c<0 then-(c+1)else c)=x at*
 rw[Int.tmod_eq_emod_of_nonneg h]
 exact⟨Int.emod_nonneg _ (by omega),Int.emod_lt_of_pos _ (by omega)⟩
theorem z6h (c n:Int) (w:World) (hc1:-9223372036854775808<=c) (hc2:c<=9223372036854775807) (hn1:1<=n) (hn2:n<=9223372036854775807):
  Calls Tryz.prog 19 #[.int .i64 c,.int .i64 n] w fun e w'=>e= .returned (.int .i64 (z3q c n))/\w=w':=by
 by_cases h0:c<0
 ·go_enter Tryz.func19,Tryz.ntmps19
  go_wp2
  go_ret
  refine⟨?_,rfl⟩
  unfold z3q
  rw[if_pos h0,Int.neg_tmod]
  rfl
 ·go_enter Tryz.func19,Tryz.ntmps19
  go_wp2
  go_ret
  refine⟨?_,rfl⟩
  unfold z3q
  rw[if_neg (by omega),Int.tmod_eq_emod_of_nonneg (by omega)]
  rfl
end Go.Proofs.YtmfincpagnpkjaaGreat
namespace Go.Proofs.YtmfincpagnpkjaaGreat
def yn (N S:Int):Bool:=decide (3<=N/\N<=6/\1<=S/\S<=8)
def yl (N S:Int):Int:=if yn N S then S*(N-1)else 0
def zl4 (N S s n:Int):Bool:=decide ((3<=N/\N<=6/\1<=S/\S<=8)/\0<=s/\s<S/\0<=n/\n<N)
def z3t (N S s c:Int):Int:=if zl4 N S s c then(c+s) % N else-1
def z4c (N S s n:Int):Int:=if zl4 N S s n then(n+N-s % N) % N else-1
def inZ (N S b:Int):Bool:=decide (0<=b/\b<yl N S)
theorem yc {N S:Int}:yn N S=true↔3<=N/\N<=6/\1<=S/\S<=8:=by simp[yn]
theorem ze0 {N S s n:Int}:zl4 N S s n=true↔(3<=N/\N<=6/\1<=S/\S<=8)/\0<=s/\s<S/\0<=n/\n<N:=by simp[zl4]
theorem zbS {N S:Int} (h:yn N S=false):¬(3<=N/\N<=6/\1<=S/\S<=8):=by
 intro h'
 rw[yc.2 h']at h
 cases h
theorem zlY {N S s n:Int} (h:zl4 N S s n=false):¬((3<=N/\N<=6/\1<=S/\S<=8)/\0<=s/\s<S/\0<=n/\n<N):=by
 intro h'
 rw[ze0.2 h']at h
 cases h
theorem z4u {N S:Int} (n1:3<=N) (n2:N<=6) (s1:1<=S) (s2:S<=8):2<=S*(N-1)/\S*(N-1)<=40:=by
 rcases(show N=3\/N=4\/N=5\/N=6 by omega)with rfl|rfl|rfl|rfl<;>omega
end Go.Proofs.YtmfincpagnpkjaaGreat
