/- Part of the proof. -/
import Derived.Test.YtmfincpagnpkjaaGreatM17
set_option linter.all false
set_option maxRecDepth 100000
set_option maxHeartbeats 100000000
namespace Go.Proofs.YtmfincpagnpkjaaGreat
open Go.RowKit
section
section
variable {g K n:Nat} {t:TypeId} {ls:List LeaseM} {rest:List Value}
theorem z6H (i:Nat) (l l':LeaseM) (now frm st qe qs qm qn oe oq:Int) (qb:ByteArray) (h2:yb ⟨8,i,qe,qs,qm,qn,oe,oq,qb⟩=true) (hin:i<n) (hi:ls[i]?=some l) (hx:z1D l now frm=(l',st)) (hst:(st==6)=true):
  zi Tryz.prog 92 #[.pointer (some ⟨K,0,none⟩),.int .i64 now,.int .i64 frm,(AskM.mk 8 i qe qs qm qn oe oq qb).v] [z7 K 158 (.slice (some ⟨g,0,none⟩) n n::rest),z7 g t (zd LeaseM.cells ls)] fun v L=>v=zaO.v/\L=[z7 K 158 (.slice (some ⟨g,0,none⟩) n n::rest),z7 g t (zd LeaseM.cells (ls.set i l'))]:=by
 intro F0 w0 w R H
 try simp only[xNf]at H
 have d4:decide ((n:Int)<=(i:Int))=false:=by simp;omega
 have d4':decide (n<=i)=false:=by simp;omega
 have b0:(0:Int)<=(i:Int):=by omega
 have b1:(i:Int)<(n:Int):=by omega
 have HT:=Lib.hid (fun(_:True)=>z82 (g:=g) (t:=t) i l now frm hi)
 have HX:=Lib.hid hx
 have hset:(ls.set i l')[i]?=some l':=List.getElem?_set_self (List.getElem?_eq_some_iff.1 hi).1
 have HSET:=Lib.hid hset
 clear hi hx hset hin
 go_enter Tryz.func92,Tryz.ntmps92
 go_upto_region 2 with(first|(refine z8 (v:=.agg zaO.cells.toArray) (by rfl) (zb (t:=112) rfl ?_) ?_;(·simp only[List.map_cons,List.map_nil];exact z0b _))|first|refine xLd H ?_|(refine xEf H ?_;clear H;intro b A' w H))
 refine xRg [] (fun L=>[L]) H ?_
 clear H;intro w H
 have HS:=H
 refine xV 0 0 HS ?_
 refine xC 1 0 (jy _) H ?_
 clear H HS;intro w H HS;rw[h2]
 refine xO 2 0 HS ?_
 refine xO 3 0 HS ?_
 refine xO 4 0 HS ?_
 refine xL 5 0 HS ?_
 refine xO 6 0 HS ?_
 refine xO 7 0 HS ?_
 refine xO 8 0 HS ?_
 refine xL 9 0 HS ?_
 refine xO 10 0 HS ?_
 refine xO 11 0 HS ?_
 refine xO 12 0 HS ?_
 refine xD ?_
 go_upto_region 4 with(first|refine xLd H ?_|(refine xEf H ?_;clear H;intro b A' w H))
 refine xRg [] (fun L=>[L]) H ?_
 clear H;intro w H
 have HS:=H
 refine xO 0 0 HS ?_
 refine xO 1 0 HS ?_
 refine xO 2 0 HS ?_
 refine xL 3 0 HS ?_
 refine xO 4 0 HS ?_
 refine xL 5 0 HS ?_
 refine xO 6 0 HS ?_
 refine xO 7 0 HS ?_
 refine xD ?_
 go_wp2_with (first|(go_at_call 134;revert H;refine zi.use (HT.out trivial) pks ?_;rintro _ _ w ⟨rfl,rfl⟩ H;try simp only[xNf]at H;simp only[HX.out]at H⊢)|first|refine xLd H ?_|(refine xEf H ?_;clear H;intro b A' w H))
 refine xR1 H ?_
 exact xF H
theorem zcJ (i:Nat) (l l':LeaseM) (now frm st qe qs qm qn oe oq:Int) (qb:ByteArray) (h2:yb ⟨8,i,qe,qs,qm,qn,oe,oq,qb⟩=true) (hin:i<n) (hi:ls[i]?=some l) (hx:z1D l now frm=(l',st)) (hst:(st==6)=false):
  zi Tryz.prog 92 #[.pointer (some ⟨K,0,none⟩),.int .i64 now,.int .i64 frm,(AskM.mk 8 i qe qs qm qn oe oq qb).v] [z7 K 158 (.slice (some ⟨g,0,none⟩) n n::rest),z7 g t (zd LeaseM.cells ls)] fun v L=>v=(SayM.mk st l'.ep l'.out Rec.nil).v/\L=[z7 K 158 (.slice (some ⟨g,0,none⟩) n n::rest),z7 g t (zd LeaseM.cells (ls.set i l'))]:=by
 intro F0 w0 w R H
 try simp only[xNf]at H
 have d4:decide ((n:Int)<=(i:Int))=false:=by simp;omega
 have d4':decide (n<=i)=false:=by simp;omega
 have b0:(0:Int)<=(i:Int):=by omega
 have b1:(i:Int)<(n:Int):=by omega
 have HT:=Lib.hid (fun(_:True)=>z82 (g:=g) (t:=t) i l now frm hi)
 have HX:=Lib.hid hx
 have hset:(ls.set i l')[i]?=some l':=List.getElem?_set_self (List.getElem?_eq_some_iff.1 hi).1
 have HSET:=Lib.hid hset
 clear hi hx hset hin
 go_enter Tryz.func92,Tryz.ntmps92
 go_upto_region 2 with(first|(refine z8 (v:=.agg zaO.cells.toArray) (by rfl) (zb (t:=112) rfl ?_) ?_;(·simp only[List.map_cons,List.map_nil];exact z0b _))|first|refine xLd H ?_|(refine xEf H ?_;clear H;intro b A' w H))
 refine xRg [] (fun L=>[L]) H ?_
 clear H;intro w H
 have HS:=H
 refine xV 0 0 HS ?_
 refine xC 1 0 (jy _) H ?_
 clear H HS;intro w H HS;rw[h2]
 refine xO 2 0 HS ?_
 refine xO 3 0 HS ?_
 refine xO 4 0 HS ?_
 refine xL 5 0 HS ?_
 refine xO 6 0 HS ?_
 refine xO 7 0 HS ?_
 refine xO 8 0 HS ?_
 refine xL 9 0 HS ?_
 refine xO 10 0 HS ?_
 refine xO 11 0 HS ?_
 refine xO 12 0 HS ?_
 refine xD ?_
 go_upto_region 4 with(first|refine xLd H ?_|(refine xEf H ?_;clear H;intro b A' w H))
 refine xRg [] (fun L=>[L]) H ?_
 clear H;intro w H
 have HS:=H
 refine xO 0 0 HS ?_
 refine xO 1 0 HS ?_
 refine xO 2 0 HS ?_
 refine xL 3 0 HS ?_
 refine xO 4 0 HS ?_
 refine xL 5 0 HS ?_
 refine xO 6 0 HS ?_
 refine xO 7 0 HS ?_
 refine xD ?_
 go_upto_region 15 with(first|(go_at_call 134;revert H;refine zi.use (HT.out trivial) pks ?_;rintro _ _ w ⟨rfl,rfl⟩ H;try simp only[xNf]at H;simp only[HX.out]at H⊢)|first|refine xLd H ?_|(refine xEf H ?_;clear H;intro b A' w H))
 refine xRg [10] (fun L=>[L,[]]) H ?_
 clear H;intro w H
 have HS:=H
 refine xO 0 0 HS ?_
 refine xO 1 0 HS ?_
 refine xO 2 0 HS ?_
 refine xO 3 0 HS ?_
 refine xL 4 0 HS ?_ (hin:=(.stop (n:=11) (by first|exact j3 pk HSET.out LeaseM.cells_length (by rfl) (by rfl)|exact j0 pk HSET.out LeaseM.cells_length (by rfl) (by rfl)) (by kernel_rfl)))
 refine xO 5 0 HS ?_
 refine xO 6 0 HS ?_
 refine xO 7 0 HS ?_
 refine xL 8 0 HS ?_ (hin:=(.stop (n:=11) (by first|exact j0 pk HSET.out LeaseM.cells_length (by rfl) (by rfl)) (by kernel_rfl)))
 refine xO 9 0 HS ?_ (v:=(.agg (SayM.mk st l'.ep l'.out Rec.nil).cells.toArray)) (hy:=by(intro W;exact zb rfl (z5Y _ _ _ W)))
 refine xM 10 1 H ?_
 clear H HS;intro _ _ w H HS
 refine xD ?_
 go_wp2_with (first|refine xLd H ?_|(refine xEf H ?_;clear H;intro b A' w H))
 refine xR1 H ?_
 exact xF H
theorem z8T (i:Nat) (l l':LeaseM) (now frm st qe qs qm qn oe oq:Int) (qb:ByteArray) (h2:yb ⟨9,i,qe,qs,qm,qn,oe,oq,qb⟩=true) (hin:i<n) (hi:ls[i]?=some l) (hx:zbJ l now frm qe qn=(l',st)) (hst:(st==6)=true):
  zi Tryz.prog 92 #[.pointer (some ⟨K,0,none⟩),.int .i64 now,.int .i64 frm,(AskM.mk 9 i qe qs qm qn oe oq qb).v] [z7 K 158 (.slice (some ⟨g,0,none⟩) n n::rest),z7 g t (zd LeaseM.cells ls)] fun v L=>v=zaO.v/\L=[z7 K 158 (.slice (some ⟨g,0,none⟩) n n::rest),z7 g t (zd LeaseM.cells (ls.set i l'))]:=by
 intro F0 w0 w R H
 try simp only[xNf]at H
 have d4:decide ((n:Int)<=(i:Int))=false:=by simp;omega
 have d4':decide (n<=i)=false:=by simp;omega
 have b0:(0:Int)<=(i:Int):=by omega
 have b1:(i:Int)<(n:Int):=by omega
 have HT:=Lib.hid (fun(_:True)=>zcd (g:=g) (t:=t) i l now frm ⟨9,i,qe,qs,qm,qn,oe,oq,qb⟩ hi)
 have HX:=Lib.hid hx
 have hset:(ls.set i l')[i]?=some l':=List.getElem?_set_self (List.getElem?_eq_some_iff.1 hi).1
 have HSET:=Lib.hid hset
 clear hi hx hset hin
 go_enter Tryz.func92,Tryz.ntmps92
 go_upto_region 2 with(first|(refine z8 (v:=.agg zaO.cells.toArray) (by rfl) (zb (t:=112) rfl ?_) ?_;(·simp only[List.map_cons,List.map_nil];exact z0b _))|first|refine xLd H ?_|(refine xEf H ?_;clear H;intro b A' w H))
 refine xRg [] (fun L=>[L]) H ?_
 clear H;intro w H
 have HS:=H
 refine xV 0 0 HS ?_
 refine xC 1 0 (jy _) H ?_
 clear H HS;intro w H HS;rw[h2]
 refine xO 2 0 HS ?_
 refine xO 3 0 HS ?_
 refine xO 4 0 HS ?_
 refine xL 5 0 HS ?_
 refine xO 6 0 HS ?_
 refine xO 7 0 HS ?_
 refine xO 8 0 HS ?_
 refine xL 9 0 HS ?_
 refine xO 10 0 HS ?_
 refine xO 11 0 HS ?_
 refine xO 12 0 HS ?_
 refine xD ?_
 go_upto_region 4 with(first|refine xLd H ?_|(refine xEf H ?_;clear H;intro b A' w H))
 refine xRg [] (fun L=>[L]) H ?_
 clear H;intro w H
 have HS:=H
 refine xO 0 0 HS ?_
 refine xO 1 0 HS ?_
 refine xO 2 0 HS ?_
 refine xL 3 0 HS ?_
 refine xO 4 0 HS ?_
 refine xL 5 0 HS ?_
 refine xO 6 0 HS ?_
 refine xO 7 0 HS ?_
 refine xD ?_
 go_wp2_with (first|(go_at_call 135;revert H;refine zi.use (HT.out trivial) pks ?_;rintro _ _ w ⟨rfl,rfl⟩ H;try simp only[xNf]at H;simp only[HX.out]at H⊢)|first|refine xLd H ?_|(refine xEf H ?_;clear H;intro b A' w H))
 refine xR1 H ?_
 exact xF H
theorem zh1 (i:Nat) (l l':LeaseM) (now frm st qe qs qm qn oe oq:Int) (qb:ByteArray) (h2:yb ⟨9,i,qe,qs,qm,qn,oe,oq,qb⟩=true) (hin:i<n) (hi:ls[i]?=some l) (hx:zbJ l now frm qe qn=(l',st)) (hst:(st==6)=false):
  zi Tryz.prog 92 #[.pointer (some ⟨K,0,none⟩),.int .i64 now,.int .i64 frm,(AskM.mk 9 i qe qs qm qn oe oq qb).v] [z7 K 158 (.slice (some ⟨g,0,none⟩) n n::rest),z7 g t (zd LeaseM.cells ls)] fun v L=>v=(SayM.mk st l'.ep l'.out Rec.nil).v/\L=[z7 K 158 (.slice (some ⟨g,0,none⟩) n n::rest),z7 g t (zd LeaseM.cells (ls.set i l'))]:=by
 intro F0 w0 w R H
 try simp only[xNf]at H
 have d4:decide ((n:Int)<=(i:Int))=false:=by simp;omega
 have d4':decide (n<=i)=false:=by simp;omega
 have b0:(0:Int)<=(i:Int):=by omega
 have b1:(i:Int)<(n:Int):=by omega
 have HT:=Lib.hid (fun(_:True)=>zcd (g:=g) (t:=t) i l now frm ⟨9,i,qe,qs,qm,qn,oe,oq,qb⟩ hi)
 have HX:=Lib.hid hx
 have hset:(ls.set i l')[i]?=some l':=List.getElem?_set_self (List.getElem?_eq_some_iff.1 hi).1
 have HSET:=Lib.hid hset
 clear hi hx hset hin
 go_enter Tryz.func92,Tryz.ntmps92
 go_upto_region 2 with(first|(refine z8 (v:=.agg zaO.cells.toArray) (by rfl) (zb (t:=112) rfl ?_) ?_;(·simp only[List.map_cons,List.map_nil];exact z0b _))|first|refine xLd H ?_|(refine xEf H ?_;clear H;intro b A' w H))
 refine xRg [] (fun L=>[L]) H ?_
 clear H;intro w H
 have HS:=H
 refine xV 0 0 HS ?_
 refine xC 1 0 (jy _) H ?_
 clear H HS;intro w H HS;rw[h2]
 refine xO 2 0 HS ?_
 refine xO 3 0 HS ?_
 refine xO 4 0 HS ?_
 refine xL 5 0 HS ?_
 refine xO 6 0 HS ?_
 refine xO 7 0 HS ?_
 refine xO 8 0 HS ?_
 refine xL 9 0 HS ?_
 refine xO 10 0 HS ?_
 refine xO 11 0 HS ?_
 refine xO 12 0 HS ?_
 refine xD ?_
 go_upto_region 4 with(first|refine xLd H ?_|(refine xEf H ?_;clear H;intro b A' w H))
 refine xRg [] (fun L=>[L]) H ?_
 clear H;intro w H
 have HS:=H
 refine xO 0 0 HS ?_
 refine xO 1 0 HS ?_
 refine xO 2 0 HS ?_
 refine xL 3 0 HS ?_
 refine xO 4 0 HS ?_
 refine xL 5 0 HS ?_
 refine xO 6 0 HS ?_
 refine xO 7 0 HS ?_
 refine xD ?_
 go_upto_region 15 with(first|(go_at_call 135;revert H;refine zi.use (HT.out trivial) pks ?_;rintro _ _ w ⟨rfl,rfl⟩ H;try simp only[xNf]at H;simp only[HX.out]at H⊢)|first|refine xLd H ?_|(refine xEf H ?_;clear H;intro b A' w H))
 refine xRg [10] (fun L=>[L,[]]) H ?_
 clear H;intro w H
 have HS:=H
 refine xO 0 0 HS ?_
 refine xO 1 0 HS ?_
 refine xO 2 0 HS ?_
 refine xO 3 0 HS ?_
 refine xL 4 0 HS ?_ (hin:=(.stop (n:=11) (by first|exact j3 pk HSET.out LeaseM.cells_length (by rfl) (by rfl)|exact j0 pk HSET.out LeaseM.cells_length (by rfl) (by rfl)) (by kernel_rfl)))
 refine xO 5 0 HS ?_
 refine xO 6 0 HS ?_
 refine xO 7 0 HS ?_
 refine xL 8 0 HS ?_ (hin:=(.stop (n:=11) (by first|exact j0 pk HSET.out LeaseM.cells_length (by rfl) (by rfl)) (by kernel_rfl)))
 refine xO 9 0 HS ?_ (v:=(.agg (SayM.mk st l'.ep l'.out Rec.nil).cells.toArray)) (hy:=by(intro W;exact zb rfl (z5Y _ _ _ W)))
 refine xM 10 1 H ?_
 clear H HS;intro _ _ w H HS
 refine xD ?_
 go_wp2_with (first|refine xLd H ?_|(refine xEf H ?_;clear H;intro b A' w H))
 refine xR1 H ?_
 exact xF H
theorem zaQ (i:Nat) (l l':LeaseM) (now frm st qe qs qm qn oe oq:Int) (qb:ByteArray) (h2:yb ⟨10,i,qe,qs,qm,qn,oe,oq,qb⟩=true) (hin:i<n) (hi:ls[i]?=some l) (hx:inL l frm qe=(l',st)) (hst:(st==6)=true):
  zi Tryz.prog 92 #[.pointer (some ⟨K,0,none⟩),.int .i64 now,.int .i64 frm,(AskM.mk 10 i qe qs qm qn oe oq qb).v] [z7 K 158 (.slice (some ⟨g,0,none⟩) n n::rest),z7 g t (zd LeaseM.cells ls)] fun v L=>v=zaO.v/\L=[z7 K 158 (.slice (some ⟨g,0,none⟩) n n::rest),z7 g t (zd LeaseM.cells (ls.set i l'))]:=by
 intro F0 w0 w R H
 try simp only[xNf]at H
 have d4:decide ((n:Int)<=(i:Int))=false:=by simp;omega
 have d4':decide (n<=i)=false:=by simp;omega
 have b0:(0:Int)<=(i:Int):=by omega
 have b1:(i:Int)<(n:Int):=by omega
 have HT:=Lib.hid (fun(_:True)=>zeU (g:=g) (t:=t) i l frm ⟨10,i,qe,qs,qm,qn,oe,oq,qb⟩ hi)
 have HX:=Lib.hid hx
 have hset:(ls.set i l')[i]?=some l':=List.getElem?_set_self (List.getElem?_eq_some_iff.1 hi).1
 have HSET:=Lib.hid hset
 clear hi hx hset hin
 go_enter Tryz.func92,Tryz.ntmps92
 go_upto_region 2 with(first|(refine z8 (v:=.agg zaO.cells.toArray) (by rfl) (zb (t:=112) rfl ?_) ?_;(·simp only[List.map_cons,List.map_nil];exact z0b _))|first|refine xLd H ?_|(refine xEf H ?_;clear H;intro b A' w H))
 refine xRg [] (fun L=>[L]) H ?_
 clear H;intro w H
 have HS:=H
 refine xV 0 0 HS ?_
 refine xC 1 0 (jy _) H ?_
 clear H HS;intro w H HS;rw[h2]
 refine xO 2 0 HS ?_
 refine xO 3 0 HS ?_
 refine xO 4 0 HS ?_
 refine xL 5 0 HS ?_
 refine xO 6 0 HS ?_
 refine xO 7 0 HS ?_
 refine xO 8 0 HS ?_
 refine xL 9 0 HS ?_
 refine xO 10 0 HS ?_
 refine xO 11 0 HS ?_
 refine xO 12 0 HS ?_
 refine xD ?_
 go_upto_region 4 with(first|refine xLd H ?_|(refine xEf H ?_;clear H;intro b A' w H))
 refine xRg [] (fun L=>[L]) H ?_
 clear H;intro w H
 have HS:=H
 refine xO 0 0 HS ?_
 refine xO 1 0 HS ?_
 refine xO 2 0 HS ?_
 refine xL 3 0 HS ?_
 refine xO 4 0 HS ?_
 refine xL 5 0 HS ?_
 refine xO 6 0 HS ?_
 refine xO 7 0 HS ?_
 refine xD ?_
 go_wp2_with (first|(go_at_call 136;revert H;refine zi.use (HT.out trivial) pks ?_;rintro _ _ w ⟨rfl,rfl⟩ H;try simp only[xNf]at H;simp only[HX.out]at H⊢)|first|refine xLd H ?_|(refine xEf H ?_;clear H;intro b A' w H))
 refine xR1 H ?_
 exact xF H
theorem zjC (i:Nat) (l l':LeaseM) (now frm st qe qs qm qn oe oq:Int) (qb:ByteArray) (h2:yb ⟨10,i,qe,qs,qm,qn,oe,oq,qb⟩=true) (hin:i<n) (hi:ls[i]?=some l) (hx:inL l frm qe=(l',st)) (hst:(st==6)=false):
  zi Tryz.prog 92 #[.pointer (some ⟨K,0,none⟩),.int .i64 now,.int .i64 frm,(AskM.mk 10 i qe qs qm qn oe oq qb).v] [z7 K 158 (.slice (some ⟨g,0,none⟩) n n::rest),z7 g t (zd LeaseM.cells ls)] fun v L=>v=(SayM.mk st l'.ep l'.out Rec.nil).v/\L=[z7 K 158 (.slice (some ⟨g,0,none⟩) n n::rest),z7 g t (zd LeaseM.cells (ls.set i l'))]:=by
 intro F0 w0 w R H
 try simp only[xNf]at H
 have d4:decide ((n:Int)<=(i:Int))=false:=by simp;omega
 have d4':decide (n<=i)=false:=by simp;omega
 have b0:(0:Int)<=(i:Int):=by omega
 have b1:(i:Int)<(n:Int):=by omega
 have HT:=Lib.hid (fun(_:True)=>zeU (g:=g) (t:=t) i l frm ⟨10,i,qe,qs,qm,qn,oe,oq,qb⟩ hi)
 have HX:=Lib.hid hx
 have hset:(ls.set i l')[i]?=some l':=List.getElem?_set_self (List.getElem?_eq_some_iff.1 hi).1
 have HSET:=Lib.hid hset
 clear hi hx hset hin
 go_enter Tryz.func92,Tryz.ntmps92
 go_upto_region 2 with(first|(refine z8 (v:=.agg zaO.cells.toArray) (by rfl) (zb (t:=112) rfl ?_) ?_;(·simp only[List.map_cons,List.map_nil];exact z0b _))|first|refine xLd H ?_|(refine xEf H ?_;clear H;intro b A' w H))
 refine xRg [] (fun L=>[L]) H ?_
 clear H;intro w H
 have HS:=H
 refine xV 0 0 HS ?_
 refine xC 1 0 (jy _) H ?_
 clear H HS;intro w H HS;rw[h2]
 refine xO 2 0 HS ?_
 refine xO 3 0 HS ?_
 refine xO 4 0 HS ?_
 refine xL 5 0 HS ?_
 refine xO 6 0 HS ?_
 refine xO 7 0 HS ?_
 refine xO 8 0 HS ?_
 refine xL 9 0 HS ?_
 refine xO 10 0 HS ?_
 refine xO 11 0 HS ?_
 refine xO 12 0 HS ?_
 refine xD ?_
 go_upto_region 4 with(first|refine xLd H ?_|(refine xEf H ?_;clear H;intro b A' w H))
 refine xRg [] (fun L=>[L]) H ?_
 clear H;intro w H
 have HS:=H
 refine xO 0 0 HS ?_
 refine xO 1 0 HS ?_
 refine xO 2 0 HS ?_
 refine xL 3 0 HS ?_
 refine xO 4 0 HS ?_
 refine xL 5 0 HS ?_
 refine xO 6 0 HS ?_
 refine xO 7 0 HS ?_
 refine xD ?_
 go_upto_region 15 with(first|(go_at_call 136;revert H;refine zi.use (HT.out trivial) pks ?_;rintro _ _ w ⟨rfl,rfl⟩ H;try simp only[xNf]at H;simp only[HX.out]at H⊢)|first|refine xLd H ?_|(refine xEf H ?_;clear H;intro b A' w H))
 refine xRg [10] (fun L=>[L,[]]) H ?_
 clear H;intro w H
 have HS:=H
 refine xO 0 0 HS ?_
 refine xO 1 0 HS ?_
 refine xO 2 0 HS ?_
 refine xO 3 0 HS ?_
 refine xL 4 0 HS ?_ (hin:=(.stop (n:=11) (by first|exact j3 pk HSET.out LeaseM.cells_length (by rfl) (by rfl)|exact j0 pk HSET.out LeaseM.cells_length (by rfl) (by rfl)) (by kernel_rfl)))
 refine xO 5 0 HS ?_
 refine xO 6 0 HS ?_
 refine xO 7 0 HS ?_
 refine xL 8 0 HS ?_ (hin:=(.stop (n:=11) (by first|exact j0 pk HSET.out LeaseM.cells_length (by rfl) (by rfl)) (by kernel_rfl)))
 refine xO 9 0 HS ?_ (v:=(.agg (SayM.mk st l'.ep l'.out Rec.nil).cells.toArray)) (hy:=by(intro W;exact zb rfl (z5Y _ _ _ W)))
 refine xM 10 1 H ?_
 clear H HS;intro _ _ w H HS
 refine xD ?_
 go_wp2_with (first|refine xLd H ?_|(refine xEf H ?_;clear H;intro b A' w H))
 refine xR1 H ?_
 exact xF H
theorem zcI (i:Nat) (l:LeaseM) (now frm qe qs qm qn oe oq:Int) (qb:ByteArray) (qk:Int) (b8:(qk==8)=false) (b9:(qk==9)=false) (b10:(qk==10)=false) (h2:yb ⟨qk,i,qe,qs,qm,qn,oe,oq,qb⟩=true) (hin:i<n) (hi:ls[i]?=some l):
  zi Tryz.prog 92 #[.pointer (some ⟨K,0,none⟩),.int .i64 now,.int .i64 frm,(AskM.mk qk i qe qs qm qn oe oq qb).v] [z7 K 158 (.slice (some ⟨g,0,none⟩) n n::rest),z7 g t (zd LeaseM.cells ls)] fun v L=>v=zaO.v/\L=[z7 K 158 (.slice (some ⟨g,0,none⟩) n n::rest),z7 g t (zd LeaseM.cells ls)]:=by
 intro F0 w0 w R H
 try simp only[xNf]at H
 have d4:decide ((n:Int)<=(i:Int))=false:=by simp;omega
 have d4':decide (n<=i)=false:=by simp;omega
 have b0:(0:Int)<=(i:Int):=by omega
 have b1:(i:Int)<(n:Int):=by omega
 skip
 skip
 skip
 skip
 clear hi hin
 go_enter Tryz.func92,Tryz.ntmps92
 go_upto_region 2 with(first|(refine z8 (v:=.agg zaO.cells.toArray) (by rfl) (zb (t:=112) rfl ?_) ?_;(·simp only[List.map_cons,List.map_nil];exact z0b _))|first|refine xLd H ?_|(refine xEf H ?_;clear H;intro b A' w H))
 refine xRg [] (fun L=>[L]) H ?_
 clear H;intro w H
 have HS:=H
 refine xV 0 0 HS ?_
 refine xC 1 0 (jy _) H ?_
 clear H HS;intro w H HS;rw[h2]
 refine xO 2 0 HS ?_
 refine xO 3 0 HS ?_
 refine xO 4 0 HS ?_
 refine xL 5 0 HS ?_
 refine xO 6 0 HS ?_
 refine xO 7 0 HS ?_
 refine xO 8 0 HS ?_
 refine xL 9 0 HS ?_
 refine xO 10 0 HS ?_
 refine xO 11 0 HS ?_
 refine xO 12 0 HS ?_
 refine xD ?_
 go_upto_region 4 with(first|refine xLd H ?_|(refine xEf H ?_;clear H;intro b A' w H))
 refine xRg [] (fun L=>[L]) H ?_
 clear H;intro w H
 have HS:=H
 refine xO 0 0 HS ?_
 refine xO 1 0 HS ?_
 refine xO 2 0 HS ?_
 refine xL 3 0 HS ?_
 refine xO 4 0 HS ?_
 refine xL 5 0 HS ?_
 refine xO 6 0 HS ?_
 refine xO 7 0 HS ?_
 refine xD ?_
 go_wp2_with (first|first|refine xLd H ?_|(refine xEf H ?_;clear H;intro b A' w H))
 refine xR1 H ?_
 exact xF H
end
end
end Go.Proofs.YtmfincpagnpkjaaGreat
