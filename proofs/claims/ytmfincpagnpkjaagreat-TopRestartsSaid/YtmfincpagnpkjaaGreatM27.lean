/- Part of the proof. -/
import Derived.Laws.MakeOwn
import Derived.Lib.SliceRun
import Derived.Shelf.SlIter.Nil
import Derived.Ground.GgzProg
import Derived.Test.YtmfincpagnpkjaaGreatM20
import Derived.Test.YtmfincpagnpkjaaGreatM26
set_option linter.all false
set_option maxRecDepth 100000
set_option maxHeartbeats 100000000
namespace Go.Proofs.YtmfincpagnpkjaaGreat
open Go.RowKit
theorem z77 {b o:Nat} {t:TypeId} {l cs:List Value} {L L':List Assn} (l2:List Value) (hp:Pick (z7 b t l) L L') (he:setFrom l o cs=l2) (hl:o+cs.length<=l.length):z1Z L b o cs (z7 b t l2::L'):=he▸jt hp hl
theorem zgm (K:Nat) (s:KeeperM) (now id:Int) (q:AskM) (h1:1<=id) (h2:id<=1099511627776) (h:id<s.a0.id):
  zi Tryz.prog 63 #[.pointer (some ⟨K,0,none⟩),.int .i64 now,.int .i64 200,.int .i64 id,q.v] [ya K s] fun v L=>v= .tuple #[SayM.nil.v,.bool false]/\L=[ya K s]:=by
 intro F0 w0 w R H
 try simp only[xNf]at H
 replace H:=ya.open' H
 obtain⟨g,H⟩:=H
 obtain⟨ls,a0,a1⟩:=s
 simp only at*
 have d3:decide (id<1)=false:=by simp;omega
 have d4:decide ((1099511627776:Int)<id)=false:=by simp;omega
 have d5:decide (id<a0.id)=true:=by simpa using h
 clear h
 go_enter Tryz.func63,Tryz.ntmps63
 go_wp2_with (first
  |(refine z8 (v:=.agg SayM.nil.cells.toArray) (by rfl) (zb (t:=112) rfl ?_) ?_;(·simp only[List.map_cons,List.map_nil];exact jk _))
  |first|refine xLd H ?_|(refine xEf H ?_;clear H;intro b A' w H))
 refine xR2 H ?_
 exact⟨_,_,rfl,⟨rfl,rfl⟩,ya.mk (H.sub sba) (by rfl) (by rfl)⟩
theorem zdT (K:Nat) (s:KeeperM) (now id:Int) (q:AskM) (h1:1<=id) (h2:id<=1099511627776) (h:id=s.a0.id):
  zi Tryz.prog 63 #[.pointer (some ⟨K,0,none⟩),.int .i64 now,.int .i64 200,.int .i64 id,q.v] [ya K s] fun v L=>v= .tuple #[s.a0.say.v,.bool true]/\L=[ya K s]:=by
 intro F0 w0 w R H
 try simp only[xNf]at H
 replace H:=ya.open' H
 obtain⟨g,H⟩:=H
 obtain⟨ls,a0,a1⟩:=s
 simp only at*
 have d3:decide (id<1)=false:=by simp;omega
 have d4:decide ((1099511627776:Int)<id)=false:=by simp;omega
 have d5:decide (id<a0.id)=false:=by simp;omega
 have d6:decide (a0.id<id)=false:=by simp;omega
 clear h
 go_enter Tryz.func63,Tryz.ntmps63
 go_wp2_with (first
  |(refine j6 (by rfl) rfl rfl H (zg (cs:=a0.say.cells) 13 pk (by rfl) (ze (by rfl))) (z0p (by rfl)) ?_)
  |first|refine xLd H ?_|(refine xEf H ?_;clear H;intro b A' w H))
 refine xR2 H ?_
 exact⟨_,_,rfl,⟨rfl,rfl⟩,ya.mk (H.sub sba) (by rfl) (by rfl)⟩
theorem zgo (K:Nat) (s:KeeperM) (now id:Int) (q:AskM) (h1:1<=id) (h2:id<=1099511627776) (ls':List LeaseM) (sy:SayM) (hx:z2f s.leases (zv now) 200 q=(ls',sy)) (hlen:ls'.length=s.leases.length) (h:s.a0.id<id):
  zi Tryz.prog 63 #[.pointer (some ⟨K,0,none⟩),.int .i64 now,.int .i64 200,.int .i64 id,q.v] [ya K s] fun v L=>v= .tuple #[sy.v,.bool true]/\L=[ya K ⟨ls',⟨id,sy⟩,s.a1⟩]:=by
 intro F0 w0 w R H
 try simp only[xNf]at H
 replace H:=ya.open' H
 obtain⟨g,H⟩:=H
 obtain⟨ls,a0,a1⟩:=s
 simp only at*
 have d3:decide (id<1)=false:=by simp;omega
 have d4:decide ((1099511627776:Int)<id)=false:=by simp;omega
 have d5:decide (id<a0.id)=false:=by simp;omega
 have d6:decide (a0.id<id)=true:=by simpa using h
 have m1:=fun ats t W=>z2H (P:=Tryz.prog) now 0 ats t W
 have m2:=fun ats t W=>z0u (P:=Tryz.prog) (max now 0) 1099511627776 ats t W
 have hT:=fun(rest:List Value)=>z8i (K:=K) (g:=g) (t:=160) (ls:=ls) (rest:=rest) (zv now) 200 q
 rw[hx]at hT
 unfold zv at hT
 simp only at hT
 have HT:=Lib.hid hT
 have HLEN:=Lib.hid hlen
 clear h hx hT hlen
 go_enter Tryz.func63,Tryz.ntmps63
 go_wp2_with (first
  |(go_at_call 92;revert H;refine zi.use (HT.out _) pks ?_;rintro _ _ w ⟨rfl,rfl⟩ H;try simp only[xNf]at H)
  |(refine z8 (v:=.agg (AnsM.mk id sy).cells.toArray) (by rfl) (zb (t:=155) rfl ?_) ?_;(·simp only[List.map_cons,List.map_nil];exact zcB id sy _))
  |(refine zr (by rfl) (fun K' hK=>?_);revert H;refine z4m (ty:=155) rfl rfl rfl (z77 (.slice (some ⟨g,0,none⟩) ls.length ls.length::((AnsM.mk id sy).cells++a1.cells)) pk (by rfl) (by exact Nat.le_of_ble_eq_true rfl)) (by first|rfl|assumption) (ze (by rfl)) ?_;intro w H;refine hK _ _ ?_;clear hK K')
  |(refine j6 (ty:=112) (by rfl) rfl rfl H (zg (cs:=sy.cells) 13 pk (by rfl) (ze (by rfl))) (z0p (by rfl)) ?_)
  |first|refine xLd H ?_|(refine xEf H ?_;clear H;intro b A' w H))
 refine xR2 H ?_
 exact⟨_,_,rfl,⟨rfl,rfl⟩,ya.mk (H.sub sba) (by rw[HLEN.out]) (by rfl)⟩
theorem zgl (K:Nat) (s:KeeperM) (now id:Int) (q:AskM) (h1:1<=id) (h2:id<=1099511627776) (h:id<s.a1.id):
  zi Tryz.prog 63 #[.pointer (some ⟨K,0,none⟩),.int .i64 now,.int .i64 201,.int .i64 id,q.v] [ya K s] fun v L=>v= .tuple #[SayM.nil.v,.bool false]/\L=[ya K s]:=by
 intro F0 w0 w R H
 try simp only[xNf]at H
 replace H:=ya.open' H
 obtain⟨g,H⟩:=H
 obtain⟨ls,a0,a1⟩:=s
 simp only at*
 have d3:decide (id<1)=false:=by simp;omega
 have d4:decide ((1099511627776:Int)<id)=false:=by simp;omega
 have d5:decide (id<a1.id)=true:=by simpa using h
 clear h
 go_enter Tryz.func63,Tryz.ntmps63
 go_wp2_with (first
  |(refine z8 (v:=.agg SayM.nil.cells.toArray) (by rfl) (zb (t:=112) rfl ?_) ?_;(·simp only[List.map_cons,List.map_nil];exact jk _))
  |first|refine xLd H ?_|(refine xEf H ?_;clear H;intro b A' w H))
 refine xR2 H ?_
 exact⟨_,_,rfl,⟨rfl,rfl⟩,ya.mk (H.sub sba) (by rfl) (by rfl)⟩
theorem zdS (K:Nat) (s:KeeperM) (now id:Int) (q:AskM) (h1:1<=id) (h2:id<=1099511627776) (h:id=s.a1.id):
  zi Tryz.prog 63 #[.pointer (some ⟨K,0,none⟩),.int .i64 now,.int .i64 201,.int .i64 id,q.v] [ya K s] fun v L=>v= .tuple #[s.a1.say.v,.bool true]/\L=[ya K s]:=by
 intro F0 w0 w R H
 try simp only[xNf]at H
 replace H:=ya.open' H
 obtain⟨g,H⟩:=H
 obtain⟨ls,a0,a1⟩:=s
 simp only at*
 have d3:decide (id<1)=false:=by simp;omega
 have d4:decide ((1099511627776:Int)<id)=false:=by simp;omega
 have d5:decide (id<a1.id)=false:=by simp;omega
 have d6:decide (a1.id<id)=false:=by simp;omega
 clear h
 go_enter Tryz.func63,Tryz.ntmps63
 go_wp2_with (first
  |(refine j6 (by rfl) rfl rfl H (zg (cs:=a1.say.cells) 13 pk (by rfl) (ze (by rfl))) (z0p (by rfl)) ?_)
  |first|refine xLd H ?_|(refine xEf H ?_;clear H;intro b A' w H))
 refine xR2 H ?_
 exact⟨_,_,rfl,⟨rfl,rfl⟩,ya.mk (H.sub sba) (by rfl) (by rfl)⟩
theorem zgn (K:Nat) (s:KeeperM) (now id:Int) (q:AskM) (h1:1<=id) (h2:id<=1099511627776) (ls':List LeaseM) (sy:SayM) (hx:z2f s.leases (zv now) 201 q=(ls',sy)) (hlen:ls'.length=s.leases.length) (h:s.a1.id<id):
  zi Tryz.prog 63 #[.pointer (some ⟨K,0,none⟩),.int .i64 now,.int .i64 201,.int .i64 id,q.v] [ya K s] fun v L=>v= .tuple #[sy.v,.bool true]/\L=[ya K ⟨ls',s.a0,⟨id,sy⟩⟩]:=by
 intro F0 w0 w R H
 try simp only[xNf]at H
 replace H:=ya.open' H
 obtain⟨g,H⟩:=H
 obtain⟨ls,a0,a1⟩:=s
 simp only at*
 have d3:decide (id<1)=false:=by simp;omega
 have d4:decide ((1099511627776:Int)<id)=false:=by simp;omega
 have d5:decide (id<a1.id)=false:=by simp;omega
 have d6:decide (a1.id<id)=true:=by simpa using h
 have m1:=fun ats t W=>z2H (P:=Tryz.prog) now 0 ats t W
 have m2:=fun ats t W=>z0u (P:=Tryz.prog) (max now 0) 1099511627776 ats t W
 have hT:=fun(rest:List Value)=>z8i (K:=K) (g:=g) (t:=160) (ls:=ls) (rest:=rest) (zv now) 201 q
 rw[hx]at hT
 unfold zv at hT
 simp only at hT
 have HT:=Lib.hid hT
 have HLEN:=Lib.hid hlen
 clear h hx hT hlen
 go_enter Tryz.func63,Tryz.ntmps63
 go_wp2_with (first
  |(go_at_call 92;revert H;refine zi.use (HT.out _) pks ?_;rintro _ _ w ⟨rfl,rfl⟩ H;try simp only[xNf]at H)
  |(refine z8 (v:=.agg (AnsM.mk id sy).cells.toArray) (by rfl) (zb (t:=155) rfl ?_) ?_;(·simp only[List.map_cons,List.map_nil];exact zcB id sy _))
  |(refine zr (by rfl) (fun K' hK=>?_);revert H;refine z4m (ty:=155) rfl rfl rfl (z77 (.slice (some ⟨g,0,none⟩) ls.length ls.length::(a0.cells++(AnsM.mk id sy).cells)) pk (by rfl) (by exact Nat.le_of_ble_eq_true rfl)) (by first|rfl|assumption) (ze (by rfl)) ?_;intro w H;refine hK _ _ ?_;clear hK K')
  |(refine j6 (ty:=112) (by rfl) rfl rfl H (zg (cs:=sy.cells) 13 pk (by rfl) (ze (by rfl))) (z0p (by rfl)) ?_)
  |first|refine xLd H ?_|(refine xEf H ?_;clear H;intro b A' w H))
 refine xR2 H ?_
 exact⟨_,_,rfl,⟨rfl,rfl⟩,ya.mk (H.sub sba) (by rw[HLEN.out]) (by rfl)⟩
theorem z8U (ls:List LeaseM) (now frm:Int) (q:AskM):(z2f ls now frm q).1.length=ls.length:=by
 unfold z2f
 split
 ·rfl
 ·split
  ·rfl
  ·simp
theorem zl0 (K:Nat) (s:KeeperM) (now frm id:Int) (q:AskM):zi Tryz.prog 63 #[.pointer (some ⟨K,0,none⟩),.int .i64 now,.int .i64 frm,.int .i64 id,q.v] [ya K s] fun v L=>v= .tuple #[(s.act now frm id q).2.1.v,.bool (s.act now frm id q).2.2]/\L=[ya K (s.act now frm id q).1]:=by
 unfold KeeperM.act
 by_cases h:frm<200\/202<=frm\/id<1\/1099511627776<id
 ·rw[if_pos h]
  exact zmS K s now frm id q h
 rw[if_neg h]
 have hl:=z8U s.leases (zv now) frm q
 have hf:frm=200\/frm=201:=by omega
 have h1:1<=id:=by omega
 have h2:id<=1099511627776:=by omega
 rcases hf with rfl|rfl
 ·simp only[KeeperM.last,KeeperM.setLast,if_true]
  by_cases a1:id<s.a0.id
  ·rw[if_pos a1]
   exact zgm K s now id q h1 h2 a1
  rw[if_neg a1]
  by_cases a2:s.a0.id<id
  ·rw[if_pos a2]
   exact zgo K s now id q h1 h2 _ _ rfl hl a2
  ·rw[if_neg a2]
   exact zdT K s now id q h1 h2 (by omega)
 ·have e:¬(201:Int)=200:=by omega
  simp only[KeeperM.last,KeeperM.setLast,if_neg e]
  by_cases a1:id<s.a1.id
  ·rw[if_pos a1]
   exact zgl K s now id q h1 h2 a1
  rw[if_neg a1]
  by_cases a2:s.a1.id<id
  ·rw[if_pos a2]
   exact zgn K s now id q h1 h2 _ _ rfl hl a2
  ·rw[if_neg a2]
   exact zdS K s now id q h1 h2 (by omega)
section
theorem zp {P:Program} {ops:Array Oper} {rest:List Oper} {op:Oper} {a:Act} {w:World} {Q:Exit->Act->World->Prop} (hw:Region.wanted op (yielded ops a.tmps)=true) (h:∀K':Act->World->Prop,(∀a w,wpList P ops Q rest a w->K' a w)->op.wp P a w K' Q):wpList P ops Q (op::rest) a w:=zr hw h
theorem ziC (cs:List Value) (k:Nat) (h0:0<cs.length):(madeCells cs.toArray (k*cs.length)).toList=zd (fun _:Nat=>cs) (List.range k):=by
 have hl:=z18 (f:=fun _:Nat=>cs) (z:=cs.length) (fun _=>rfl) (List.range k)
 rw[List.length_range]at hl
 apply List.ext_getElem?
 intro m
 by_cases hm:m<k*cs.length
 ·have hi:m/cs.length<k:=Nat.div_lt_of_lt_mul (by rw[Nat.mul_comm];exact hm)
  have hj:m % cs.length<cs.length:=Nat.mod_lt _ h0
  have e:m/cs.length*cs.length+m % cs.length=m:=by rw[Nat.mul_comm];exact Nat.div_add_mod m cs.length
  have h1:=z2V (f:=fun _:Nat=>cs) (z:=cs.length) (ls:=List.range k) (i:=m/cs.length) (j:=m % cs.length) (fun _=>rfl) (by rw[List.getElem?_range hi]) (List.getElem?_eq_getElem hj)
  rw[e]at h1
  rw[h1]
  simp[madeCells,hm,getElem!_pos,hj]
 ·rw[List.getElem?_eq_none (by simp[madeCells];omega),List.getElem?_eq_none (by rw[hl];omega)]
section
variable {op:Oper} {a:Act} {w w0:World} {F0:Nat->Prop} {Q:Exit->Act->World->Prop} {K':Act->World->Prop} {L L':List Assn} {t e:TypeId} {x y:Operand} {cs xs:List Value} {k g n size bytes:Nat}
theorem wmk (hbytes:bytes*k<=281474976710656) (hk:k<=1000000) (H:Sep F0 w0 w L) (h:∀b w',Sep F0 w0 w' (zh e cs.length (.slice (some ⟨b,0,none⟩) k k) k (zd (fun _:Nat=>cs) (List.range k))::L)->K' (a.put op.dst (.slice (some ⟨b,0,none⟩) k k)) w')
  (ho:op.op= .makeSlice t x y:=by exact rfl) (hx:a.eval x= .int .i64 k:=by exact rfl) (hy:a.eval y= .int .i64 k:=by exact rfl) (ht:Tryz.prog.underlying t=some (.slice e):=by exact und) (hz:(Tryz.prog.info? e).bind (·.zero)=some (.agg cs.toArray):=by exact z9L)
  (hi:(Tryz.prog.info? e).map (fun i=>(i.size,i.bytes))=some (cs.length,bytes):=by exact inf) (h0:0<cs.length:=by exact Nat.le_of_ble_eq_true rfl):op.wp Tryz.prog a w K' Q:=by
 cases hq:Tryz.prog.info? e with
 |none=>simp[hq]at hz
 |some i=>
  have hz:i.zero=some (.agg cs.toArray):=by simpa [hq]using hz
  have hi:i.size=cs.length/\i.bytes=bytes:=by simpa [hq]using hi
  have hb':(i.bytes:Int)*(k:Int)<=281474976710656:=by
   have h:((i.bytes*k:Nat):Int)<=281474976710656:=by rw[hi.2];omega
   rwa [Int.natCast_mul]at h
  have hr:=run_make (P:=Tryz.prog) w t e i _ ht hq hz .i64 .i64 k k (by omega) (by omega) hb' (by omega)
  rw[hi.1]at hr
  simp only[Int.toNat_natCast,Value.cells]at hr
  have hm:(madeCells cs.toArray (k*cs.length)).toList=zd (fun _:Nat=>cs) (List.range k):=ziC cs k h0
  refine jp (v:=.slice (some ⟨w.heap.size,0,none⟩) k k) (w':=w.alloc (.cells (madeCells cs.toArray (k*cs.length)) e)) ?_ (h _ _ ?_)
  ·unfold execOp
   simp[ho,hx,hy,hr]
  ·have H2:=H.newC (madeCells cs.toArray (k*cs.length)) e
   rw[hm]at H2
   refine Sep.conv ?_ H2
   rintro F w ⟨h1,h2⟩
   have hl:=z18 (f:=fun _:Nat=>cs) (z:=cs.length) (fun _=>rfl) (List.range k)
   rw[List.length_range]at hl
   refine⟨⟨hl,.inr ⟨_,k,_,rfl,Nat.zero_le _,h2,Nat.le_refl _,by unfold maxLen;omega,by simpa using hl,by simp[<-hl]⟩⟩,fun k hk=>by cases hk;exact h1⟩
theorem zi1 (H:Sep F0 w0 w (zh e size (.slice (some ⟨g,0,none⟩) n n) n xs::L)):Sep F0 w0 w (z7 g e xs::L):=by
 refine Sep.conv ?_ H
 rintro F w ⟨⟨h1,h2⟩,h3⟩
 rcases h2 with⟨h,_⟩|⟨g',cap,cur,hv,hb,hh,k1,k2,k3,k4⟩
 ·cases h
 ·cases hv
  refine⟨h3 g rfl, ?_⟩
  have e:cur.toList=xs:=by rw[<-k4,List.take_of_length_le (by rw[Array.length_toList,k3];exact Nat.le_refl _)]
  rw[hh,<-e,Array.toArray_toList]
theorem znI (H:Sep F0 w0 w L) (h:∀b w',Sep F0 w0 w' (zh e size (.slice (some ⟨b,0,none⟩) 0 0) 0 []::L)->K' (a.put op.dst (.slice (some ⟨b,0,none⟩) 0 0)) w') (ho:op.op= .buildSlice t 0 #[]:=by exact rfl) (ht:Tryz.prog.underlying t=some (.slice e):=by exact und)
  (hi:(Tryz.prog.info? e).map (fun i=>(i.size,i.bytes))=some (size,bytes):=by exact inf):op.wp Tryz.prog a w K' Q:=by
 cases hq:Tryz.prog.info? e with
 |none=>simp[hq]at hi
 |some i=>
  have hi:i.size=size/\i.bytes=bytes:=by simpa [hq]using hi
  refine jp (v:=.slice (some ⟨w.heap.size,0,none⟩) 0 0) (w':=w.alloc (.cells #[] e)) ?_ (h _ _ ?_)
  ·unfold execOp
   simp[ho,Instr.buildSlice,run_underlying ht,sizeOf,typeInfo,hq,Instr.fill,newRow,show Array.range 0=#[] by simp[Array.range]]
  ·refine Sep.conv ?_ (H.newC #[] e)
   rintro F w ⟨h1,h2⟩
   exact⟨⟨by simp,.inr ⟨_,0,_,rfl,Nat.zero_le _,h2,Nat.le_refl _,by unfold maxLen;omega,by simp,by simp⟩⟩,fun k hk=>by cases hk;exact h1⟩
end
theorem zgM (v:Value) (n:Nat) (xs:List Value) (hn:n<=1000) (h1:xs.all (·.oneCell')=true):zi Tryz.prog 122 #[v] [zh 234 8 v n xs] fun r K=>∃A c,r= .slice A n c/\K=[zh 234 8 v n xs]:=by
 intro F0 w0 w R H
 try simp only[xNf]at H
 have hlen:=zdr H pk
 rcases(H.row (v:=v) pk).2 with⟨rfl,rfl⟩|⟨g,cap,cur,rfl,_⟩
 ·have hE:=fun W=>Lib.run_eql_slice_nil (P:=Tryz.prog) W 150 234 none 0 0 0 0 z5q
  go_enter Tryz.func122,Tryz.ntmps122
  go_wp2_with (first|refine xLd H ?_|(refine xSt H ?_;clear H;intro w H;try dsimp only[List.set]at H)|(refine xNw H ?_;clear H;intro b w H)|(refine xAp H ?_;clear H;intro A' k' w H))
  refine xR1 H ?_
  exact⟨_,_,rfl,⟨_,_,rfl,rfl⟩,H⟩
 ·have hE:=fun W=>Lib.run_eql_slice_nil (P:=Tryz.prog) W 150 234 (some ⟨g,0,none⟩) n cap 0 0 z5q
  go_enter Tryz.func122,Tryz.ntmps122
  go_wp2_with (first|(refine j1 (by rfl) (by rfl) (fun K' hK=>?_);refine znI (size:=8) (bytes:=80) H ?_;clear H;intro b w H;refine hK _ _ ?_;clear hK K')|(refine j1 (by rfl) (by rfl) (fun K' hK=>?_);refine wap (news:=xs) (m:=n) H ?_ (hr:=z1s (n*8) pk (by rw[List.drop_zero,List.take_of_length_le (by omega)])) (hl:=hlen) (h1:=h1);clear H;intro A' k' w H;refine hK _ _ ?_;clear hK K')|first|refine xLd H ?_|(refine xSt H ?_;clear H;intro w H;try dsimp only[List.set]at H)|(refine xNw H ?_;clear H;intro b w H)|(refine xAp H ?_;clear H;intro A' k' w H))
  refine xR1 H ?_
  exact⟨_,_,rfl,⟨_,_,rfl,rfl⟩,H.sub sba⟩
theorem EventM.ones (o:EventM):o.cells.all (·.oneCell')=true:=rfl
theorem zcb (h:Nat) (s:HistM) (hn:s.evs.length<=1000):zi Tryz.prog 84 #[.pointer (some ⟨h,0,none⟩)] [js h s] fun v K=>∃A c,v= .slice A s.evs.length c/\K=[js h s]:=by
 intro F0 w0 w R H
 try simp only[xNf]at H
 replace H:=js.open' H
 obtain⟨v,gb,H⟩:=H
 have HC:=Lib.hid (zgM v s.evs.length (zd EventM.cells s.evs) hn (z0X EventM.ones s.evs))
 obtain⟨n,hnn⟩:=xG (s.evs.length)
 rw[hnn]at HC H⊢
 have HN:=Lib.hid hnn
 clear hnn hn
 go_enter Tryz.func84,Tryz.ntmps84
 go_wp2_with (first|(go_at_call 122;refine xTr (HC.out) H ?_;clear H;rintro _ _ w ⟨A2,c2,rfl,rfl⟩ H;try simp only[xNf]at H)|first|refine xLd H ?_|(refine xSt H ?_;clear H;intro w H;try dsimp only[List.set]at H)|(refine xNw H ?_;clear H;intro b w H)|(refine xAp H ?_;clear H;intro A' k' w H))
 refine xR1 H ?_
 exact⟨_,_,rfl,⟨_,_,rfl,rfl⟩,js.mk (H.sub sba) (by rfl) HN.out.symm (by rfl)⟩
theorem zfe:(Tryz.prog.info? 160).bind (·.zero)=some (.agg (LeaseM.mk 0 0 0 0).cells.toArray):=by kernel_rfl
theorem zjY:Tryz.prog.underlying 153=some (.slice 160):=Tryz.underlying153
theorem ziP:(Tryz.prog.info? 160).map (fun i=>(i.size,i.bytes))=some (4,32):=by kernel_rfl
end
end Go.Proofs.YtmfincpagnpkjaaGreat
namespace Go.Proofs
open Go.Shelf
def Tryz.keys98_ren:Go.Shelf.Ren:=⟨fun|7=>98|10=>145|n=>n,fun|23=>125|26=>9|3=>3|28=>203|0=>0|27=>202|33=>75|4=>4|n=>n,fun|n=>n⟩
theorem Tryz.keys98:Go.Proofs.SlLaysZ.n7 Tryz.prog Tryz.keys98_ren:={
 mixed:=by kernel_rfl
 f7:=⟨Tryz.f98.name,by decide,Tryz.func98.trans (congrArg some (by kernel_rfl))⟩
 f10:=⟨Tryz.f145.name,by decide,Tryz.func145.trans (congrArg some (by kernel_rfl))⟩
 t0:=Tryz.underlying0
 a0:=Tryz.isAgg0
 z0:=Tryz.sizeOf0
 v0:=Tryz.zeroValue0
 t4:=Tryz.underlying4
 a4:=Tryz.isAgg4
 z4:=Tryz.sizeOf4
 v4:=Tryz.zeroValue4
 t23:=Tryz.underlying125
 a23:=Tryz.isAgg125
 z23:=Tryz.sizeOf125
 v23:=Tryz.zeroValue125
 t26:=Tryz.underlying9
 a26:=Tryz.isAgg9
 z26:=Tryz.sizeOf9
 v26:=Tryz.zeroValue9
 t27:=Tryz.underlying202
 a27:=Tryz.isAgg202
 z27:=Tryz.sizeOf202
 v27:=Tryz.zeroValue202
 t28:=Tryz.underlying203
 a28:=Tryz.isAgg203
 z28:=Tryz.sizeOf203
 v28:=Tryz.zeroValue203
 t33:=Tryz.underlying75
 a33:=Tryz.isAgg75
 z33:=Tryz.sizeOf75
 v33:=Tryz.zeroValue75}
def Tryz.sorted97_ren:Go.Shelf.Ren:=⟨fun|6=>97|8=>143|9=>144|11=>193|13=>176|12=>194|23=>223|24=>224|14=>229|15=>230|16=>231|17=>232|18=>233|19=>234|20=>235|21=>236|22=>237|25=>257|26=>252|27=>253|28=>258|29=>259|30=>260|31=>273|n=>n,fun|26=>9|28=>203|24=>30|0=>0|3=>3|37=>142|48=>261|50=>264|4=>4|40=>318|39=>317|45=>222|5=>5|9=>9|51=>341|55=>141|57=>363|58=>58|33=>75|n=>n,fun|n=>n⟩
theorem Tryz.sorted97:Go.Proofs.SlLaysZ.n6 Tryz.prog Tryz.sorted97_ren:={
 mixed:=by kernel_rfl
 f6:=⟨Tryz.f97.name,by decide,Tryz.func97.trans (congrArg some (by kernel_rfl))⟩
 f8:=⟨Tryz.f143.name,by decide,Tryz.func143.trans (congrArg some (by kernel_rfl))⟩
 f11:=⟨Tryz.f193.name,by decide,Tryz.func193.trans (congrArg some (by kernel_rfl))⟩
 t0:=Tryz.underlying0
 a0:=Tryz.isAgg0
 z0:=Tryz.sizeOf0
 v0:=Tryz.zeroValue0
 t24:=Tryz.underlying30
 a24:=Tryz.isAgg30
 z24:=Tryz.sizeOf30
 v24:=Tryz.zeroValue30
 t26:=Tryz.underlying9
 a26:=Tryz.isAgg9
 z26:=Tryz.sizeOf9
 v26:=Tryz.zeroValue9
 t28:=Tryz.underlying203
 a28:=Tryz.isAgg203
 z28:=Tryz.sizeOf203
 v28:=Tryz.zeroValue203
 i26:=by kernel_rfl}
open Go.RowKit Go.Maps Go.Sort
theorem Tryz.sorts97 (m:Nat):AnyZ.SortsIn Tryz.prog Tryz.sorted97_ren Fence.wide m:=
  ⟨fun blk off cap ss W hH hblk hsz=>callsIn_wide.2 (Tryz.slices_Sort_string blk off cap ss W hH hblk hsz),
   fun p cap W=>callsIn_wide.2 (Tryz.slices_Sort_string_none p cap W)⟩
theorem Tryz.maps_Keys_98 (mb:Option Nat) (W:World):CallsIn Fence.wide 5 Tryz.prog 98 #[.map mb] W fun e w'=>e= .returned (.func (.func 145) #[] #[.pointer (some ⟨W.heap.size,0,none⟩)])/\w'=W.alloc (.cells #[.map mb] 125):=
 AnyZ.keys_in Tryz.keys98 Fence.wide 5 trivial rfl mb W
end Go.Proofs
