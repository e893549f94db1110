/- Part of the proof. -/
import Derived.Test.YtmfincpagnpkjaaGreatM18
import Derived.Test.YtmfincpagnpkjaaGreatM19
import Derived.Test.YtmfincpagnpkjaaGreatM25
set_option linter.all false
set_option maxRecDepth 100000
set_option maxHeartbeats 100000000
namespace Go.Proofs.YtmfincpagnpkjaaGreat
open Go.RowKit
section
attribute [local go_sem] Oper.semAt_some
def OneM.send (now:Int) (o:OneM):OneM:=⟨o.dst,o.id,o.q,o.asked,now⟩
def za2 (now:Int) (ls:List OneM) (i:Nat):List OneM:=match ls[i]? with|some o=>ls.set i (o.send now)|none=>ls
def z1R (now:Int) (ls:List OneM) (pre:List Nat):List OneM:=pre.foldl (za2 now) ls
theorem z3T (now:Int) (f:OneM->Bool) (ls:List OneM):∀k,k<=ls.length->z1R now ls (z1x f ls k)=(ls.take k).map (fun o=>if f o then o.send now else o)++ls.drop k
 |0,_=>by simp[z1R,z1x]
 |k+1,h=>by
  have ih:=z3T now f ls k (by omega)
  obtain⟨o,ho⟩:∃o,ls[k]?=some o:=⟨_,List.getElem?_eq_getElem (by omega)⟩
  have ht:ls.take (k+1)=ls.take k++[o]:=by
   obtain⟨_,rfl⟩:=List.getElem?_eq_some_iff.1 ho
   exact List.take_succ_eq_append_getElem (by omega)
  have hd:ls.drop k=o::ls.drop (k+1):=by
   obtain⟨h1,rfl⟩:=List.getElem?_eq_some_iff.1 ho
   exact List.drop_eq_getElem_cons h1
  have hl:((ls.take k).map (fun o=>if f o then o.send now else o)).length=k:=by rw[List.length_map,List.length_take];omega
  by_cases hf:f o=true
  ·rw[z4Q ho hf]
   unfold z1R at ih⊢
   rw[List.foldl_append,ih,ht,List.map_append,hd]
   simp only[List.foldl_cons,List.foldl_nil,List.map_cons,List.map_nil,hf,if_true]
   unfold za2
   rw[List.getElem?_append_right (by omega),hl,Nat.sub_self]
   simp only[List.getElem?_cons_zero]
   rw[List.set_append_right _ _ (by omega),hl,Nat.sub_self,List.set_cons_zero,List.append_assoc]
   rfl
  ·have hf:f o=false:=by simpa using hf
   rw[za3 ho hf,ih,ht,List.map_append,hd]
   simp[hf]
theorem zhR (now:Int) (f:OneM->Bool) (ls:List OneM) (i:Nat) (hi:i<ls.length):(z1R now ls (z1x f ls i))[i]?=ls[i]?:=by
 have hl:((ls.take i).map (fun o=>if f o then o.send now else o)).length=i:=by rw[List.length_map,List.length_take];omega
 rw[z3T now f ls i (by omega),List.getElem?_append_right (by omega),hl,Nat.sub_self,List.getElem?_drop]
 simp
def zgg (frm:Int) (ls:List OneM) (i:Nat):Letter:=match ls[i]? with|some o=>z2e frm o|none=>Letter.nil
theorem zkj {β:Type} (f:OneM->Bool) (g:OneM->β) (z:β) (ls:List OneM):(z1x f ls ls.length).map (fun i=>match ls[i]? with|some o=>g o|none=>z)=(ls.filter f).map g:=by
 have key:∀(b a:List OneM),(z1x f (a++b) a.length).map (fun i=>match (a++b)[i]? with|some o=>g o|none=>z)=(a.filter f).map g->(z1x f (a++b) (a++b).length).map (fun i=>match (a++b)[i]? with|some o=>g o|none=>z)=((a++b).filter f).map g:=by
  intro b
  induction b with
  |nil=>intro a h;simpa using h
  |cons o b ih=>
   intro a h
   have ho:(a++o::b)[a.length]?=some o:=by simp
   have e:a++o::b=(a++[o])++b:=by simp
   rw[e]
   refine ih (a++[o]) ?_
   rw[<-e,List.length_append,List.length_singleton,List.filter_append,List.map_append,<-h]
   by_cases hf:f o=true
   ·rw[z4Q ho hf,List.map_append]
    congr 1
    simp[hf]
   ·have hf:f o=false:=by simpa using hf
    rw[za3 ho hf]
    simp[hf]
 have:=key ls [] (by simp[z1x])
 simpa using this
def CallsM.again (s:CallsM) (now:Int):CallsM×List Letter:=
 ({s with opn:=s.opn.map fun o=>if z7g 2 (zv now) o.sent then o.send (zv now)else o},(s.opn.filter fun o=>z7g 2 (zv now) o.sent).map (z2e s.frm))
abbrev z3d (c bc ab:Nat) (frm:Int) (ls:List OneM) (pre:List Nat):Assn:=exA fun x:Option Addr×Nat=>zaN [z7 bc 167 [.pointer (some ⟨c,0,none⟩)],z7 ab 118 [.slice x.1 pre.length x.2],zh 114 26 (.slice x.1 pre.length x.2) pre.length (zd Letter.cells (pre.map (zgg frm ls)))]
section
variable {F0:Nat->Prop} {w0 w:World} {L:List Assn} {c bc ab m k:Nat} {frm:Int} {ls:List OneM} {pre:List Nat} {A:Option Addr} {xs:List Value}
theorem z3d.mk (H:Sep F0 w0 w (z7 bc 167 [.pointer (some ⟨c,0,none⟩)]::z7 ab 118 [.slice A m k]::zh 114 26 (.slice A m k) m xs::L)) (hm:m=pre.length) (hx:xs=zd Letter.cells (pre.map (zgg frm ls))):Sep F0 w0 w (z3d c bc ab frm ls pre::L):=by
 subst hm hx
 exact Sep.mk_ex (A,k) (Sep.bag (K:=[_,_,_]) H)
theorem z3d.open' (H:Sep F0 w0 w (z3d c bc ab frm ls pre::L)):∃A k,Sep F0 w0 w (z7 bc 167 [.pointer (some ⟨c,0,none⟩)]::z7 ab 118 [.slice A pre.length k]::zh 114 26 (.slice A pre.length k) pre.length (zd Letter.cells (pre.map (zgg frm ls)))::L):=by
 obtain⟨⟨A,k⟩,H⟩:=H.ex
 exact⟨A,k,H.unbag⟩
end
theorem z49 (c:Nat) (s:CallsM) (now:Int) (hmax:s.opn.length<=64):zi Tryz.prog 116 #[.pointer (some ⟨c,0,none⟩),.int .i64 now] [yk c s] fun v K=>∃A k,v= .slice A (s.again now).2.length k/\K=[zh 114 26 (.slice A (s.again now).2.length k) (s.again now).2.length (zd Letter.cells (s.again now).2),yk c (s.again now).1]:=by
 intro F0 w0 w R H
 try simp only[xNf]at H
 replace H:=yk.open' H
 obtain⟨v,H⟩:=H
 obtain⟨A,k,rfl⟩:=zt H pk
 obtain⟨frm,last,ls⟩:=s
 simp only at*
 obtain⟨n,hn⟩:=xG (ls.length)
 rw[hn]at H hmax
 obtain⟨f,hf⟩:∃f:OneM->Bool,f=fun o=>z7g 2 (zv now) o.sent:=⟨_,rfl⟩
 have hz:=zkj f (z2e frm) Letter.nil ls
 replace hz:(z1x f ls ls.length).map (zgg frm ls)=(ls.filter f).map (z2e frm):=hz
 rw[hn]at hz
 obtain⟨zs,hzs⟩:∃zs,zs=(ls.filter f).map (z2e frm):=⟨_,rfl⟩
 obtain⟨ls2,hls2⟩:∃ls2,ls2=z1R (zv now) ls (z1x f ls n):=⟨_,rfl⟩
 have hag:CallsM.again ⟨frm,last,ls⟩ now=(⟨frm,last,ls2⟩,zs):=by
  unfold CallsM.again
  rw[hzs,hls2,<-hn,z3T _ _ _ _ (Nat.le_refl _),List.take_length,List.drop_length,List.append_nil,hf]
 rw[hag]
 have hl2:ls2.length=n:=by rw[hls2,<-hn,z3T _ _ _ _ (Nat.le_refl _)];simp
 have hm:(z1x f ls n).length=zs.length:=by rw[hzs,<-hz,List.length_map]
 have hm64:zs.length<=64:=by have:=z2F f ls n;omega
 have hok:∀nb o,zi Tryz.prog 161 (#[o.v]++#[.pointer (some ⟨nb,0,none⟩)]) [z7 nb 3 [.int .i64 (zv now)]] fun v K=>v= .bool (f o)/\K=[z7 nb 3 [.int .i64 (zv now)]]:=by
  rw[hf]
  exact fun nb o=>zer nb (zv now) o
 have HZ:=Lib.hid (show(z1x f ls n).map (zgg frm ls)=zs/\(z1x f ls n).length=zs.length/\z1R (zv now) ls (z1x f ls n)=ls2 from⟨hz.trans hzs.symm,hm,hls2.symm⟩)
 have HST:=Lib.hid (fun i (h:i<n)=>zhR (zv now) f ls i (by rw[hn];exact h))
 have HOK:=Lib.hid hok
 have HN:=Lib.hid hn
 have HL2:=Lib.hid hl2
 clear hn hag hm hzs hz hf hok hls2 hl2
 refine(callsIn_wide (n:=3)).1 (callsIn_of_wp_marks Tryz.func116 rfl trivial ?_ rfl)
 simp only[Tryz.ntmps116,List.size_toArray,List.length_cons,List.length_nil,Nat.reduceAdd,Nat.reduceSub,Array.replicate_succ,Array.replicate_zero,List.push_toArray,List.append_toArray,List.nil_append,List.cons_append]
 refine wpIn_wide.2 ?_
 go_wp2_with (first|(go_at_call 121;refine(z1o now _).mono ?_;rintro e w' ⟨rfl,rfl⟩)|(go_at_call 160;revert H;refine zi.use (z5G c 161 _) pks ?_;rintro _ _ w ⟨cb,okb,rfl,rfl⟩ H;try simp only[xNf]at H)|(refine xNt 167 H ?_;clear H;intro bc w H)|(refine xNt 3 H ?_;clear H;intro nb w H)|(refine xNt 118 H ?_;clear H;intro ab w H)|first|refine xLd H ?_|(refine xSt H ?_;clear H;intro w H;try dsimp only[List.set]at H)|(refine xNw H ?_;clear H;intro b w H)|(refine xAp H ?_;clear H;intro A' k' w H))
 replace H:=Sep.mk_row_nil (e:=114) (size:=26) H
 refine(wpIn_wide (n:=2)).1 (z1c (F0:=F0) (w0:=w0) (R:=R) (c:=.ret) rfl (enters_of Tryz.func204 (by kernel_rfl) rfl) (by simp) 0
  (z5H c cb okb (.int .i64 frm) (.int .i64 last) 161 #[.pointer (some ⟨nb,0,none⟩)] A n k ls HN.out hmax f (z7 nb 3 [.int .i64 (zv now)]) (z3d c bc ab frm ls) (z1R (zv now) ls) (fun _=>[z0w False])
   HST.out (HOK.out nb) (enters_of Tryz.func161 (by kernel_rfl) rfl)) ?body ?done ?stop ?start)
 case start=>
  have H2:Sep F0 w0 w (z3d c bc ab frm ls []::_):=z3d.mk (m:=0) (A:=none) (k:=0) (xs:=[]) (H.sub (.cons pk (.cons pk (.cons pk .refl)))) rfl rfl
  simp only[z3w,show z1R (zv now) ls []=ls from rfl]
  exact H2.sub sba
 case stop=>
  rintro D xs W-HD
  exact((HD.sub (K:=[z0w False]) (.cons (.tail .head) .nil)).pure).1.elim
 case body=>
  rintro l pre x F1 w1 W R1 ⟨o,hx,hf,hpre⟩ H
  have hlen:pre.length<=x:=by rw[hpre];exact z2F _ _ _
  have hxn:x<n:=by rw[<-HN.out];exact(List.getElem?_eq_some_iff.1 hx).1
  have hy:(z1R (zv now) ls pre)[x]?=some o:=by rw[hpre];exact(HST.out x hxn).trans hx
  clear hpre hf
  have hnext:z1R (zv now) ls (pre++[x])=(z1R (zv now) ls pre).set x (o.send (zv now)):=by
   show(pre++[x]).foldl _ _=_
   rw[List.foldl_append]
   show za2 _ (z1R (zv now) ls pre) x=_
   unfold za2
   rw[hy]
  have hset:((z1R (zv now) ls pre).set x (o.send (zv now)))[x]?=some (o.send (zv now)):=List.getElem?_set_self (List.getElem?_eq_some_iff.1 hy).1
  simp only[z3w]at H
  try simp only[xNf]at H
  replace H:=H.sub (K:=z3d c bc ab frm ls pre::_) (.cons (by repeat (first|with_reducible exact Pick.head|apply Pick.tail)) .refl)
  replace H:=z3d.open' H
  obtain⟨A1,k1,H⟩:=H
  obtain⟨ls1,hls1⟩:∃ls1,ls1=z1R (zv now) ls pre:=⟨_,rfl⟩
  rw[<-hls1]at hy hnext hset H
  obtain⟨g,c',hA⟩:=zz (n:=n) (v:=.slice A n k) H pk (by omega)
  cases hA
  have HX:=Lib.hid hx
  have HY:=Lib.hid hy
  have HSET:=Lib.hid hset
  have HNX:=Lib.hid hnext
  have b0:(0:Int)<=(x:Int):=by omega
  have b1:(x:Int)<(n:Int):=by omega
  clear hx hy hset hnext hls1
  refine wpIn_block ?_
  gi_wp2
  revert H
  refine z1h [8] (fun L=>[L,[]]) (by kernel_rfl) (by kernel_rfl) (fun⟨_,_,h⟩=>h) ?_
  intro w H
  have HS:=H
  refine xL 0 0 HS ?_ (hin:=(.stop (n:=9) hd (by kernel_rfl)))
  refine xO 1 0 HS ?_
  refine xO 2 0 HS ?_
  refine xL 3 0 HS ?_ (hin:=(.stop (n:=9) hd (by kernel_rfl)))
  refine xO 4 0 HS ?_
  refine xL 5 0 HS ?_ (hin:=(.stop (n:=9) hd (by kernel_rfl)))
  refine xO 6 0 HS ?_
  refine xO 7 0 HS ?_
  clear HS
  refine tk1 8 1 (fun K' hK=>?_)
  (refine jo H (ht:=jw (o.send (zv now)) pk HY.out OneM.cells_length (by rfl) (by decide) (by rfl)) ?_;clear H;intro w H)
  refine hK _ _ (H.sub sbn) (fun HS=>?_)
  clear hK K'
  try simp only[xPt]
  refine xD ?_
  gi_wp2
  have hb:(o.send (zv now)).cells.length=13:=rfl
  revert H
  refine z1h [11,12] (fun L=>[L,[],[]]) (by kernel_rfl) (by kernel_rfl) (fun⟨_,_,h⟩=>h) ?_
  intro w H
  have HS:=H
  refine xL 0 0 HS ?_ (hin:=(.stop (n:=13) hd (by kernel_rfl)))
  refine xL 1 0 HS ?_ (hin:=(.stop (n:=13) hd (by kernel_rfl)))
  refine xL 2 0 HS ?_ (hin:=(.stop (n:=13) hd (by kernel_rfl)))
  refine xO 3 0 HS ?_
  refine xO 4 0 HS ?_
  refine xL 5 0 HS ?_ (hin:=(.stop (n:=13) hd (by kernel_rfl)))
  refine xO 6 0 HS ?_
  refine xO 7 0 HS ?_
  refine xV 8 0 HS ?_ (hin:=(.stop (n:=13) (by exact yd pk HSET.out OneM.cells_length (by rfl) (ze (by rfl))) (by kernel_rfl)))
  refine xC 9 0 (z7U c frm _ _ (o.send (zv now))) H ?_
  clear H HS;intro w H HS
  refine xM 10 0 H ?_
  clear H HS;intro b _ w H HS
  refine xM 11 1 H ?_
  clear H HS;intro k' A' w H HS
  refine xM 12 2 H ?_
  clear H HS;intro _ _ w H HS
  refine xD ?_
  have H2:=z3d.mk (pre:=pre++[x]) (frm:=frm) (ls:=ls) (m:=pre.length+1) (A:=A') (k:=k') (H.sub (.cons pk (.cons pk (.cons pk .refl)))) (by simp) (by simp[zgg,HX.out,zd];rfl)
  rw[<-HNX.out]at H2
  exact H2.sub sba
 case done=>
  rintro D xs W rfl H
  simp only[z3w]at H
  try simp only[xNf]at H
  replace H:=H.sub (K:=z3d c bc ab frm ls (z1x f ls n)::_) (.cons (by repeat (first|with_reducible exact Pick.head|apply Pick.tail)) .refl)
  replace H:=z3d.open' H
  obtain⟨A1,k1,H⟩:=H
  rw[HZ.out.1,HZ.out.2.1,HZ.out.2.2]at H
  simp only[Exit.inBlock,Exit.then]
  go_wp2_with (first|refine xLd H ?_|(refine xSt H ?_;clear H;intro w H;try dsimp only[List.set]at H)|(refine xNw H ?_;clear H;intro b w H)|(refine xAp H ?_;clear H;intro A' k' w H))
  refine z2X (D:=D) (H.sub (K:=z4J D (.deferred (some []))::_) (.cons pk .refl)) (fun w' H=>⟨zag rfl rfl, ?_⟩)
  have H2:=yk.mk (c:=c) (s:=⟨frm,last,ls2⟩) (n:=n) (H.sub (.cons pk (.cons pk .refl))) HL2.out.symm rfl
  exact⟨_,_,rfl,⟨_,_,rfl,rfl⟩,H2.sub sba⟩
end
section
attribute [local go_sem] Oper.semAt_some
def zaA (n:Nat) (P:Program) (fn:Func) (R:Ending->World->Prop):Exit->Act->World->Prop
 | .normal,a,w=>LeavesInM Fence.wide n P fn a.tmps R a.defers .returning w
 | .ret,a,w=>LeavesInM Fence.wide n P fn a.tmps R a.defers .returning w
 |_,_,_=>False
theorem z4E {P:Program} {f:FuncId} {fn:Func} {c:Code} {args:Array Value} {w:World} {R:Ending->World->Prop} (n:Nat) (hf:P.funcs[f]?=some fn) (hb:fn.body=some c)
  (h:c.wp P (zaA n P fn R) {tmps:=args++Array.replicate (fn.ntmps-args.size) undef,defers:=[]} w):Calls P f args w R:=
 (callsIn_wide (n:=n)).1 (callsIn_of_wp_marks hf hb trivial (wpIn_mono (wpIn_wide.2 h) (fun e a w h=>by cases e<;>first|exact h|exact h.elim)) rfl)
theorem z6l {P:Program} {F0:Nat->Prop} {w w0:World} {L:List Assn} {n D:Nat} {fn:Func} {tm:Array Value} {v:Value} {R':Ending->World->Prop} (H:Sep F0 w0 w (z4J D (.deferred (some []))::L))
  (h:∀w',Sep F0 w0 w' L->(results fn tm).run P w'= .ok v w'/\R' (.returned v) w'):zaA n P fn R' .ret ⟨tm,[{target:=.collected D,args:=#[]}]⟩ w:=z2X H h
theorem z57 {P:Program} {w:World} {n:Nat} {fn:Func} {tm:Array Value} {v:Value} {R':Ending->World->Prop} (h1:(results fn tm).run P w= .ok v w) (h2:R' (.returned v) w):zaA n P fn R' .ret ⟨tm,[]⟩ w:=⟨v,h1,h2⟩
theorem jr (W:World):(Instr.build 110 #[]).run Tryz.prog W= .ok (.agg AskM.nil.cells.toArray) W:=by kernel_rfl
def z8j (l:Letter) (o:OneM):Bool:=o.id==l.id&&o.dst==l.frm
def CallsM.answer (s:CallsM) (l:Letter):CallsM×AskM×Bool:=
 if l.answer=false\/l.to≠s.frm then(s,AskM.nil,false)
 else match (z1x (z8j l) s.opn s.opn.length).head? with
  |none=>(s,AskM.nil,false)
  |some i=>match s.opn[i]? with
   |none=>(s,AskM.nil,false)
   |some o=>({s with opn:=s.opn.eraseIdx i},o.q,true)
theorem zcK (lb:Nat) (l:Letter) (o:OneM):zi Tryz.prog 180 (#[o.v]++#[.pointer (some ⟨lb,0,none⟩)]) [z7 lb 114 l.cells] fun v K=>v= .bool (z8j l o)/\K=[z7 lb 114 l.cells]:=by
 intro F0 w0 w R H
 try simp only[xNf]at H
 show Calls _ _ #[o.v,.pointer (some ⟨lb,0,none⟩)] w _
 unfold z8j
 by_cases h1:o.id=l.id
 ·have d1:(o.id==l.id)=true:=by simpa using h1
  rw[d1,Bool.true_and]
  clear h1
  go_enter Tryz.func180,Tryz.ntmps180
  go_wp2_with (first|refine xLd H ?_|(refine xEf H ?_;clear H;intro b A' w H))
  refine xR1 H ?_
  exact xF H
 ·have d1:(o.id==l.id)=false:=by simpa using h1
  rw[d1,Bool.false_and]
  clear h1
  go_enter Tryz.func180,Tryz.ntmps180
  go_wp2_with (first|refine xLd H ?_|(refine xEf H ?_;clear H;intro b A' w H))
  refine xR1 H ?_
  exact xF H
section
variable {w w0:World} {F0:Nat->Prop} {L L':List Assn} {b:Nat} {t ty:TypeId} {v:Value}
theorem rs1 {c:Tmp} {tmps:Array Value} (H:Sep F0 w0 w L) (hc:tmps.getD c undef= .pointer (some ⟨b,0,none⟩):=by exact rfl) (hp:Pick (z7 b t [v]) L L':=by exact pk) (hu:(z4w.testBit ty&&ty.blt 400)=true:=by rfl):Res Tryz.prog w tmps (.cell c ty) v:=by
 have hrow:=z4Z hu
 cases hq:Tryz.prog.underlying ty with
 |none=>simp[hq]at hrow
 |some d=>
  have hr:d.isRow=false:=by simpa [hq]using hrow
  have hagg:(isAgg ty).run Tryz.prog w= .ok false w:=by
   unfold isAgg
   rw[Sem.run_bind,run_underlying hq w]
   cases d<;>simp_all
  refine⟨b,0,hc, ?_⟩
  simp[loadVar,hagg,H.cell (j:=0) hp rfl]
end
theorem zgO (c:Nat) (s:CallsM) (l:Letter) (h:l.answer=false\/l.to≠s.frm):zi Tryz.prog 133 #[.pointer (some ⟨c,0,none⟩),l.v] [yk c s] fun v K=>v= .tuple #[(s.answer l).2.1.v,.bool (s.answer l).2.2]/\K=[yk c (s.answer l).1]:=by
 intro F0 w0 w R H
 try simp only[xNf]at H
 have hs:s.answer l=(s,AskM.nil,false):=by
  unfold CallsM.answer
  rw[if_pos h]
 rw[hs]
 clear hs
 replace H:=yk.open' H
 obtain⟨v,H⟩:=H
 obtain⟨A,k,rfl⟩:=zt H pk
 obtain⟨frm,last,ls⟩:=s
 obtain⟨lf,lt,li,la,lq,lsay⟩:=l
 simp only at*
 obtain⟨n,hn⟩:=xG (ls.length)
 rw[hn]at H
 have HN:=Lib.hid hn
 clear hn
 by_cases h1:la=false
 ·subst h1
  clear h
  refine z4E 3 Tryz.func133 rfl ?_
  simp only[Tryz.ntmps133,List.size_toArray,List.length_cons,List.length_nil,Nat.reduceAdd,Nat.reduceSub,Array.replicate_succ,Array.replicate_zero,List.push_toArray,List.append_toArray,List.nil_append,List.cons_append]
  go_wp2_with (first|refine xLd H ?_|(refine xEf H ?_;clear H;intro b A' w H))
  refine xRg [] (fun L=>[L]) H ?_
  clear H;intro w H
  have HS:=H
  refine xO 0 0 HS ?_
  refine xL 1 0 HS ?_
  refine xO 2 0 HS ?_
  refine xO 3 0 HS ?_
  refine xN 4 0 HS ?_
  refine xN 5 0 HS ?_
  refine xN 6 0 HS ?_
  refine xN 7 0 HS ?_
  refine xN 8 0 HS ?_
  refine xN 9 0 HS ?_
  refine xN 10 0 HS ?_
  refine xO 11 0 HS ?_
  refine xD ?_
  go_wp2_with (first|(refine z8 (v:=AskM.nil.v) (by rfl) (zb (t:=110) rfl ?_) ?_;(·simp only[List.map_cons,List.map_nil];exact jr _))|first|refine xLd H ?_|(refine xEf H ?_;clear H;intro b A' w H))
  refine z57 (z4U rfl (rsc H) (rs1 H)) ?_
  exact⟨_,_,rfl,⟨rfl,rfl⟩,yk.mk (H.sub sb) HN.out.symm (by rfl)⟩
 ·have h1':la=true:=by simpa using h1
  subst h1'
  have h2:lt≠frm:=h.resolve_left (by simp)
  have d2:(lt !=frm)=true:=by simpa using h2
  clear h h1 h2
  refine z4E 3 Tryz.func133 rfl ?_
  simp only[Tryz.ntmps133,List.size_toArray,List.length_cons,List.length_nil,Nat.reduceAdd,Nat.reduceSub,Array.replicate_succ,Array.replicate_zero,List.push_toArray,List.append_toArray,List.nil_append,List.cons_append]
  go_wp2_with (first|refine xLd H ?_|(refine xEf H ?_;clear H;intro b A' w H))
  refine xRg [] (fun L=>[L]) H ?_
  clear H;intro w H
  have HS:=H
  refine xO 0 0 HS ?_
  refine xL 1 0 HS ?_
  refine xO 2 0 HS ?_
  refine xO 3 0 HS ?_
  refine xO 4 0 HS ?_
  refine xL 5 0 HS ?_
  refine xL 6 0 HS ?_
  refine xO 7 0 HS ?_
  refine xO 8 0 HS ?_
  refine xL 9 0 HS ?_
  refine xO 10 0 HS ?_
  refine xO 11 0 HS ?_
  refine xD ?_
  go_wp2_with (first|(refine z8 (v:=AskM.nil.v) (by rfl) (zb (t:=110) rfl ?_) ?_;(·simp only[List.map_cons,List.map_nil];exact jr _))|first|refine xLd H ?_|(refine xEf H ?_;clear H;intro b A' w H))
  refine z57 (z4U rfl (rsc H) (rs1 H)) ?_
  exact⟨_,_,rfl,⟨rfl,rfl⟩,yk.mk (H.sub sb) HN.out.symm (by rfl)⟩
theorem zeA (f:OneM->Bool) (ls:List OneM):∀d x o,ls[x]?=some o->f o=true->∃r,z1x f ls (x+1+d)=z1x f ls x++x::r
 |0,x,o,h,hf=>⟨[],z4Q h hf⟩
 |d+1,x,o,h,hf=>by
  obtain⟨r,hr⟩:=zeA f ls d x o h hf
  unfold z1x at hr⊢
  rw[<-Nat.add_assoc,List.range_succ,List.filter_append,hr]
  exact⟨_,by rw[List.append_assoc];rfl⟩
abbrev zmy (c bc ab bb:Nat):List Nat->Assn
 |[]=>zaN [z7 bc 167 [.pointer (some ⟨c,0,none⟩)],z7 ab 110 AskM.nil.cells,z7 bb 4 [.bool false]]
 |_::_=>z0w False
abbrev znd (c ab bb:Nat) (frm last:Int) (ls:List OneM):List Nat->List Assn
 |[x]=>match ls[x]? with
  |some o=>[z7 ab 110 o.q.cells,z7 bb 4 [.bool true],yk c ⟨frm,last,ls.eraseIdx x⟩]
  |none=>[z0w False]
 |_=>[z0w False]
theorem zkm (ls:List OneM) (i n g c:Nat) (hn:ls.length=n) (hi:i<n) (hmax:n<=64):zi Tryz.prog 181 #[.slice (some ⟨g,0,none⟩) n c,.int .i64 i,.int .i64 ((i:Int)+1)] [zh 278 13 (.slice (some ⟨g,0,none⟩) n c) n (zd OneM.cells ls)]
  fun v K=>∃g c,v= .slice (some ⟨g,0,none⟩) (n-1) c/\K=[zh 278 13 (.slice (some ⟨g,0,none⟩) (n-1) c) (n-1) (zd OneM.cells (ls.eraseIdx i))]:=by
 subst hn
 have:=zbj ls i g c hi hmax
 rwa [Int.natCast_add]at this
theorem zej (c:Nat) (s:CallsM) (l:Letter) (hmax:s.opn.length<=64) (h1:l.answer=true) (h2:l.to=s.frm):zi Tryz.prog 133 #[.pointer (some ⟨c,0,none⟩),l.v] [yk c s] fun v K=>v= .tuple #[(s.answer l).2.1.v,.bool (s.answer l).2.2]/\K=[yk c (s.answer l).1]:=by
 intro F0 w0 w R H
 try simp only[xNf]at H
 replace H:=yk.open' H
 obtain⟨v,H⟩:=H
 obtain⟨A,k,rfl⟩:=zt H pk
 obtain⟨frm,last,ls⟩:=s
 obtain⟨lf,lt,li,la,lq,lsay⟩:=l
 simp only at*
 subst h1 h2
 obtain⟨n,hn⟩:=xG (ls.length)
 rw[hn]at H hmax
 obtain⟨f,hf⟩:∃f:OneM->Bool,f=z8j ⟨lf,lt,li,true,lq,lsay⟩:=⟨_,rfl⟩
 have hs:CallsM.answer ⟨lt,last,ls⟩ ⟨lf,lt,li,true,lq,lsay⟩=match (z1x f ls n).head? with
  |none=>(⟨lt,last,ls⟩,AskM.nil,false)
  |some i=>match ls[i]? with
   |none=>(⟨lt,last,ls⟩,AskM.nil,false)
   |some o=>(⟨lt,last,ls.eraseIdx i⟩,o.q,true):=by
  unfold CallsM.answer
  rw[if_neg (by simp),<-hn,hf]
 rw[hs]
 have hok:∀lb o,zi Tryz.prog 180 (#[o.v]++#[.pointer (some ⟨lb,0,none⟩)]) [z7 lb 114 (Letter.mk lf lt li true lq lsay).cells] fun v K=>v= .bool (f o)/\K=[z7 lb 114 (Letter.mk lf lt li true lq lsay).cells]:=by
  rw[hf]
  exact fun lb o=>zcK lb ⟨lf,lt,li,true,lq,lsay⟩ o
 obtain⟨res,hres⟩:∃res:CallsM×AskM×Bool,res=match (z1x f ls n).head? with
  |none=>(⟨lt,last,ls⟩,AskM.nil,false)
  |some i=>match ls[i]? with
   |none=>(⟨lt,last,ls⟩,AskM.nil,false)
   |some o=>(⟨lt,last,ls.eraseIdx i⟩,o.q,true):=⟨_,rfl⟩
 rw[<-hres]
 have HRES:=Lib.hid hres
 have HOK:=Lib.hid hok
 have HN:=Lib.hid hn
 clear hn hf hs hok hres
 have d2:(lt !=lt)=false:=by simp
 refine z4E 3 Tryz.func133 rfl ?_
 simp only[Tryz.ntmps133,List.size_toArray,List.length_cons,List.length_nil,Nat.reduceAdd,Nat.reduceSub,Array.replicate_succ,Array.replicate_zero,List.push_toArray,List.append_toArray,List.nil_append,List.cons_append]
 go_wp2_with (first|(refine xNt 167 H ?_;clear H;intro bc w H)|(refine xNt 114 H ?_;clear H;intro lb w H)|(refine xNt 110 H ?_;clear H;intro ab w H)|(refine xNt 4 H ?_;clear H;intro bb w H)|first|refine xLd H ?_|(refine xEf H ?_;clear H;intro b A' w H))
 refine xRg [] (fun L=>[L]) H ?_
 clear H;intro w H
 have HS:=H
 refine xO 0 0 HS ?_
 refine xL 1 0 HS ?_
 refine xO 2 0 HS ?_
 refine xO 3 0 HS ?_
 refine xO 4 0 HS ?_
 refine xL 5 0 HS ?_
 refine xL 6 0 HS ?_
 refine xO 7 0 HS ?_
 refine xO 8 0 HS ?_
 refine xL 9 0 HS ?_
 refine xO 10 0 HS ?_
 refine xO 11 0 HS ?_
 refine xD ?_
 go_wp2_with (first|(go_at_call 160;revert H;refine zi.use (z5G c 180 _) pks ?_;rintro _ _ w ⟨cb,okb,rfl,rfl⟩ H;try simp only[xNf]at H)|first|refine xLd H ?_|(refine xEf H ?_;clear H;intro b A' w H))
 refine(wpIn_wide (n:=2)).1 (z1c (F0:=F0) (w0:=w0) (R:=R) (c:=.ret) rfl (enters_of Tryz.func204 (by kernel_rfl) rfl) (by simp) 0
  (z5H c cb okb (.int .i64 lt) (.int .i64 last) 180 #[.pointer (some ⟨lb,0,none⟩)] A n k ls HN.out hmax f (z7 lb 114 (Letter.mk lf lt li true lq lsay).cells) (zmy c bc ab bb) (fun _=>ls) (znd c ab bb lt last ls)
   (fun _ _=>rfl) (HOK.out lb) (enters_of Tryz.func180 (by kernel_rfl) rfl)) ?body ?done ?stop ?start)
 case start=>
  have H2:Sep F0 w0 w (zmy c bc ab bb []::_):=Sep.bag (K:=[_,_,_]) (H.sub (.cons pk (.cons pk (.cons pk .refl))))
  exact H2.sub sba
 case stop=>
  rintro D xs W ⟨x,o,hx,hf,rfl⟩ H
  by_cases h0:z1x f ls x=[]
  ·rw[h0]at H
   simp only[List.nil_append,znd,hx]at H
   try simp only[xNf]at H
   have hxn:x<n:=by rw[<-HN.out];exact(List.getElem?_eq_some_iff.1 hx).1
   obtain⟨r,hr⟩:=zeA f ls (n-(x+1)) x o hx hf
   rw[show x+1+(n-(x+1))=n by omega,h0]at hr
   have e:res=(⟨lt,last,ls.eraseIdx x⟩,o.q,true):=by rw[HRES.out,hr];simp[hx]
   subst e
   refine wpIn_ret ?_
   simp only[Exit.inBlock,Exit.then]
   refine z6l (D:=D) H (fun w' H=>⟨z4U rfl (rsc H) (rs1 H), ?_⟩)
   exact xF H
  ·obtain⟨y,ys,h⟩:=List.exists_cons_of_ne_nil h0
   rw[h]at H
   have e:znd c ab bb lt last ls (y::ys++[x])=[z0w False]:=by cases ys<;>rfl
   rw[e]at H
   exact((H.sub (K:=[z0w False]) (.cons (.tail .head) .nil)).pure).1.elim
 case body=>
  rintro l pre x F1 w1 W R1 ⟨o,hx,hf,hpre⟩ H
  cases pre with
  |cons y ys=>
   simp only[z3w,zmy]at H
   try simp only[xNf]at H
   exact((H.sub (K:=[z0w False]) (.cons (by repeat (first|with_reducible exact Pick.head|apply Pick.tail)) .nil)).pure).1.elim
  |nil=>
   simp only[z3w,zmy]at H
   try simp only[xNf]at H
   replace H:=Sep.unbagP (by repeat (first|with_reducible exact Pick.head|apply Pick.tail)) H
   try simp only[xNf]at H
   have hxn:x<n:=by rw[<-HN.out];exact(List.getElem?_eq_some_iff.1 hx).1
   obtain⟨g,c',hA⟩:=zz (n:=n) (v:=.slice A n k) H pk (by omega)
   cases hA
   have HX:=Lib.hid hx
   have b0:(0:Int)<=(x:Int):=by omega
   have b1:(x:Int)<(n:Int):=by omega
   have b2:(x:Int)<64:=by omega
   have HD:=Lib.hid (zkm ls x n g k HN.out hxn hmax)
   clear hx hf hpre
   refine wpIn_block ?_
   refine wpIn_seq_k (fun K hK=>?_)
   refine z4L (by kernel_rfl) (fun⟨_,_,h⟩=>h) ?_
   go_wp2_with (first|refine ldr H (hh:=z3I (cs:=o.q.cells) 9 pk HX.out OneM.cells_length (by rfl) (by rfl) (ze (by rfl))) ?_|first|refine xLd H ?_|(refine xEf H ?_;clear H;intro b A' w H))
   refine wpIn_seq_k (fun K2 hK2=>?_)
   revert H
   refine z1h [8,11] (fun L=>[L,[z7 bc 167 [.pointer (some ⟨c,0,none⟩)]],[]]) (by kernel_rfl) (by kernel_rfl) (fun⟨_,_,h⟩=>h) ?_
   intro w H
   have HS:=H
   refine xL 0 0 HS ?_ (hin:=(.go hd (.stop (n:=12) hd (by kernel_rfl))))
   refine xL 1 0 HS ?_ (hin:=(.stop (n:=12) hd (by kernel_rfl)))
   refine xO 2 0 HS ?_
   refine xO 3 0 HS ?_
   refine xL 4 0 HS ?_ (hin:=(.stop (n:=12) hd (by kernel_rfl)))
   refine xO 5 0 HS ?_
   refine xO 6 0 HS ?_
   refine xO 7 0 HS ?_ (v:=(.int .i64 ((x:Int)+1))) (hy:=by(intro W;go_simp;rw[IntWalk.i64_in ((x:Int)+1) (by omega)]))
   clear HS
   refine tk1 8 1 (fun K' hK=>?_)
   go_simp;revert H;refine zi.use HD.out pks ?_;rintro _ _ w ⟨g2,k2,rfl,rfl⟩ H;try simp only[xNf]at H
   refine hK _ _ (H.sub sbn) (fun HS=>?_)
   clear hK K'
   try simp only[xPt]
   refine xO 9 1 HS ?_
   refine xO 10 1 HS ?_
   refine xM 11 2 H ?_
   clear H HS;intro _ _ w H HS
   refine xD ?_
   refine hK2 _ _ ?_
   refine wpIn_seq_k (fun K3 hK3=>?_)
   refine z4L (by kernel_rfl) (fun⟨_,_,h⟩=>h) ?_
   go_wp2_with (first|refine xLd H ?_|(refine xEf H ?_;clear H;intro b A' w H))
   refine wpIn_ret ?_
   refine⟨rfl, ?_⟩
   simp only[List.nil_append,znd,HX.out]
   have H2:=yk.mk (c:=c) (s:=⟨lt,last,ls.eraseIdx x⟩) (n:=n-1) (H.sub (.cons pk (.cons pk .refl))) (by rw[List.length_eraseIdx,HN.out,if_pos hxn]) rfl
   exact H2.sub sba
 case done=>
  rintro D xs W rfl H
  cases hsel:z1x f ls n with
  |cons y ys=>
   rw[hsel]at H
   simp only[z3w,zmy]at H
   try simp only[xNf]at H
   exact((H.sub (K:=[z0w False]) (.cons (by repeat (first|with_reducible exact Pick.head|apply Pick.tail)) .nil)).pure).1.elim
  |nil=>
   rw[hsel]at H
   simp only[z3w,zmy]at H
   try simp only[xNf]at H
   replace H:=Sep.unbagP (by repeat (first|with_reducible exact Pick.head|apply Pick.tail)) H
   try simp only[xNf]at H
   have e:res=(⟨lt,last,ls⟩,AskM.nil,false):=by rw[HRES.out,hsel];rfl
   subst e
   simp only[Exit.inBlock,Exit.then]
   go_wp2_with (first|(refine z8 (v:=AskM.nil.v) (by rfl) (zb (t:=110) rfl ?_) ?_;(·simp only[List.map_cons,List.map_nil];exact jr _))|first|refine xLd H ?_|(refine xEf H ?_;clear H;intro b A' w H))
   refine z6l (D:=D) (H.sub (K:=z4J D (.deferred (some []))::_) (.cons pk .refl)) (fun w' H=>⟨z4U rfl (rsc H) (rs1 H), ?_⟩)
   exact⟨_,_,rfl,⟨rfl,rfl⟩,yk.mk (H.sub sb) HN.out.symm (by rfl)⟩
end
section
section
variable {g K:Nat} {t:TypeId} {ls:List LeaseM} {rest:List Value}
theorem zjy (l:LeaseM) (now frm:Int) (q:AskM) (h:(zjz l now frm q).2=6):(zjz l now frm q).1=l:=by
 revert h
 unfold zjz z1D zbJ inL
 repeat' split
 all_goals simp
theorem z8i (now frm:Int) (q:AskM):zi Tryz.prog 92 #[.pointer (some ⟨K,0,none⟩),.int .i64 now,.int .i64 frm,q.v] [z7 K 158 (.slice (some ⟨g,0,none⟩) ls.length ls.length::rest),z7 g t (zd LeaseM.cells ls)]
  fun v L=>v=(z2f ls now frm q).2.v/\L=[z7 K 158 (.slice (some ⟨g,0,none⟩) ls.length ls.length::rest),z7 g t (zd LeaseM.cells (z2f ls now frm q).1)]:=by
 unfold z2f
 by_cases h:yb q=false\/(ls.length:Int)<=q.stripe
 ·rw[if_pos h]
  by_cases h2:yb q=true
  ·refine zaR now frm q h2 ?_
   rcases h with h|h
   ·rw[h]at h2
    cases h2
   ·exact h
  ·exact zh2 now frm q (by simpa using h2)
 rw[if_neg h]
 have h2:yb q=true:=by
  cases hq:yb q
  ·exact absurd (.inl hq) h
  ·rfl
 have h3:¬(ls.length:Int)<=q.stripe:=fun x=>h (.inr x)
 have h4:=z4S h2
 clear h
 obtain⟨qk,qst,qe,qs,qm,qn,oe,oq,qb⟩:=q
 simp only at h3 h4⊢
 obtain⟨i,rfl⟩:∃i:Nat,qst=(i:Int):=⟨qst.toNat,by omega⟩
 have hin:i<ls.length:=by omega
 obtain⟨l,hi⟩:∃l,ls[i]?=some l:=⟨_,List.getElem?_eq_getElem hin⟩
 simp only[Int.toNat_natCast,hi]
 have hset:ls.set i l=ls:=by
  obtain⟨hlt,rfl⟩:=List.getElem?_eq_some_iff.1 hi
  exact List.set_getElem_self hlt
 have hT:∀(x:LeaseM×Int),zjz l now frm ⟨qk,i,qe,qs,qm,qn,oe,oq,qb⟩=x->(qk=8/\z1D l now frm=x\/qk=9/\zbJ l now frm qe qn=x\/qk=10/\inL l frm qe=x\/(qk≠8/\qk≠9/\qk≠10)/\x=(l,6)):=by
  intro x hx
  unfold zjz at hx
  simp only at hx
  by_cases k8:qk=8
  ·rw[if_pos k8]at hx;exact .inl ⟨k8,hx⟩
  rw[if_neg k8]at hx
  by_cases k9:qk=9
  ·rw[if_pos k9]at hx;exact .inr (.inl ⟨k9,hx⟩)
  rw[if_neg k9]at hx
  by_cases k10:qk=10
  ·rw[if_pos k10]at hx;exact .inr (.inr (.inl ⟨k10,hx⟩))
  rw[if_neg k10]at hx
  exact .inr (.inr (.inr ⟨⟨k8,k9,k10⟩,hx.symm⟩))
 have hsame:=zjy l now frm ⟨qk,i,qe,qs,qm,qn,oe,oq,qb⟩
 obtain⟨⟨l',st⟩,hx⟩:∃x,zjz l now frm ⟨qk,i,qe,qs,qm,qn,oe,oq,qb⟩=x:=⟨_,rfl⟩
 rw[hx]at hsame⊢
 simp only at hsame⊢
 rcases hT _ hx with⟨rfl,e⟩|⟨rfl,e⟩|⟨rfl,e⟩|⟨⟨k8,k9,k10⟩,e⟩
 ·by_cases h6:st=6
  ·rw[if_pos h6]
   exact z6H i l l' now frm st qe qs qm qn oe oq qb h2 hin hi e (by simpa using h6)
  ·rw[if_neg h6]
   exact zcJ i l l' now frm st qe qs qm qn oe oq qb h2 hin hi e (by simpa using h6)
 ·by_cases h6:st=6
  ·rw[if_pos h6]
   exact z8T i l l' now frm st qe qs qm qn oe oq qb h2 hin hi e (by simpa using h6)
  ·rw[if_neg h6]
   exact zh1 i l l' now frm st qe qs qm qn oe oq qb h2 hin hi e (by simpa using h6)
 ·by_cases h6:st=6
  ·rw[if_pos h6]
   exact zaQ i l l' now frm st qe qs qm qn oe oq qb h2 hin hi e (by simpa using h6)
  ·rw[if_neg h6]
   exact zjC i l l' now frm st qe qs qm qn oe oq qb h2 hin hi e (by simpa using h6)
 ·cases e
  rw[if_pos rfl,hset]
  exact zcI i l now frm qe qs qm qn oe oq qb qk (by simpa using k8) (by simpa using k9) (by simpa using k10) h2 hin hi
end
structure AnsM where
 id:Int
 say:SayM
def AnsM.cells (x:AnsM):List Value:=.int .i64 x.id::x.say.cells
def AnsM.nil:AnsM:=⟨0,SayM.nil⟩
theorem AnsM.cells_length (x:AnsM):x.cells.length=14:=rfl
structure KeeperM where
 leases:List LeaseM
 a0:AnsM
 a1:AnsM
def ya (K:Nat) (s:KeeperM):Assn:=exA fun g:Nat=>zaN [z7 K 158 (.slice (some ⟨g,0,none⟩) s.leases.length s.leases.length::(s.a0.cells++s.a1.cells)),z7 g 160 (zd LeaseM.cells s.leases)]
section
variable {F0:Nat->Prop} {w0 w:World} {L:List Assn} {K:Nat} {s:KeeperM}
theorem ya.open' (H:Sep F0 w0 w (ya K s::L)):∃g,Sep F0 w0 w (z7 K 158 (.slice (some ⟨g,0,none⟩) s.leases.length s.leases.length::(s.a0.cells++s.a1.cells))::z7 g 160 (zd LeaseM.cells s.leases)::L):=by
 obtain⟨g,H⟩:=H.ex
 exact⟨g,H.unbag⟩
theorem ya.mk {g:Nat} {l l2:List Value} (H:Sep F0 w0 w (z7 K 158 l::z7 g 160 l2::L)) (h1:l= .slice (some ⟨g,0,none⟩) s.leases.length s.leases.length::(s.a0.cells++s.a1.cells)) (h2:l2=zd LeaseM.cells s.leases):Sep F0 w0 w (ya K s::L):=by
 subst h1 h2
 exact Sep.mk_ex g (Sep.bag (K:=[_,_]) H)
end
def KeeperM.last (s:KeeperM) (frm:Int):AnsM:=if frm=200 then s.a0 else s.a1
def KeeperM.setLast (s:KeeperM) (ls:List LeaseM) (frm:Int) (x:AnsM):KeeperM:=if frm=200 then⟨ls,x,s.a1⟩else⟨ls,s.a0,x⟩
def KeeperM.act (s:KeeperM) (now frm id:Int) (q:AskM):KeeperM×SayM×Bool:=
 if frm<200\/202<=frm\/id<1\/1099511627776<id then(s,SayM.nil,false)
 else if id<(s.last frm).id then(s,SayM.nil,false)
 else if(s.last frm).id<id then
  let x:=z2f s.leases (zv now) frm q
  (s.setLast x.1 frm ⟨id,x.2⟩,x.2,true)
 else(s,(s.last frm).say,true)
theorem zcB (id:Int) (x:SayM) (W:World):(Instr.build 155 #[(0,.int .i64 id),(1,.agg x.cells.toArray)]).run Tryz.prog W= .ok (.agg (AnsM.mk id x).cells.toArray) W:=by kernel_rfl
theorem zmS (K:Nat) (s:KeeperM) (now frm id:Int) (q:AskM) (h:frm<200\/202<=frm\/id<1\/1099511627776<id):
  zi Tryz.prog 63 #[.pointer (some ⟨K,0,none⟩),.int .i64 now,.int .i64 frm,.int .i64 id,q.v] [ya K s] fun v L=>v= .tuple #[SayM.nil.v,.bool false]/\L=[ya K s]:=by
 have hc:decide (frm<200)=true\/decide (frm<200)=false/\(decide ((202:Int)<=frm)=true\/decide ((202:Int)<=frm)=false/\(decide (id<1)=true\/decide (id<1)=false/\decide ((1099511627776:Int)<id)=true)):=by
  simp only[decide_eq_true_eq,decide_eq_false_iff_not]
  omega
 clear h
 intro F0 w0 w R H
 try simp only[xNf]at H
 rcases hc with d1|⟨d1,d2|⟨d2,d3|⟨d3,d4⟩⟩⟩
 all_goals
  go_enter Tryz.func63,Tryz.ntmps63
  go_wp2_with (first|(refine z8 (v:=.agg SayM.nil.cells.toArray) (by rfl) (zb (t:=112) rfl ?_) ?_;(·simp only[List.map_cons,List.map_nil];exact jk _))|first|refine xLd H ?_|(refine xSt H ?_;clear H;intro w H;try dsimp only[List.set]at H)|(refine xNw H ?_;clear H;intro b w H)|(refine xAp H ?_;clear H;intro A' k' w H))
  refine xR2 H ?_
  exact xF H
end
end Go.Proofs.YtmfincpagnpkjaaGreat
