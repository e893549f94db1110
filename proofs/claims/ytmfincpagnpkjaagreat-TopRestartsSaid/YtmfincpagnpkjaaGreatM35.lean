/- Part of the proof. -/
import Derived.Test.YtmfincpagnpkjaaGreatM34
set_option linter.all false
set_option maxRecDepth 100000
set_option maxHeartbeats 100000000
namespace Go.Proofs.YtmfincpagnpkjaaGreat
open Go.RowKit
section
section
variable {op:Oper} {a:Act} {w w0:World} {F0:Nat->Prop} {Q:Exit->Act->World->Prop} {K':Act->World->Prop} {L L':List Assn} {t e:TypeId} {x y:Operand} {z:Value} {k bytes:Nat}
theorem znz (hbytes:bytes*k<=281474976710656) (hk:k<=1000000) (H:Sep F0 w0 w L) (h:∀b w',Sep F0 w0 w' (zh e 1 (.slice (some ⟨b,0,none⟩) k k) k (List.replicate k z)::L)->K' (a.put op.dst (.slice (some ⟨b,0,none⟩) k k)) w')
  (ho:op.op= .makeSlice t x y:=by exact rfl) (hx:a.eval x= .int .i64 k:=by exact rfl) (hy:a.eval y= .int .i64 k:=by exact rfl) (ht:Tryz.prog.underlying t=some (.slice e):=by exact und) (hz:(Tryz.prog.info? e).bind (·.zero)=some z:=by exact zaY)
  (hi:(Tryz.prog.info? e).map (fun i=>(i.size,i.bytes))=some (1,bytes):=by exact inf) (hc:z.cells=#[z]:=by rfl):op.wp Tryz.prog a w K' Q:=by
 cases hq:Tryz.prog.info? e with
 |none=>simp[hq]at hz
 |some i=>
  have hz:i.zero=some z:=by simpa [hq]using hz
  have hi:i.size=1/\i.bytes=bytes:=by simpa [hq]using hi
  have hb':(i.bytes:Int)*(k:Int)<=281474976710656:=by
   have h:((i.bytes*k:Nat):Int)<=281474976710656:=by rw[hi.2];omega
   rwa [Int.natCast_mul]at h
  have hr:=run_make (P:=Tryz.prog) w t e i _ ht hq hz .i64 .i64 k k (by omega) (by omega) hb' (by omega)
  rw[hi.1]at hr
  simp only[Int.toNat_natCast,hc]at hr
  have hm:(madeCells #[z] (k*1)).toList=List.replicate k z:=by
   apply List.ext_getElem?
   intro m
   by_cases hm:m<k
   ·simp[madeCells,hm,List.getElem?_replicate,Nat.mod_one]
   ·simp[madeCells,hm,List.getElem?_replicate]
  refine jp (v:=.slice (some ⟨w.heap.size,0,none⟩) k k) (w':=w.alloc (.cells (madeCells #[z] (k*1)) e)) ?_ (h _ _ ?_)
  ·unfold execOp
   simp[ho,hx,hy,hr]
  ·have H2:=H.newC (madeCells #[z] (k*1)) e
   rw[hm]at H2
   refine Sep.conv ?_ H2
   rintro F w ⟨h1,h2⟩
   refine⟨⟨by simp,.inr ⟨_,k,_,rfl,Nat.zero_le _,h2,Nat.le_refl _,by unfold maxLen;omega,by simp,by simp⟩⟩,fun k hk=>by cases hk;exact h1⟩
end
theorem CallsM.ask_last (s:CallsM) (now dst:Int) (q:AskM) (h:0<=s.last):0<=(s.ask now dst q).1.last:=by
 unfold CallsM.ask
 split
 ·exact h
 ·show 0<=s.last+1
  omega
theorem PilOk.ask {n:Nat} {s:PilotM} (hs:PilOk (n+1) s) (now dst:Int) (q:AskM):PilOk n (s.ask now dst q):=by
 have h1:=(s.ask_same now dst q).1
 have h2:=hs.few
 have h3:=CallsM.ask_last s.calls now dst {q with stripe:=s.work.stripe} hs.last
 refine⟨?_, ?_,by rw[h1];exact hs.st0,by rw[h1];exact hs.st8⟩
 ·unfold PilotM.ask
  split<;>exact h3
 ·unfold PilotM.ask
  split
  ·show(s.asked++_).length+n<=_
   rw[List.length_append]
   simp only[List.length_cons,List.length_nil]
   omega
  ·show s.asked.length+n<=_
   omega
theorem z60 (k e:Int) (W:World):(Instr.build 110 #[(0,.int .i64 k),(2,.int .i64 e)]).run Tryz.prog W= .ok (.agg (z8m k e 0).cells.toArray) W:=by kernel_rfl
def PilotM.fenceTo (s:PilotM) (now:Int):Nat->PilotM
 |0=>s
 |k+1=>if((k:Int) !=s.work.out)=true then(s.fenceTo now k).ask now k (z8m 1 s.work.epoch 0)else s.fenceTo now k
abbrev PilotM.fenceS (s:PilotM):PilotM:={s with calls:=s.calls.drop,work:={s.work with next:=some .fence,leasing:=false,known:=List.replicate s.N.toNat false,records:=List.replicate s.N.toNat Rec.nil}}
abbrev PilotM.enterFence (s:PilotM) (now:Int):PilotM:=s.fenceS.fenceTo now s.N.toNat
theorem PilotM.fence_same (s:PilotM) (now:Int):∀k,(s.fenceTo now k).work=s.work
 |0=>rfl
 |k+1=>by
  unfold PilotM.fenceTo
  split
  ·rw[((s.fenceTo now k).ask_same _ _ _).1,s.fence_same now k]
  ·exact s.fence_same now k
theorem PilOk.fence {n:Nat} {s:PilotM} (now:Int):∀k,PilOk (n+k) s->PilOk n (s.fenceTo now k)
 |0,h=>h
 |k+1,h=>by
  unfold PilotM.fenceTo
  split
  ·exact(PilOk.fence (n:=n+1) now k (by rw[show n+1+k=n+(k+1) by omega];exact h)).ask _ _ _
  ·exact PilOk.fence now k (h.less (by omega))
theorem zi7 (n:Nat):List.replicate n (Value.bool false)=(List.replicate n false).map Value.bool:=by rw[List.map_replicate]
theorem zkE (n:Nat):zd (fun _:Nat=>Rec.nil.cells) (List.range n)=zd Rec.cells (List.replicate n Rec.nil):=by
 induction n with
 |zero=>rfl
 |succ n ih=>rw[List.range_succ,List.replicate_succ',z0a,z0a,ih]
theorem z38 (p:Nat) (s:PilotM) (now:Int) (hs:PilOk 8 s) (hr:yn s.N s.S=true):zi Tryz.prog 202 #[.pointer (some ⟨p,0,none⟩),.int .i64 now] [zy p s] fun r K=>r= .tuple #[]/\K=[zy p (s.enterFence now)]:=by
 intro F0 w0 w R H
 try simp only[xNf]at H
 obtain⟨r1,r2,_,_⟩:=yc.1 hr
 obtain⟨n,hN⟩:∃n:Nat,s.N=n:=⟨s.N.toNat,by omega⟩
 have hn:s.N.toNat=n:=by omega
 have hn6:n<=6:=by omega
 clear r1 r2 hr
 obtain⟨s1,h1⟩:=xG (s.fenceS)
 have e1:s.enterFence now=s1.fenceTo now n:=by unfold PilotM.enterFence;rw[h1,hn]
 have hw1:s1.work.out=s.work.out/\s1.work.epoch=s.work.epoch:=by subst h1;exact⟨rfl,rfl⟩
 have hok:PilOk 8 s1:=by subst h1;exact⟨hs.last,hs.few,hs.st0,hs.st8⟩
 have hN1:s1.N=n:=by subst h1;exact hN
 rw[e1]
 clear e1
 have H1:=Lib.hid h1
 have HK:=Lib.hid hok
 have HW:=Lib.hid hw1
 clear h1 hok hw1 hs
 go_enter Tryz.func202,Tryz.ntmps202
 go_upto_region 3 with(first
  |(go_at_call 157;revert H;refine zi.use (jh _ _ (some .fence)) pks ?_;rintro _ _ w ⟨rfl,rfl⟩ H;try simp only[xNf]at H;obtain⟨bc,kn,re,rd,wr,up,as_,H⟩:=zy.parts .head H)
  |(refine ld1 H (v:=.int .i64 (n:Int)) (hh:=zc pk (by rw[<-hN];rfl)) ?_)
  |(refine zp (by rfl) (fun K' hK=>?_);refine znz (e:=4) (z:=.bool false) (bytes:=1) (k:=n) (by omega) (by omega) H ?_ (hi:=by kernel_rfl);clear H;intro bk w H;refine hK _ _ ?_;clear hK K')
  |(refine zp (by rfl) (fun K' hK=>?_);refine wmk (e:=54) (cs:=Rec.nil.cells) (bytes:=96) (k:=n) (by omega) (by omega) H ?_ (hi:=by kernel_rfl);clear H;intro br w H;refine hK _ _ ?_;clear hK K')
  |first|refine xLd H ?_|(refine xEf H ?_;clear H;intro b A' w H))
 have hl:Rec.nil.cells.length=10:=rfl
 rw[hl,zkE,zi7]at H
 clear hl
 replace H:=zy.join (s:=s.fenceS) bc (.slice (some ⟨bk,0,none⟩) n n) (.slice (some ⟨br,0,none⟩) n n) rd wr up as_ (H.sub sba) (by kernel_rfl) (e1:=by show n=(List.replicate s.N.toNat false).length;rw[List.length_replicate,hn]) (y1:=by show _=(List.replicate s.N.toNat false).map _;rw[hn])
  (e2:=by show n=(List.replicate s.N.toNat Rec.nil).length;rw[List.length_replicate,hn]) (y2:=by show _=zd _ (List.replicate s.N.toNat Rec.nil);rw[hn])
 rw[H1.out]at H
 clear H1 hN hn
 go_wp2_with (first
  |(refine ldp H (v:=.int .i64 (n:Int)) (hh:=zj pk (fun _=>by rw[<-hN1];rfl)) ?_)
  |first|refine xLd H ?_|(refine xEf H ?_;clear H;intro b A' w H))
 go_loopw [34] (fun v34 wr=>∃k:Nat,k<=n/\v34= .int .i64 k/\Sep F0 w0 wr (zy p (s1.fenceTo now k)::R)) (fun v34 _=>n-(intOf v34).toNat)
 case atStart=>
  refine⟨0,Nat.zero_le _,rfl, ?_⟩
  show Sep F0 w0 _ (zy p s1::R)
  exact H.sub sb
 case round=>
  clear H
  obtain⟨k,hk,rfl,H⟩:=hrel
  by_cases hlt:k<n
  ·obtain⟨s2,h2⟩:=xG (s1.fenceTo now k)
   have hw2:s2.work=s1.work:=by rw[<-h2];exact s1.fence_same now k
   have ho2:PilOk 1 s2:=by rw[<-h2];exact PilOk.fence now k (HK.out.less (by omega))
   have he2:s1.fenceTo now (k+1)=if((k:Int) !=s1.work.out)=true then s2.ask now k (z8m 1 s1.work.epoch 0)else s2:=by rw[<-h2];rfl
   rw[h2]at H
   have HA:=Lib.hid (z2l p s2 now k (z8m 1 s1.work.epoch 0) ho2.last (by have:=ho2.few;omega))
   have HE:=Lib.hid he2
   have H2:=Lib.hid hw2
   obtain⟨o,ho⟩:=xG (s1.work.out)
   obtain⟨ep,hep⟩:=xG (s1.work.epoch)
   rw[hep]at HA HE
   rw[ho]at HE
   clear h2 hw2 ho2 he2
   cases d1:((k:Int) !=o)with
   |true=>
    rw[d1,if_pos rfl]at HE
    go_wp2_with (first
     |(go_at_call 159;refine xT2 (HA.out) H ?_;clear H;intro w H)|(refine z8 (v:=(z8m 1 ep 0).v) (by rfl) (zb (t:=110) rfl ?_) ?_;(·simp only[List.map_cons,List.map_nil];exact z60 _ _ _))
     |(refine ldp H (v:=.int .i64 o) (hh:=zj pk (fun _=>by rw[<-ho,<-H2.out];rfl)) ?_)
     |(refine ldp H (v:=.int .i64 ep) (hh:=zj pk (fun _=>by rw[<-hep,<-H2.out];rfl)) ?_)
     |first|refine xLd H ?_|(refine xEf H ?_;clear H;intro b A' w H))
    go_roundw
    case rel=>
     refine⟨k+1,by omega,by go_num, ?_⟩
     rw[HE.out]
     exact H.sub sb
    case measure=>simp[intOf];omega
   |false=>
    rw[d1,if_neg (by decide)]at HE
    go_wp2_with (first
     |(refine ldp H (v:=.int .i64 o) (hh:=zj pk (fun _=>by rw[<-ho,<-H2.out];rfl)) ?_)
     |first|refine xLd H ?_|(refine xEf H ?_;clear H;intro b A' w H))
    go_roundw
    case rel=>
     refine⟨k+1,by omega,by go_num, ?_⟩
     rw[HE.out]
     exact H.sub sb
    case measure=>simp[intOf];omega
  ·obtain rfl:k=n:=by omega
   go_wp2
   refine xRe ?_
   exact xF H
end
section
section
variable {L L':List Assn} {p:Nat} {s:PilotM}
theorem z4p (e:Int) (hp:Pick (zy p s) L L'):z0m L p 52 (.int .i64 e) (zy p {s with work:={s.work with epoch:=e}}::L'):=j7 _ hp (by decide) (fun _=>rfl) rfl
theorem z74 (e:Int) (hp:Pick (zy p s) L L'):z0m L p 53 (.int .i64 e) (zy p {s with work:={s.work with out:=e}}::L'):=j7 _ hp (by decide) (fun _=>rfl) rfl
end
abbrev PilotM.granted (s:PilotM) (e o:Int):PilotM:={s with work:={s.work with epoch:=e,out:=o}}
abbrev PilotM.onLease (s:PilotM) (now:Int) (y:SayM):PilotM:=if(y.status==1&&decide (0<y.epoch))=true then(s.granted y.epoch y.out).enterFence now else if(y.status !=7)=true then s.fail else s
theorem zao (p:Nat) (s:PilotM) (now node:Int) (q:AskM) (y:SayM) (hs:PilOk 8 s) (hr:yn s.N s.S=true):zi Tryz.prog 158 #[.pointer (some ⟨p,0,none⟩),.int .i64 now,.int .i64 node,q.v,y.v] [zy p s] fun r K=>r= .tuple #[]/\K=[zy p (s.onLease now y)]:=by
 intro F0 w0 w R H
 try simp only[xNf]at H
 obtain⟨st,ep,ou,rc⟩:=y
 have HN:=Lib.hid (z38 p (s.granted ep ou) now ⟨hs.last,hs.few,hs.st0,hs.st8⟩ hr)
 have HF:=Lib.hid (z3W p s 8 hs)
 unfold PilotM.onLease
 dsimp only
 obtain⟨s1,h1⟩:=xG ((s.granted ep ou).enterFence now)
 obtain⟨s3,h3⟩:=xG (s.fail)
 rw[h1]at HN⊢
 rw[h3]at HF⊢
 clear h1 h3 hs hr
 cases d1:(st==1)with
 |true=>
  have e7:(st !=7)=true:=by simp at d1⊢;omega
  cases d2:decide (0<ep)with
  |true=>
   rw[Bool.true_and,if_pos rfl]
   have d3:decide (ep>0)=true:=d2
   clear HF
   go_enter Tryz.func158,Tryz.ntmps158
   go_upto_region 2 with(first|(refine xNt 112 H ?_;clear H;intro by9 w H)|first|refine xLd H ?_|(refine xEf H ?_;clear H;intro b A' w H))
   refine xRg [9,13] (fun L=>[L,[z7 by9 112 (SayM.cells ⟨st,ep,ou,rc⟩)],[z7 by9 112 (SayM.cells ⟨st,ep,ou,rc⟩)]]) H ?_
   clear H;intro w H
   have HS:=H
   refine xO 0 0 HS ?_
   refine xO 1 0 HS ?_
   refine xO 2 0 HS ?_
   refine xL 3 0 HS ?_ (hin:=(.stop (n:=14) hd (by kernel_rfl)))
   refine xO 4 0 HS ?_
   refine xL 5 0 HS ?_ (hin:=(.go hd (.stop (n:=14) hd (by kernel_rfl))))
   refine xO 6 0 HS ?_
   refine xO 7 0 HS ?_
   refine xO 8 0 HS ?_
   clear HS
   refine tk1 9 1 (fun K' hK=>?_)
   (refine jo H (ht:=z4p ep pk) ?_;clear H;intro w H)
   refine hK _ _ (H.sub sbn) (fun HS=>?_)
   clear hK K'
   try simp only[xPt]
   refine xO 10 1 HS ?_
   refine xO 11 1 HS ?_
   refine xO 12 1 HS ?_
   clear HS
   refine tk1 13 2 (fun K' hK=>?_)
   (refine jo H (ht:=z74 ou pk) ?_;clear H;intro w H)
   refine hK _ _ (H.sub sbn) (fun HS=>?_)
   clear hK K'
   try simp only[xPt]
   refine xD ?_
   all_goals
    go_wp2_with (first|(go_at_call 202;refine xT2 (HN.out) H ?_;clear H;intro w H)|first|refine xLd H ?_|(refine xEf H ?_;clear H;intro b A' w H))
    refine xRe ?_
    exact xF H
  |false=>
   rw[Bool.true_and,if_neg (by decide),e7,if_pos rfl]
   have d3:decide (ep>0)=false:=d2
   clear HN
   go_enter Tryz.func158,Tryz.ntmps158
   go_wp2_with (first|(go_at_call 156;refine xT2 (HF.out) H ?_;clear H;intro w H)|first|refine xLd H ?_|(refine xEf H ?_;clear H;intro b A' w H))
   refine xRe ?_
   exact xF H
 |false=>
  rw[Bool.false_and,if_neg (by decide)]
  cases d7:(st !=7)with
  |true=>
   rw[if_pos rfl]
   clear HN
   go_enter Tryz.func158,Tryz.ntmps158
   go_wp2_with (first|(go_at_call 156;refine xT2 (HF.out) H ?_;clear H;intro w H)|first|refine xLd H ?_|(refine xEf H ?_;clear H;intro b A' w H))
   refine xRe ?_
   exact xF H
  |false=>
   rw[if_neg (by decide)]
   clear HN HF
   go_enter Tryz.func158,Tryz.ntmps158
   go_wp2_with (first|refine xLd H ?_|(refine xEf H ?_;clear H;intro b A' w H))
   refine xRe ?_
   exact xF H
abbrev PilotM.onOut (s:PilotM) (now:Int) (y:SayM):PilotM:=if(y.status==1&&decide (0<y.epoch))=true then(s.granted y.epoch y.out).enterFence now else s.dropL.enterLease now
theorem zdA (p:Nat) (s:PilotM) (now node:Int) (q:AskM) (y:SayM) (hs:PilOk 8 s) (hr:yn s.N s.S=true):zi Tryz.prog 200 #[.pointer (some ⟨p,0,none⟩),.int .i64 now,.int .i64 node,q.v,y.v] [zy p s] fun r K=>r= .tuple #[]/\K=[zy p (s.onOut now y)]:=by
 intro F0 w0 w R H
 try simp only[xNf]at H
 obtain⟨st,ep,ou,rc⟩:=y
 have HN:=Lib.hid (z38 p (s.granted ep ou) now ⟨hs.last,hs.few,hs.st0,hs.st8⟩ hr)
 have HL:=Lib.hid (z0q p s.dropL now ⟨hs.last,by have:=hs.few;show s.asked.length+1<=_;omega,hs.st0,hs.st8⟩)
 obtain⟨i,hst⟩:∃i:Nat,s.work.stripe=i:=⟨s.work.stripe.toNat,by have:=hs.st0;omega⟩
 have hi8:i<8:=by have:=hs.st8;omega
 have hI:(i:Int)<8:=by omega
 have hi:s.work.stripe.toNat=i:=by omega
 unfold PilotM.onOut
 dsimp only
 unfold PilotM.dropL at HL⊢
 rw[hi]at HL⊢
 obtain⟨s1,h1⟩:=xG ((s.granted ep ou).enterFence now)
 rw[h1]at HN⊢
 clear h1 hi hs hr
 cases d1:(st==1)with
 |true=>
  cases d2:decide (0<ep)with
  |true=>
   rw[Bool.true_and,if_pos rfl]
   have d3:decide (ep>0)=true:=d2
   clear HL
   go_enter Tryz.func200,Tryz.ntmps200
   go_upto_region 2 with(first|(refine xNt 112 H ?_;clear H;intro by9 w H)|first|refine xLd H ?_|(refine xEf H ?_;clear H;intro b A' w H))
   refine xRg [9,13] (fun L=>[L,[z7 by9 112 (SayM.cells ⟨st,ep,ou,rc⟩)],[z7 by9 112 (SayM.cells ⟨st,ep,ou,rc⟩)]]) H ?_
   clear H;intro w H
   have HS:=H
   refine xO 0 0 HS ?_
   refine xO 1 0 HS ?_
   refine xO 2 0 HS ?_
   refine xL 3 0 HS ?_ (hin:=(.stop (n:=14) hd (by kernel_rfl)))
   refine xO 4 0 HS ?_
   refine xL 5 0 HS ?_ (hin:=(.go hd (.stop (n:=14) hd (by kernel_rfl))))
   refine xO 6 0 HS ?_
   refine xO 7 0 HS ?_
   refine xO 8 0 HS ?_
   clear HS
   refine tk1 9 1 (fun K' hK=>?_)
   (refine jo H (ht:=z4p ep pk) ?_;clear H;intro w H)
   refine hK _ _ (H.sub sbn) (fun HS=>?_)
   clear hK K'
   try simp only[xPt]
   refine xO 10 1 HS ?_
   refine xO 11 1 HS ?_
   refine xO 12 1 HS ?_
   clear HS
   refine tk1 13 2 (fun K' hK=>?_)
   (refine jo H (ht:=z74 ou pk) ?_;clear H;intro w H)
   refine hK _ _ (H.sub sbn) (fun HS=>?_)
   clear hK K'
   try simp only[xPt]
   refine xD ?_
   all_goals
    go_wp2_with (first|(go_at_call 202;refine xT2 (HN.out) H ?_;clear H;intro w H)|first|refine xLd H ?_|(refine xEf H ?_;clear H;intro b A' w H))
    refine xRz ?_
    exact xF H
  |false=>
   rw[Bool.true_and,if_neg (by decide)]
   have d3:decide (ep>0)=false:=d2
   clear HN
   go_enter Tryz.func200,Tryz.ntmps200
   go_upto_region 4 with(first|refine xLd H ?_|(refine xEf H ?_;clear H;intro b A' w H))
   refine xRg [10] (fun L=>[L,[]]) H ?_
   clear H;intro w H
   have HS:=H
   refine xO 0 0 HS ?_
   refine xO 1 0 HS ?_
   refine xO 2 0 HS ?_
   refine xO 3 0 HS ?_
   refine xO 4 0 HS ?_
   refine xL 5 0 HS ?_ (hin:=(.stop (n:=11) (zj (v:=.int .i64 (i:Int)) pk (fun _=>by rw[<-hst];rfl)) (by kernel_rfl)))
   refine xO 6 0 HS ?_ (v:=(.agg PLease.nil.cells.toArray)) (hy:=by(intro W;exact zb (t:=170) rfl (z0C W)))
   refine xO 7 0 HS ?_
   refine xO 8 0 HS ?_
   refine xO 9 0 HS ?_
   clear HS
   refine tk1 10 1 (fun K' hK=>?_)
   (refine z6S H (ht:=j8 PLease.nil pk hi8 (by first|rfl|omega) rfl) ?_;clear H;intro w H)
   refine hK _ _ (H.sub sbn) (fun HS=>?_)
   clear hK K'
   try simp only[xPt]
   refine xD ?_
   go_wp2_with (first|(go_at_call 114;refine xT2 (HL.out) H ?_;clear H;intro w H)|first|refine xLd H ?_|(refine xEf H ?_;clear H;intro b A' w H))
   refine xRe ?_
   exact xF H
 |false=>
  rw[Bool.false_and,if_neg (by decide)]
  clear HN
  go_enter Tryz.func200,Tryz.ntmps200
  go_upto_region 4 with(first|refine xLd H ?_|(refine xEf H ?_;clear H;intro b A' w H))
  refine xRg [10] (fun L=>[L,[]]) H ?_
  clear H;intro w H
  have HS:=H
  refine xO 0 0 HS ?_
  refine xO 1 0 HS ?_
  refine xO 2 0 HS ?_
  refine xO 3 0 HS ?_
  refine xO 4 0 HS ?_
  refine xL 5 0 HS ?_ (hin:=(.stop (n:=11) (zj (v:=.int .i64 (i:Int)) pk (fun _=>by rw[<-hst];rfl)) (by kernel_rfl)))
  refine xO 6 0 HS ?_ (v:=(.agg PLease.nil.cells.toArray)) (hy:=by(intro W;exact zb (t:=170) rfl (z0C W)))
  refine xO 7 0 HS ?_
  refine xO 8 0 HS ?_
  refine xO 9 0 HS ?_
  clear HS
  refine tk1 10 1 (fun K' hK=>?_)
  (refine z6S H (ht:=j8 PLease.nil pk hi8 (by first|rfl|omega) rfl) ?_;clear H;intro w H)
  refine hK _ _ (H.sub sbn) (fun HS=>?_)
  clear hK K'
  try simp only[xPt]
  refine xD ?_
  go_wp2_with (first|(go_at_call 114;refine xT2 (HL.out) H ?_;clear H;intro w H)|first|refine xLd H ?_|(refine xEf H ?_;clear H;intro b A' w H))
  refine xRe ?_
  exact xF H
end
section
section
variable {L L':List Assn} {p i:Nat} {s:PilotM} {bc:Nat} {kn re rd wr as_:Value} {up:Nat}
theorem zgX (h:PilotH) (hi:i<6):(s.cells p h)[62+i]?=some (.string (s.work.blocks i)):=by
 rcases(show i=0\/i=1\/i=2\/i=3\/i=4\/i=5 by omega)with rfl|rfl|rfl|rfl|rfl|rfl<;>rfl
def upB (f:Nat->ByteArray) (i:Nat) (b:ByteArray):Nat->ByteArray:=fun k=>if k=i then b else f k
theorem zjs (h:PilotH) (b:ByteArray) (hi:i<6):(s.cells p h).set (62+i) (.string b)=PilotM.cells {s with work:={s.work with blocks:=upB s.work.blocks i b}} p h:=by
 rcases(show i=0\/i=1\/i=2\/i=3\/i=4\/i=5 by omega)with rfl|rfl|rfl|rfl|rfl|rfl<;>rfl
theorem zda (b:ByteArray) {o:Nat} (hp:Pick (zy p s) L L') (hi:i<6) (ho:o=62+i):z0m L p o (.string b) (zy p {s with work:={s.work with blocks:=upB s.work.blocks i b}}::L'):=by
 subst ho
 exact j7 _ hp (by omega) (fun h=>zjs h b hi) rfl
end
def PilotM.texts (s:PilotM):List ByteArray:=s.work.reads.map fun c=>s.work.blocks c.toNat
theorem z7z (p:Nat) (s:PilotM) (n:Nat) (hn:s.work.reads.length=n) (hmax:n<=64) (hc:∀c∈s.work.reads,0<=c/\c<6):zi Tryz.prog 247 #[.pointer (some ⟨p,0,none⟩)] [zy p s] fun r K=>∃A k,r= .slice A n k/\K=[zh 9 1 (.slice A n k) n (s.texts.map Value.string),zy p s]:=by
 intro F0 w0 w R H
 try simp only[xNf]at H
 obtain⟨bc,kn,re,rd,wv,up,as_,H⟩:=zy.parts .head H
 rw[hn]at H
 obtain⟨A,c,rfl⟩:=zt (v:=rd) H pk
 have HN:=Lib.hid hn
 have HC:=Lib.hid hc
 clear hn hc
 replace H:=Sep.mk_row_nil (e:=9) (size:=1) H
 go_enter Tryz.func247,Tryz.ntmps247
 go_wp2_with (first|refine xLd H ?_|(refine xEf H ?_;clear H;intro b A' w H))
 go_loopw [3,12] (fun v3 v12 wv'=>∃(k:Nat) (B:Option Addr) (cb:Nat) (xs:List Value),k<=n/\xs=(s.texts.take k).map Value.string/\v3= .slice B k cb/\v12= .int .i64 k/\Sep F0 w0 wv' (zh 9 1 (.slice B k cb) k xs::z7 p z4I (s.cells p ⟨bc,kn,re,.slice A n c,wv,up,as_⟩)::yk bc s.calls::zh 4 1 kn s.work.known.length (s.work.known.map Value.bool)::zh 54 10 re s.work.records.length (zd Rec.cells s.work.records)::zh 3 1 (.slice A n c) n (s.work.reads.map z09)::zh 3 1 wv s.work.writes.length (s.work.writes.map z09)::zaT up s.work.upd::zh 114 26 as_ s.asked.length (zd Letter.cells s.asked)::R)) (fun _ v12 _=>n-(intOf v12).toNat)
 case atStart=>exact⟨0,none,0,[],Nat.zero_le _,rfl,rfl,rfl,H.sub sb⟩
 case round=>
  clear H
  obtain⟨k,B,cb,xs,hk,hxs,rfl,rfl,H⟩:=hrel
  have HXS:=Lib.hid hxs
  clear hxs
  by_cases hlt:k<n
  ·obtain⟨x,hx⟩:∃x,s.work.reads[k]?=some x:=⟨_,List.getElem?_eq_getElem (by rw[HN.out];exact hlt)⟩
   obtain⟨x0,x6⟩:=HC.out x (List.mem_of_getElem? hx)
   obtain⟨i,rfl⟩:∃i:Nat,x=i:=⟨x.toNat,by omega⟩
   have hi6:i<6:=by omega
   have ht:s.texts[k]?=some (s.work.blocks i):=by
    unfold PilotM.texts
    rw[List.getElem?_map,hx]
    rfl
   obtain⟨b,hb⟩:=xG (s.work.blocks i)
   rw[hb]at ht
   have HX:=Lib.hid (show(s.work.reads.map z09)[k]?=some (z09 (i:Int)) by rw[List.getElem?_map,hx];rfl)
   have HT:=Lib.hid ht
   have HB:=Lib.hid hb
   obtain⟨gg,c',hA⟩:=zz (n:=n) (v:=.slice A n c) H pk (by omega)
   cases hA
   clear hx ht hb
   go_wp2_with (first
    |(refine ld1 H (hh:=(by first|exact zn pk HX.out|exact zc pk HX.out)) ?_)
    |(refine ld1 H (v:=.string b) (hh:=zc (o:=62+i) pk (by rw[zgX _ hi6,HB.out])) ?_)
    |first|refine xLd H ?_|(refine xEf H ?_;clear H;intro b A' w H))
   go_roundw
   case rel=>
    refine⟨k+1,_,_,_,by omega, ?_,rfl,by go_num,H.sub sb⟩
    rw[HXS.out]
    obtain⟨h1,h2⟩:=List.getElem?_eq_some_iff.1 HT.out
    rw[<-List.take_append_getElem h1,h2]
    simp
   case measure=>simp[intOf];omega
  ·obtain rfl:k=n:=by omega
   have hxs:=HXS.out
   have hlen:s.texts.length=k:=by unfold PilotM.texts;rw[List.length_map];exact HN.out
   rw[List.take_of_length_le (by rw[hlen];exact Nat.le_refl _)]at hxs
   subst hxs
   go_wp2
   refine xR1 H ?_
   refine⟨_,_,rfl,⟨B,cb,rfl,rfl⟩, ?_⟩
   have H2:Sep F0 w0 _ (zy p s::zh 9 1 (.slice B k cb) k (s.texts.map Value.string)::R):=zy.join bc kn re (.slice A k c) wv up as_ (H.sub sba) rfl (e3:=HN.out.symm)
   exact H2.sub sba
end
def j4 {α:Type} (step:PilotM->α->PilotM) (s:PilotM) (l:List α):Nat->PilotM
 |0=>s
 |k+1=>match l[k]? with
  |some x=>step (j4 step s l k) x
  |none=>j4 step s l k
theorem z2U {α:Type} {step:PilotM->α->PilotM} {s:PilotM} {l:List α} {k:Nat} {x:α} (h:l[k]?=some x):j4 step s l (k+1)=step (j4 step s l k) x:=by rw[j4,h]
theorem z1G {α:Type} {step:PilotM->α->PilotM} (hst:∀n s x,PilOk (n+1) s->PilOk n (step s x)) {s:PilotM} {l:List α} {n:Nat}:∀k,PilOk (n+k) s->PilOk n (j4 step s l k)
 |0,h=>h
 |k+1,h=>by
  rw[j4]
  split
  ·exact hst _ _ _ (z1G (n:=n+1) hst k (by rw[show n+1+k=n+(k+1) by omega];exact h))
  ·exact z1G hst k (h.less (by omega))
def askStep (now:Int) (t:PilotM) (x:Int×AskM):PilotM:=t.ask now (z3t t.N t.S t.work.stripe x.1) x.2
theorem z2v (now:Int) (n:Nat) (s:PilotM) (x:Int×AskM) (h:PilOk (n+1) s):PilOk n (askStep now s x):=h.ask _ _ _
def UpdM.asks (u:UpdM):List (Int×AskM):=(u.parts.filter (zfQ u.state)).map fun p=>(p.column,if u.state=0 then AskM.mk 4 u.stripe u.te u.ts u.mask 0 0 0 p.block else AskM.mk 5 u.stripe u.te u.ts 0 0 0 0 noB)
def UpdM.askedU (u:UpdM):UpdM:=⟨u.stripe,u.mask,u.te,u.ts,u.parts,u.began||decide (0<u.asks.length),u.failed⟩
theorem zmA (b:Nat) (u:UpdM) (hmax:u.parts.length<=64):zi Tryz.prog 271 #[.pointer (some ⟨b,0,none⟩)] [z3g b u] fun v K=>∃A1 c1 A2 c2,v= .tuple #[.slice A1 u.asks.length c1,.slice A2 u.asks.length c2]/\
  K=[z3g b u.askedU,zh 3 1 (.slice A1 u.asks.length c1) u.asks.length ((u.asks.map (·.1)).map z09),zh 110 9 (.slice A2 u.asks.length c2) u.asks.length (zd AskM.cells (u.asks.map (·.2)))]:=by
 intro F0 w0 w R H
 refine(zk2 b u u.state hmax rfl F0 w0 w R H).mono ?_
 rintro v w' ⟨K,w2,he,⟨A1,c1,A2,c2,n,xs,ys,hU,rfl,rfl⟩,H'⟩
 have h1:n=u.asks.length:=by rw[hU.n];unfold UpdM.asks;rw[List.length_map]
 have h2:xs=(u.asks.map (·.1)).map z09:=by rw[hU.xs];unfold UpdM.asks;rw[List.map_map,List.map_map];rfl
 have h3:ys=zd AskM.cells (u.asks.map (·.2)):=by rw[hU.ys];unfold UpdM.asks;rw[List.map_map];rfl
 subst h1 h2 h3
 exact⟨_,_,he,⟨A1,c1,A2,c2,rfl,rfl⟩,H'⟩
theorem zf7 (u:UpdM):u.asks.length<=u.parts.length:=by
 unfold UpdM.asks
 rw[List.length_map]
 exact List.length_filter_le _ _
theorem z3j {s:PilotM} {p:Nat} {h:PilotH} {u u2:UpdM} (hu:s.work.upd=some u):s.cells p h=PilotM.cells {s with work:={s.work with upd:=some u2}} p h:=by
 unfold PilotM.cells WorkM.cells
 rw[hu]
 rfl
abbrev PilotM.updS (s:PilotM) (u:UpdM):PilotM:={s with calls:=s.calls.drop,work:={s.work with next:=some .update,leasing:=false,upd:=some u.askedU}}
abbrev PilotM.enterUpdate (s:PilotM) (now:Int) (u:UpdM):PilotM:=j4 (askStep now) (s.updS u) u.asks u.asks.length
theorem z2k (p:Nat) (s:PilotM) (now:Int) (u:UpdM) (hu:s.work.upd=some u) (hmax:u.parts.length<=64) (hs:PilOk 64 s):zi Tryz.prog 249 #[.pointer (some ⟨p,0,none⟩),.int .i64 now] [zy p s] fun r K=>r= .tuple #[]/\K=[zy p (s.enterUpdate now u)]:=by
 intro F0 w0 w R H
 try simp only[xNf]at H
 obtain⟨s1,h1⟩:=xG (s.enter (some .update))
 obtain⟨s2,h2⟩:=xG (s.updS u)
 have hu1:s1.work.upd=some u:=by rw[<-h1];exact hu
 have h12:s2={s1 with work:={s1.work with upd:=some u.askedU}}:=by rw[<-h1,<-h2]
 have hok:PilOk 64 s2:=by rw[<-h2];exact⟨hs.last,hs.few,hs.st0,hs.st8⟩
 obtain⟨l,hl⟩:=xG (u.asks)
 obtain⟨n,hn⟩:=xG (l.length)
 obtain⟨u2,hu2⟩:=xG (u.askedU)
 have hA:=fun b=>zmA b u hmax
 have hn64:n<=64:=by rw[<-hn,<-hl];exact Nat.le_trans (zf7 u) hmax
 unfold PilotM.enterUpdate
 rw[h2,hl,hn]
 rw[hl,hn,hu2]at hA
 rw[hu2]at h12
 have HA:=Lib.hid hA
 have H1:=Lib.hid h1
 have HU:=Lib.hid hu1
 have HK:=Lib.hid hok
 have HN:=Lib.hid hn
 have H12:=Lib.hid h12
 clear h1 h2 hu1 h12 hok hl hu2 hA hs hu hmax hn
 go_enter Tryz.func249,Tryz.ntmps249
 go_upto_region 2 with(first
  |(go_at_call 157;revert H;refine zi.use (jh _ _ (some .update)) pks ?_;rintro _ _ w ⟨rfl,rfl⟩ H;try simp only[xNf]at H;rw[H1.out]at H;obtain⟨bc,kn,re,rd,wv,up,as_,H⟩:=zy.parts .head H;rw[HU.out]at H;simp only[zaT]at H)
  |(refine ld1 H (v:=.pointer (some ⟨up,0,none⟩)) (hh:=zc (o:=68) pk (by show some (zjV up s1.work.upd)=_;rw[HU.out];rfl)) ?_)
  |(go_at_call 271;refine xTr (HA.out _) H ?_;clear H;rintro _ _ w ⟨A1,c1,A2,c2,rfl,rfl⟩ H;try simp only[xNf]at H)
  |first|refine xLd H ?_|(refine xEf H ?_;clear H;intro b A' w H))
 rw[show z3g up u2=zaT up (some u2)from rfl]at H
 have H2:Sep F0 w0 _ (zy p {s1 with work:={s1.work with upd:=some u2}}::zh 3 1 (.slice A1 n c1) n ((l.map (·.1)).map z09)::zh 110 9 (.slice A2 n c2) n (zd AskM.cells (l.map (·.2)))::R):=zy.join bc kn re rd wv up as_ (u:=some u2) (H.sub sba) (z3j HU.out)
 rw[<-H12.out]at H2
 clear H H1 HU H12 HA
 have H:=H2
 clear H2
 go_wp2_with (first|refine xLd H ?_|(refine xEf H ?_;clear H;intro b A' w H))
 go_loopw [23] (fun v23 wr=>∃k:Nat,k<=n/\v23= .int .i64 k/\Sep F0 w0 wr (zy p (j4 (askStep now) s2 l k)::zh 3 1 (.slice A1 n c1) n ((l.map (·.1)).map z09)::zh 110 9 (.slice A2 n c2) n (zd AskM.cells (l.map (·.2)))::R)) (fun v23 _=>n-(intOf v23).toNat)
 case atStart=>
  refine⟨0,Nat.zero_le _,rfl, ?_⟩
  show Sep F0 w0 _ (zy p s2::_)
  exact H.sub sb
 case round=>
  clear H
  obtain⟨k,hk,rfl,H⟩:=hrel
  by_cases hlt:k<n
  ·obtain⟨⟨c,q⟩,hx⟩:∃x,l[k]?=some x:=⟨_,List.getElem?_eq_getElem (by rw[HN.out];exact hlt)⟩
   have hnx:=z2U (step:=askStep now) (s:=s2) hx
   have hokt:PilOk 1 (j4 (askStep now) s2 l k):=z1G (z2v now) k (HK.out.less (by omega))
   obtain⟨t,ht⟩:=xG (j4 (askStep now) s2 l k)
   rw[ht]at hnx hokt H
   replace hnx:j4 (askStep now) s2 l (k+1)=t.ask now (z3t t.N t.S t.work.stripe c) q:=hnx
   have hND:=z5y p t c
   obtain⟨nd,hnd⟩:=xG (z3t t.N t.S t.work.stripe c)
   rw[hnd]at hnx hND
   have HAK:=Lib.hid (z2l p t now nd q hokt.last (by have:=hokt.few;omega))
   have HND:=Lib.hid hND
   have HNX:=Lib.hid hnx
   have HC:=Lib.hid (show((l.map (·.1)).map z09)[k]?=some (z09 c) by rw[List.getElem?_map,List.getElem?_map,hx];rfl)
   have HQ:=Lib.hid (show(l.map (·.2))[k]?=some q by rw[List.getElem?_map,hx];rfl)
   obtain⟨g1,c1',hA⟩:=zz (n:=n) (v:=.slice A1 n c1) H pk (by omega)
   cases hA
   obtain⟨g2,c2',hA⟩:=zz (n:=n) (v:=.slice A2 n c2) H pk (by omega)
   cases hA
   clear hnx hokt ht hND hnd hx
   go_upto_region 5 with(first|(refine ldr H (hh:=(by first|exact yd pk (by first|exact HQ.out) AskM.cells_length (by rfl) (ze (by rfl))|exact yq pk (by first|exact HQ.out) AskM.cells_length (by rfl) (ze (by rfl)))) ?_)|first|refine xLd H ?_|(refine xEf H ?_;clear H;intro b A' w H))
   refine xRg [9] (fun L=>[L,[]]) H ?_
   clear H;intro w H
   have HS:=H
   refine xO 0 0 HS ?_
   refine xO 1 0 HS ?_
   refine xO 2 0 HS ?_
   refine xO 3 0 HS ?_
   refine xO 4 0 HS ?_
   refine xO 5 0 HS ?_
   refine xL 6 0 HS ?_ (hin:=(.stop (n:=10) (zn pk HC.out) (by kernel_rfl)))
   refine xV 8 0 HS ?_ (hin:=(.stop (n:=10) hdV (by kernel_rfl)))
   refine xC 7 0 HND.out H ?_
   clear H HS;intro w H HS
   refine xC 9 1 HAK.out H ?_
   clear H HS;intro w H HS
   refine xD ?_
   go_wp2
   go_roundw
   case rel=>
    refine⟨k+1,by omega,by go_num, ?_⟩
    rw[HNX.out]
    exact H.sub sb
   case measure=>simp[intOf];omega
  ·obtain rfl:k=n:=by omega
   go_wp2
   refine xRe ?_
   exact xF H
end Go.Proofs.YtmfincpagnpkjaaGreat
