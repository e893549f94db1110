/- Part of the proof. -/
import Derived.Test.YtmfincpagnpkjaaGreatM33
set_option linter.all false
set_option maxRecDepth 100000
set_option maxHeartbeats 100000000
namespace Go.Proofs.YtmfincpagnpkjaaGreat
open Go.RowKit
structure PilOk (n:Nat) (s:PilotM):Prop where
 last:0<=s.calls.last
 few:s.asked.length+n<=1000000000
 st0:0<=s.work.stripe
 st8:s.work.stripe<8
theorem PilOk.less {n m:Nat} {s:PilotM} (h:PilOk n s) (hm:m<=n):PilOk m s:=⟨h.last,by have:=h.few;omega,h.st0,h.st8⟩
abbrev noS:ByteArray:=⟨#[]⟩
theorem z0C (W:World):(Instr.build 170 #[]).run Tryz.prog W= .ok (.agg PLease.nil.cells.toArray) W:=by kernel_rfl
abbrev PilotM.dropL (s:PilotM):PilotM:={s with leases:=upL s.leases s.work.stripe.toNat PLease.nil}
abbrev PilotM.fail (s:PilotM):PilotM:=if s.work.doubt=true then s.dropL.fin 171 noS else s.dropL.fin 170 noS
theorem z3W (p:Nat) (s:PilotM) (n:Nat) (hs:PilOk n s):zi Tryz.prog 156 #[.pointer (some ⟨p,0,none⟩)] [zy p s] fun r K=>r= .tuple #[]/\K=[zy p s.fail]:=by
 intro F0 w0 w R H
 try simp only[xNf]at H
 obtain⟨i,hst⟩:∃i:Nat,s.work.stripe=i:=⟨s.work.stripe.toNat,by have:=hs.st0;omega⟩
 have hi8:i<8:=by have:=hs.st8;omega
 have hI:(i:Int)<8:=by omega
 have hi:s.work.stripe.toNat=i:=by omega
 unfold PilotM.fail PilotM.dropL
 rw[hi]
 clear hi
 obtain⟨db,hdb⟩:=xG (s.work.doubt)
 rw[hdb]
 go_enter Tryz.func156,Tryz.ntmps156
 go_upto_region 0 with(first|refine xLd H ?_|(refine xEf H ?_;clear H;intro b A' w H))
 refine xRg [10] (fun L=>[L,[]]) H ?_
 clear H;intro w H
 have HS:=H
 refine xO 0 0 HS ?_
 refine xO 1 0 HS ?_
 refine xO 2 0 HS ?_
 refine xO 3 0 HS ?_
 refine xO 4 0 HS ?_
 refine xL 5 0 HS ?_ (hin:=(.stop (n:=11) (zj (v:=.int .i64 (i:Int)) pk (fun _=>by rw[<-hst];rfl)) (by kernel_rfl)))
 refine xO 6 0 HS ?_ (v:=(.agg PLease.nil.cells.toArray)) (hy:=by(intro W;exact zb (t:=170) rfl (z0C W)))
 refine xO 7 0 HS ?_
 refine xO 8 0 HS ?_
 refine xO 9 0 HS ?_
 clear HS
 refine tk1 10 1 (fun K' hK=>?_)
 (refine z6S H (ht:=j8 PLease.nil pk hi8 (by first|rfl|omega) rfl) ?_;clear H;intro w H)
 refine hK _ _ (H.sub sbn) (fun HS=>?_)
 clear hK K'
 try simp only[xPt]
 refine xD ?_
 cases db with
 |true=>
  go_wp2_with (first|(go_at_call 155;refine xT2 (z1A _ _ _ _) H ?_;clear H;intro w H)|(refine ldp H (v:=.bool true) (hh:=zj pk (fun _=>by rw[<-hdb];rfl)) ?_)|first|refine ldp H ?_|refine zc3 H ?_|refine xLd H ?_|(refine xEf H ?_;clear H;intro b A' w H))
  refine xRz ?_
  exact xF H
 |false=>
  go_wp2_with (first|(go_at_call 155;refine xT2 (z1A _ _ _ _) H ?_;clear H;intro w H)|(refine ldp H (v:=.bool false) (hh:=zj pk (fun _=>by rw[<-hdb];rfl)) ?_)|first|refine ldp H ?_|refine zc3 H ?_|refine xLd H ?_|(refine xEf H ?_;clear H;intro b A' w H))
  refine xRe ?_
  exact xF H
abbrev z8m (kind epoch node:Int):AskM:=⟨kind,0,epoch,0,0,node,0,0,noS⟩
theorem zgU (W:World):(Instr.build 110 #[(0,.int .i64 8)]).run Tryz.prog W= .ok (.agg (z8m 8 0 0).cells.toArray) W:=by kernel_rfl
theorem zcA (e n:Int) (W:World):(Instr.build 110 #[(0,.int .i64 9),(2,.int .i64 e),(5,.int .i64 n)]).run Tryz.prog W= .ok (.agg (z8m 9 e n).cells.toArray) W:=by kernel_rfl
abbrev PilotM.leaseS (s:PilotM) (now:Int):PilotM:={s with calls:=s.calls.drop,work:={s.work with next:=some .lease,leasing:=true,entered:=now}}
abbrev PilotM.enterLease (s:PilotM) (now:Int):PilotM:=(s.leaseS now).ask now 100 (z8m 8 0 0)
theorem z0q (p:Nat) (s:PilotM) (now:Int) (hs:PilOk 1 s):zi Tryz.prog 114 #[.pointer (some ⟨p,0,none⟩),.int .i64 now] [zy p s] fun r K=>r= .tuple #[]/\K=[zy p (s.enterLease now)]:=by
 intro F0 w0 w R H
 try simp only[xNf]at H
 have HA:=Lib.hid (z2l p (s.leaseS now) now 100 (z8m 8 0 0) hs.last (show s.asked.length<=1000000000 by have:=hs.few;omega))
 clear hs
 go_enter Tryz.func114,Tryz.ntmps114
 go_wp2_with (first
  |(go_at_call 157;refine xT2 (jh _ _ (some .lease)) H ?_;clear H;intro w H)|(go_at_call 159;refine xT2 (HA.out) H ?_;clear H;intro w H)|(refine z8 (v:=(z8m 8 0 0).v) (by rfl) (zb (t:=110) rfl ?_) ?_;(·simp only[List.map_cons,List.map_nil];exact zgU _))
  |(refine zr (by rfl) (fun K' hK=>?_);refine jo H (ht:=j7 ({s with calls:=s.calls.drop,work:={s.work with next:=some .lease,leasing:=true}}) pk ltk (fun h=>by rfl) (by rfl)) ?_;clear H;intro w H;refine hK _ _ ?_;clear hK K')|(refine zr (by rfl) (fun K' hK=>?_);refine jo H (ht:=j7 (s.leaseS now) pk ltk (fun h=>by rfl) (by rfl)) ?_;clear H;intro w H;refine hK _ _ ?_;clear hK K')|first|refine ldp H ?_|refine zc3 H ?_|refine xLd H ?_|(refine xEf H ?_;clear H;intro b A' w H))
 refine xRe ?_
 exact xF H
abbrev PilotM.lost (s:PilotM) (now:Int):PilotM:=if s.work.doubt=true then s.dropL.fin 171 noS else s.dropL.enterLease now
theorem z9c (p:Nat) (s:PilotM) (now:Int) (hs:PilOk 1 s):zi Tryz.prog 245 #[.pointer (some ⟨p,0,none⟩),.int .i64 now] [zy p s] fun r K=>r= .tuple #[]/\K=[zy p (s.lost now)]:=by
 intro F0 w0 w R H
 try simp only[xNf]at H
 have HL:=Lib.hid (z0q p s.dropL now ⟨hs.last,hs.few,hs.st0,hs.st8⟩)
 obtain⟨i,hst⟩:∃i:Nat,s.work.stripe=i:=⟨s.work.stripe.toNat,by have:=hs.st0;omega⟩
 have hi8:i<8:=by have:=hs.st8;omega
 have hI:(i:Int)<8:=by omega
 have hi:s.work.stripe.toNat=i:=by omega
 unfold PilotM.lost PilotM.dropL
 unfold PilotM.dropL at HL
 rw[hi]at HL⊢
 clear hi hs
 obtain⟨db,hdb⟩:=xG (s.work.doubt)
 rw[hdb]
 go_enter Tryz.func245,Tryz.ntmps245
 go_upto_region 0 with(first|refine xLd H ?_|(refine xEf H ?_;clear H;intro b A' w H))
 refine xRg [10] (fun L=>[L,[]]) H ?_
 clear H;intro w H
 have HS:=H
 refine xO 0 0 HS ?_
 refine xO 1 0 HS ?_
 refine xO 2 0 HS ?_
 refine xO 3 0 HS ?_
 refine xO 4 0 HS ?_
 refine xL 5 0 HS ?_ (hin:=(.stop (n:=11) (zj (v:=.int .i64 (i:Int)) pk (fun _=>by rw[<-hst];rfl)) (by kernel_rfl)))
 refine xO 6 0 HS ?_ (v:=(.agg PLease.nil.cells.toArray)) (hy:=by(intro W;exact zb (t:=170) rfl (z0C W)))
 refine xO 7 0 HS ?_
 refine xO 8 0 HS ?_
 refine xO 9 0 HS ?_
 clear HS
 refine tk1 10 1 (fun K' hK=>?_)
 (refine z6S H (ht:=j8 PLease.nil pk hi8 (by first|rfl|omega) rfl) ?_;clear H;intro w H)
 refine hK _ _ (H.sub sbn) (fun HS=>?_)
 clear hK K'
 try simp only[xPt]
 refine xD ?_
 cases db with
 |true=>
  clear HL
  go_wp2_with (first|(go_at_call 155;refine xT2 (z1A _ _ _ _) H ?_;clear H;intro w H)|(refine ldp H (v:=.bool true) (hh:=zj pk (fun _=>by rw[<-hdb];rfl)) ?_)|first|refine ldp H ?_|refine zc3 H ?_|refine xLd H ?_|(refine xEf H ?_;clear H;intro b A' w H))
  refine xRz ?_
  exact xF H
 |false=>
  go_wp2_with (first|(go_at_call 114;refine xT2 (HL.out) H ?_;clear H;intro w H)|(refine ldp H (v:=.bool false) (hh:=zj pk (fun _=>by rw[<-hdb];rfl)) ?_)|first|refine ldp H ?_|refine zc3 H ?_|refine xLd H ?_|(refine xEf H ?_;clear H;intro b A' w H))
  refine xRe ?_
  exact xF H
abbrev PilotM.outS (s:PilotM) (now:Int):PilotM:={s with calls:=s.calls.drop,work:={s.work with next:=some .out,leasing:=false,entered:=now}}
abbrev PilotM.enterOut (s:PilotM) (now node:Int):PilotM:=(s.outS now).ask now 100 (z8m 9 s.work.epoch node)
theorem z8G (p:Nat) (s:PilotM) (now node:Int) (hs:PilOk 1 s):zi Tryz.prog 154 #[.pointer (some ⟨p,0,none⟩),.int .i64 now,.int .i64 node] [zy p s] fun r K=>r= .tuple #[]/\K=[zy p (s.enterOut now node)]:=by
 intro F0 w0 w R H
 try simp only[xNf]at H
 have HA:=Lib.hid (z2l p (s.outS now) now 100 (z8m 9 s.work.epoch node) hs.last (show s.asked.length<=1000000000 by have:=hs.few;omega))
 clear hs
 go_enter Tryz.func154,Tryz.ntmps154
 go_wp2_with (first
  |(go_at_call 157;refine xT2 (jh _ _ (some .out)) H ?_;clear H;intro w H)|(go_at_call 159;refine xT2 (HA.out) H ?_;clear H;intro w H)|(refine z8 (v:=(z8m 9 s.work.epoch node).v) (by rfl) (zb (t:=110) rfl ?_) ?_;(·simp only[List.map_cons,List.map_nil];exact zcA _ _ _))
  |(refine zr (by rfl) (fun K' hK=>?_);refine jo H (ht:=j7 (s.outS now) pk ltk (fun h=>by rfl) (by rfl)) ?_;clear H;intro w H;refine hK _ _ ?_;clear hK K')|first|refine ldp H ?_|refine zc3 H ?_|refine xLd H ?_|(refine xEf H ?_;clear H;intro b A' w H))
 refine xRe ?_
 exact xF H
abbrev PilotM.gone (s:PilotM) (now node:Int):PilotM:=if(s.work.out==-1)=true then s.enterOut now node else if(s.work.out==node)=true then s.fin 170 noS else s.fail
theorem z9f (p:Nat) (s:PilotM) (now node:Int) (hs:PilOk 1 s):zi Tryz.prog 112 #[.pointer (some ⟨p,0,none⟩),.int .i64 now,.int .i64 node] [zy p s] fun r K=>r= .tuple #[]/\K=[zy p (s.gone now node)]:=by
 intro F0 w0 w R H
 try simp only[xNf]at H
 have HO:=Lib.hid (z8G p s now node hs)
 have HF:=Lib.hid (z3W p s 1 hs)
 have HE:=Lib.hid (z1A p s 170 noS)
 unfold PilotM.gone
 obtain⟨o,ho⟩:=xG (s.work.out)
 rw[ho]
 obtain⟨s1,h1⟩:=xG (s.enterOut now node)
 obtain⟨s2,h2⟩:=xG (s.fin 170 noS)
 obtain⟨s3,h3⟩:=xG (s.fail)
 rw[h1]at HO⊢
 rw[h2]at HE⊢
 rw[h3]at HF⊢
 clear h1 h2 h3 hs
 cases d1:(o==-1)with
 |true=>
  go_enter Tryz.func112,Tryz.ntmps112
  go_wp2_with (first|(go_at_call 154;refine xT2 (HO.out) H ?_;clear H;intro w H)|(refine ldp H (v:=.int .i64 o) (hh:=zj pk (fun _=>by rw[<-ho];rfl)) ?_)|first|refine ldp H ?_|refine zc3 H ?_|refine xLd H ?_|(refine xEf H ?_;clear H;intro b A' w H))
  refine xRe ?_
  exact xF H
 |false=>
  cases d2:(o==node)with
  |true=>
   go_enter Tryz.func112,Tryz.ntmps112
   go_wp2_with (first|(go_at_call 155;refine xT2 (HE.out) H ?_;clear H;intro w H)|(refine ldp H (v:=.int .i64 o) (hh:=zj pk (fun _=>by rw[<-ho];rfl)) ?_)|first|refine ldp H ?_|refine zc3 H ?_|refine xLd H ?_|(refine xEf H ?_;clear H;intro b A' w H))
   refine xRe ?_
   exact xF H
  |false=>
   go_enter Tryz.func112,Tryz.ntmps112
   go_wp2_with (first|(go_at_call 156;refine xT2 (HF.out) H ?_;clear H;intro w H)|(refine ldp H (v:=.int .i64 o) (hh:=zj pk (fun _=>by rw[<-ho];rfl)) ?_)|first|refine ldp H ?_|refine zc3 H ?_|refine xLd H ?_|(refine xEf H ?_;clear H;intro b A' w H))
   refine xRe ?_
   exact xF H
abbrev jd (y:SayM) (need:Bool):Bool:= !(y.status==1&&(y.rcd.used||!need))
abbrev PilotM.refuse (s:PilotM) (now node:Int) (y:SayM) (need:Bool):PilotM:=
 if jd y need=true then(if(y.status==2)=true then s.lost now else if(y.status==1||y.status==5)=true then s.gone now node else s.fail)else s
theorem z1k (p:Nat) (s:PilotM) (now node:Int) (y:SayM) (need:Bool) (hs:PilOk 1 s):zi Tryz.prog 261 #[.pointer (some ⟨p,0,none⟩),.int .i64 now,.int .i64 node,y.v,.bool need] [zy p s] fun r K=>r= .bool (jd y need)/\K=[zy p (s.refuse now node y need)]:=by
 intro F0 w0 w R H
 try simp only[xNf]at H
 have HL:=Lib.hid (z9c p s now hs)
 have HG:=Lib.hid (z9f p s now node hs)
 have HF:=Lib.hid (z3W p s 1 hs)
 unfold PilotM.refuse
 obtain⟨s1,h1⟩:=xG (s.lost now)
 obtain⟨s2,h2⟩:=xG (s.gone now node)
 obtain⟨s3,h3⟩:=xG (s.fail)
 rw[h1]at HL⊢
 rw[h2]at HG⊢
 rw[h3]at HF⊢
 clear h1 h2 h3 hs
 obtain⟨st,ep,ou,rc⟩:=y
 obtain⟨us,rf,de,ds,bl,op,ie,iq,ma,sg⟩:=rc
 cases d1:(st==1)with
 |true=>
  have e2:(st==2)=false:=by simp at d1⊢;omega
  cases us with
  |true=>
   have hb:jd ⟨st,ep,ou,⟨true,rf,de,ds,bl,op,ie,iq,ma,sg⟩⟩ need=false:=by simp[jd,d1]
   rw[hb,if_neg (by decide)]
   go_enter Tryz.func261,Tryz.ntmps261
   go_wp2_with (first|(go_at_call 245;refine xT2 (HL.out) H ?_;clear H;intro w H)|(go_at_call 112;refine xT2 (HG.out) H ?_;clear H;intro w H)|(go_at_call 156;refine xT2 (HF.out) H ?_;clear H;intro w H)|first|refine xLd H ?_|(refine xEf H ?_;clear H;intro b A' w H))
   refine xR1 H ?_
   exact xF H
  |false=>
   cases need with
   |false=>
    have hb:jd ⟨st,ep,ou,⟨false,rf,de,ds,bl,op,ie,iq,ma,sg⟩⟩ false=false:=by simp[jd,d1]
    rw[hb,if_neg (by decide)]
    go_enter Tryz.func261,Tryz.ntmps261
    go_wp2_with (first|(go_at_call 245;refine xT2 (HL.out) H ?_;clear H;intro w H)|(go_at_call 112;refine xT2 (HG.out) H ?_;clear H;intro w H)|(go_at_call 156;refine xT2 (HF.out) H ?_;clear H;intro w H)|first|refine xLd H ?_|(refine xEf H ?_;clear H;intro b A' w H))
    refine xR1 H ?_
    exact xF H
   |true=>
    have hb:jd ⟨st,ep,ou,⟨false,rf,de,ds,bl,op,ie,iq,ma,sg⟩⟩ true=true:=by simp[jd]
    have hc:(true||st==5)=true:=rfl
    rw[hb,if_pos rfl]
    dsimp only
    rw[e2];try rw[d1]
    rw[hc]
    simp only[Bool.false_eq_true,if_false,if_true]
    clear HL HF
    go_enter Tryz.func261,Tryz.ntmps261
    go_wp2_with (first|(go_at_call 245;refine xT2 (HL.out) H ?_;clear H;intro w H)|(go_at_call 112;refine xT2 (HG.out) H ?_;clear H;intro w H)|(go_at_call 156;refine xT2 (HF.out) H ?_;clear H;intro w H)|first|refine xLd H ?_|(refine xEf H ?_;clear H;intro b A' w H))
    refine xR1 H ?_
    exact xF H
 |false=>
  have hb:jd ⟨st,ep,ou,⟨us,rf,de,ds,bl,op,ie,iq,ma,sg⟩⟩ need=true:=by simp[jd,d1]
  rw[hb,if_pos rfl]
  dsimp only
  cases d2:(st==2)with
  |true=>
   simp only[if_true]
   clear HG HF
   go_enter Tryz.func261,Tryz.ntmps261
   go_wp2_with (first|(go_at_call 245;refine xT2 (HL.out) H ?_;clear H;intro w H)|(go_at_call 112;refine xT2 (HG.out) H ?_;clear H;intro w H)|(go_at_call 156;refine xT2 (HF.out) H ?_;clear H;intro w H)|first|refine xLd H ?_|(refine xEf H ?_;clear H;intro b A' w H))
   refine xR1 H ?_
   exact xF H
  |false=>
   cases d5:(st==5)with
   |true=>
    simp only[d1,Bool.false_or,Bool.false_eq_true,if_false,if_true]
    clear HL HF
    go_enter Tryz.func261,Tryz.ntmps261
    go_wp2_with (first|(go_at_call 245;refine xT2 (HL.out) H ?_;clear H;intro w H)|(go_at_call 112;refine xT2 (HG.out) H ?_;clear H;intro w H)|(go_at_call 156;refine xT2 (HF.out) H ?_;clear H;intro w H)|first|refine xLd H ?_|(refine xEf H ?_;clear H;intro b A' w H))
    refine xR1 H ?_
    exact xF H
   |false=>
    simp only[d1,Bool.false_or,Bool.false_eq_true,if_false]
    clear HL HG
    go_enter Tryz.func261,Tryz.ntmps261
    go_wp2_with (first|(go_at_call 245;refine xT2 (HL.out) H ?_;clear H;intro w H)|(go_at_call 112;refine xT2 (HG.out) H ?_;clear H;intro w H)|(go_at_call 156;refine xT2 (HF.out) H ?_;clear H;intro w H)|first|refine xLd H ?_|(refine xEf H ?_;clear H;intro b A' w H))
    refine xR1 H ?_
    exact xF H
end Go.Proofs.YtmfincpagnpkjaaGreat
