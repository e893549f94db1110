/- Part of the proof. -/
import Derived.Test.YtmfincpagnpkjaaGreatM35
set_option linter.all false
set_option maxRecDepth 100000
set_option maxHeartbeats 100000000
namespace Go.Proofs.YtmfincpagnpkjaaGreat
open Go.RowKit
theorem z1F (now:Int) (s:PilotM) (l:List (Int×AskM)):∀k,(j4 (askStep now) s l k).work=s.work
 |0=>rfl
 |k+1=>by
  rw[j4]
  split
  ·unfold askStep
   rw[(PilotM.ask_same _ _ _ _).1]
   exact z1F now s l k
  ·exact z1F now s l k
abbrev z00 (kind epoch:Int) (l:List Int):List (Int×AskM):=l.map fun c=>(c,z8m kind epoch 0)
abbrev PilotM.enterRead (s:PilotM) (now:Int) (beside:List Int):PilotM:=
 j4 (askStep now) (j4 (askStep now) (s.enter (some .read)) (z00 2 s.work.epoch s.work.reads) s.work.reads.length) (z00 3 s.work.epoch beside) beside.length
theorem z3r (p:Nat) (s:PilotM) (now:Int) (bs:List Int) (bv:Value) (nb:Nat) (hnb:bs.length=nb) (hb6:nb<=64) (hr6:s.work.reads.length<=64) (hs:PilOk 130 s):zi Tryz.prog 208 #[.pointer (some ⟨p,0,none⟩),.int .i64 now,bv] [zy p s,zh 3 1 bv nb (bs.map z09)] fun r K=>r= .tuple #[]/\K=[zy p (s.enterRead now bs)]:=by
 intro F0 w0 w R H
 try simp only[xNf]at H
 obtain⟨s1,h1⟩:=xG (s.enter (some .read))
 obtain⟨rs,hrs⟩:=xG (s.work.reads)
 obtain⟨ep,hep⟩:=xG (s.work.epoch)
 obtain⟨n,hn⟩:=xG (rs.length)
 have hr1:s1.work.reads=rs:=by rw[<-h1];exact hrs
 have he1:s1.work.epoch=ep:=by rw[<-h1];exact hep
 have hok:PilOk 130 s1:=by rw[<-h1];exact⟨hs.last,hs.few,hs.st0,hs.st8⟩
 have hn64:n<=64:=by rw[<-hn,<-hrs];exact hr6
 unfold PilotM.enterRead
 rw[h1,hrs,hep,hn,hnb]
 obtain⟨s2,h2⟩:=xG (j4 (askStep now) s1 (z00 2 ep rs) n)
 have hok2:PilOk 65 s2:=by rw[<-h2];exact z1G (z2v now) n (hok.less (by omega))
 have hw2:s2.work=s1.work:=by rw[<-h2];exact z1F now s1 _ n
 rw[h2]
 have H1:=Lib.hid h1
 have HR1:=Lib.hid hr1
 have HE1:=Lib.hid he1
 have HK:=Lib.hid hok
 have HK2:=Lib.hid hok2
 have HW2:=Lib.hid hw2
 have H2':=Lib.hid h2
 have HN:=Lib.hid hn
 have HNB:=Lib.hid hnb
 clear h1 hr1 he1 hok hok2 hw2 h2 hn hnb hs hrs hep hr6
 obtain⟨B,cb,rfl⟩:=zt (v:=bv) H pk
 go_enter Tryz.func208,Tryz.ntmps208
 go_upto_region 1 with(first
  |(go_at_call 157;revert H;refine zi.use (jh _ _ (some .read)) pks ?_;rintro _ _ w ⟨rfl,rfl⟩ H;try simp only[xNf]at H;rw[H1.out]at H)
  |first|refine xLd H ?_|(refine xEf H ?_;clear H;intro b A' w H))
 obtain⟨rd,H⟩:=zy.toX pk H
 rw[HR1.out,HN.out]at H
 obtain⟨A,ca,rfl⟩:=zt (v:=rd) H pk
 obtain⟨bc,kn,re,wv,up,as_,H⟩:=z5m.parts pk H
 go_upto_region 2 with(first|refine xLd H ?_|(refine xEf H ?_;clear H;intro b A' w H))
 replace H:=z5m.join (s:=s1) bc kn re (.slice A n ca) wv up as_ (H.sub sba) rfl
 go_loopw [20] (fun v20 wr=>∃k:Nat,k<=n/\v20= .int .i64 k/\Sep F0 w0 wr (z5m p (j4 (askStep now) s1 (z00 2 ep rs) k) (.slice A n ca)::zh 3 1 (.slice A n ca) n (rs.map z09)::zh 3 1 (.slice B nb cb) nb (bs.map z09)::R)) (fun v20 _=>n-(intOf v20).toNat)
 case atStart=>
  refine⟨0,Nat.zero_le _,rfl, ?_⟩
  show Sep F0 w0 _ (z5m p s1 (.slice A n ca)::_)
  exact H.sub sb
 case round=>
  clear H
  obtain⟨k,hk,rfl,H⟩:=hrel
  by_cases hlt:k<n
  ·obtain⟨c,hx⟩:∃x,rs[k]?=some x:=⟨_,List.getElem?_eq_getElem (by rw[HN.out];exact hlt)⟩
   have hx2:(z00 2 ep rs)[k]?=some (c,z8m 2 ep 0):=by rw[List.getElem?_map,hx];rfl
   have hnx:=z2U (step:=askStep now) (s:=s1) hx2
   have hokt:PilOk 1 (j4 (askStep now) s1 (z00 2 ep rs) k):=z1G (z2v now) k (HK.out.less (by omega))
   have hwt:=z1F now s1 (z00 2 ep rs) k
   obtain⟨t,ht⟩:=xG (j4 (askStep now) s1 (z00 2 ep rs) k)
   rw[ht]at hnx hokt H hwt
   replace hnx:j4 (askStep now) s1 (z00 2 ep rs) (k+1)=t.ask now (z3t t.N t.S t.work.stripe c) (z8m 2 ep 0):=hnx
   have het:t.work.epoch=ep:=by rw[hwt];exact HE1.out
   have hND:=z7D p t c (.slice A n ca)
   obtain⟨nd,hnd⟩:=xG (z3t t.N t.S t.work.stripe c)
   rw[hnd]at hnx hND
   have HAK:=Lib.hid (z9g p t now nd (z8m 2 ep 0) (.slice A n ca) hokt.last (by have:=hokt.few;omega))
   have HND:=Lib.hid hND
   have HNX:=Lib.hid hnx
   have HET:=Lib.hid het
   have HC:=Lib.hid (show(rs.map z09)[k]?=some (z09 c) by rw[List.getElem?_map,hx];rfl)
   obtain⟨g1,c1',hA⟩:=zz (n:=n) (v:=.slice A n ca) H pk (by omega)
   cases hA
   clear hnx hokt ht hND hnd hx hx2 hwt het
   go_upto_region 4 with(first|(refine ld1 H (hh:=(by first|exact zn pk HC.out|exact zc pk HC.out)) ?_)|first|refine xLd H ?_|(refine xEf H ?_;clear H;intro b A' w H))
   refine xRg [11] (fun L=>[L,[]]) H ?_
   clear H;intro w H
   have HS:=H
   refine xO 0 0 HS ?_
   refine xO 1 0 HS ?_
   refine xO 2 0 HS ?_
   refine xO 3 0 HS ?_
   refine xO 5 0 HS ?_
   refine xO 6 0 HS ?_
   refine xO 7 0 HS ?_
   refine xO 8 0 HS ?_
   refine xL 9 0 HS ?_ (hin:=(.stop (n:=12) (z9q (v:=.int .i64 ep) pk (fun _=>by rw[<-HET.out];rfl)) (by kernel_rfl)))
   refine xO 10 0 HS ?_ (v:=(z8m 2 ep 0).v) (hy:=by(intro W;exact zb (t:=110) rfl (z60 2 ep W)))
   refine xC 4 0 HND.out H ?_
   clear H HS;intro w H HS
   refine xC 11 1 HAK.out H ?_
   clear H HS;intro w H HS
   refine xD ?_
   all_goals
    go_wp2
    go_roundw
    case rel=>
     refine⟨k+1,by omega,by go_num, ?_⟩
     rw[HNX.out]
     exact H.sub sb
    case measure=>simp[intOf];omega
  ·obtain rfl:k=n:=by omega
   rw[H2'.out]at H
   replace H:=z5m.toA (p:=p) (s:=s2) (rd:=.slice A k ca) (H.sub sba) (e3:=by rw[HW2.out,HR1.out,HN.out]) (y3:=by rw[HW2.out,HR1.out])
   clear HK H2' hk
   go_wp2_with (first|refine xLd H ?_|(refine xEf H ?_;clear H;intro b A' w H))
   go_loopw [39] (fun v39 wr=>∃j:Nat,j<=nb/\v39= .int .i64 j/\Sep F0 w0 wr (zy p (j4 (askStep now) s2 (z00 3 ep bs) j)::zh 3 1 (.slice B nb cb) nb (bs.map z09)::R)) (fun v39 _=>nb-(intOf v39).toNat)
   case atStart=>
    refine⟨0,Nat.zero_le _,rfl, ?_⟩
    show Sep F0 w0 _ (zy p s2::_)
    exact H.sub sb
   case round=>
    clear H
    obtain⟨j,hj,rfl,H⟩:=hrel
    by_cases hlt2:j<nb
    ·obtain⟨c,hx⟩:∃x,bs[j]?=some x:=⟨_,List.getElem?_eq_getElem (by rw[HNB.out];exact hlt2)⟩
     have hx2:(z00 3 ep bs)[j]?=some (c,z8m 3 ep 0):=by rw[List.getElem?_map,hx];rfl
     have hnx:=z2U (step:=askStep now) (s:=s2) hx2
     have hokt:PilOk 1 (j4 (askStep now) s2 (z00 3 ep bs) j):=z1G (z2v now) j (HK2.out.less (by omega))
     have hwt:=z1F now s2 (z00 3 ep bs) j
     obtain⟨t,ht⟩:=xG (j4 (askStep now) s2 (z00 3 ep bs) j)
     rw[ht]at hnx hokt H hwt
     replace hnx:j4 (askStep now) s2 (z00 3 ep bs) (j+1)=t.ask now (z3t t.N t.S t.work.stripe c) (z8m 3 ep 0):=hnx
     have het:t.work.epoch=ep:=by rw[hwt,HW2.out];exact HE1.out
     have hND:=z5y p t c
     obtain⟨nd,hnd⟩:=xG (z3t t.N t.S t.work.stripe c)
     rw[hnd]at hnx hND
     have HAK:=Lib.hid (z2l p t now nd (z8m 3 ep 0) hokt.last (by have:=hokt.few;omega))
     have HND:=Lib.hid hND
     have HNX:=Lib.hid hnx
     have HET:=Lib.hid het
     have HC:=Lib.hid (show(bs.map z09)[j]?=some (z09 c) by rw[List.getElem?_map,hx];rfl)
     obtain⟨g1,c1',hA⟩:=zz (n:=nb) (v:=.slice B nb cb) H pk (by omega)
     cases hA
     clear hnx hokt ht hND hnd hx hx2 hwt het
     go_upto_region 9 with(first|(refine ld1 H (hh:=(by first|exact zn pk HC.out|exact zc pk HC.out)) ?_)|first|refine xLd H ?_|(refine xEf H ?_;clear H;intro b A' w H))
     refine xRg [11] (fun L=>[L,[]]) H ?_
     clear H;intro w H
     have HS:=H
     refine xO 0 0 HS ?_
     refine xO 1 0 HS ?_
     refine xO 2 0 HS ?_
     refine xO 3 0 HS ?_
     refine xO 5 0 HS ?_
     refine xO 6 0 HS ?_
     refine xO 7 0 HS ?_
     refine xO 8 0 HS ?_
     refine xL 9 0 HS ?_ (hin:=(.stop (n:=12) (zj (v:=.int .i64 ep) pk (fun _=>by rw[<-HET.out];rfl)) (by kernel_rfl)))
     refine xO 10 0 HS ?_ (v:=(z8m 3 ep 0).v) (hy:=by(intro W;exact zb (t:=110) rfl (z60 3 ep W)))
     refine xC 4 0 HND.out H ?_
     clear H HS;intro w H HS
     refine xC 11 1 HAK.out H ?_
     clear H HS;intro w H HS
     refine xD ?_
     all_goals
      go_wp2
      go_roundw
      case rel=>
       refine⟨j+1,by omega,by go_num, ?_⟩
       rw[HNX.out]
       exact H.sub sb
      case measure=>simp[intOf];omega
    ·obtain rfl:j=nb:=by omega
     go_wp2
     refine xRe ?_
     exact xF H
section
section
variable {L L':List Assn} {p o i:Nat} {s:PilotM} {ty:TypeId} {cs:List Value} {v:Value} {m n:Int}
theorem ziG (h:PilotH) (hi:i<8):(s.cells p h)[3+i*5+3]?=some (.int .i64 (s.leases i).seq):=by
 rcases(show i=0\/i=1\/i=2\/i=3\/i=4\/i=5\/i=6\/i=7 by omega)with rfl|rfl|rfl|rfl|rfl|rfl|rfl|rfl<;>rfl
abbrev znk (l:Nat->PLease) (i:Nat) (x:Int):Nat->PLease:=upL l i ⟨(l i).has,(l i).epoch,(l i).out,x,(l i).since⟩
theorem zaD (h:PilotH) (x:Int) (hi:i<8):(s.cells p h).set (3+i*5+3) (.int .i64 x)=PilotM.cells {s with leases:=znk s.leases i x} p h:=by
 rcases(show i=0\/i=1\/i=2\/i=3\/i=4\/i=5\/i=6\/i=7 by omega)with rfl|rfl|rfl|rfl|rfl|rfl|rfl|rfl<;>rfl
theorem z3H (x:Int) (hp:Pick (zy p s) L L') (hi:i<8) (ho:o=3+i*5+3) (hx:(s.leases i).seq=x):jz L p o (.int .i64 x):=by
 subst ho hx
 exact zj hp fun h=>ziG h hi
theorem zbc (x:Int) (hp:Pick (zy p s) L L') (hi:i<8) (ho:o=3+i*5+3) (hv:v= .int .i64 x):z0m L p o v (zy p {s with leases:=znk s.leases i x}::L'):=by
 subst ho hv
 exact j7 _ hp (by omega) (fun h=>zaD h x hi) rfl
theorem z8Z (e q:Int) (hp:Pick (zy p s) L L') (hc:cs=[.int .i64 e,.int .i64 q]):z1Z L p 55 cs (zy p {s with work:={s.work with te:=e,ts:=q}}::L'):=by
 subst hc
 exact z90 _ hp (show 55+2<=73 by decide) (fun _=>rfl) rfl
theorem z2S (hp:Pick (zy p s) L L') (hm:s.N=m) (hS:s.S=n) (hn:(Tryz.prog.info? ty).map (·.size)=some (List.length [Value.int .i64 m,Value.int .i64 n])):jm Tryz.prog ty L p 0 [.int .i64 m,.int .i64 n]:=by
 subst hm hS
 exact z5K hp hn
end
theorem z2t {N S s n:Int} (h:yn N S=true):-1<=z4c N S s n/\z4c N S s n<=N-1:=by
 obtain⟨h1,h2,h3,h4⟩:=yc.1 h
 unfold z4c
 split
 ·have a:=Int.emod_nonneg (n+N-s % N) (show N≠0 by omega)
  have b:=Int.emod_lt_of_pos (n+N-s % N) (show 0<N by omega)
  omega
 ·omega
theorem zcy (e q:Int) (W:World):(Instr.build 52 #[(0,.int .i64 e),(1,.int .i64 q)]).run Tryz.prog W= .ok (.agg (List.toArray [.int .i64 e,.int .i64 q])) W:=by kernel_rfl
abbrev PilotM.numbered (s:PilotM) (i:Nat) (x:Int):PilotM:={s with leases:=znk s.leases i x,work:={s.work with te:=s.work.epoch,ts:=x,doubt:=true}}
def PilotM.made (s:PilotM):List ByteArray:=(z6B s.N.toNat s.work.column (z4c s.N s.S s.work.stripe s.work.out) s.texts s.work.op.data).1
abbrev PilotM.newU (s:PilotM):UpdM:=Go.Proofs.YtmfincpagnpkjaaGreat.newU s.work.stripe s.work.te s.work.ts s.work.writes s.made
abbrev PilotM.updated (s:PilotM) (now:Int):PilotM:=
 if z4g s.work.stripe s.work.te s.work.ts s.work.writes s.made=true then PilotM.enterUpdate {s with work:={s.work with upd:=some s.newU}} now s.newU else s.fail
abbrev PilotM.makeBlocks (s:PilotM) (now:Int):PilotM:=
 if decide (16777215<=(s.leases s.work.stripe.toNat).seq)=true then s.lost now else(s.numbered s.work.stripe.toNat (wrap64 ((s.leases s.work.stripe.toNat).seq+1))).updated now
theorem z9j (cs:List Int) (bs:List ByteArray):(z6i cs bs).length<=cs.length:=by
 unfold z6i
 rw[List.length_zipWith]
 omega
theorem ziD {N:Nat} {c o:Int} {R:List ByteArray} {d:ByteArray}:(z6B N c o R d).1.length<=2:=by
 unfold z6B
 split
 ·show(z8J N c o R d).length<=2
  unfold z8J
  split
  ·simp
  ·split<;>simp
 ·simp
theorem z9b (p:Nat) (s:PilotM) (now:Int) (hs:PilOk 64 s) (hr:yn s.N s.S=true) (hc1:0<=s.work.column) (hc2:s.work.column<s.N-1) (hl:s.work.reads.length<=64) (hw:s.work.writes.length<=64) (hrd:∀c∈s.work.reads,0<=c/\c<6):
  zi Tryz.prog 210 #[.pointer (some ⟨p,0,none⟩),.int .i64 now] [zy p s] fun r K=>r= .tuple #[]/\K=[zy p (s.makeBlocks now)]:=by
 intro F0 w0 w R H
 try simp only[xNf]at H
 obtain⟨r1,r2,r3,r4⟩:=yc.1 hr
 obtain⟨N,hN⟩:∃n:Nat,s.N=n:=⟨s.N.toNat,by omega⟩
 obtain⟨i,hst⟩:∃i:Nat,s.work.stripe=i:=⟨s.work.stripe.toNat,by have:=hs.st0;omega⟩
 have hi8:i<8:=by have:=hs.st8;omega
 have hI:(i:Int)<8:=by omega
 have hi:s.work.stripe.toNat=i:=by omega
 have HL:=Lib.hid (z9c p s now (hs.less (by omega)))
 obtain⟨s3,h3⟩:=xG (s.lost now)
 obtain⟨q,hq⟩:=xG ((s.leases i).seq)
 unfold PilotM.makeBlocks
 rw[hi,hq,h3]
 rw[h3]at HL
 by_cases hge:16777215<=q
 ·have d1:decide (q>=16777215)=true:=decide_eq_true hge
  rw[if_pos (decide_eq_true hge)]
  have HQ:=Lib.hid hq
  have HST:=Lib.hid hst
  clear h3 hi hs hr hc1 hc2 hl hw hrd hge hq hst r1 r2 r3 r4 hN
  go_enter Tryz.func210,Tryz.ntmps210
  go_upto_region 1 with(first|refine xLd H ?_|(refine xEf H ?_;clear H;intro b A' w H))
  refine xRg [] (fun L=>[L]) H ?_
  clear H;intro w H
  have HS:=H
  refine xO 0 0 HS ?_
  refine xO 1 0 HS ?_
  refine xO 2 0 HS ?_
  refine xO 3 0 HS ?_
  refine xL 4 0 HS ?_ (hin:=(.last (zj (v:=.int .i64 (i:Int)) pk (fun _=>by rw[<-HST.out];rfl))))
  refine xO 5 0 HS ?_
  refine xO 6 0 HS ?_
  refine xO 7 0 HS ?_
  refine xO 8 0 HS ?_
  refine xD ?_
  go_wp2_with (first|(go_at_call 245;refine xT2 (HL.out) H ?_;clear H;intro w H)|(refine ld1 H (v:=.int .i64 q) (hh:=z3H q pk hi8 (by first|rfl|omega) HQ.out) ?_)|first|refine xLd H ?_|(refine xEf H ?_;clear H;intro b A' w H))
  refine xRz ?_
  exact xF H
 ·have d1:decide (q>=16777215)=false:=decide_eq_false hge
  rw[if_neg (by simp only[decide_eq_true_eq];exact hge)]
  clear HL h3
  obtain⟨q1,hq1⟩:=xG (wrap64 (q+1))
  rw[hq1]
  obtain⟨s1,h1⟩:=xG (s.numbered i q1)
  rw[h1]
  have hs1:PilOk 64 s1:=by rw[<-h1];exact⟨hs.last,hs.few,hs.st0,hs.st8⟩
  have hr1:s1.work.reads=s.work.reads:=by rw[<-h1]
  have hw1:s1.work.writes=s.work.writes:=by rw[<-h1]
  have hN1:s1.N=N:=by rw[<-h1];exact hN
  have hS1:s1.S=s.S:=by rw[<-h1]
  have hst1:s1.work.stripe=i:=by rw[<-h1];exact hst
  have hco1:s1.work.column=s.work.column:=by rw[<-h1]
  obtain⟨n1,hn1⟩:=xG (s1.work.reads.length)
  have HT:=Lib.hid (z7z p s1 n1 hn1 (by rw[<-hn1,hr1];exact hl) (by rw[hr1];exact hrd))
  obtain⟨tx,htx⟩:=xG (s1.texts)
  have hcr:=z2t (N:=s1.N) (S:=s1.S) (s:=s1.work.stripe) (n:=s1.work.out) (by rw[hN1,hS1,<-hN];exact hr)
  have hCO:=z17 p s1 s1.work.out
  obtain⟨o,ho⟩:=xG (z4c s1.N s1.S s1.work.stripe s1.work.out)
  rw[ho]at hcr hCO
  have hmd:s1.made=(z6B N s1.work.column o tx s1.work.op.data).1:=by unfold PilotM.made;rw[ho,htx,hN1,Int.toNat_natCast]
  have hMD:=fun v=>ziB N s1.S s1.work.column o tx s1.work.op.data v n1 (by rw[<-htx];unfold PilotM.texts;rw[List.length_map];exact hn1) (by omega) (by omega) (by rw[hS1];exact r3) (by rw[hS1];exact r4) (by rw[hco1];exact hc1) (by rw[hco1];omega) hcr.1 (by omega)
  have hml:=ziD (N:=N) (c:=s1.work.column) (o:=o) (R:=tx) (d:=s1.work.op.data)
  obtain⟨⟨bl,er⟩,hbl⟩:∃x,z6B N s1.work.column o tx s1.work.op.data=x:=⟨_,rfl⟩
  rw[hbl]at hMD hmd hml
  dsimp only at hMD hmd hml
  rw[htx]at HT
  have HMD:=Lib.hid hMD
  have HCO:=Lib.hid hCO
  have H1:=Lib.hid h1
  have HQ:=Lib.hid hq
  have HQ1:=Lib.hid hq1
  have HST:=Lib.hid hst
  have HN1:=Lib.hid hN1
  have HS1:=Lib.hid hs1
  have hwl:s1.work.writes.length<=64:=by rw[hw1];exact hw
  unfold PilotM.updated PilotM.newU
  rw[hmd]
  have hbl64:bl.length<=64:=by omega
  cases hru:z4g s1.work.stripe s1.work.te s1.work.ts s1.work.writes bl with
  |true=>
   rw[if_pos rfl]
   obtain⟨u,hu⟩:=xG (newU s1.work.stripe s1.work.te s1.work.ts s1.work.writes bl)
   have hup:u.parts.length<=64:=by rw[<-hu];exact Nat.le_trans (z9j _ _) hwl
   have hU:∀v1 v2,zi Tryz.prog 248 #[.int .i64 s1.work.stripe,.agg #[.int .i64 s1.work.te,.int .i64 s1.work.ts],v1,v2] [zh 3 1 v1 s1.work.writes.length (s1.work.writes.map z09),zh 9 1 v2 bl.length (bl.map Value.string)] fun v K=>∃b,v= .tuple #[.pointer (some ⟨b,0,none⟩),.int .i64 0]/\K=[z3g b u,zh 3 1 v1 s1.work.writes.length (s1.work.writes.map z09),zh 9 1 v2 bl.length (bl.map Value.string)]:=by
    intro v1 v2
    rw[<-hu]
    exact zjX _ _ _ _ _ v1 v2 hwl hbl64 hru
   have HE:=Lib.hid (z2k p {s1 with work:={s1.work with upd:=some u}} now u rfl hup ⟨hs1.last,hs1.few,hs1.st0,hs1.st8⟩)
   rw[hu]
   obtain⟨s9,h9⟩:=xG (PilotM.enterUpdate {s1 with work:={s1.work with upd:=some u}} now u)
   rw[h9]at HE⊢
   have HU:=Lib.hid hU
   clear hU hu h9 hup hru hmd hbl64 hwl hs1 hr1 hw1 hN1 hS1 hst1 hco1 hn1 htx hcr hCO ho hMD hml hbl h1 hq hq1 hst hN hr r1 r2 r3 r4 hc1 hc2 hl hw hrd hge hi hs
   go_enter Tryz.func210,Tryz.ntmps210
   go_upto_region 1 with(first|refine xLd H ?_|(refine xEf H ?_;clear H;intro b A' w H))
   refine xRg [] (fun L=>[L]) H ?_
   clear H;intro w H
   have HS:=H
   refine xO 0 0 HS ?_
   refine xO 1 0 HS ?_
   refine xO 2 0 HS ?_
   refine xO 3 0 HS ?_
   refine xL 4 0 HS ?_ (hin:=(.last (zj (v:=.int .i64 (i:Int)) pk (fun _=>by rw[<-HST.out];rfl))))
   refine xO 5 0 HS ?_
   refine xO 6 0 HS ?_
   refine xO 7 0 HS ?_
   refine xO 8 0 HS ?_
   refine xD ?_
   go_upto_region 5 with(first
    |(refine ld1 H (v:=.int .i64 q) (hh:=z3H q pk hi8 (by first|rfl|omega) HQ.out) ?_)
    |(refine zr (by rfl) (fun K' hK=>?_);refine jo H (ht:=zbc q1 pk hi8 (by first|rfl|omega) (by rw[<-HQ1.out])) ?_;clear H;intro w H;refine hK _ _ ?_;clear hK K')
    |first|refine xLd H ?_|(refine xEf H ?_;clear H;intro b A' w H))
   refine xRg [12] (fun L=>[L,[]]) H ?_
   clear H;intro w H
   have HS:=H
   refine xO 0 0 HS ?_
   refine xO 1 0 HS ?_
   refine xO 2 0 HS ?_
   refine xO 3 0 HS ?_
   refine xL 4 0 HS ?_ (hin:=(.stop (n:=13) (zj (v:=.int .i64 s.work.epoch) pk (fun _=>by rfl)) (by kernel_rfl)))
   refine xO 5 0 HS ?_
   refine xO 6 0 HS ?_
   refine xO 7 0 HS ?_
   refine xL 8 0 HS ?_ (hin:=(.stop (n:=13) (z3H q1 pk hi8 (by first|rfl|omega) (by show(upL _ i _ i).seq=q1;unfold upL;rw[if_pos rfl])) (by kernel_rfl)))
   refine xO 9 0 HS ?_ (v:=(.agg (List.toArray [.int .i64 s.work.epoch,.int .i64 q1]))) (hy:=by(intro W;exact zb (t:=52) rfl (zcy s.work.epoch q1 W)))
   refine xO 10 0 HS ?_
   refine xO 11 0 HS ?_
   clear HS
   refine tk1 12 1 (fun K' hK=>?_)
   (refine z6S H (ht:=z8Z s.work.epoch q1 pk rfl) ?_;clear H;intro w H)
   refine hK _ _ (H.sub sbn) (fun HS=>?_)
   clear hK K'
   try simp only[xPt]
   refine xD ?_
   go_upto_region 7 with(first|(refine zr (by rfl) (fun K' hK=>?_);refine jo H (ht:=j7 (s.numbered i q1) pk ltk (fun h=>by rfl) (by rfl)) ?_;clear H;intro w H;refine hK _ _ ?_;clear hK K')|first|refine xLd H ?_|(refine xEf H ?_;clear H;intro b A' w H))
   rw[H1.out]at H
   refine xRg [] (fun L=>[L]) H ?_
   clear H;intro w H
   have HS:=H
   refine xO 0 0 HS ?_
   refine xO 1 0 HS ?_
   refine xO 2 0 HS ?_
   refine xV 3 0 HS ?_ (hin:=(.last (z2S (m:=(N:Int)) pk HN1.out rfl (ze (by rfl)))))
   refine xO 4 0 HS ?_
   refine xO 5 0 HS ?_
   refine xO 6 0 HS ?_
   refine xL 7 0 HS ?_ (hin:=(.last hdp))
   refine xO 8 0 HS ?_
   refine xO 9 0 HS ?_
   refine xO 10 0 HS ?_
   refine xO 11 0 HS ?_
   refine xL 12 0 HS ?_ (hin:=(.last hdp))
   refine xO 14 0 HS ?_
   refine xO 16 0 HS ?_
   refine xO 17 0 HS ?_
   refine xO 18 0 HS ?_
   refine xO 19 0 HS ?_
   refine xL 20 0 HS ?_ (hin:=(.last hdp))
   refine xC 13 0 HCO.out H ?_
   clear H HS;intro w H HS
   clear HS
   refine tk1 15 0 (fun K' hK=>?_)
   go_simp;revert H;refine zi.use HT.out pks ?_;rintro _ _ w ⟨A7,c7,rfl,rfl⟩ H;try simp only[xNf]at H
   refine hK _ _ (H.sub sbn) (fun HS=>?_)
   clear hK K'
   try simp only[xPt]
   clear HS
   refine tk1 21 0 (fun K' hK=>?_)
   go_simp;revert H;refine zi.use (HMD.out _) pks ?_;rintro _ _ w ⟨A8,c8,rfl,rfl⟩ H;try simp only[xNf]at H
   refine hK _ _ (H.sub sbn) (fun HS=>?_)
   clear hK K'
   try simp only[xPt]
   refine xO 22 0 HS ?_
   refine xO 23 0 HS ?_
   refine xO 24 0 HS ?_
   refine xO 25 0 HS ?_
   refine xO 26 0 HS ?_
   refine xD ?_
   all_goals
    clear HS HT HMD HCO
    go_upto_region 8 with(first|refine xLd H ?_|(refine xEf H ?_;clear H;intro b A' w H))
    obtain⟨bc,kn,re,rd,wv,up,as_,H⟩:=zy.parts pk H
    refine xRg [] (fun L=>[L]) H ?_
    clear H;intro w H
    have HS:=H
    refine xO 0 0 HS ?_
    refine xO 1 0 HS ?_
    refine xO 2 0 HS ?_
    refine xL 3 0 HS ?_
    refine xO 4 0 HS ?_
    refine xO 5 0 HS ?_
    refine xO 6 0 HS ?_
    refine xV 7 0 HS ?_ (hin:=(.last (zg (cs:=[.int .i64 s1.work.te,.int .i64 s1.work.ts]) 2 pk rfl (ze (by rfl)))))
    refine xO 8 0 HS ?_
    refine xO 9 0 HS ?_
    refine xO 10 0 HS ?_
    refine xL 11 0 HS ?_
    refine xO 12 0 HS ?_
    clear HS
    refine tk1 13 0 (fun K' hK=>?_)
    go_simp;revert H;refine zi.use (HU.out _ _) pks ?_;rintro _ _ w ⟨b8,rfl,rfl⟩ H;try simp only[xNf]at H
    refine hK _ _ (H.sub sbn) (fun HS=>?_)
    clear hK K'
    try simp only[xPt]
    refine xO 14 0 HS ?_
    refine xO 15 0 HS ?_
    refine xO 16 0 HS ?_
    refine xO 17 0 HS ?_
    refine xO 18 0 HS ?_
    refine xD ?_
    go_upto_region 12 with(first|refine xLd H ?_|(refine xEf H ?_;clear H;intro b A' w H))
    rw[show z3g b8 u=zaT b8 (some u)from rfl]at H
    have H2:Sep F0 w0 _ (zy p {s1 with work:={s1.work with upd:=some u}}::R):=zy.join bc kn re rd wv b8 as_ (u:=some u) (H.sub sba) (by kernel_rfl)
    clear H
    have H:=H2
    clear H2
    go_wp2_with (first|(go_at_call 249;refine xT2 (HE.out) H ?_;clear H;intro w H)|first|refine xLd H ?_|(refine xEf H ?_;clear H;intro b A' w H))
    refine xRe ?_
    exact xF H
  |false=>
   rw[if_neg (by decide)]
   have hU:∀v1 v2,zi Tryz.prog 248 #[.int .i64 s1.work.stripe,.agg #[.int .i64 s1.work.te,.int .i64 s1.work.ts],v1,v2] [zh 3 1 v1 s1.work.writes.length (s1.work.writes.map z09),zh 9 1 v2 bl.length (bl.map Value.string)] fun v K=>v= .tuple #[.pointer none,.int .i64 1]/\K=[zh 3 1 v1 s1.work.writes.length (s1.work.writes.map z09),zh 9 1 v2 bl.length (bl.map Value.string)]:=fun v1 v2=>zlE _ _ _ _ _ v1 v2 hwl hbl64 hru
   have HF:=Lib.hid (z3W p s1 64 hs1)
   obtain⟨s9,h9⟩:=xG (s1.fail)
   rw[h9]at HF⊢
   have HU:=Lib.hid hU
   clear hU h9 hru hmd hbl64 hwl hs1 hr1 hw1 hN1 hS1 hst1 hco1 hn1 htx hcr hCO ho hMD hml hbl h1 hq hq1 hst hN hr r1 r2 r3 r4 hc1 hc2 hl hw hrd hge hi hs
   go_enter Tryz.func210,Tryz.ntmps210
   go_upto_region 1 with(first|refine xLd H ?_|(refine xEf H ?_;clear H;intro b A' w H))
   refine xRg [] (fun L=>[L]) H ?_
   clear H;intro w H
   have HS:=H
   refine xO 0 0 HS ?_
   refine xO 1 0 HS ?_
   refine xO 2 0 HS ?_
   refine xO 3 0 HS ?_
   refine xL 4 0 HS ?_ (hin:=(.last (zj (v:=.int .i64 (i:Int)) pk (fun _=>by rw[<-HST.out];rfl))))
   refine xO 5 0 HS ?_
   refine xO 6 0 HS ?_
   refine xO 7 0 HS ?_
   refine xO 8 0 HS ?_
   refine xD ?_
   go_upto_region 5 with(first
    |(refine ld1 H (v:=.int .i64 q) (hh:=z3H q pk hi8 (by first|rfl|omega) HQ.out) ?_)
    |(refine zr (by rfl) (fun K' hK=>?_);refine jo H (ht:=zbc q1 pk hi8 (by first|rfl|omega) (by rw[<-HQ1.out])) ?_;clear H;intro w H;refine hK _ _ ?_;clear hK K')
    |first|refine xLd H ?_|(refine xEf H ?_;clear H;intro b A' w H))
   refine xRg [12] (fun L=>[L,[]]) H ?_
   clear H;intro w H
   have HS:=H
   refine xO 0 0 HS ?_
   refine xO 1 0 HS ?_
   refine xO 2 0 HS ?_
   refine xO 3 0 HS ?_
   refine xL 4 0 HS ?_ (hin:=(.stop (n:=13) (zj (v:=.int .i64 s.work.epoch) pk (fun _=>by rfl)) (by kernel_rfl)))
   refine xO 5 0 HS ?_
   refine xO 6 0 HS ?_
   refine xO 7 0 HS ?_
   refine xL 8 0 HS ?_ (hin:=(.stop (n:=13) (z3H q1 pk hi8 (by first|rfl|omega) (by show(upL _ i _ i).seq=q1;unfold upL;rw[if_pos rfl])) (by kernel_rfl)))
   refine xO 9 0 HS ?_ (v:=(.agg (List.toArray [.int .i64 s.work.epoch,.int .i64 q1]))) (hy:=by(intro W;exact zb (t:=52) rfl (zcy s.work.epoch q1 W)))
   refine xO 10 0 HS ?_
   refine xO 11 0 HS ?_
   clear HS
   refine tk1 12 1 (fun K' hK=>?_)
   (refine z6S H (ht:=z8Z s.work.epoch q1 pk rfl) ?_;clear H;intro w H)
   refine hK _ _ (H.sub sbn) (fun HS=>?_)
   clear hK K'
   try simp only[xPt]
   refine xD ?_
   go_upto_region 7 with(first|(refine zr (by rfl) (fun K' hK=>?_);refine jo H (ht:=j7 (s.numbered i q1) pk ltk (fun h=>by rfl) (by rfl)) ?_;clear H;intro w H;refine hK _ _ ?_;clear hK K')|first|refine xLd H ?_|(refine xEf H ?_;clear H;intro b A' w H))
   rw[H1.out]at H
   refine xRg [] (fun L=>[L]) H ?_
   clear H;intro w H
   have HS:=H
   refine xO 0 0 HS ?_
   refine xO 1 0 HS ?_
   refine xO 2 0 HS ?_
   refine xV 3 0 HS ?_ (hin:=(.last (z2S (m:=(N:Int)) pk HN1.out rfl (ze (by rfl)))))
   refine xO 4 0 HS ?_
   refine xO 5 0 HS ?_
   refine xO 6 0 HS ?_
   refine xL 7 0 HS ?_ (hin:=(.last hdp))
   refine xO 8 0 HS ?_
   refine xO 9 0 HS ?_
   refine xO 10 0 HS ?_
   refine xO 11 0 HS ?_
   refine xL 12 0 HS ?_ (hin:=(.last hdp))
   refine xO 14 0 HS ?_
   refine xO 16 0 HS ?_
   refine xO 17 0 HS ?_
   refine xO 18 0 HS ?_
   refine xO 19 0 HS ?_
   refine xL 20 0 HS ?_ (hin:=(.last hdp))
   refine xC 13 0 HCO.out H ?_
   clear H HS;intro w H HS
   clear HS
   refine tk1 15 0 (fun K' hK=>?_)
   go_simp;revert H;refine zi.use HT.out pks ?_;rintro _ _ w ⟨A7,c7,rfl,rfl⟩ H;try simp only[xNf]at H
   refine hK _ _ (H.sub sbn) (fun HS=>?_)
   clear hK K'
   try simp only[xPt]
   clear HS
   refine tk1 21 0 (fun K' hK=>?_)
   go_simp;revert H;refine zi.use (HMD.out _) pks ?_;rintro _ _ w ⟨A8,c8,rfl,rfl⟩ H;try simp only[xNf]at H
   refine hK _ _ (H.sub sbn) (fun HS=>?_)
   clear hK K'
   try simp only[xPt]
   refine xO 22 0 HS ?_
   refine xO 23 0 HS ?_
   refine xO 24 0 HS ?_
   refine xO 25 0 HS ?_
   refine xO 26 0 HS ?_
   refine xD ?_
   all_goals
    clear HS HT HMD HCO
    go_upto_region 8 with(first|refine xLd H ?_|(refine xEf H ?_;clear H;intro b A' w H))
    obtain⟨bc,kn,re,rd,wv,up,as_,H⟩:=zy.parts pk H
    refine xRg [] (fun L=>[L]) H ?_
    clear H;intro w H
    have HS:=H
    refine xO 0 0 HS ?_
    refine xO 1 0 HS ?_
    refine xO 2 0 HS ?_
    refine xL 3 0 HS ?_
    refine xO 4 0 HS ?_
    refine xO 5 0 HS ?_
    refine xO 6 0 HS ?_
    refine xV 7 0 HS ?_ (hin:=(.last (zg (cs:=[.int .i64 s1.work.te,.int .i64 s1.work.ts]) 2 pk rfl (ze (by rfl)))))
    refine xO 8 0 HS ?_
    refine xO 9 0 HS ?_
    refine xO 10 0 HS ?_
    refine xL 11 0 HS ?_
    refine xO 12 0 HS ?_
    refine xC 13 0 (HU.out _ _) H ?_
    clear H HS;intro w H HS
    refine xO 14 0 HS ?_
    refine xO 15 0 HS ?_
    refine xO 16 0 HS ?_
    refine xO 17 0 HS ?_
    refine xO 18 0 HS ?_
    refine xD ?_
    have H2:Sep F0 w0 _ (zy p s1::R):=zy.join bc kn re rd wv up as_ (H.sub sba) rfl
    clear H
    have H:=H2
    clear H2
    go_wp2_with (first|(go_at_call 156;refine xT2 (HF.out) H ?_;clear H;intro w H)|first|refine xLd H ?_|(refine xEf H ?_;clear H;intro b A' w H))
    refine xRz ?_
    exact xF H
end
end Go.Proofs.YtmfincpagnpkjaaGreat
