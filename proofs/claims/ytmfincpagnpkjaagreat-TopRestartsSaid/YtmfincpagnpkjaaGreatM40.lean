/- Part of the proof. -/
import Derived.Test.YtmfincpagnpkjaaGreatM39
set_option linter.all false
set_option maxRecDepth 100000
set_option maxHeartbeats 100000000
namespace Go.Proofs.YtmfincpagnpkjaaGreat
open Go.RowKit
def PilotM.setL (s:PilotM):List (Int×AskM):=(z4a s.work.known s.work.records).map fun i:Nat=>((i:Int),zjH s.work.stripe s.work.epoch s.work.known s.work.records i)
def z5u (te ts:Int) (q:AskM):Bool:=q.mask==1&&(q.oe==te&&q.oq==ts)
abbrev PilotM.setD (s:PilotM):PilotM:={s with work:={s.work with settled:=true}}
def setStep (now:Int) (t:PilotM) (x:Int×AskM):PilotM:=if z5u t.work.te t.work.ts x.2=true then(askStep now t x).setD else askStep now t x
theorem zfJ (now:Int) (n:Nat) (s:PilotM) (x:Int×AskM) (h:PilOk (n+1) s):PilOk n (setStep now s x):=by
 unfold setStep
 have h2:=z2v now n s x h
 split
 ·exact⟨h2.last,h2.few,h2.st0,h2.st8⟩
 ·exact h2
abbrev PilotM.settleS (s:PilotM):PilotM:={s with calls:=s.calls.drop,work:={s.work with next:=some .settle,leasing:=false,settled:=false}}
abbrev PilotM.enterSettle (s:PilotM) (now:Int):PilotM:=if(s.setL.length==0)=true then s.settleS.ready now else j4 (setStep now) s.settleS s.setL s.setL.length
theorem zbN (known:List Bool) (rs:List Rec):(z4a known rs).length<=known.length:=by
 unfold z4a soL
 exact Nat.le_trans (List.length_filter_le _ _) (z1O known 63 known.length)
theorem zhA (e q e' q':Int) (x y:Operand) (W:World):(do eqGuard .eql 52 x y (.agg (List.toArray [.int .i64 e,.int .i64 q])) (.agg (List.toArray [.int .i64 e',.int .i64 q']));binOp .eql 52 (.agg (List.toArray [.int .i64 e,.int .i64 q])) (.agg (List.toArray [.int .i64 e',.int .i64 q'])):Sem Value).run Tryz.prog W= .ok (.bool (e==e'&&q==q')) W:=by
 go_simp
 repeat' split
 all_goals simp_all
theorem z5z (p:Nat) (s:PilotM) (now:Int) (hs:PilOk 200 s) (hr:yn s.N s.S=true) (hc1:0<=s.work.column) (hc2:s.work.column<s.N-1) (hk:s.work.op.kind≠3) (hkn:s.work.known.length<=6) (hrl:s.work.records.length=s.work.known.length):
  zi Tryz.prog 262 #[.pointer (some ⟨p,0,none⟩),.int .i64 now] [zy p s] fun r K=>r= .tuple #[]/\K=[zy p (s.enterSettle now)]:=by
 intro F0 w0 w R H
 try simp only[xNf]at H
 obtain⟨s1,h1⟩:=xG (s.enter (some .settle))
 obtain⟨s2,h2⟩:=xG (s.settleS)
 have h12:s2={s1 with work:={s1.work with settled:=false}}:=by rw[<-h1,<-h2]
 have hok:PilOk 200 s2:=by rw[<-h2];exact⟨hs.last,hs.few,hs.st0,hs.st8⟩
 have hRD:=z7B p s2 now (hok.less (by omega)) (by rw[<-h2];exact hr) (by rw[<-h2];exact hc1) (by rw[<-h2];exact hc2) (by rw[<-h2];exact hk) (by rw[<-h2];exact hkn) (by rw[<-h2];exact hrl)
 have hA:=fun v1 v2=>zfS s1.work.stripe s1.work.epoch s1.work.known s1.work.records v1 v2 (by rw[<-h1];exact hkn) (by rw[<-h1];exact hrl)
 have hln:(z4a s1.work.known s1.work.records).length<=6:=Nat.le_trans (zbN _ _) (by rw[<-h1];exact hkn)
 have hl1:s.setL=(z4a s1.work.known s1.work.records).map fun i:Nat=>((i:Int),zjH s1.work.stripe s1.work.epoch s1.work.known s1.work.records i):=by rw[<-h1];rfl
 obtain⟨g,hg⟩:=xG (z4a s1.work.known s1.work.records)
 obtain⟨f,hf⟩:=xG (zjH s1.work.stripe s1.work.epoch s1.work.known s1.work.records)
 obtain⟨n,hn⟩:=xG (g.length)
 rw[hg,hf]at hl1 hA
 rw[hg,hn]at hln
 rw[hn]at hA
 obtain⟨l,hl⟩:=xG (s.setL)
 have hll:l.length=n:=by rw[<-hl,hl1,List.length_map,hn]
 unfold PilotM.enterSettle
 rw[h2,hl,hll]
 have hlx:l=g.map fun i:Nat=>((i:Int),f i):=by rw[<-hl,hl1]
 obtain⟨sr,hsr⟩:=xG (s2.ready now)
 rw[hsr]at hRD⊢
 obtain⟨sf,hsf⟩:=xG ((if(n==0)=true then sr else j4 (setStep now) s2 l n))
 rw[hsf]
 have HF:=Lib.hid hsf
 have HRD:=Lib.hid hRD
 have HA:=Lib.hid hA
 have H1:=Lib.hid h1
 have H12:=Lib.hid h12
 have HK:=Lib.hid hok
 have HN:=Lib.hid hn
 have HL:=Lib.hid hlx
 have HLL:=Lib.hid hll
 clear h1 h2 h12 hok hRD hA hl1 hg hf hn hl hlx hll hs hr hc1 hc2 hk hkn hrl hsr hsf
 go_enter Tryz.func262,Tryz.ntmps262
 go_upto_region 2 with(first
  |(go_at_call 157;revert H;refine zi.use (jh _ _ (some .settle)) pks ?_;rintro _ _ w ⟨rfl,rfl⟩ H;try simp only[xNf]at H;rw[H1.out]at H;obtain⟨bc,kn,re,rd,wv,up,as_,H⟩:=zy.parts .head H)
  |first|refine xLd H ?_|(refine xEf H ?_;clear H;intro b A' w H))
 refine xRg [16] (fun L=>[L,[]]) H ?_
 clear H;intro w H
 have HS:=H
 refine xO 0 0 HS ?_
 refine xO 1 0 HS ?_
 refine xO 2 0 HS ?_
 refine xL 3 0 HS ?_ (hin:=(.stop (n:=22) hd (by kernel_rfl)))
 refine xO 4 0 HS ?_
 refine xO 5 0 HS ?_
 refine xO 6 0 HS ?_
 refine xL 7 0 HS ?_ (hin:=(.stop (n:=22) hd (by kernel_rfl)))
 refine xO 8 0 HS ?_
 refine xO 9 0 HS ?_
 refine xO 10 0 HS ?_
 refine xL 11 0 HS ?_ (hin:=(.stop (n:=22) hd (by kernel_rfl)))
 refine xO 12 0 HS ?_
 refine xO 13 0 HS ?_
 refine xO 14 0 HS ?_
 refine xL 15 0 HS ?_ (hin:=(.stop (n:=22) hd (by kernel_rfl)))
 clear HS
 refine tk1 16 1 (fun K' hK=>?_)
 go_simp;revert H;refine zi.use (HA.out _ _) pks ?_;rintro _ _ w ⟨A1,c1,A2,c2,rfl,rfl⟩ H;try simp only[xNf]at H
 refine hK _ _ (H.sub sbn) (fun HS=>?_)
 clear hK K'
 try simp only[xPt]
 refine xO 17 1 HS ?_
 refine xO 18 1 HS ?_
 refine xO 19 1 HS ?_
 refine xO 20 1 HS ?_
 refine xO 21 1 HS ?_
 refine xD ?_
 have H2:Sep F0 w0 _ (zy p s1::zh 3 1 (.slice A1 n c1) n (g.map z5E)::zh 110 9 (.slice A2 n c2) n (zd AskM.cells (g.map f))::R):=zy.join bc kn re rd wv up as_ (H.sub sba) rfl
 clear H HA
 have H:=H2
 clear H2
 go_wp2_with (first|(refine zr (by rfl) (fun K' hK=>?_);refine jo H (ht:=j7 ({s1 with work:={s1.work with settled:=false}}) pk ltk (fun h=>by rfl) (by rfl)) ?_;clear H;intro w H;refine hK _ _ ?_;clear hK K')|first|refine xLd H ?_|(refine xEf H ?_;clear H;intro b A' w H))
 rw[<-H12.out]at H
 clear H12 H1
 go_loopw [41] (fun v41 wr=>∃k:Nat,k<=n/\v41= .int .i64 k/\Sep F0 w0 wr (zy p (j4 (setStep now) s2 l k)::zh 3 1 (.slice A1 n c1) n (g.map z5E)::zh 110 9 (.slice A2 n c2) n (zd AskM.cells (g.map f))::R)) (fun v41 _=>n-(intOf v41).toNat)
 case atStart=>
  refine⟨0,Nat.zero_le _,rfl, ?_⟩
  show Sep F0 w0 _ (zy p s2::_)
  exact H.sub sb
 case round=>
  clear H
  obtain⟨k,hk,rfl,H⟩:=hrel
  by_cases hlt:k<n
  ·obtain⟨i,hx⟩:∃x,g[k]?=some x:=⟨_,List.getElem?_eq_getElem (by rw[HN.out];exact hlt)⟩
   have hlk:l[k]?=some ((i:Int),f i):=by rw[HL.out,List.getElem?_map,hx];rfl
   have hnx:=z2U (step:=setStep now) (s:=s2) hlk
   have hokt:PilOk 1 (j4 (setStep now) s2 l k):=z1G (zfJ now) k (HK.out.less (by omega))
   obtain⟨t,ht⟩:=xG (j4 (setStep now) s2 l k)
   rw[ht]at hnx hokt H
   obtain⟨q,hq⟩:=xG (f i)
   rw[hq]at hnx
   have hND:=z5y p t (i:Int)
   have hst:(askStep now t ((i:Int),q))=t.ask now (z3t t.N t.S t.work.stripe i) q:=rfl
   have hte:(askStep now t ((i:Int),q)).work=t.work:=(t.ask_same now _ q).1
   obtain⟨nd,hnd⟩:∃x,z3t t.N t.S t.work.stripe (i:Int)=x:=⟨_,rfl⟩
   rw[hnd]at hND hst
   have hAK:=z2l p t now nd q hokt.last (by have:=hokt.few;omega)
   rw[<-hst]at hAK
   have hss:setStep now t ((i:Int),q)=if z5u t.work.te t.work.ts q=true then(askStep now t ((i:Int),q)).setD else askStep now t ((i:Int),q):=rfl
   rw[hss]at hnx
   clear hss
   obtain⟨t1,ht1⟩:∃x,askStep now t ((i:Int),q)=x:=⟨_,rfl⟩
   rw[ht1]at hnx hAK hte
   rw[<-hte]at hnx
   have HAK:=Lib.hid hAK
   have HND:=Lib.hid hND
   have HC:=Lib.hid (show(g.map z5E)[k]?=some (.int .i64 (i:Int))from z0v hx)
   have HQ:=Lib.hid (show(g.map f)[k]?=some q by rw[List.getElem?_map,hx,<-hq];rfl)
   obtain⟨g1,c1',hA⟩:=zz (n:=n) (v:=.slice A1 n c1) H pk (by omega)
   cases hA
   obtain⟨g2,c2',hA⟩:=zz (n:=n) (v:=.slice A2 n c2) H pk (by omega)
   cases hA
   obtain⟨te,hte⟩:=xG (t1.work.te)
   obtain⟨ts,hts⟩:=xG (t1.work.ts)
   rw[hte,hts]at hnx
   have HNX:=Lib.hid hnx
   have HTE:=Lib.hid hte
   have HTS:=Lib.hid hts
   clear hnx hokt ht hND hnd hx hAK hst ht1 hlk hte hts hq
   go_upto_region 7 with(first|(refine ldr H (hh:=(by first|exact yd pk (by first|exact HQ.out) AskM.cells_length (by rfl) (ze (by rfl))|exact yq pk (by first|exact HQ.out) AskM.cells_length (by rfl) (ze (by rfl)))) ?_)|first|refine xLd H ?_|(refine xEf H ?_;clear H;intro b A' w H))
   refine xRg [9] (fun L=>[L,[]]) H ?_
   clear H;intro w H
   have HS:=H
   refine xO 0 0 HS ?_
   refine xO 1 0 HS ?_
   refine xO 2 0 HS ?_
   refine xO 3 0 HS ?_
   refine xO 4 0 HS ?_
   refine xO 5 0 HS ?_
   refine xL 6 0 HS ?_ (hin:=(.stop (n:=10) (zn pk HC.out) (by kernel_rfl)))
   refine xV 8 0 HS ?_ (hin:=(.stop (n:=10) hdV (by kernel_rfl)))
   refine xC 7 0 HND.out H ?_
   clear H HS;intro w H HS
   refine xC 9 1 HAK.out H ?_
   clear H HS;intro w H HS
   refine xD ?_
   go_upto_region 8 with(first|refine xLd H ?_|(refine xEf H ?_;clear H;intro b A' w H))
   obtain⟨qk,qs,qe,qq,qm,qn,qoe,qoq,qb⟩:=q
   cases hm:(qm==1)with
   |false=>
    have HM:=Lib.hid hm
    have hb:z5u te ts ⟨qk,qs,qe,qq,qm,qn,qoe,qoq,qb⟩=false:=by unfold z5u;rw[hm];rfl
    rw[hb,if_neg (by decide)]at HNX
    clear hm hb
    refine xRg [] (fun L=>[L]) H ?_
    clear H;intro w H
    have HS:=H
    refine xO 0 0 HS ?_
    refine xL 1 0 HS ?_
    refine xO 2 0 HS ?_ (v:=(.bool false)) (hy:=by(intro W;rw[<-HM.out];go_simp))
    refine xO 3 0 HS ?_
    refine xN 4 0 HS ?_
    refine xN 5 0 HS ?_
    refine xN 6 0 HS ?_
    refine xN 7 0 HS ?_
    refine xN 8 0 HS ?_
    refine xN 9 0 HS ?_
    refine xN 10 0 HS ?_
    refine xO 11 0 HS ?_
    refine xD ?_
    go_wp2
    go_roundw
    case rel=>
     refine⟨k+1,by omega,by go_num, ?_⟩
     rw[HNX.out]
     exact H.sub sb
    case measure=>simp[intOf];omega
   |true=>
    have HM:=Lib.hid hm
    have hb:z5u te ts ⟨qk,qs,qe,qq,qm,qn,qoe,qoq,qb⟩=(qoe==te&&qoq==ts):=by unfold z5u;rw[hm];rfl
    rw[hb]at HNX
    clear hm hb
    cases ht:(qoe==te&&qoq==ts)with
    |false=>
     rw[ht,if_neg (by decide)]at HNX
     have HT:=Lib.hid (zhA qoe qoq te ts)
     rw[ht]at HT
     clear ht
     refine xRg [] (fun L=>[L]) H ?_
     clear H;intro w H
     have HS:=H
     refine xO 0 0 HS ?_
     refine xL 1 0 HS ?_
     refine xO 2 0 HS ?_ (v:=(.bool true)) (hy:=by(intro W;rw[<-HM.out];go_simp))
     refine xO 3 0 HS ?_
     refine xO 4 0 HS ?_
     refine xV 5 0 HS ?_ (hin:=(.last (zg (cs:=[.int .i64 qoe,.int .i64 qoq]) 2 pk (by rfl) (ze (by rfl)))))
     refine xO 6 0 HS ?_
     refine xO 7 0 HS ?_
     refine xO 8 0 HS ?_
     refine xV 9 0 HS ?_ (hin:=(.last (z2p (cs:=[.int .i64 te,.int .i64 ts]) 2 pk (fun _=>by rw[<-HTE.out,<-HTS.out];rfl) (ze (by rfl)))))
     refine xO 10 0 HS ?_ (v:=(.bool false)) (hy:=by(intro W;exact yg rfl rfl rfl (HT.out _ _ W)))
     refine xO 11 0 HS ?_
     refine xD ?_
     go_wp2
     go_roundw
     case rel=>
      refine⟨k+1,by omega,by go_num, ?_⟩
      rw[HNX.out]
      exact H.sub sb
     case measure=>simp[intOf];omega
    |true=>
     rw[ht,if_pos rfl]at HNX
     have HT:=Lib.hid (zhA qoe qoq te ts)
     rw[ht]at HT
     clear ht
     refine xRg [] (fun L=>[L]) H ?_
     clear H;intro w H
     have HS:=H
     refine xO 0 0 HS ?_
     refine xL 1 0 HS ?_
     refine xO 2 0 HS ?_ (v:=(.bool true)) (hy:=by(intro W;rw[<-HM.out];go_simp))
     refine xO 3 0 HS ?_
     refine xO 4 0 HS ?_
     refine xV 5 0 HS ?_ (hin:=(.last (zg (cs:=[.int .i64 qoe,.int .i64 qoq]) 2 pk (by rfl) (ze (by rfl)))))
     refine xO 6 0 HS ?_
     refine xO 7 0 HS ?_
     refine xO 8 0 HS ?_
     refine xV 9 0 HS ?_ (hin:=(.last (z2p (cs:=[.int .i64 te,.int .i64 ts]) 2 pk (fun _=>by rw[<-HTE.out,<-HTS.out];rfl) (ze (by rfl)))))
     refine xO 10 0 HS ?_ (v:=(.bool true)) (hy:=by(intro W;exact yg rfl rfl rfl (HT.out _ _ W)))
     refine xO 11 0 HS ?_
     refine xD ?_
     go_wp2_with (first|(refine zr (by rfl) (fun K' hK=>?_);refine jo H (ht:=j7 (t1.setD) pk ltk (fun h=>by rfl) (by rfl)) ?_;clear H;intro w H;refine hK _ _ ?_;clear hK K')|first|refine xLd H ?_|(refine xEf H ?_;clear H;intro b A' w H))
     go_roundw
     case rel=>
      refine⟨k+1,by omega,by go_num, ?_⟩
      rw[HNX.out]
      exact H.sub sb
     case measure=>simp[intOf];omega
  ·obtain rfl:k=n:=by omega
   have hz:((k:Int)==0)=(k==0):=by
    cases h:(k==0)
    ·simp at h⊢;omega
    ·simp at h⊢;omega
   cases d0:(k==0)with
   |true=>
    rw[d0]at hz
    have e9:sr=sf:=by rw[<-HF.out,d0,if_pos rfl]
    have HRD2:=HRD.out
    rw[e9]at HRD2
    have HRD:=Lib.hid HRD2
    clear HRD2
    have e0:j4 (setStep now) s2 l k=s2:=by
     have:k=0:=by simpa using d0
     rw[this];rfl
    rw[e0]at H
    clear d0 e0 e9 HF
    go_wp2_with (first|(go_at_call 276;refine xT2 (HRD.out) H ?_;clear H;intro w H)|first|refine xLd H ?_|(refine xEf H ?_;clear H;intro b A' w H))
    refine xRe ?_
    exact xF H
   |false=>
    rw[d0]at hz
    have e9:j4 (setStep now) s2 l k=sf:=by rw[<-HF.out,d0,if_neg (by decide)]
    rw[e9]at H
    clear d0 HRD e9 HF
    go_wp2_with (first|refine xLd H ?_|(refine xEf H ?_;clear H;intro b A' w H))
    refine xRe ?_
    exact xF H
section
theorem z0L {α:Type} {f:α->List Value} (a b:List α):zd f (a++b)=zd f a++zd f b:=by simp[zd]
theorem z85 {α:Type} {f:α->List Value} {z:Nat} (hz:∀x,(f x).length=z):∀l:List α,(zd f l).length=l.length*z
 |[]=>by simp[zd]
 |x::l=>by
  rw[show x::l=[x]++l from rfl,z0L,List.length_append,z85 hz l,List.length_append,Nat.add_mul]
  simp[zd,hz]
theorem zbh {α:Type} {f:α->List Value} {z:Nat} (hz:∀x,(f x).length=z) {ls:List α} {i:Nat} (y:α) (hi:i<ls.length):setFrom (zd f ls) (i*z) (f y)=zd f (ls.set i y):=by
 have e:ls=ls.take i++([ls[i]]++ls.drop (i+1)):=by simp
 have e1:zd f [ls[i]]=f ls[i]:=by simp[zd]
 have e2:zd f [y]=f y:=by simp[zd]
 have hl:(zd f (ls.take i)).length=i*z:=by rw[z85 hz,List.length_take,Nat.min_eq_left (by omega)]
 have hb:zd f ls=zd f (ls.take i)++(f ls[i]++zd f (ls.drop (i+1))):=by
  conv=>lhs;rw[e]
  rw[z0L,z0L,e1]
 rw[List.set_eq_take_append_cons_drop,if_pos hi,show y::ls.drop (i+1)=[y]++ls.drop (i+1)from rfl,z0L,z0L,e2,hb]
 rw[z1Q _ _ _ (by simp only[List.length_append,hz,hl];omega),List.take_left' hl,<-List.append_assoc (zd f (ls.take i)) (f ls[i]),List.drop_left' (by rw[List.length_append,hl,hz,hz]),List.append_assoc]
section
variable {L L':List Assn} {g c n i o:Nat} {ls:List Rec} {cs:List Value}
theorem zfu (y:Rec) (hp:Pick (zh 54 10 (.slice (some ⟨g,0,none⟩) n c) n (zd Rec.cells ls)) L L') (hi:i<ls.length) (ho:o=i*10) (hc:cs=y.cells):z1Z L g o cs (zh 54 10 (.slice (some ⟨g,0,none⟩) n c) n (zd Rec.cells (ls.set i y))::L'):=by
 subst ho hc
 rw[<-zbh Rec.cells_length y hi]
 refine z5t hp ?_
 rw[z85 Rec.cells_length,Rec.cells_length]
 omega
theorem zft (y:Bool) {bs:List Bool} (hp:Pick (zh 4 1 (.slice (some ⟨g,0,none⟩) n c) n (bs.map Value.bool)) L L') (hi:i<bs.length) (ho:o=i):z0m L g o (.bool y) (zh 4 1 (.slice (some ⟨g,0,none⟩) n c) n ((bs.set i y).map Value.bool)::L'):=by
 subst ho
 rw[List.map_set]
 exact z2h hp (by rw[List.length_map];exact hi)
end
abbrev PilotM.fenced (s:PilotM) (c:Nat) (r:Rec):PilotM:={s with work:={s.work with known:=s.work.known.set c true,records:=s.work.records.set c r}}
abbrev PilotM.onFence (s:PilotM) (now node:Int) (y:SayM):PilotM:=
 if jd y true=true then s.refuse now node y true
 else if(s.calls.opn.length==0)=true then(s.fenced (z4c s.N s.S s.work.stripe node).toNat y.rcd).enterSettle now else s.fenced (z4c s.N s.S s.work.stripe node).toNat y.rcd
theorem zap (p:Nat) (s:PilotM) (now node:Int) (q:AskM) (y:SayM) (hs:PilOk 200 s) (hr:yn s.N s.S=true) (hc1:0<=s.work.column) (hc2:s.work.column<s.N-1) (hk:s.work.op.kind≠3) (hkn:(s.work.known.length:Int)=s.N) (hrl:s.work.records.length=s.work.known.length) (hcol:0<=z4c s.N s.S s.work.stripe node):
  zi Tryz.prog 238 #[.pointer (some ⟨p,0,none⟩),.int .i64 now,.int .i64 node,q.v,y.v] [zy p s] fun r K=>r= .tuple #[]/\K=[zy p (s.onFence now node y)]:=by
 intro F0 w0 w R H
 try simp only[xNf]at H
 obtain⟨r1,r2,r3,r4⟩:=yc.1 hr
 have hRF:=z1k p s now node y true (hs.less (by omega))
 have hcr:=z2t (s:=s.work.stripe) (n:=node) hr
 have hCO:=z17 p s node
 unfold PilotM.onFence
 cases hb:jd y true with
 |true=>
  rw[if_pos rfl]
  rw[hb]at hRF
  obtain⟨s3,h3⟩:=xG (s.refuse now node y true)
  rw[h3]at hRF⊢
  have HRF:=Lib.hid hRF
  clear hRF h3 hb hs hr hc1 hc2 hk hkn hrl hcol hcr hCO r1 r2 r3 r4
  go_enter Tryz.func238,Tryz.ntmps238
  go_wp2_with (first|(go_at_call 261;refine xT2 (HRF.out) H ?_;clear H;intro w H)|first|refine xLd H ?_|(refine xEf H ?_;clear H;intro b A' w H))
  refine xRz ?_
  exact xF H
 |false=>
  rw[if_neg (by decide)]
  rw[hb]at hRF
  have h3:s.refuse now node y true=s:=by unfold PilotM.refuse;rw[hb,if_neg (by decide)]
  rw[h3]at hRF
  obtain⟨c,hc⟩:∃c:Nat,z4c s.N s.S s.work.stripe node=c:=⟨(z4c s.N s.S s.work.stripe node).toNat,by omega⟩
  have hct:(z4c s.N s.S s.work.stripe node).toNat=c:=by omega
  rw[hct]
  rw[hc]at hCO
  have hck:c<s.work.known.length:=by omega
  have hcr2:c<s.work.records.length:=by omega
  obtain⟨s2,h2⟩:=xG (s.fenced c y.rcd)
  have hRD:=z5z p s2 now (by rw[<-h2];exact⟨hs.last,hs.few,hs.st0,hs.st8⟩) (by rw[<-h2];exact hr) (by rw[<-h2];exact hc1) (by rw[<-h2];exact hc2) (by rw[<-h2];exact hk) (by rw[<-h2];show(s.work.known.set c true).length<=6;rw[List.length_set];omega) (by rw[<-h2];show(s.work.records.set c y.rcd).length=(s.work.known.set c true).length;rw[List.length_set,List.length_set];exact hrl)
  rw[h2]
  obtain⟨s4,h4⟩:=xG (s2.enterSettle now)
  rw[h4]at hRD⊢
  obtain⟨n,hn⟩:=xG (s.calls.opn.length)
  have hOP:=fun c=>z2s c s.calls
  rw[hn]at hOP⊢
  obtain⟨sf,hsf⟩:=xG ((if(n==0)=true then s4 else s2))
  rw[hsf]
  have HF:=Lib.hid hsf
  obtain⟨rc,hrc⟩:=xG (y.rcd)
  rw[hrc]at h2
  obtain⟨nk,hnk⟩:=xG (s.work.known.length)
  obtain⟨nr,hnr⟩:=xG (s.work.records.length)
  have hcn1:(c:Int)<nk:=by omega
  have hcn2:(c:Int)<nr:=by omega
  have H2:=Lib.hid h2
  have HOP:=Lib.hid hOP
  have HRF:=Lib.hid hRF
  have HRD:=Lib.hid hRD
  have HCO:=Lib.hid hCO
  have HCK:=Lib.hid hck
  have HCR:=Lib.hid hcr2
  have HNK:=Lib.hid hnk
  have HNR:=Lib.hid hnr
  obtain⟨yst,yep,you,yrc⟩:=y
  dsimp only at hrc
  subst hrc
  clear hRF hRD h2 h3 h4 hb hs hr hc1 hc2 hk hkn hrl hcol hcr hCO r1 r2 r3 r4 hn hOP hck hcr2 hc hct hnk hnr hsf
  go_enter Tryz.func238,Tryz.ntmps238
  go_upto_region 3 with(first
   |(refine xNt 112 H ?_;clear H;intro by9 w H)
   |(go_at_call 261;refine xT2 (HRF.out) H ?_;clear H;intro w H)
   |(go_at_call 205;refine xT2 (HCO.out) H ?_;clear H;intro w H)
   |first|refine xLd H ?_|(refine xEf H ?_;clear H;intro b A' w H))
  obtain⟨bc,kn,re,rd,wv,up,as_,H⟩:=zy.parts pk H
  rw[HNK.out,HNR.out]at H
  obtain⟨g1,c1,hA⟩:=zz (n:=nk) (v:=kn) H pk (by omega)
  cases hA
  obtain⟨g2,c2,hA⟩:=zz (n:=nr) (v:=re) H pk (by omega)
  cases hA
  refine xRg [15,17] (fun L=>[L,[z7 by9 112 (SayM.cells ⟨yst,yep,you,yrc⟩)],[z7 by9 112 (SayM.cells ⟨yst,yep,you,yrc⟩)]]) H ?_
  clear H;intro w H
  have HS:=H
  refine xO 0 0 HS ?_
  refine xO 1 0 HS ?_
  refine xO 2 0 HS ?_
  refine xO 3 0 HS ?_
  refine xL 4 0 HS ?_ (hin:=(.stop (n:=18) hd (by kernel_rfl)))
  refine xO 5 0 HS ?_
  refine xO 6 0 HS ?_
  refine xO 7 0 HS ?_
  refine xO 8 0 HS ?_
  refine xO 9 0 HS ?_
  refine xL 10 0 HS ?_ (hin:=(.stop (n:=18) hd (by kernel_rfl)))
  refine xO 11 0 HS ?_
  refine xO 12 0 HS ?_
  refine xV 13 0 HS ?_ (hin:=(.go (by first|exact z0y pk (ze (by rfl))|exact zg (cs:=yrc.cells) 10 pk (by rfl) (ze (by rfl))|exact z0V (cs:=yrc.cells) 10 pk (by rfl) (ze (by rfl))) (.stop (n:=18) (by first|exact z0y pk (ze (by rfl))|exact zg (cs:=yrc.cells) 10 pk (by rfl) (ze (by rfl))|exact z0V (cs:=yrc.cells) 10 pk (by rfl) (ze (by rfl))) (by kernel_rfl))))
  refine xO 14 0 HS ?_
  clear HS
  refine tk1 15 1 (fun K' hK=>?_)
  (refine jo H (ht:=zft true pk HCK.out (by first|rfl|omega)) ?_;clear H;intro w H)
  refine hK _ _ (H.sub sbn) (fun HS=>?_)
  clear hK K'
  try simp only[xPt]
  refine xO 16 1 HS ?_
  clear HS
  refine tk1 17 2 (fun K' hK=>?_)
  (refine z6S H (ht:=zfu yrc pk HCR.out (by first|rfl|omega) rfl) ?_;clear H;intro w H)
  refine hK _ _ (H.sub sbn) (fun HS=>?_)
  clear hK K'
  try simp only[xPt]
  refine xD ?_
  all_goals
   cases d0:(n==0)with
   |true=>
    have e9:s4=sf:=by rw[<-HF.out,d0,if_pos rfl]
    have HRD2:=HRD.out
    rw[e9]at HRD2
    have HRD:=Lib.hid HRD2
    clear HRD2 e9
    have d00:((n:Int)==0)=true:=by simp at d0⊢;omega
    go_upto_region 5 with(first|(go_at_call 113;refine xT2 (HOP.out _) H ?_;clear H;intro w H)|first|refine xLd H ?_|(refine xEf H ?_;clear H;intro b A' w H))
    have H3:Sep F0 w0 w (zy p s2::R):=by
     rw[<-H2.out]
     exact zy.join (s:=s.fenced c yrc) bc (.slice (some ⟨g1,0,none⟩) nk c1) (.slice (some ⟨g2,0,none⟩) nr c2) rd wv up as_ (H.sub sba) (by kernel_rfl) (e1:=by show nk=(s.work.known.set c true).length;rw[List.length_set,HNK.out]) (e2:=by show nr=(s.work.records.set c yrc).length;rw[List.length_set,HNR.out])
    clear H
    have H:=H3
    clear H3
    go_wp2_with (first|(go_at_call 262;refine xT2 (HRD.out) H ?_;clear H;intro w H)|first|refine xLd H ?_|(refine xEf H ?_;clear H;intro b A' w H))
    refine xRe ?_
    exact xF H
   |false=>
    have e9:s2=sf:=by rw[<-HF.out,d0,if_neg (by decide)]
    have d00:((n:Int)==0)=false:=by simp at d0⊢;omega
    go_wp2_with (first|(go_at_call 113;refine xT2 (HOP.out _) H ?_;clear H;intro w H)|first|refine xLd H ?_|(refine xEf H ?_;clear H;intro b A' w H))
    have H3:Sep F0 w0 w (zy p s2::R):=by
     rw[<-H2.out]
     exact zy.join (s:=s.fenced c yrc) bc (.slice (some ⟨g1,0,none⟩) nk c1) (.slice (some ⟨g2,0,none⟩) nr c2) rd wv up as_ (H.sub sba) (by kernel_rfl) (e1:=by show nk=(s.work.known.set c true).length;rw[List.length_set,HNK.out]) (e2:=by show nr=(s.work.records.set c yrc).length;rw[List.length_set,HNR.out])
    refine xRe ?_
    rw[e9]at H3
    exact⟨_,_,rfl,⟨rfl,rfl⟩,H3.sub sba⟩
end
theorem zha:(Tryz.prog.info? 181).bind (·.zero)=some (.agg (List.toArray (WorkM.nil.cells 0 h00))):=by kernel_rfl
theorem zhd:(Tryz.prog.info? 173).bind (·.zero)=some (.agg (List.toArray OpM.nil.cells)):=by kernel_rfl
theorem z3P:(Tryz.prog.info? 288).bind (·.zero)=some (.agg (List.toArray [.int .i64 0,.int .i64 0,.int .i64 0])):=by kernel_rfl
abbrev z4n (op:OpM) (st co:Int):WorkM:={WorkM.nil with op:=op,stripe:=st,column:=co,out:=-1}
theorem z8f (op:OpM) (W:World):(Instr.build 181 #[(0,.agg op.cells.toArray),(7,.int .i64 (-1))]).run Tryz.prog W= .ok (.agg ((z4n op 0 0).cells 0 h00).toArray) W:=by kernel_rfl
structure OpOk (N S:Int) (op:OpM):Prop where
 has:inZ N S op.at_=true
 kind:(op.kind=1/\op.data=noB)\/(op.kind=2/\op.data.size=16)
abbrev z0s (N S b:Int):Int:=(ofG N S b).1
abbrev z1M (N S b:Int):Int:=(ofG N S b).2.1
theorem zdF (p:Nat) (s:PilotM) (op:OpM) (hr:yn s.N s.S=true) (ho:OpOk s.N s.S op):zi Tryz.prog 166 #[.pointer (some ⟨p,0,none⟩),op.v] [zy p s]
  fun r K=>r= .tuple #[.agg ((z4n op (z0s s.N s.S op.at_) (z1M s.N s.S op.at_)).cells 0 h00).toArray,.bool true]/\K=[zy p s]:=by
 intro F0 w0 w R H
 try simp only[xNf]at H
 obtain⟨ok,oa,od⟩:=op
 have hP:=zdB s.N s.S oa hr
 have hin:(ofG s.N s.S oa).2.2.2=0:=by unfold ofG;rw[if_pos (show inZ s.N s.S oa=true from ho.has)]
 obtain⟨⟨g1,g2,g3,g4⟩,hg⟩:∃x,ofG s.N s.S oa=x:=⟨_,rfl⟩
 rw[hg]at hP hin
 have e1:z0s s.N s.S oa=g1:=by unfold z0s;rw[hg]
 have e2:z1M s.N s.S oa=g2:=by unfold z1M;rw[hg]
 dsimp only at hP hin⊢
 rw[e1,e2]
 subst hin
 have HP:=Lib.hid hP
 rcases ho.kind with⟨h1,h2⟩|⟨h1,h2⟩
 ·dsimp only at h1 h2
  subst h1 h2
  have dt:noB.toList.isEmpty=true:=by rw[show noB=ByteArray.mk #[]from rfl,ByteArray.toList_eq];rfl
  clear hP ho hg e1 e2 hr
  go_enter Tryz.func166,Tryz.ntmps166
  go_upto_region 1 with(first|(refine xNt 173 H ?_;clear H;intro bo w H)|first|refine xLd H ?_|(refine xEf H ?_;clear H;intro b A' w H))
  go_upto_region 2 with(first|(refine xNt 181 H ?_;clear H;intro bw w H)|(refine z8 (v:=.agg ((z4n ⟨1,oa,noB⟩ 0 0).cells 0 h00).toArray) (by rfl) (zb (t:=181) rfl ?_) ?_;(·simp only[List.map_cons,List.map_nil];exact z8f _ _))|first|refine xLd H ?_|(refine xEf H ?_;clear H;intro b A' w H))
  go_upto_region 7 with(first|refine xLd H ?_|(refine xEf H ?_;clear H;intro b A' w H))
  refine xRg [11] (fun L=>[L,[]]) H ?_
  clear H;intro w H
  have HS:=H
  refine xO 0 0 HS ?_
  refine xO 1 0 HS ?_
  refine xO 2 0 HS ?_
  refine xV 3 0 HS ?_ (hin:=(.stop (n:=13) zmT (by kernel_rfl)))
  refine xO 4 0 HS ?_
  refine xL 5 0 HS ?_ (hin:=(.stop (n:=13) hdp (by kernel_rfl)))
  clear HS
  refine tk2 6 10 0 0 (fun K' hK=>?_) (fun K' hK=>?_)
  go_simp;revert H;refine zi.use HP.out pks ?_;rintro _ _ w ⟨rfl,rfl⟩ H;try simp only[xNf]at H
  refine hK _ _ (H.sub sbn) (fun HS=>?_)
  clear hK K'
  try simp only[xPt]
  refine xO 7 0 HS ?_
  refine xO 8 0 HS ?_
  refine xO 9 0 HS ?_
  clear HS
  refine tk1 10 0 (fun K' hK=>?_)
  (refine wal H ?_ (hz:=z3P);clear H;intro bp w H)
  refine hK _ _ (H.sub sbn) (fun HS=>?_)
  clear hK K'
  try simp only[xPt]
  refine xM 11 1 H ?_
  clear H HS;intro _ _ w H HS
  refine xO 12 1 HS ?_
  refine xD ?_
  rotate_left
  (refine wal H ?_ (hz:=z3P);clear H;intro bp w H)
  refine hK _ _ (H.sub sbn) (fun HS=>?_)
  clear hK K'
  try simp only[xPt]
  refine xC 6 0 HP.out H ?_
  clear H HS;intro w H HS
  refine xO 7 0 HS ?_
  refine xO 8 0 HS ?_
  refine xO 9 0 HS ?_
  refine xM 11 1 H ?_
  clear H HS;intro _ _ w H HS
  refine xO 12 1 HS ?_
  refine xD ?_
  rotate_left
  all_goals
   go_upto_region 8 with(first|refine xLd H ?_|(refine xEf H ?_;clear H;intro b A' w H))
   refine xRg [5,7] (fun L=>[L,L.take 1,L.take 1]) H ?_
   clear H;intro w H
   simp only[List.take_succ_cons,List.take_zero]
   have HS:=H
   refine xO 0 0 HS ?_
   refine xL 1 0 HS ?_ (hin:=(.stop (n:=8) hd (by kernel_rfl)))
   refine xO 2 0 HS ?_
   refine xL 3 0 HS ?_ (hin:=(.go hd (.stop (n:=8) hd (by kernel_rfl))))
   refine xO 4 0 HS ?_
   refine xM 5 1 H ?_
   clear H HS;intro _ _ w H HS
   refine xO 6 1 HS ?_
   refine xM 7 2 H ?_
   clear H HS;intro _ _ w H HS
   refine xD ?_
   all_goals
    go_wp2_with (first|refine xLd H ?_|(refine xEf H ?_;clear H;intro b A' w H))
    refine xR2 H ?_
    exact xF H
 ·dsimp only at h1 h2
  subst h1
  have d16:((od.size:Int)==16)=true:=by rw[h2];rfl
  clear hP ho hg e1 e2 hr h2
  go_enter Tryz.func166,Tryz.ntmps166
  go_upto_region 1 with(first|(refine xNt 173 H ?_;clear H;intro bo w H)|first|refine xLd H ?_|(refine xEf H ?_;clear H;intro b A' w H))
  go_upto_region 2 with(first|(refine xNt 181 H ?_;clear H;intro bw w H)|(refine z8 (v:=.agg ((z4n ⟨2,oa,od⟩ 0 0).cells 0 h00).toArray) (by rfl) (zb (t:=181) rfl ?_) ?_;(·simp only[List.map_cons,List.map_nil];exact z8f _ _))|first|refine xLd H ?_|(refine xEf H ?_;clear H;intro b A' w H))
  go_upto_region 7 with(first|refine xLd H ?_|(refine xEf H ?_;clear H;intro b A' w H))
  refine xRg [11] (fun L=>[L,[]]) H ?_
  clear H;intro w H
  have HS:=H
  refine xO 0 0 HS ?_
  refine xO 1 0 HS ?_
  refine xO 2 0 HS ?_
  refine xV 3 0 HS ?_ (hin:=(.stop (n:=13) zmT (by kernel_rfl)))
  refine xO 4 0 HS ?_
  refine xL 5 0 HS ?_ (hin:=(.stop (n:=13) hdp (by kernel_rfl)))
  clear HS
  refine tk2 6 10 0 0 (fun K' hK=>?_) (fun K' hK=>?_)
  go_simp;revert H;refine zi.use HP.out pks ?_;rintro _ _ w ⟨rfl,rfl⟩ H;try simp only[xNf]at H
  refine hK _ _ (H.sub sbn) (fun HS=>?_)
  clear hK K'
  try simp only[xPt]
  refine xO 7 0 HS ?_
  refine xO 8 0 HS ?_
  refine xO 9 0 HS ?_
  clear HS
  refine tk1 10 0 (fun K' hK=>?_)
  (refine wal H ?_ (hz:=z3P);clear H;intro bp w H)
  refine hK _ _ (H.sub sbn) (fun HS=>?_)
  clear hK K'
  try simp only[xPt]
  refine xM 11 1 H ?_
  clear H HS;intro _ _ w H HS
  refine xO 12 1 HS ?_
  refine xD ?_
  rotate_left
  (refine wal H ?_ (hz:=z3P);clear H;intro bp w H)
  refine hK _ _ (H.sub sbn) (fun HS=>?_)
  clear hK K'
  try simp only[xPt]
  refine xC 6 0 HP.out H ?_
  clear H HS;intro w H HS
  refine xO 7 0 HS ?_
  refine xO 8 0 HS ?_
  refine xO 9 0 HS ?_
  refine xM 11 1 H ?_
  clear H HS;intro _ _ w H HS
  refine xO 12 1 HS ?_
  refine xD ?_
  rotate_left
  all_goals
   go_upto_region 8 with(first|refine xLd H ?_|(refine xEf H ?_;clear H;intro b A' w H))
   refine xRg [5,7] (fun L=>[L,L.take 1,L.take 1]) H ?_
   clear H;intro w H
   simp only[List.take_succ_cons,List.take_zero]
   have HS:=H
   refine xO 0 0 HS ?_
   refine xL 1 0 HS ?_ (hin:=(.stop (n:=8) hd (by kernel_rfl)))
   refine xO 2 0 HS ?_
   refine xL 3 0 HS ?_ (hin:=(.go hd (.stop (n:=8) hd (by kernel_rfl))))
   refine xO 4 0 HS ?_
   refine xM 5 1 H ?_
   clear H HS;intro _ _ w H HS
   refine xO 6 1 HS ?_
   refine xM 7 2 H ?_
   clear H HS;intro _ _ w H HS
   refine xD ?_
   all_goals
    go_wp2_with (first|refine xLd H ?_|(refine xEf H ?_;clear H;intro b A' w H))
    refine xR2 H ?_
    exact xF H
def PilotM.new (N S num boot:Int):PilotM:=⟨N,S,⟨200+num,zv (boot*1048576),[]⟩,fun _=>PLease.nil,false,WorkM.nil,[],0,noB,0⟩
def zna (bc:Nat):PilotH:={h00 with bc:=bc}
theorem zjm (N S num boot:Int) (bc:Nat) (W:World):(Instr.build z4I #[(0,.agg #[.int .i64 N,.int .i64 S]),(1,.pointer (some ⟨bc,0,none⟩))]).run Tryz.prog W= .ok (.agg ((PilotM.new N S num boot).cells 0 (zna bc)).toArray) W:=by kernel_rfl
theorem zdC (N S num boot:Int) (hr:yn N S=true) (h0:0<=num) (h2:num<2) (b1:1<=boot) (b2:boot<=524287):
  zi Tryz.prog 53 #[.agg #[.int .i64 N,.int .i64 S],.int .i64 num,.int .i64 boot] [] fun r K=>∃p,r= .pointer (some ⟨p,0,none⟩)/\K=[zy p (PilotM.new N S num boot)]:=by
 intro F0 w0 w R H
 try simp only[xNf]at H
 have hR:=z9d N S
 rw[hr]at hR
 have HR:=Lib.hid hR
 have hw1:IntKind.i64.wrap (200+num)=200+num:=by rw[IntKind.wrap_i64];omega
 have hw2:IntKind.i64.wrap (boot*1048576)=boot*1048576:=by rw[IntKind.wrap_i64];omega
 have HN:=Lib.hid (zjh (200+num) (boot*1048576))
 have d1:decide (num<0)=false:=decide_eq_false (by omega)
 have d2:decide (num>=2)=false:=decide_eq_false (by omega)
 have d3:decide (boot<1)=false:=decide_eq_false (by omega)
 have d4:decide (boot>524287)=false:=decide_eq_false (by omega)
 have d2':decide ((2:Int)<=num)=false:=decide_eq_false (by omega)
 have d4':decide ((524287:Int)<boot)=false:=decide_eq_false (by omega)
 have HB:=Lib.hid (fun bc W=>zjm N S num boot bc W)
 clear hR hr
 go_enter Tryz.func53,Tryz.ntmps53
 go_upto_region 3 with(first|(refine xNt 23 H ?_;clear H;intro bg w H)|(go_at_call 42;refine xT2 (HR.out) H ?_;clear H;intro w H)|first|refine xLd H ?_|(refine xEf H ?_;clear H;intro b A' w H))
 refine xRg [] (fun L=>[L]) H ?_
 clear H;intro w H
 have HS:=H
 refine xV 0 0 HS ?_
 refine xO 1 0 HS ?_
 refine xO 2 0 HS ?_
 refine xO 3 0 HS ?_
 refine xO 4 0 HS ?_
 clear HS
 refine tk1 5 0 (fun K' hK=>?_)
 go_simp;revert H;refine zi.use HN.out pks ?_;rintro _ _ w ⟨bc,rfl,rfl⟩ H;try simp only[xNf]at H
 refine hK _ _ (H.sub sbn) (fun HS=>?_)
 clear hK K'
 try simp only[xPt]
 refine xO 6 0 HS ?_ (v:=(.agg ((PilotM.new N S num boot).cells 0 (zna bc)).toArray)) (hy:=by(intro W;exact zb (t:=z4I) rfl (HB.out bc W)))
 clear HS
 refine tk1 7 0 (fun K' hK=>?_)
 (refine wbx (ty:=z4I) H ?_;clear H;intro bp w H)
 refine hK _ _ (H.sub sbn) (fun HS=>?_)
 clear hK K'
 try simp only[xPt]
 refine xO 8 0 HS ?_
 refine xD ?_
 go_wp2
 refine xR1 H ?_
 replace H:=Sep.mk_pure (p:=True) trivial (Sep.mk_row_nil (e:=4) (size:=1) (Sep.mk_row_nil (e:=54) (size:=10) (Sep.mk_row_nil (e:=3) (size:=1) (Sep.mk_row_nil (e:=3) (size:=1) (Sep.mk_row_nil (e:=114) (size:=26) H)))))
 have H2:=H.sub (K:=z7 bp z4I ((PilotM.new N S num boot).cells 0 (zna bc))::yk bc ⟨200+num,zv (boot*1048576),[]⟩::zh 4 1 (.slice none 0 0) 0 []::zh 54 10 (.slice none 0 0) 0 []::zh 3 1 (.slice none 0 0) 0 []::zh 3 1 (.slice none 0 0) 0 []::z0w True::zh 114 26 (.slice none 0 0) 0 []::R) sb
 have H3:Sep F0 w0 _ (zy bp (PilotM.new N S num boot)::R):=zy.mk (zna bc) (r:=⟨⟨200+num,zv (boot*1048576),[]⟩,[],[],[],[],none,[]⟩) H2 (by kernel_rfl) rfl
 exact⟨_,_,rfl,⟨_,rfl,rfl⟩,H3.sub sba⟩
end Go.Proofs.YtmfincpagnpkjaaGreat
