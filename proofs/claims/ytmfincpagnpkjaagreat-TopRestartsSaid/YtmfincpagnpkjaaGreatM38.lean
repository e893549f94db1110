/- Part of the proof. -/
import Derived.Test.YtmfincpagnpkjaaGreatM37
set_option linter.all false
set_option maxRecDepth 100000
set_option maxHeartbeats 100000000
namespace Go.Proofs.YtmfincpagnpkjaaGreat
open Go.RowKit
theorem z19 (e o t:Int) (W:World):(Instr.build 170 #[(0,.bool true),(1,.int .i64 e),(2,.int .i64 o),(4,.int .i64 t)]).run Tryz.prog W= .ok (.agg (PLease.mk true e o 0 t).cells.toArray) W:=by kernel_rfl
abbrev PilotM.readyS (s:PilotM) (i:Nat):PilotM:={s with calls:=s.calls.drop,leases:=upL s.leases i ⟨true,s.work.epoch,s.work.out,0,s.work.entered⟩,work:={s.work with next:=none,leasing:=false}}
abbrev PilotM.didB (s:PilotM):Bool:=decide (0<(zmi s.work.known s.work.records s.work.te s.work.ts).length)
abbrev PilotM.sure (s:PilotM):PilotM:={s with work:={s.work with doubt:=false}}
abbrev PilotM.readied (s:PilotM) (now:Int):PilotM:=
 if s.work.doubt=true then(if(IntKind.i64.wrap (s.work.te+1) !=s.work.epoch)=true then s.fin 171 noS else if s.didB=true then s.fin 0 noS else if s.work.settled=true then s.fin 0 noS else s.sure.doWork now)else s.doWork now
abbrev PilotM.ready (s:PilotM) (now:Int):PilotM:=(s.readyS s.work.stripe.toNat).readied now
theorem z7B (p:Nat) (s:PilotM) (now:Int) (hs:PilOk 130 s) (hr:yn s.N s.S=true) (hc1:0<=s.work.column) (hc2:s.work.column<s.N-1) (hk:s.work.op.kind≠3) (hkn:s.work.known.length<=6) (hrl:s.work.records.length=s.work.known.length):
  zi Tryz.prog 276 #[.pointer (some ⟨p,0,none⟩),.int .i64 now] [zy p s] fun r K=>r= .tuple #[]/\K=[zy p (s.ready now)]:=by
 intro F0 w0 w R H
 try simp only[xNf]at H
 obtain⟨i,hst⟩:∃i:Nat,s.work.stripe=i:=⟨s.work.stripe.toNat,by have:=hs.st0;omega⟩
 have hi8:i<8:=by have:=hs.st8;omega
 have hI:(i:Int)<8:=by omega
 have hi:s.work.stripe.toNat=i:=by omega
 unfold PilotM.ready
 rw[hi]
 obtain⟨s1,h1⟩:=xG (s.readyS i)
 rw[h1]
 have hW:PilOk 130 s1:=by rw[<-h1];exact⟨hs.last,hs.few,hs.st0,hs.st8⟩
 have hD:=z3s p s1 now hW (by rw[<-h1];exact hr) (by rw[<-h1];exact hc1) (by rw[<-h1];exact hc2) (by rw[<-h1];exact hk)
 have hD2:=z3s p s1.sure now ⟨hW.last,hW.few,hW.st0,hW.st8⟩ (by rw[<-h1];exact hr) (by rw[<-h1];exact hc1) (by rw[<-h1];exact hc2) (by rw[<-h1];exact hk)
 have hDn:=fun v1 v2=>zfR s1.work.known s1.work.records s1.work.te s1.work.ts v1 v2 (by rw[<-h1];exact hkn) (by rw[<-h1];exact hrl)
 have hE:=fun e=>z1A p s1 e noS
 unfold PilotM.readied
 obtain⟨sa,ha⟩:=xG (s1.doWork now)
 obtain⟨sb',hb⟩:∃x,s1.sure.doWork now=x:=⟨_,rfl⟩
 rw[ha]at hD⊢
 rw[hb]at hD2⊢
 have HD:=Lib.hid hD
 have HD2:=Lib.hid hD2
 have HE:=Lib.hid hE
 have H1:=Lib.hid h1
 have HST:=Lib.hid hst
 clear hD hD2 hE ha hb hi hs hr hc1 hc2 hk hkn hrl hW h1 hst
 cases hdb:s1.work.doubt with
 |false=>
  rw[if_neg (by decide)]
  have HDB:=Lib.hid hdb
  clear hdb hDn
  go_enter Tryz.func276,Tryz.ntmps276
  go_upto_region 2 with(first|(go_at_call 157;refine xT2 (jh _ _ none) H ?_;clear H;intro w H)|first|refine xLd H ?_|(refine xEf H ?_;clear H;intro b A' w H))
  refine xRg [21] (fun L=>[L,[]]) H ?_
  clear H;intro w H
  have HS:=H
  refine xO 0 0 HS ?_
  refine xO 1 0 HS ?_
  refine xO 2 0 HS ?_
  refine xO 3 0 HS ?_
  refine xL 4 0 HS ?_ (hin:=(.stop (n:=22) (zj (v:=.int .i64 (i:Int)) pk (fun _=>by rw[<-HST.out];rfl)) (by kernel_rfl)))
  refine xO 5 0 HS ?_
  refine xO 6 0 HS ?_
  refine xO 7 0 HS ?_
  refine xL 8 0 HS ?_ (hin:=(.stop (n:=22) (zj (v:=.int .i64 s.work.epoch) pk (fun _=>by rfl)) (by kernel_rfl)))
  refine xO 9 0 HS ?_
  refine xO 10 0 HS ?_
  refine xO 11 0 HS ?_
  refine xL 12 0 HS ?_ (hin:=(.stop (n:=22) (zj (v:=.int .i64 s.work.out) pk (fun _=>by rfl)) (by kernel_rfl)))
  refine xO 13 0 HS ?_
  refine xO 14 0 HS ?_
  refine xO 15 0 HS ?_
  refine xL 16 0 HS ?_ (hin:=(.stop (n:=22) (zj (v:=.int .i64 s.work.entered) pk (fun _=>by rfl)) (by kernel_rfl)))
  refine xO 17 0 HS ?_ (v:=(.agg (PLease.mk true s.work.epoch s.work.out 0 s.work.entered).cells.toArray)) (hy:=by(intro W;exact zb (t:=170) rfl (z19 _ _ _ W)))
  refine xO 18 0 HS ?_
  refine xO 19 0 HS ?_
  refine xO 20 0 HS ?_
  clear HS
  refine tk1 21 1 (fun K' hK=>?_)
  (refine z6S H (ht:=j8 ⟨true,s.work.epoch,s.work.out,0,s.work.entered⟩ pk hi8 (by first|rfl|omega) rfl) ?_;clear H;intro w H)
  refine hK _ _ (H.sub sbn) (fun HS=>?_)
  clear hK K'
  try simp only[xPt]
  refine xD ?_
  have H2:Sep F0 w0 _ (zy p (s.readyS i)::R):=H
  rw[H1.out]at H2
  clear H
  have H:=H2
  clear H2
  go_wp2_with (first|(go_at_call 167;refine xT2 (HD.out) H ?_;clear H;intro w H)|(refine ldp H (v:=.bool false) (hh:=zj pk (fun _=>by rw[<-HDB.out];rfl)) ?_)|first|refine xLd H ?_|(refine xEf H ?_;clear H;intro b A' w H))
  refine xRe ?_
  exact xF H
 |true=>
  rw[if_pos rfl]
  have HDB:=Lib.hid hdb
  clear hdb
  cases d2:(IntKind.i64.wrap (s1.work.te+1) !=s1.work.epoch)with
  |true=>
   rw[if_pos rfl]
   clear hDn
   go_enter Tryz.func276,Tryz.ntmps276
   go_upto_region 2 with(first|(go_at_call 157;refine xT2 (jh _ _ none) H ?_;clear H;intro w H)|first|refine xLd H ?_|(refine xEf H ?_;clear H;intro b A' w H))
   refine xRg [21] (fun L=>[L,[]]) H ?_
   clear H;intro w H
   have HS:=H
   refine xO 0 0 HS ?_
   refine xO 1 0 HS ?_
   refine xO 2 0 HS ?_
   refine xO 3 0 HS ?_
   refine xL 4 0 HS ?_ (hin:=(.stop (n:=22) (zj (v:=.int .i64 (i:Int)) pk (fun _=>by rw[<-HST.out];rfl)) (by kernel_rfl)))
   refine xO 5 0 HS ?_
   refine xO 6 0 HS ?_
   refine xO 7 0 HS ?_
   refine xL 8 0 HS ?_ (hin:=(.stop (n:=22) (zj (v:=.int .i64 s.work.epoch) pk (fun _=>by rfl)) (by kernel_rfl)))
   refine xO 9 0 HS ?_
   refine xO 10 0 HS ?_
   refine xO 11 0 HS ?_
   refine xL 12 0 HS ?_ (hin:=(.stop (n:=22) (zj (v:=.int .i64 s.work.out) pk (fun _=>by rfl)) (by kernel_rfl)))
   refine xO 13 0 HS ?_
   refine xO 14 0 HS ?_
   refine xO 15 0 HS ?_
   refine xL 16 0 HS ?_ (hin:=(.stop (n:=22) (zj (v:=.int .i64 s.work.entered) pk (fun _=>by rfl)) (by kernel_rfl)))
   refine xO 17 0 HS ?_ (v:=(.agg (PLease.mk true s.work.epoch s.work.out 0 s.work.entered).cells.toArray)) (hy:=by(intro W;exact zb (t:=170) rfl (z19 _ _ _ W)))
   refine xO 18 0 HS ?_
   refine xO 19 0 HS ?_
   refine xO 20 0 HS ?_
   clear HS
   refine tk1 21 1 (fun K' hK=>?_)
   (refine z6S H (ht:=j8 ⟨true,s.work.epoch,s.work.out,0,s.work.entered⟩ pk hi8 (by first|rfl|omega) rfl) ?_;clear H;intro w H)
   refine hK _ _ (H.sub sbn) (fun HS=>?_)
   clear hK K'
   try simp only[xPt]
   refine xD ?_
   have H2:Sep F0 w0 _ (zy p (s.readyS i)::R):=H
   rw[H1.out]at H2
   clear H
   have H:=H2
   clear H2
   go_upto_region 4 with(first|(refine ldp H (v:=.bool true) (hh:=zj pk (fun _=>by rw[<-HDB.out];rfl)) ?_)|first|refine xLd H ?_|(refine xEf H ?_;clear H;intro b A' w H))
   refine xRg [] (fun L=>[L]) H ?_
   clear H;intro w H
   have HS:=H
   refine xO 0 0 HS ?_
   refine xO 1 0 HS ?_
   refine xO 2 0 HS ?_
   refine xO 3 0 HS ?_
   refine xL 4 0 HS ?_ (hin:=(.last hdp))
   refine xO 5 0 HS ?_
   refine xO 6 0 HS ?_
   refine xO 7 0 HS ?_
   refine xO 8 0 HS ?_
   refine xL 9 0 HS ?_ (hin:=(.last hdp))
   refine xO 10 0 HS ?_
   refine xD ?_
   go_wp2_with (first|(go_at_call 155;refine xT2 (HE.out _) H ?_;clear H;intro w H)|first|refine xLd H ?_|(refine xEf H ?_;clear H;intro b A' w H))
   refine xRz ?_
   exact xF H
  |false=>
   rw[if_neg (by decide)]
   obtain⟨dn,hdn⟩:=xG (s1.didB)
   have hDn':∀v1 v2,zi Tryz.prog 287 #[v1,v2,.agg #[.int .i64 s1.work.te,.int .i64 s1.work.ts]] [zh 4 1 v1 s1.work.known.length (s1.work.known.map Value.bool),zh 54 10 v2 s1.work.records.length (zd Rec.cells s1.work.records)] fun v K=>v= .bool dn/\K=[zh 4 1 v1 s1.work.known.length (s1.work.known.map Value.bool),zh 54 10 v2 s1.work.records.length (zd Rec.cells s1.work.records)]:=by
    intro v1 v2
    rw[<-hdn]
    exact hDn v1 v2
   have HDN:=Lib.hid hDn'
   rw[hdn]
   clear hDn hDn' hdn
   cases dn with
   |true=>
    rw[if_pos rfl]
    go_enter Tryz.func276,Tryz.ntmps276
    go_upto_region 2 with(first|(go_at_call 157;refine xT2 (jh _ _ none) H ?_;clear H;intro w H)|first|refine xLd H ?_|(refine xEf H ?_;clear H;intro b A' w H))
    refine xRg [21] (fun L=>[L,[]]) H ?_
    clear H;intro w H
    have HS:=H
    refine xO 0 0 HS ?_
    refine xO 1 0 HS ?_
    refine xO 2 0 HS ?_
    refine xO 3 0 HS ?_
    refine xL 4 0 HS ?_ (hin:=(.stop (n:=22) (zj (v:=.int .i64 (i:Int)) pk (fun _=>by rw[<-HST.out];rfl)) (by kernel_rfl)))
    refine xO 5 0 HS ?_
    refine xO 6 0 HS ?_
    refine xO 7 0 HS ?_
    refine xL 8 0 HS ?_ (hin:=(.stop (n:=22) (zj (v:=.int .i64 s.work.epoch) pk (fun _=>by rfl)) (by kernel_rfl)))
    refine xO 9 0 HS ?_
    refine xO 10 0 HS ?_
    refine xO 11 0 HS ?_
    refine xL 12 0 HS ?_ (hin:=(.stop (n:=22) (zj (v:=.int .i64 s.work.out) pk (fun _=>by rfl)) (by kernel_rfl)))
    refine xO 13 0 HS ?_
    refine xO 14 0 HS ?_
    refine xO 15 0 HS ?_
    refine xL 16 0 HS ?_ (hin:=(.stop (n:=22) (zj (v:=.int .i64 s.work.entered) pk (fun _=>by rfl)) (by kernel_rfl)))
    refine xO 17 0 HS ?_ (v:=(.agg (PLease.mk true s.work.epoch s.work.out 0 s.work.entered).cells.toArray)) (hy:=by(intro W;exact zb (t:=170) rfl (z19 _ _ _ W)))
    refine xO 18 0 HS ?_
    refine xO 19 0 HS ?_
    refine xO 20 0 HS ?_
    clear HS
    refine tk1 21 1 (fun K' hK=>?_)
    (refine z6S H (ht:=j8 ⟨true,s.work.epoch,s.work.out,0,s.work.entered⟩ pk hi8 (by first|rfl|omega) rfl) ?_;clear H;intro w H)
    refine hK _ _ (H.sub sbn) (fun HS=>?_)
    clear hK K'
    try simp only[xPt]
    refine xD ?_
    have H2:Sep F0 w0 _ (zy p (s.readyS i)::R):=H
    rw[H1.out]at H2
    clear H
    have H:=H2
    clear H2
    go_upto_region 4 with(first|(refine ldp H (v:=.bool true) (hh:=zj pk (fun _=>by rw[<-HDB.out];rfl)) ?_)|first|refine xLd H ?_|(refine xEf H ?_;clear H;intro b A' w H))
    refine xRg [] (fun L=>[L]) H ?_
    clear H;intro w H
    have HS:=H
    refine xO 0 0 HS ?_
    refine xO 1 0 HS ?_
    refine xO 2 0 HS ?_
    refine xO 3 0 HS ?_
    refine xL 4 0 HS ?_ (hin:=(.last hdp))
    refine xO 5 0 HS ?_
    refine xO 6 0 HS ?_
    refine xO 7 0 HS ?_
    refine xO 8 0 HS ?_
    refine xL 9 0 HS ?_ (hin:=(.last hdp))
    refine xO 10 0 HS ?_
    refine xD ?_
    go_upto_region 6 with(first|refine xLd H ?_|(refine xEf H ?_;clear H;intro b A' w H))
    obtain⟨bc,kn,re,rd,wv,up,as_,H⟩:=zy.parts pk H
    refine xRg [] (fun L=>[L]) H ?_
    clear H;intro w H
    have HS:=H
    refine xO 0 0 HS ?_
    refine xO 1 0 HS ?_
    refine xO 2 0 HS ?_
    refine xL 3 0 HS ?_
    refine xO 4 0 HS ?_
    refine xO 5 0 HS ?_
    refine xO 6 0 HS ?_
    refine xL 7 0 HS ?_
    refine xO 8 0 HS ?_
    refine xO 9 0 HS ?_
    refine xO 10 0 HS ?_
    refine xV 11 0 HS ?_ (hin:=(.last (zg (cs:=[.int .i64 s1.work.te,.int .i64 s1.work.ts]) 2 pk rfl (ze (by rfl)))))
    refine xC 12 0 (HDN.out _ _) H ?_
    clear H HS;intro w H HS
    refine xO 13 0 HS ?_
    refine xN 14 0 HS ?_
    refine xN 15 0 HS ?_
    refine xN 16 0 HS ?_
    refine xN 17 0 HS ?_
    refine xO 18 0 HS ?_
    refine xD ?_
    have H2:Sep F0 w0 _ (zy p s1::R):=zy.join bc kn re rd wv up as_ (H.sub sba) rfl
    clear H
    have H:=H2
    clear H2
    go_wp2_with (first|(go_at_call 155;refine xT2 (HE.out _) H ?_;clear H;intro w H)|first|refine xLd H ?_|(refine xEf H ?_;clear H;intro b A' w H))
    refine xRz ?_
    exact xF H
   |false=>
    rw[if_neg (by decide)]
    cases dse:s1.work.settled with
    |true=>
     rw[if_pos rfl]
     have HSE:=Lib.hid dse
     clear dse
     go_enter Tryz.func276,Tryz.ntmps276
     go_upto_region 2 with(first|(go_at_call 157;refine xT2 (jh _ _ none) H ?_;clear H;intro w H)|first|refine xLd H ?_|(refine xEf H ?_;clear H;intro b A' w H))
     refine xRg [21] (fun L=>[L,[]]) H ?_
     clear H;intro w H
     have HS:=H
     refine xO 0 0 HS ?_
     refine xO 1 0 HS ?_
     refine xO 2 0 HS ?_
     refine xO 3 0 HS ?_
     refine xL 4 0 HS ?_ (hin:=(.stop (n:=22) (zj (v:=.int .i64 (i:Int)) pk (fun _=>by rw[<-HST.out];rfl)) (by kernel_rfl)))
     refine xO 5 0 HS ?_
     refine xO 6 0 HS ?_
     refine xO 7 0 HS ?_
     refine xL 8 0 HS ?_ (hin:=(.stop (n:=22) (zj (v:=.int .i64 s.work.epoch) pk (fun _=>by rfl)) (by kernel_rfl)))
     refine xO 9 0 HS ?_
     refine xO 10 0 HS ?_
     refine xO 11 0 HS ?_
     refine xL 12 0 HS ?_ (hin:=(.stop (n:=22) (zj (v:=.int .i64 s.work.out) pk (fun _=>by rfl)) (by kernel_rfl)))
     refine xO 13 0 HS ?_
     refine xO 14 0 HS ?_
     refine xO 15 0 HS ?_
     refine xL 16 0 HS ?_ (hin:=(.stop (n:=22) (zj (v:=.int .i64 s.work.entered) pk (fun _=>by rfl)) (by kernel_rfl)))
     refine xO 17 0 HS ?_ (v:=(.agg (PLease.mk true s.work.epoch s.work.out 0 s.work.entered).cells.toArray)) (hy:=by(intro W;exact zb (t:=170) rfl (z19 _ _ _ W)))
     refine xO 18 0 HS ?_
     refine xO 19 0 HS ?_
     refine xO 20 0 HS ?_
     clear HS
     refine tk1 21 1 (fun K' hK=>?_)
     (refine z6S H (ht:=j8 ⟨true,s.work.epoch,s.work.out,0,s.work.entered⟩ pk hi8 (by first|rfl|omega) rfl) ?_;clear H;intro w H)
     refine hK _ _ (H.sub sbn) (fun HS=>?_)
     clear hK K'
     try simp only[xPt]
     refine xD ?_
     have H2:Sep F0 w0 _ (zy p (s.readyS i)::R):=H
     rw[H1.out]at H2
     clear H
     have H:=H2
     clear H2
     go_upto_region 4 with(first|(refine ldp H (v:=.bool true) (hh:=zj pk (fun _=>by rw[<-HDB.out];rfl)) ?_)|first|refine xLd H ?_|(refine xEf H ?_;clear H;intro b A' w H))
     refine xRg [] (fun L=>[L]) H ?_
     clear H;intro w H
     have HS:=H
     refine xO 0 0 HS ?_
     refine xO 1 0 HS ?_
     refine xO 2 0 HS ?_
     refine xO 3 0 HS ?_
     refine xL 4 0 HS ?_ (hin:=(.last hdp))
     refine xO 5 0 HS ?_
     refine xO 6 0 HS ?_
     refine xO 7 0 HS ?_
     refine xO 8 0 HS ?_
     refine xL 9 0 HS ?_ (hin:=(.last hdp))
     refine xO 10 0 HS ?_
     refine xD ?_
     go_upto_region 6 with(first|refine xLd H ?_|(refine xEf H ?_;clear H;intro b A' w H))
     obtain⟨bc,kn,re,rd,wv,up,as_,H⟩:=zy.parts pk H
     refine xRg [] (fun L=>[L]) H ?_
     clear H;intro w H
     have HS:=H
     refine xO 0 0 HS ?_
     refine xO 1 0 HS ?_
     refine xO 2 0 HS ?_
     refine xL 3 0 HS ?_
     refine xO 4 0 HS ?_
     refine xO 5 0 HS ?_
     refine xO 6 0 HS ?_
     refine xL 7 0 HS ?_
     refine xO 8 0 HS ?_
     refine xO 9 0 HS ?_
     refine xO 10 0 HS ?_
     refine xV 11 0 HS ?_ (hin:=(.last (zg (cs:=[.int .i64 s1.work.te,.int .i64 s1.work.ts]) 2 pk rfl (ze (by rfl)))))
     refine xC 12 0 (HDN.out _ _) H ?_
     clear H HS;intro w H HS
     refine xO 13 0 HS ?_
     refine xO 14 0 HS ?_
     refine xO 15 0 HS ?_
     refine xO 16 0 HS ?_
     refine xL 17 0 HS ?_ (hin:=(.last (zc (v:=.bool true) pk (by rw[<-HSE.out];rfl))))
     refine xO 18 0 HS ?_
     refine xD ?_
     have H2:Sep F0 w0 _ (zy p s1::R):=zy.join bc kn re rd wv up as_ (H.sub sba) rfl
     clear H
     have H:=H2
     clear H2
     go_wp2_with (first|(go_at_call 155;refine xT2 (HE.out _) H ?_;clear H;intro w H)|first|refine xLd H ?_|(refine xEf H ?_;clear H;intro b A' w H))
     refine xRz ?_
     exact xF H
    |false=>
     rw[if_neg (by decide)]
     have HSE:=Lib.hid dse
     clear dse
     go_enter Tryz.func276,Tryz.ntmps276
     go_upto_region 2 with(first|(go_at_call 157;refine xT2 (jh _ _ none) H ?_;clear H;intro w H)|first|refine xLd H ?_|(refine xEf H ?_;clear H;intro b A' w H))
     refine xRg [21] (fun L=>[L,[]]) H ?_
     clear H;intro w H
     have HS:=H
     refine xO 0 0 HS ?_
     refine xO 1 0 HS ?_
     refine xO 2 0 HS ?_
     refine xO 3 0 HS ?_
     refine xL 4 0 HS ?_ (hin:=(.stop (n:=22) (zj (v:=.int .i64 (i:Int)) pk (fun _=>by rw[<-HST.out];rfl)) (by kernel_rfl)))
     refine xO 5 0 HS ?_
     refine xO 6 0 HS ?_
     refine xO 7 0 HS ?_
     refine xL 8 0 HS ?_ (hin:=(.stop (n:=22) (zj (v:=.int .i64 s.work.epoch) pk (fun _=>by rfl)) (by kernel_rfl)))
     refine xO 9 0 HS ?_
     refine xO 10 0 HS ?_
     refine xO 11 0 HS ?_
     refine xL 12 0 HS ?_ (hin:=(.stop (n:=22) (zj (v:=.int .i64 s.work.out) pk (fun _=>by rfl)) (by kernel_rfl)))
     refine xO 13 0 HS ?_
     refine xO 14 0 HS ?_
     refine xO 15 0 HS ?_
     refine xL 16 0 HS ?_ (hin:=(.stop (n:=22) (zj (v:=.int .i64 s.work.entered) pk (fun _=>by rfl)) (by kernel_rfl)))
     refine xO 17 0 HS ?_ (v:=(.agg (PLease.mk true s.work.epoch s.work.out 0 s.work.entered).cells.toArray)) (hy:=by(intro W;exact zb (t:=170) rfl (z19 _ _ _ W)))
     refine xO 18 0 HS ?_
     refine xO 19 0 HS ?_
     refine xO 20 0 HS ?_
     clear HS
     refine tk1 21 1 (fun K' hK=>?_)
     (refine z6S H (ht:=j8 ⟨true,s.work.epoch,s.work.out,0,s.work.entered⟩ pk hi8 (by first|rfl|omega) rfl) ?_;clear H;intro w H)
     refine hK _ _ (H.sub sbn) (fun HS=>?_)
     clear hK K'
     try simp only[xPt]
     refine xD ?_
     have H2:Sep F0 w0 _ (zy p (s.readyS i)::R):=H
     rw[H1.out]at H2
     clear H
     have H:=H2
     clear H2
     go_upto_region 4 with(first|(refine ldp H (v:=.bool true) (hh:=zj pk (fun _=>by rw[<-HDB.out];rfl)) ?_)|first|refine xLd H ?_|(refine xEf H ?_;clear H;intro b A' w H))
     refine xRg [] (fun L=>[L]) H ?_
     clear H;intro w H
     have HS:=H
     refine xO 0 0 HS ?_
     refine xO 1 0 HS ?_
     refine xO 2 0 HS ?_
     refine xO 3 0 HS ?_
     refine xL 4 0 HS ?_ (hin:=(.last hdp))
     refine xO 5 0 HS ?_
     refine xO 6 0 HS ?_
     refine xO 7 0 HS ?_
     refine xO 8 0 HS ?_
     refine xL 9 0 HS ?_ (hin:=(.last hdp))
     refine xO 10 0 HS ?_
     refine xD ?_
     go_upto_region 6 with(first|refine xLd H ?_|(refine xEf H ?_;clear H;intro b A' w H))
     obtain⟨bc,kn,re,rd,wv,up,as_,H⟩:=zy.parts pk H
     refine xRg [] (fun L=>[L]) H ?_
     clear H;intro w H
     have HS:=H
     refine xO 0 0 HS ?_
     refine xO 1 0 HS ?_
     refine xO 2 0 HS ?_
     refine xL 3 0 HS ?_
     refine xO 4 0 HS ?_
     refine xO 5 0 HS ?_
     refine xO 6 0 HS ?_
     refine xL 7 0 HS ?_
     refine xO 8 0 HS ?_
     refine xO 9 0 HS ?_
     refine xO 10 0 HS ?_
     refine xV 11 0 HS ?_ (hin:=(.last (zg (cs:=[.int .i64 s1.work.te,.int .i64 s1.work.ts]) 2 pk rfl (ze (by rfl)))))
     refine xC 12 0 (HDN.out _ _) H ?_
     clear H HS;intro w H HS
     refine xO 13 0 HS ?_
     refine xO 14 0 HS ?_
     refine xO 15 0 HS ?_
     refine xO 16 0 HS ?_
     refine xL 17 0 HS ?_ (hin:=(.last (zc (v:=.bool false) pk (by rw[<-HSE.out];rfl))))
     refine xO 18 0 HS ?_
     refine xD ?_
     have H2:Sep F0 w0 _ (zy p s1::R):=zy.join bc kn re rd wv up as_ (H.sub sba) rfl
     clear H
     have H:=H2
     clear H2
     go_wp2_with (first|(go_at_call 167;refine xT2 (HD2.out) H ?_;clear H;intro w H)|(refine zr (by rfl) (fun K' hK=>?_);refine jo H (ht:=j7 (s1.sure) pk ltk (fun h=>by rfl) (by rfl)) ?_;clear H;intro w H;refine hK _ _ ?_;clear hK K')|first|refine xLd H ?_|(refine xEf H ?_;clear H;intro b A' w H))
     refine xRe ?_
     exact xF H
theorem z2s (c:Nat) (s:CallsM):zi Tryz.prog 113 #[.pointer (some ⟨c,0,none⟩)] [yk c s] fun r K=>r= .int .i64 s.opn.length/\K=[yk c s]:=by
 intro F0 w0 w R H
 try simp only[xNf]at H
 obtain⟨v,H⟩:=yk.open' H
 obtain⟨n,hn⟩:=xG (s.opn.length)
 rw[hn]at H⊢
 obtain⟨A,k,rfl⟩:=zt (v:=v) H pk
 have HN:=Lib.hid hn
 clear hn
 go_enter Tryz.func113,Tryz.ntmps113
 go_wp2_with (first|refine xLd H ?_|(refine xEf H ?_;clear H;intro b A' w H))
 refine xR1 H ?_
 exact⟨_,_,rfl,⟨rfl,rfl⟩,yk.mk (H.sub sba) HN.out.symm rfl⟩
abbrev PilotM.onSettle (s:PilotM) (now node:Int) (y:SayM):PilotM:=if jd y false=true then s.refuse now node y false else if(s.calls.opn.length==0)=true then s.ready now else s
theorem z8F (p:Nat) (s:PilotM) (now node:Int) (q:AskM) (y:SayM) (hs:PilOk 130 s) (hr:yn s.N s.S=true) (hc1:0<=s.work.column) (hc2:s.work.column<s.N-1) (hk:s.work.op.kind≠3) (hkn:s.work.known.length<=6) (hrl:s.work.records.length=s.work.known.length):
  zi Tryz.prog 274 #[.pointer (some ⟨p,0,none⟩),.int .i64 now,.int .i64 node,q.v,y.v] [zy p s] fun r K=>r= .tuple #[]/\K=[zy p (s.onSettle now node y)]:=by
 intro F0 w0 w R H
 try simp only[xNf]at H
 have hRF:=z1k p s now node y false (hs.less (by omega))
 have hRD:=z7B p s now hs hr hc1 hc2 hk hkn hrl
 unfold PilotM.onSettle
 obtain⟨s2,h2⟩:=xG (s.ready now)
 rw[h2]at hRD⊢
 cases hb:jd y false with
 |true=>
  rw[if_pos rfl]
  rw[hb]at hRF
  obtain⟨s3,h3⟩:=xG (s.refuse now node y false)
  rw[h3]at hRF⊢
  have HRF:=Lib.hid hRF
  clear hRF hRD h2 h3 hb hs hr hc1 hc2 hk hkn hrl
  go_enter Tryz.func274,Tryz.ntmps274
  go_wp2_with (first|(go_at_call 261;refine xT2 (HRF.out) H ?_;clear H;intro w H)|first|refine xLd H ?_|(refine xEf H ?_;clear H;intro b A' w H))
  refine xRe ?_
  exact xF H
 |false=>
  rw[if_neg (by decide)]
  rw[hb]at hRF
  have h3:s.refuse now node y false=s:=by unfold PilotM.refuse;rw[hb,if_neg (by decide)]
  rw[h3]at hRF
  have HRF:=Lib.hid hRF
  have HRD:=Lib.hid hRD
  obtain⟨n,hn⟩:=xG (s.calls.opn.length)
  have hOP:=fun c=>z2s c s.calls
  rw[hn]at hOP⊢
  have HOP:=Lib.hid hOP
  clear hRF hRD h2 h3 hb hs hr hc1 hc2 hk hkn hrl hOP hn
  cases d0:(n==0)with
  |true=>
   rw[if_pos rfl]
   have d00:((n:Int)==0)=true:=by simp at d0⊢;omega
   go_enter Tryz.func274,Tryz.ntmps274
   go_upto_region 2 with(first
    |(go_at_call 261;revert H;refine zi.use HRF.out pks ?_;rintro _ _ w ⟨rfl,rfl⟩ H;try simp only[xNf]at H;obtain⟨bc,kn,re,rd,wv,up,as_,H⟩:=zy.parts .head H)
    |(go_at_call 113;refine xT2 (HOP.out _) H ?_;clear H;intro w H)
    |first|refine xLd H ?_|(refine xEf H ?_;clear H;intro b A' w H))
   have H2:Sep F0 w0 _ (zy p s::R):=zy.join bc kn re rd wv up as_ (H.sub sba) rfl
   clear H
   have H:=H2
   clear H2
   go_wp2_with (first|(go_at_call 276;refine xT2 (HRD.out) H ?_;clear H;intro w H)|first|refine xLd H ?_|(refine xEf H ?_;clear H;intro b A' w H))
   refine xRe ?_
   exact xF H
  |false=>
   rw[if_neg (by decide)]
   have d00:((n:Int)==0)=false:=by simp at d0⊢;omega
   go_enter Tryz.func274,Tryz.ntmps274
   go_wp2_with (first
    |(go_at_call 261;revert H;refine zi.use HRF.out pks ?_;rintro _ _ w ⟨rfl,rfl⟩ H;try simp only[xNf]at H;obtain⟨bc,kn,re,rd,wv,up,as_,H⟩:=zy.parts .head H)
    |(go_at_call 113;refine xT2 (HOP.out _) H ?_;clear H;intro w H)
    |first|refine xLd H ?_|(refine xEf H ?_;clear H;intro b A' w H))
   have H2:Sep F0 w0 _ (zy p s::R):=zy.join bc kn re rd wv up as_ (H.sub sba) rfl
   refine xRe ?_
   exact⟨_,_,rfl,⟨rfl,rfl⟩,H2.sub sba⟩
abbrev PilotM.readB (s:PilotM) (node:Int) (y:SayM):PilotM:={s with work:={s.work with blocks:=upB s.work.blocks (z4c s.N s.S s.work.stripe node).toNat y.rcd.block}}
abbrev PilotM.took (s:PilotM) (now node:Int) (q:AskM) (y:SayM):PilotM:=if jd y (q.kind==2)=true then s.refuse now node y (q.kind==2)else if(q.kind==2)=true then s.readB node y else s
abbrev PilotM.tookB (s:PilotM) (q:AskM) (y:SayM):Bool:=if jd y (q.kind==2)=true then false else s.calls.opn.length==0
theorem zg1 (p:Nat) (s:PilotM) (now node:Int) (q:AskM) (y:SayM) (hs:PilOk 1 s) (hr:yn s.N s.S=true) (hcol:(q.kind==2)=true->0<=z4c s.N s.S s.work.stripe node):
  zi Tryz.prog 263 #[.pointer (some ⟨p,0,none⟩),.int .i64 now,.int .i64 node,q.v,y.v] [zy p s] fun r K=>r= .bool (s.tookB q y)/\K=[zy p (s.took now node q y)]:=by
 intro F0 w0 w R H
 try simp only[xNf]at H
 have hRF:=z1k p s now node y (q.kind==2) hs
 obtain⟨_,r2,_,_⟩:=yc.1 hr
 have hcr:=(z2t (s:=s.work.stripe) (n:=node) hr).2
 unfold PilotM.took PilotM.tookB
 obtain⟨n,hn⟩:=xG (s.calls.opn.length)
 have hOP:=fun c=>z2s c s.calls
 rw[hn]at hOP⊢
 have hnn:((n:Int)==0)=(n==0):=by
  cases h:(n==0)<;>simp at h⊢<;>omega
 have HOP:=Lib.hid hOP
 clear hOP hn
 obtain⟨rdb,hrdb⟩:=xG ((q.kind==2))
 rw[hrdb]at hRF hcol⊢
 cases hb:jd y rdb with
 |true=>
  rw[if_pos rfl,if_pos rfl]
  rw[hb]at hRF
  obtain⟨s3,h3⟩:=xG (s.refuse now node y rdb)
  rw[h3]at hRF⊢
  have HRF:=Lib.hid hRF
  clear hRF h3 hb hs hr hcol hcr r2 hnn HOP
  go_enter Tryz.func263,Tryz.ntmps263
  go_wp2_with (first|(go_at_call 261;refine xT2 (HRF.out) H ?_;clear H;intro w H)|first|refine xLd H ?_|(refine xEf H ?_;clear H;intro b A' w H))
  refine xR1 H ?_
  exact xF H
 |false=>
  rw[if_neg (by decide),if_neg (by decide)]
  rw[hb]at hRF
  have h3:s.refuse now node y rdb=s:=by unfold PilotM.refuse;rw[hb,if_neg (by decide)]
  rw[h3]at hRF
  have HRF:=Lib.hid hRF
  clear hRF h3 hb hs
  cases rdb with
  |true=>
   rw[if_pos rfl]
   have hc0:=hcol rfl
   have hCO:=z17 p s node
   obtain⟨i,hi⟩:∃i:Nat,z4c s.N s.S s.work.stripe node=i:=⟨(z4c s.N s.S s.work.stripe node).toNat,by omega⟩
   have hi2:(z4c s.N s.S s.work.stripe node).toNat=i:=by omega
   have hi6:i<6:=by omega
   have hI6:(i:Int)<6:=by omega
   unfold PilotM.readB
   rw[hi2]
   rw[hi]at hCO
   have HCO:=Lib.hid hCO
   clear hCO hi hi2 hc0 hcol hcr r2 hr
   go_enter Tryz.func263,Tryz.ntmps263
   go_upto_region 5 with(first|(go_at_call 261;refine xT2 (HRF.out) H ?_;clear H;intro w H)|first|refine xLd H ?_|(refine xEf H ?_;clear H;intro b A' w H))
   refine xRg [11] (fun L=>[L,[]]) H ?_
   clear H;intro w H
   have HS:=H
   refine xO 0 0 HS ?_
   refine xO 1 0 HS ?_
   refine xO 2 0 HS ?_
   refine xO 4 0 HS ?_
   refine xO 5 0 HS ?_
   refine xL 6 0 HS ?_ (hin:=(.stop (n:=12) hdp (by kernel_rfl)))
   refine xO 7 0 HS ?_
   refine xO 8 0 HS ?_
   refine xO 9 0 HS ?_
   refine xC 3 0 HCO.out H ?_
   clear H HS;intro w H HS
   refine xO 10 0 HS ?_
   clear HS
   refine tk1 11 1 (fun K' hK=>?_)
   (refine jo H (ht:=zda y.rcd.block pk hi6 (by first|rfl|omega)) ?_;clear H;intro w H)
   refine hK _ _ (H.sub sbn) (fun HS=>?_)
   clear hK K'
   try simp only[xPt]
   refine xD ?_
   go_upto_region 6 with(first|refine xLd H ?_|(refine xEf H ?_;clear H;intro b A' w H))
   obtain⟨bc,kn,re,rd,wv,up,as_,H⟩:=zy.parts pk H
   go_wp2_with (first|(go_at_call 113;refine xT2 (HOP.out _) H ?_;clear H;intro w H)|first|refine xLd H ?_|(refine xEf H ?_;clear H;intro b A' w H))
   have H2:Sep F0 w0 _ (zy p {s with work:={s.work with blocks:=upB s.work.blocks i y.rcd.block}}::R):=zy.join bc kn re rd wv up as_ (H.sub sba) rfl
   rw[<-hnn]
   refine xR1 H ?_
   exact⟨_,_,rfl,⟨rfl,rfl⟩,H2.sub sba⟩
  |false=>
   rw[if_neg (by decide)]
   clear hcol hcr r2 hr
   go_enter Tryz.func263,Tryz.ntmps263
   go_upto_region 6 with(first|(go_at_call 261;refine xT2 (HRF.out) H ?_;clear H;intro w H)|first|refine xLd H ?_|(refine xEf H ?_;clear H;intro b A' w H))
   obtain⟨bc,kn,re,rd,wv,up,as_,H⟩:=zy.parts pk H
   go_wp2_with (first|(go_at_call 113;refine xT2 (HOP.out _) H ?_;clear H;intro w H)|first|refine xLd H ?_|(refine xEf H ?_;clear H;intro b A' w H))
   have H2:Sep F0 w0 _ (zy p s::R):=zy.join bc kn re rd wv up as_ (H.sub sba) rfl
   rw[<-hnn]
   refine xR1 H ?_
   exact⟨_,_,rfl,⟨rfl,rfl⟩,H2.sub sba⟩
def PilotM.gotten (s:PilotM):ByteArray:=(zl6 s.N.toNat s.work.column s.outC s.texts).1
abbrev PilotM.readOn (s:PilotM) (now:Int):PilotM:=if(s.work.op.kind==2)=true then s.makeBlocks now else s.fin 0 s.gotten
abbrev PilotM.onRead (s:PilotM) (now node:Int) (q:AskM) (y:SayM):PilotM:=if s.tookB q y=true then(s.took now node q y).readOn now else s.took now node q y
theorem zfm {s:PilotM} {now node:Int} {q:AskM} {y:SayM} (h:s.tookB q y=true):s.took now node q y=s.readB node y\/s.took now node q y=s:=by
 unfold PilotM.tookB at h
 unfold PilotM.took
 split at h
 ·cases h
 ·rename_i h1
  rw[if_neg h1]
  split
  ·exact .inl rfl
  ·exact .inr rfl
theorem zbB (p:Nat) (s:PilotM) (now node:Int) (q:AskM) (y:SayM) (hs:PilOk 64 s) (hr:yn s.N s.S=true) (hcol:(q.kind==2)=true->0<=z4c s.N s.S s.work.stripe node) (hc1:0<=s.work.column) (hc2:s.work.column<s.N-1) (hl:s.work.reads.length<=64) (hw:s.work.writes.length<=64) (hrd:∀c∈s.work.reads,0<=c/\c<6):
  zi Tryz.prog 244 #[.pointer (some ⟨p,0,none⟩),.int .i64 now,.int .i64 node,q.v,y.v] [zy p s] fun r K=>r= .tuple #[]/\K=[zy p (s.onRead now node q y)]:=by
 intro F0 w0 w R H
 try simp only[xNf]at H
 have hTK:=zg1 p s now node q y (hs.less (by omega)) hr hcol
 have hcs:=zfm (s:=s) (now:=now) (node:=node) (q:=q) (y:=y)
 unfold PilotM.onRead
 obtain⟨t,ht⟩:=xG (s.took now node q y)
 rw[ht]at hTK hcs⊢
 cases hb:s.tookB q y with
 |false=>
  rw[if_neg (by decide)]
  rw[hb]at hTK
  have HTK:=Lib.hid hTK
  clear hTK hcs ht hb hs hr hcol hc1 hc2 hl hw hrd
  go_enter Tryz.func244,Tryz.ntmps244
  go_wp2_with (first|(go_at_call 263;refine xT2 (HTK.out) H ?_;clear H;intro w H)|first|refine xLd H ?_|(refine xEf H ?_;clear H;intro b A' w H))
  refine xRz ?_
  exact xF H
 |true=>
  rw[if_pos rfl]
  rw[hb]at hTK
  have hcs:=hcs hb
  have t1:PilOk 64 t:=by rcases hcs with h|h<;>(rw[h];exact⟨hs.last,hs.few,hs.st0,hs.st8⟩)
  have t2:yn t.N t.S=true:=by rcases hcs with h|h<;>(rw[h];exact hr)
  have t3:0<=t.work.column:=by rcases hcs with h|h<;>(rw[h];exact hc1)
  have t4:t.work.column<t.N-1:=by rcases hcs with h|h<;>(rw[h];exact hc2)
  have t5:t.work.reads.length<=64:=by rcases hcs with h|h<;>(rw[h];exact hl)
  have t6:t.work.writes.length<=64:=by rcases hcs with h|h<;>(rw[h];exact hw)
  have t7:∀c∈t.work.reads,0<=c/\c<6:=by rcases hcs with h|h<;>(rw[h];exact hrd)
  have HTK:=Lib.hid hTK
  have hM:=z9b p t now t1 t2 t3 t4 t5 t6 t7
  unfold PilotM.readOn
  cases d2:(t.work.op.kind==2)with
  |true=>
   rw[if_pos rfl]
   obtain⟨s9,h9⟩:=xG (t.makeBlocks now)
   rw[h9]at hM⊢
   have HM:=Lib.hid hM
   clear hTK hM h9 hcs ht hb hs hr hcol hc1 hc2 hl hw hrd t1 t2 t3 t4 t5 t6 t7
   go_enter Tryz.func244,Tryz.ntmps244
   go_wp2_with (first|(go_at_call 263;refine xT2 (HTK.out) H ?_;clear H;intro w H)|(go_at_call 210;refine xT2 (HM.out) H ?_;clear H;intro w H)|first|refine ldp H ?_|refine zc3 H ?_|refine xLd H ?_|(refine xEf H ?_;clear H;intro b A' w H))
   refine xRz ?_
   exact xF H
  |false=>
   rw[if_neg (by decide)]
   clear hM
   obtain⟨r1,r2,r3,r4⟩:=yc.1 t2
   obtain⟨N,hN⟩:∃n:Nat,t.N=n:=⟨t.N.toNat,by omega⟩
   obtain⟨n1,hn1⟩:=xG (t.work.reads.length)
   have hT:=z7z p t n1 hn1 (by omega) t7
   have hcr:=z2t (s:=t.work.stripe) (n:=t.work.out) t2
   have hCO:=z17 p t t.work.out
   have htl:t.texts.length=n1:=by unfold PilotM.texts;rw[List.length_map];exact hn1
   obtain⟨tx,htx⟩:=xG (t.texts)
   obtain⟨o,ho⟩:=xG (z4c t.N t.S t.work.stripe t.work.out)
   rw[ho]at hcr hCO
   rw[htx]at hT htl
   have hgt:t.gotten=(zl6 N t.work.column o tx).1:=by unfold PilotM.gotten PilotM.outC;rw[ho,htx,hN,Int.toNat_natCast]
   have hG:=fun v=>zl5 N t.S t.work.column o tx v n1 htl (by omega) (by omega) r3 r4 t3 (by omega) hcr.1 (by omega)
   obtain⟨⟨gd,ge⟩,hgd⟩:∃x,zl6 N t.work.column o tx=x:=⟨_,rfl⟩
   rw[hgd]at hG hgt
   dsimp only at hG hgt
   rw[hgt]
   have HG:=Lib.hid hG
   have HT:=Lib.hid hT
   have HCO:=Lib.hid hCO
   have HN:=Lib.hid hN
   clear hTK hcs ht hb hs hr hcol hc1 hc2 hl hw hrd t1 t2 t3 t4 t5 t6 t7 hG hT hCO hN hgd hgt ho htx htl hcr hn1 r1 r2 r3 r4
   go_enter Tryz.func244,Tryz.ntmps244
   go_upto_region 5 with(first|(go_at_call 263;refine xT2 (HTK.out) H ?_;clear H;intro w H)|first|refine ldp H ?_|refine zc3 H ?_|refine xLd H ?_|(refine xEf H ?_;clear H;intro b A' w H))
   refine xRg [] (fun L=>[L]) H ?_
   clear H;intro w H
   have HS:=H
   refine xO 0 0 HS ?_
   refine xO 1 0 HS ?_
   refine xO 2 0 HS ?_
   refine xV 3 0 HS ?_ (hin:=(.last (z2S (m:=(N:Int)) pk HN.out rfl (ze (by rfl)))))
   refine xO 4 0 HS ?_
   refine xO 5 0 HS ?_
   refine xO 6 0 HS ?_
   refine xL 7 0 HS ?_ (hin:=(.last hdp))
   refine xO 8 0 HS ?_
   refine xO 9 0 HS ?_
   refine xO 10 0 HS ?_
   refine xO 11 0 HS ?_
   refine xL 12 0 HS ?_ (hin:=(.last hdp))
   refine xO 14 0 HS ?_
   refine xC 13 0 HCO.out H ?_
   clear H HS;intro w H HS
   clear HS
   refine tk1 15 0 (fun K' hK=>?_)
   go_simp;revert H;refine zi.use HT.out pks ?_;rintro _ _ w ⟨A7,c7,rfl,rfl⟩ H;try simp only[xNf]at H
   refine hK _ _ (H.sub sbn) (fun HS=>?_)
   clear hK K'
   try simp only[xPt]
   refine xC 16 0 (HG.out _) H ?_
   clear H HS;intro w H HS
   refine xO 17 0 HS ?_
   refine xO 18 0 HS ?_
   refine xO 19 0 HS ?_
   refine xO 20 0 HS ?_
   refine xO 21 0 HS ?_
   refine xD ?_
   all_goals
    go_wp2_with (first|(go_at_call 155;refine xT2 (z1A _ _ _ _) H ?_;clear H;intro w H)|first|refine xLd H ?_|(refine xEf H ?_;clear H;intro b A' w H))
    refine xRe ?_
    exact xF H
end Go.Proofs.YtmfincpagnpkjaaGreat
