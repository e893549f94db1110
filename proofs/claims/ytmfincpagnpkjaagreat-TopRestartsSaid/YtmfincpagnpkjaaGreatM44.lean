/- Part of the proof. -/
import Derived.Test.YtmfincpagnpkjaaGreatM40
set_option linter.all false
set_option maxRecDepth 100000
set_option maxHeartbeats 100000000
namespace Go.Proofs.YtmfincpagnpkjaaGreat
open Go.RowKit
section
theorem zbQ {N S b:Int} (h:yn N S=true) (hb:inZ N S b=true):0<=z0s N S b/\z0s N S b<S/\0<=z1M N S b/\z1M N S b<N-1:=by
 obtain⟨h1,h2,h3,h4⟩:=yc.1 h
 have h5:=of_decide_eq_true hb
 have hz:yl N S=S*(N-1):=by unfold yl;rw[if_pos h]
 rw[hz]at h5
 have e1:z0s N S b=b/ (N-1):=by unfold z0s ofG;rw[if_pos hb]
 have e2:z1M N S b=b % (N-1):=by unfold z1M ofG;rw[if_pos hb]
 rw[e1,e2]
 refine⟨Int.ediv_nonneg h5.1 (by omega), ?_,Int.emod_nonneg _ (by omega),Int.emod_lt_of_pos _ (by omega)⟩
 exact Int.ediv_lt_of_lt_mul (by omega) h5.2
section
variable {L L':List Assn} {p:Nat} {s:PilotM}
theorem z5s (b:Bool) (hp:Pick (zy p s) L L'):z0m L p 43 (.bool b) (zy p {s with busy:=b}::L'):=j7 _ hp (by decide) (fun _=>rfl) rfl
theorem z2R {ty:TypeId} {i o:Nat} {x:PLease} (hx:s.leases i=x) (hp:Pick (zy p s) L L') (hi:i<8) (ho:o=3+i*5) (hn:(Tryz.prog.info? ty).map (·.size)=some x.cells.length):jm Tryz.prog ty L p o x.cells:=by
 subst hx
 exact zc9 hp hi ho hn
end
abbrev PilotM.begin (s:PilotM) (op:OpM):PilotM:={s with busy:=true,work:=z4n op (z0s s.N s.S op.at_) (z1M s.N s.S op.at_)}
abbrev PilotM.leased (s:PilotM) (x:PLease):PilotM:={s with work:={s.work with epoch:=x.epoch,out:=x.out}}
def zcg (x:PLease) (now:Int):Bool:=x.has&&decide (wrap64 (now-x.since)<=10)
abbrev PilotM.started (s:PilotM) (now:Int) (x:PLease):PilotM:=if zcg x now=true then(s.leased x).doWork now else s.dropL.enterLease now
abbrev PilotM.submit (s:PilotM) (now:Int) (op:OpM):PilotM:=(s.begin op).started (zv now) (s.leases (z0s s.N s.S op.at_).toNat)
theorem zbH (p:Nat) (s:PilotM) (now:Int) (op:OpM) (hs:PilOk 130 s) (hr:yn s.N s.S=true) (ho:OpOk s.N s.S op) (hb:s.busy=false):zi Tryz.prog 119 #[.pointer (some ⟨p,0,none⟩),.int .i64 now,op.v] [zy p s]
  fun r K=>r= .int .i64 0/\K=[zy p (s.submit now op)]:=by
 intro F0 w0 w R H
 try simp only[xNf]at H
 obtain⟨r1,r2,r3,r4⟩:=yc.1 hr
 obtain⟨g1,g2,g3,g4⟩:=zbQ hr ho.has
 have hB:=zdF p s op hr ho
 have hsub:s.submit now op=(s.begin op).started (zv now) (s.leases (z0s s.N s.S op.at_).toNat):=rfl
 obtain⟨s1,h1⟩:=xG (s.begin op)
 obtain⟨i,hst⟩:∃i:Nat,z0s s.N s.S op.at_=i:=⟨(z0s s.N s.S op.at_).toNat,by omega⟩
 have hi8:i<8:=by omega
 have hI:(i:Int)<8:=by omega
 have hi:(z0s s.N s.S op.at_).toNat=i:=by omega
 obtain⟨co,hco⟩:=xG (z1M s.N s.S op.at_)
 rw[hst,hco]at hB
 have h1':{s with busy:=true,work:=z4n op i co}=s1:=by rw[<-h1,<-hst,<-hco]
 have hst1:s1.work.stripe=i:=by rw[<-h1,<-hst]
 have hk1:s1.work.op.kind≠3:=by rw[<-h1];rcases ho.kind with h|h<;>(show op.kind≠3;omega)
 have hok:PilOk 130 s1:=⟨by rw[<-h1];exact hs.last,by rw[<-h1];exact hs.few,by rw[hst1];omega,by rw[hst1];omega⟩
 rw[hi,h1]at hsub
 obtain⟨t,ht⟩:=xG (zv now)
 have hW:∀w,Calls Tryz.prog 110 #[.int .i64 now] w fun e w'=>e= .returned (.int .i64 t)/\w=w':=by rw[<-ht];exact z2K now
 rw[ht]at hsub
 obtain⟨x,hx⟩:=xG (s.leases i)
 have hx1:s1.leases i=x:=by rw[<-h1];exact hx
 rw[hx]at hsub
 rw[hsub]
 clear hsub
 have hD:=z3s p (s1.leased x) t ⟨hok.last,hok.few,hok.st0,hok.st8⟩ (by rw[<-h1];exact hr) (by rw[<-h1];show 0<=z1M s.N s.S op.at_;exact g3) (by rw[<-h1];show z1M s.N s.S op.at_<s.N-1;exact g4) hk1
 have hL:=z0q p s1.dropL t ⟨hok.last,by have:=hok.few;show s1.asked.length+1<=1000000000;omega,hok.st0,hok.st8⟩
 unfold PilotM.started
 obtain⟨sa,ha⟩:=xG ((s1.leased x).doWork t)
 obtain⟨sb',hb'⟩:∃z,s1.dropL.enterLease t=z:=⟨_,rfl⟩
 rw[ha]at hD⊢
 rw[hb']at hL⊢
 unfold PilotM.dropL at hL
 rw[hst1,Int.toNat_natCast]at hL
 have HB:=Lib.hid hB
 have HW:=Lib.hid hW
 have HD:=Lib.hid hD
 have HL:=Lib.hid hL
 have H1:=Lib.hid h1'
 have HX:=Lib.hid hx1
 have HBS:=Lib.hid hb
 obtain⟨xh,xe,xo,xq,xs⟩:=x
 obtain⟨ok,oa,od⟩:=op
 have hk3:(ok !=3)=true:=by rcases ho.kind with h|h<;>(have:=h.1;simp at this⊢;omega)
 clear hB hW hD hL h1 h1' hst hst1 hk1 hok ht hx hx1 ha hb' hs hr ho hb r1 r2 r3 r4 g1 g2 g3 g4 hi hco
 cases hf:zcg ⟨xh,xe,xo,xq,xs⟩ t with
 |true=>
  rw[if_pos rfl]
  have hxh:xh=true:=by unfold zcg at hf;simp at hf;exact hf.1
  subst hxh
  have hle:decide (wrap64 (t-xs)<=10)=true:=by unfold zcg at hf;simpa using hf
  clear HL hf
  go_enter Tryz.func119,Tryz.ntmps119
  go_upto_region 7 with(first|(refine xNt 173 H ?_;clear H;intro bo w H)|(refine ldp H (v:=.bool false) (hh:=zj pk (fun _=>by rw[<-HBS.out];rfl)) ?_)|(go_at_call 166;refine xT2 (HB.out) H ?_;clear H;intro w H)|(refine xNt 181 H ?_;clear H;intro bw w H)|(go_at_call 110;refine(HW.out _).mono ?_;rintro e w' ⟨rfl,rfl⟩)|first|refine xLd H ?_|(refine xEf H ?_;clear H;intro b A' w H))
  refine xRg [5,8] (fun L=>[L,[z7 bw 181 ((z4n ⟨ok,oa,od⟩ i co).cells 0 h00)],[z7 bw 181 ((z4n ⟨ok,oa,od⟩ i co).cells 0 h00)]]) H ?_
  clear H;intro w H
  have HS:=H
  refine xO 0 0 HS ?_
  refine xO 1 0 HS ?_
  refine xV 2 0 HS ?_ (hin:=(.go hdV (.stop (n:=9) hdV (by kernel_rfl))))
  refine xO 3 0 HS ?_
  refine xO 4 0 HS ?_
  clear HS
  refine tk1 5 1 (fun K' hK=>?_)
  (refine jo H (ht:=z5s true pk) ?_;clear H;intro w H)
  refine hK _ _ (H.sub sbn) (fun HS=>?_)
  clear hK K'
  try simp only[xPt]
  refine xO 6 1 HS ?_
  refine xO 7 1 HS ?_
  clear HS
  refine tk1 8 2 (fun K' hK=>?_)
  (refine z6S H (ht:=z2C (z4n ⟨ok,oa,od⟩ i co) pk rfl rfl rfl rfl rfl rfl) ?_;clear H;intro w H)
  refine hK _ _ (H.sub sbn) (fun HS=>?_)
  clear hK K'
  try simp only[xPt]
  refine xD ?_
  all_goals
   rw[H1.out]at H
   go_upto_region 8 with(first|refine xLd H ?_|(refine xEf H ?_;clear H;intro b A' w H))
   refine xRg [8] (fun L=>[L,[]]) H ?_
   clear H;intro w H
   have HS:=H
   refine xO 0 0 HS ?_
   refine xO 1 0 HS ?_
   refine xL 2 0 HS ?_ (hin:=(.stop (n:=9) hd (by kernel_rfl)))
   refine xO 3 0 HS ?_
   refine xO 4 0 HS ?_
   refine xO 5 0 HS ?_
   refine xV 6 0 HS ?_ (hin:=(.stop (n:=9) (z2R HX.out pk hi8 (by first|rfl|omega) (ze (by rfl))) (by kernel_rfl)))
   clear HS
   refine tk1 7 0 (fun K' hK=>?_)
   (refine wal H ?_ (hz:=z4l);clear H;intro b w H)
   refine hK _ _ (H.sub sbn) (fun HS=>?_)
   clear hK K'
   try simp only[xPt]
   refine xM 8 1 H ?_
   clear H HS;intro _ _ w H HS
   refine xD ?_
   go_upto_region 10 with(first|refine xLd H ?_|(refine xEf H ?_;clear H;intro b A' w H))
   refine xRg [9,13] (fun L=>[L,[z7 b 170 (PLease.cells ⟨true,xe,xo,xq,xs⟩)],[z7 b 170 (PLease.cells ⟨true,xe,xo,xq,xs⟩)]]) H ?_
   clear H;intro w H
   have HS:=H
   refine xO 0 0 HS ?_
   refine xO 1 0 HS ?_
   refine xO 2 0 HS ?_
   refine xL 3 0 HS ?_ (hin:=(.stop (n:=14) hd (by kernel_rfl)))
   refine xO 4 0 HS ?_
   refine xL 5 0 HS ?_ (hin:=(.go hd (.stop (n:=14) hd (by kernel_rfl))))
   refine xO 6 0 HS ?_
   refine xO 7 0 HS ?_
   refine xO 8 0 HS ?_
   clear HS
   refine tk1 9 1 (fun K' hK=>?_)
   (refine jo H (ht:=z4p xe pk) ?_;clear H;intro w H)
   refine hK _ _ (H.sub sbn) (fun HS=>?_)
   clear hK K'
   try simp only[xPt]
   refine xO 10 1 HS ?_
   refine xO 11 1 HS ?_
   refine xO 12 1 HS ?_
   clear HS
   refine tk1 13 2 (fun K' hK=>?_)
   (refine jo H (ht:=z74 xo pk) ?_;clear H;intro w H)
   refine hK _ _ (H.sub sbn) (fun HS=>?_)
   clear hK K'
   try simp only[xPt]
   refine xD ?_
   all_goals
    go_wp2_with (first|(go_at_call 167;refine xT2 (HD.out) H ?_;clear H;intro w H)|first|refine xLd H ?_|(refine xEf H ?_;clear H;intro b A' w H))
    refine xR1 H ?_
    exact xF H
 |false=>
  rw[if_neg (by decide)]
  have hc:xh=false\/(xh=true/\decide (wrap64 (t-xs)<=10)=false):=by
   unfold zcg at hf
   cases xh
   ·exact .inl rfl
   ·exact .inr ⟨rfl,by simpa using hf⟩
  clear HD hf
  rcases hc with hxh|⟨hxh,hle⟩
  ·subst hxh
   go_enter Tryz.func119,Tryz.ntmps119
   go_upto_region 7 with(first|(refine xNt 173 H ?_;clear H;intro bo w H)|(refine ldp H (v:=.bool false) (hh:=zj pk (fun _=>by rw[<-HBS.out];rfl)) ?_)|(go_at_call 166;refine xT2 (HB.out) H ?_;clear H;intro w H)|(refine xNt 181 H ?_;clear H;intro bw w H)|(go_at_call 110;refine(HW.out _).mono ?_;rintro e w' ⟨rfl,rfl⟩)|first|refine xLd H ?_|(refine xEf H ?_;clear H;intro b A' w H))
   refine xRg [5,8] (fun L=>[L,[z7 bw 181 ((z4n ⟨ok,oa,od⟩ i co).cells 0 h00)],[z7 bw 181 ((z4n ⟨ok,oa,od⟩ i co).cells 0 h00)]]) H ?_
   clear H;intro w H
   have HS:=H
   refine xO 0 0 HS ?_
   refine xO 1 0 HS ?_
   refine xV 2 0 HS ?_ (hin:=(.go hdV (.stop (n:=9) hdV (by kernel_rfl))))
   refine xO 3 0 HS ?_
   refine xO 4 0 HS ?_
   clear HS
   refine tk1 5 1 (fun K' hK=>?_)
   (refine jo H (ht:=z5s true pk) ?_;clear H;intro w H)
   refine hK _ _ (H.sub sbn) (fun HS=>?_)
   clear hK K'
   try simp only[xPt]
   refine xO 6 1 HS ?_
   refine xO 7 1 HS ?_
   clear HS
   refine tk1 8 2 (fun K' hK=>?_)
   (refine z6S H (ht:=z2C (z4n ⟨ok,oa,od⟩ i co) pk rfl rfl rfl rfl rfl rfl) ?_;clear H;intro w H)
   refine hK _ _ (H.sub sbn) (fun HS=>?_)
   clear hK K'
   try simp only[xPt]
   refine xD ?_
   all_goals
    rw[H1.out]at H
    go_upto_region 8 with(first|refine xLd H ?_|(refine xEf H ?_;clear H;intro b A' w H))
    refine xRg [8] (fun L=>[L,[]]) H ?_
    clear H;intro w H
    have HS:=H
    refine xO 0 0 HS ?_
    refine xO 1 0 HS ?_
    refine xL 2 0 HS ?_ (hin:=(.stop (n:=9) hd (by kernel_rfl)))
    refine xO 3 0 HS ?_
    refine xO 4 0 HS ?_
    refine xO 5 0 HS ?_
    refine xV 6 0 HS ?_ (hin:=(.stop (n:=9) (z2R HX.out pk hi8 (by first|rfl|omega) (ze (by rfl))) (by kernel_rfl)))
    clear HS
    refine tk1 7 0 (fun K' hK=>?_)
    (refine wal H ?_ (hz:=z4l);clear H;intro b w H)
    refine hK _ _ (H.sub sbn) (fun HS=>?_)
    clear hK K'
    try simp only[xPt]
    refine xM 8 1 H ?_
    clear H HS;intro _ _ w H HS
    refine xD ?_
    go_upto_region 13 with(first|refine xLd H ?_|(refine xEf H ?_;clear H;intro b A' w H))
    refine xRg [7] (fun L=>[L,[]]) H ?_
    clear H;intro w H
    have HS:=H
    refine xO 0 0 HS ?_
    refine xO 1 0 HS ?_
    refine xL 2 0 HS ?_ (hin:=(.stop (n:=8) hd (by kernel_rfl)))
    refine xO 3 0 HS ?_ (v:=(.agg PLease.nil.cells.toArray)) (hy:=by(intro W;exact zb (t:=170) rfl (z0C W)))
    refine xO 4 0 HS ?_
    refine xO 5 0 HS ?_
    refine xO 6 0 HS ?_
    clear HS
    refine tk1 7 1 (fun K' hK=>?_)
    (refine z6S H (ht:=j8 PLease.nil pk hi8 (by first|rfl|omega) rfl) ?_;clear H;intro w H)
    refine hK _ _ (H.sub sbn) (fun HS=>?_)
    clear hK K'
    try simp only[xPt]
    refine xD ?_
    go_wp2_with (first|(go_at_call 114;refine xT2 (HL.out) H ?_;clear H;intro w H)|first|refine xLd H ?_|(refine xEf H ?_;clear H;intro b A' w H))
    refine xR1 H ?_
    exact xF H
  ·subst hxh
   go_enter Tryz.func119,Tryz.ntmps119
   go_upto_region 7 with(first|(refine xNt 173 H ?_;clear H;intro bo w H)|(refine ldp H (v:=.bool false) (hh:=zj pk (fun _=>by rw[<-HBS.out];rfl)) ?_)|(go_at_call 166;refine xT2 (HB.out) H ?_;clear H;intro w H)|(refine xNt 181 H ?_;clear H;intro bw w H)|(go_at_call 110;refine(HW.out _).mono ?_;rintro e w' ⟨rfl,rfl⟩)|first|refine xLd H ?_|(refine xEf H ?_;clear H;intro b A' w H))
   refine xRg [5,8] (fun L=>[L,[z7 bw 181 ((z4n ⟨ok,oa,od⟩ i co).cells 0 h00)],[z7 bw 181 ((z4n ⟨ok,oa,od⟩ i co).cells 0 h00)]]) H ?_
   clear H;intro w H
   have HS:=H
   refine xO 0 0 HS ?_
   refine xO 1 0 HS ?_
   refine xV 2 0 HS ?_ (hin:=(.go hdV (.stop (n:=9) hdV (by kernel_rfl))))
   refine xO 3 0 HS ?_
   refine xO 4 0 HS ?_
   clear HS
   refine tk1 5 1 (fun K' hK=>?_)
   (refine jo H (ht:=z5s true pk) ?_;clear H;intro w H)
   refine hK _ _ (H.sub sbn) (fun HS=>?_)
   clear hK K'
   try simp only[xPt]
   refine xO 6 1 HS ?_
   refine xO 7 1 HS ?_
   clear HS
   refine tk1 8 2 (fun K' hK=>?_)
   (refine z6S H (ht:=z2C (z4n ⟨ok,oa,od⟩ i co) pk rfl rfl rfl rfl rfl rfl) ?_;clear H;intro w H)
   refine hK _ _ (H.sub sbn) (fun HS=>?_)
   clear hK K'
   try simp only[xPt]
   refine xD ?_
   all_goals
    rw[H1.out]at H
    go_upto_region 8 with(first|refine xLd H ?_|(refine xEf H ?_;clear H;intro b A' w H))
    refine xRg [8] (fun L=>[L,[]]) H ?_
    clear H;intro w H
    have HS:=H
    refine xO 0 0 HS ?_
    refine xO 1 0 HS ?_
    refine xL 2 0 HS ?_ (hin:=(.stop (n:=9) hd (by kernel_rfl)))
    refine xO 3 0 HS ?_
    refine xO 4 0 HS ?_
    refine xO 5 0 HS ?_
    refine xV 6 0 HS ?_ (hin:=(.stop (n:=9) (z2R HX.out pk hi8 (by first|rfl|omega) (ze (by rfl))) (by kernel_rfl)))
    clear HS
    refine tk1 7 0 (fun K' hK=>?_)
    (refine wal H ?_ (hz:=z4l);clear H;intro b w H)
    refine hK _ _ (H.sub sbn) (fun HS=>?_)
    clear hK K'
    try simp only[xPt]
    refine xM 8 1 H ?_
    clear H HS;intro _ _ w H HS
    refine xD ?_
    go_upto_region 13 with(first|refine xLd H ?_|(refine xEf H ?_;clear H;intro b A' w H))
    refine xRg [7] (fun L=>[L,[]]) H ?_
    clear H;intro w H
    have HS:=H
    refine xO 0 0 HS ?_
    refine xO 1 0 HS ?_
    refine xL 2 0 HS ?_ (hin:=(.stop (n:=8) hd (by kernel_rfl)))
    refine xO 3 0 HS ?_ (v:=(.agg PLease.nil.cells.toArray)) (hy:=by(intro W;exact zb (t:=170) rfl (z0C W)))
    refine xO 4 0 HS ?_
    refine xO 5 0 HS ?_
    refine xO 6 0 HS ?_
    clear HS
    refine tk1 7 1 (fun K' hK=>?_)
    (refine z6S H (ht:=j8 PLease.nil pk hi8 (by first|rfl|omega) rfl) ?_;clear H;intro w H)
    refine hK _ _ (H.sub sbn) (fun HS=>?_)
    clear hK K'
    try simp only[xPt]
    refine xD ?_
    go_wp2_with (first|(go_at_call 114;refine xT2 (HL.out) H ?_;clear H;intro w H)|first|refine xLd H ?_|(refine xEf H ?_;clear H;intro b A' w H))
    refine xR1 H ?_
    exact xF H
end
structure PInv (N S:Int) (n:Nat) (s:PilotM):Prop where
 ok:PilOk n s
 right:yn s.N s.S=true
 st:s.work.stripe<s.S
 col0:0<=s.work.column
 col1:s.work.column<s.N-1
 kind:s.work.op.kind≠3
 kn:s.work.known.length<=6
 rl:s.work.records.length=s.work.known.length
 rd:s.work.reads.length<=64
 wr:s.work.writes.length<=64
 rc:∀c∈s.work.reads,0<=c/\c<6
 up:∀u,s.work.upd=some u->u.parts.length<=64
 opn:s.calls.opn.length<=8
 nx:s.calls.opn≠[]->s.work.next≠none
 fe:s.work.next=some .fence->(s.work.known.length:Int)=s.N
 pu:s.work.next=some .update->∃u,s.work.upd=some u
 dst:∀o∈s.calls.opn,(s.work.next=some .fence\/s.work.next=some .read)->0<=o.dst/\o.dst<s.N
 ds:s.data.size<=16
 ak:∀l∈s.asked,l.say=SayM.nil
 gN:s.N=N
 gS:s.S=S
def PilotM.react (s:PilotM) (now node:Int) (q:AskM) (y:SayM):PilotM:=
 match s.work.next with
 |none=>s
 |some .lease=>s.onLease now y
 |some .out=>s.onOut now y
 |some .fence=>s.onFence now node y
 |some .settle=>s.onSettle now node y
 |some .read=>s.onRead now node q y
 |some .update=>match s.work.upd with
  |none=>s
  |some u=>s.onUpdate u now node q y
theorem zcs {N S s n:Int} (h:yn N S=true) (s0:0<=s) (s1:s<S) (n0:0<=n) (n1:n<N):0<=z4c N S s n:=by
 have hh:zl4 N S s n=true:=decide_eq_true ⟨yc.1 h,s0,s1,n0,n1⟩
 unfold z4c
 rw[if_pos hh]
 exact Int.emod_nonneg _ (by have:=(yc.1 h).1;omega)
theorem zdz {N S:Int} (p:Nat) (s:PilotM) (now node:Int) (q:AskM) (y:SayM) (x:PPh) (hi:PInv N S 200 s) (hx:s.work.next=some x) (hn:s.work.next=some .fence\/s.work.next=some .read->0<=node/\node<s.N):
  zi Tryz.prog (phF x) #[.pointer (some ⟨p,0,none⟩),.int .i64 now,.int .i64 node,q.v,y.v] [zy p s] fun r K=>r= .tuple #[]/\K=[zy p (s.react now node q y)]:=by
 have hr:s.react now node q y=s.react now node q y:=rfl
 unfold PilotM.react at hr⊢
 rw[hx]at hn⊢
 cases x with
 |lease=>exact zao p s now node q y (hi.ok.less (by omega)) hi.right
 |out=>exact zdA p s now node q y (hi.ok.less (by omega)) hi.right
 |fence=>
  obtain⟨n0,n1⟩:=hn (.inl rfl)
  exact zap p s now node q y hi.ok hi.right hi.col0 hi.col1 hi.kind (hi.fe hx) hi.rl (zcs hi.right hi.ok.st0 hi.st n0 n1)
 |settle=>exact z8F p s now node q y (hi.ok.less (by omega)) hi.right hi.col0 hi.col1 hi.kind hi.kn hi.rl
 |read=>
  obtain⟨n0,n1⟩:=hn (.inr rfl)
  exact zbB p s now node q y (hi.ok.less (by omega)) hi.right (fun _=>zcs hi.right hi.ok.st0 hi.st n0 n1) hi.col0 hi.col1 hi.rd hi.wr hi.rc
 |update=>
  obtain⟨u,hu⟩:=hi.pu hx
  rw[hu]
  exact z8E p s u now node q y (hi.ok.less (by omega)) hu (hi.up u hu)
theorem zki {f:OneM->Bool} {ls:List OneM} {k i:Nat} {o:OneM} (h:i∈z1x f ls k) (ho:ls[i]?=some o):f o=true:=by
 have h2:=(List.mem_filter.1 h).2
 rw[ho]at h2
 exact h2
theorem z4G {s:CallsM} {l:Letter} (h:(s.answer l).2.2=true):∃i o,s.opn[i]?=some o/\o.dst=l.frm/\(s.answer l).1={s with opn:=s.opn.eraseIdx i}:=by
 unfold CallsM.answer at h⊢
 split at h
 ·cases h
 ·rename_i h0
  rw[if_neg h0]
  split at h
  ·cases h
  ·rename_i i hi
   split at h
   ·cases h
   ·rename_i o ho
    refine⟨i,o,ho, ?_,rfl⟩
    have hm:=List.mem_of_mem_head? hi
    have h3:=zki hm ho
    simp[z8j]at h3
    exact h3.2
theorem zep {s:CallsM} {l:Letter} (h:(s.answer l).2.2=false):(s.answer l).1=s:=by
 unfold CallsM.answer at h⊢
 split at h
 ·rename_i h0
  rw[if_pos h0]
 ·rename_i h0
  rw[if_neg h0]
  split at h
  ·rfl
  ·split at h
   ·rfl
   ·cases h
theorem zcU {P:Program} {op:Oper} {a:Act} {w w0:World} {F0:Nat->Prop} {K':Act->World->Prop} {Q:Exit->Act->World->Prop} {f:FuncId} {args:Array Value} {pre L R:List Assn} {Qt:Value->List Assn->Prop} (hy:(execOp a.eval op).run P w= .ok (.enter f args) w) (ht:zi P f args pre Qt) (hs:PickAll pre L R)
  (hK:∀v K w',Qt v K->Sep F0 w0 w' (K++R)->K' (a.put op.dst v) w') (H:Sep F0 w0 w L):op.wp P a w K' Q:=by
 unfold Oper.wp
 rw[hy]
 exact zi.use ht hs (C:=fun
  | .returned v,w''=>K' (a.put op.dst v) w''
  | .panicked chain,w''=>Q (.panic chain) a w''
  | .outgrown,_=>LetsOut Q) hK H
def PilotM.receive (s:PilotM) (now:Int) (l:Letter):PilotM×List Letter:=
 if s.busy=false then(s,[])else if z03 l=false then(s,[])else if(s.calls.answer l).2.2=false then(s,[])
 else
  let t:=PilotM.react {s with calls:=(s.calls.answer l).1} (zv now) l.frm (s.calls.answer l).2.1 l.say
  ({t with asked:=[]},t.asked)
theorem zas {N S:Int} (p:Nat) (s:PilotM) (now:Int) (l:Letter) (hi:PInv N S 200 s) (hb:l.say.rcd.block.size<=9223372036854775807) (hst:l.say.rcd.staged.size<=9223372036854775807):
  zi Tryz.prog 91 #[.pointer (some ⟨p,0,none⟩),.int .i64 now,l.v] [zy p s] fun r K=>K=[zh 114 26 r (s.receive now l).2.length (zd Letter.cells (s.receive now l).2),zy p (s.receive now l).1]:=by
 intro F0 w0 w R H
 try simp only[xNf]at H
 have hRT:=z7Q l hb hst
 obtain⟨bz,hbz⟩:=xG (s.busy)
 obtain⟨rl,hrl⟩:=xG (z03 l)
 obtain⟨⟨ca,cq,ck⟩,ha⟩:∃x,s.calls.answer l=x:=⟨_,rfl⟩
 have hA:=fun c=>zcx c s.calls l (by have:=hi.opn;omega)
 rw[hrl]at hRT
 rw[ha]at hA
 have HRT:=Lib.hid hRT
 have HBZ:=Lib.hid hbz
 have hnone:= @zep s.calls l
 have hsome:= @z4G s.calls l
 rw[ha]at hnone hsome
 dsimp only at hnone hsome
 cases bz with
 |false=>
  have hrec:s.receive now l=(s,[]):=by unfold PilotM.receive;rw[if_pos hbz]
  rw[hrec]
  clear hrec hRT hA ha hrl hi hb hst hbz hnone hsome
  go_enter Tryz.func91,Tryz.ntmps91
  go_wp2_with (first|(refine xNt 114 H ?_;clear H;intro bl w H)|(refine ldp H (v:=.bool false) (hh:=zj pk (fun _=>by rw[<-HBZ.out];rfl)) ?_)|first|refine xLd H ?_|(refine xEf H ?_;clear H;intro b A' w H))
  refine xR1 H ?_
  replace H:Sep F0 w0 w (zh 114 26 (.slice none 0 0) 0 (zd Letter.cells [])::_):=Sep.mk_row_nil (e:=114) (size:=26) H
  exact⟨.slice none 0 0,_,rfl,rfl,H.sub sba⟩
 |true=>
  cases rl with
  |false=>
   have hrec:s.receive now l=(s,[]):=by unfold PilotM.receive;rw[if_neg (by rw[hbz];decide),if_pos hrl]
   rw[hrec]
   clear hrec hRT hA ha hrl hi hb hst hbz hnone hsome
   go_enter Tryz.func91,Tryz.ntmps91
   go_wp2_with (first|(refine xNt 114 H ?_;clear H;intro bl w H)|(refine ldp H (v:=.bool true) (hh:=zj pk (fun _=>by rw[<-HBZ.out];rfl)) ?_)|(go_at_call 129;refine xT2 (HRT.out) H ?_;clear H;intro w H)|first|refine xLd H ?_|(refine xEf H ?_;clear H;intro b A' w H))
   refine xR1 H ?_
   replace H:Sep F0 w0 w (zh 114 26 (.slice none 0 0) 0 (zd Letter.cells [])::_):=Sep.mk_row_nil (e:=114) (size:=26) H
   exact⟨.slice none 0 0,_,rfl,rfl,H.sub sba⟩
  |true=>
   have HA:=Lib.hid hA
   cases ck with
   |false=>
    have hrec:s.receive now l=(s,[]):=by unfold PilotM.receive;rw[if_neg (by rw[hbz];decide),if_neg (by rw[hrl];decide),if_pos (by rw[ha])]
    rw[hrec]
    have hca:=Lib.hid (hnone rfl)
    clear hrec hRT hA ha hrl hi hb hst hbz hnone hsome
    go_enter Tryz.func91,Tryz.ntmps91
    go_upto_region 3 with(first|(refine xNt 114 H ?_;clear H;intro bl w H)|(refine ldp H (v:=.bool true) (hh:=zj pk (fun _=>by rw[<-HBZ.out];rfl)) ?_)|(go_at_call 129;refine xT2 (HRT.out) H ?_;clear H;intro w H)|first|refine xLd H ?_|(refine xEf H ?_;clear H;intro b A' w H))
    obtain⟨bc,kn,re,rd,wv,up,as_,H⟩:=zy.parts pk H
    refine xRg [5,10] (fun L=>[L,[],[]]) H ?_
    clear H;intro w H
    have HS:=H
    refine xO 0 0 HS ?_
    refine xO 1 0 HS ?_
    refine xO 2 0 HS ?_
    refine xL 3 0 HS ?_ (hin:=(.stop (n:=12) hd (by kernel_rfl)))
    refine xV 4 0 HS ?_ (hin:=(.stop (n:=12) hdV (by kernel_rfl)))
    clear HS
    refine tk2 5 9 1 0 (fun K' hK=>?_) (fun K' hK=>?_)
    go_simp;revert H;refine zi.use (HA.out _) pks ?_;rintro _ _ w ⟨rfl,rfl⟩ H;try simp only[xNf]at H
    refine hK _ _ (H.sub sbn) (fun HS=>?_)
    clear hK K'
    try simp only[xPt]
    refine xO 6 1 HS ?_
    refine xO 7 1 HS ?_
    refine xO 8 1 HS ?_
    refine xM 9 1 H ?_
    clear H HS;intro b _ w H HS
    refine xM 10 2 H ?_
    clear H HS;intro _ _ w H HS
    refine xO 11 2 HS ?_
    refine xD ?_
    rotate_left
    (refine wEf H ?_;clear H;intro b _ w H)
    refine hK _ _ (H.sub sbn) (fun HS=>?_)
    clear hK K'
    try simp only[xPt]
    refine xC 5 1 (HA.out _) H ?_
    clear H HS;intro w H HS
    refine xO 6 1 HS ?_
    refine xO 7 1 HS ?_
    refine xO 8 1 HS ?_
    refine xM 10 2 H ?_
    clear H HS;intro _ _ w H HS
    refine xO 11 2 HS ?_
    refine xD ?_
    rotate_left
    all_goals
     have H3:Sep F0 w0 _ (zy p s::R):=zy.join bc kn re rd wv up as_ (H.sub sba) rfl (hc:=hca.out)
     clear H
     have H:=H3
     clear H3
     go_wp2_with (first|refine xLd H ?_|(refine xEf H ?_;clear H;intro b A' w H))
     refine xR1 H ?_
     replace H:Sep F0 w0 w (zh 114 26 (.slice none 0 0) 0 (zd Letter.cells [])::_):=Sep.mk_row_nil (e:=114) (size:=26) H
     exact⟨.slice none 0 0,_,rfl,rfl,H.sub sba⟩
   |true=>
    have hrec:s.receive now l=({PilotM.react {s with calls:=ca} (zv now) l.frm cq l.say with asked:=[]},(PilotM.react {s with calls:=ca} (zv now) l.frm cq l.say).asked):=by
     unfold PilotM.receive
     rw[if_neg (by rw[hbz];decide),if_neg (by rw[hrl];decide),if_neg (by rw[ha];exact fun h=>(by cases h)),ha]
    obtain⟨j,o,ho,hod,hca⟩:=hsome rfl
    obtain⟨t,ht⟩:=xG ({s with calls:=ca})
    rw[ht]at hrec
    have hmo:o∈s.calls.opn:=List.mem_of_getElem? ho
    obtain⟨x,hx⟩:∃x,s.work.next=some x:=Option.ne_none_iff_exists'.1 (hi.nx (List.ne_nil_of_mem hmo))
    have hxt:t.work.next=some x:=by rw[<-ht];exact hx
    have hti:PInv N S 200 t:=by
     rw[<-ht,hca]
     exact⟨⟨hi.ok.last,hi.ok.few,hi.ok.st0,hi.ok.st8⟩,hi.right,hi.st,hi.col0,hi.col1,hi.kind,hi.kn,hi.rl,hi.rd,hi.wr,hi.rc,hi.up,Nat.le_trans (List.length_eraseIdx_le _ _) hi.opn,(fun _=>by show s.work.next≠none;rw[hx];exact fun h=>(by cases h)),hi.fe,hi.pu,fun o' ho'=>hi.dst o' (List.mem_of_mem_eraseIdx ho'),hi.ds,hi.ak,hi.gN,hi.gS⟩
    have hR:=zdz p t (zv now) l.frm cq l.say x hti hxt (fun h=>by
     rw[<-ht]at h⊢
     rw[<-hod]
     exact hi.dst o hmo h)
    obtain⟨t2,ht2⟩:=xG (t.react (zv now) l.frm cq l.say)
    rw[ht2]at hR hrec
    rw[hrec]
    have hW:∀w,Calls Tryz.prog 110 #[.int .i64 now] w fun e w'=>e= .returned (.int .i64 (zv now))/\w=w':=z2K now
    obtain⟨tm,htm⟩:=xG (zv now)
    rw[htm]at hR hW
    have HR:=Lib.hid hR
    have HW:=Lib.hid hW
    have HT:=Lib.hid ht
    have HX:=Lib.hid hxt
    clear hrec hRT hA ha hrl hi hb hst hbz hnone hsome hR hW ht ht2 hti hmo ho hod hca hx hxt htm
    obtain⟨lf,lt,li,la,lq,ly⟩:=l
    dsimp only at HR
    go_enter Tryz.func91,Tryz.ntmps91
    go_upto_region 3 with(first|(refine xNt 114 H ?_;clear H;intro bl w H)|(refine ldp H (v:=.bool true) (hh:=zj pk (fun _=>by rw[<-HBZ.out];rfl)) ?_)|(go_at_call 129;refine xT2 (HRT.out) H ?_;clear H;intro w H)|first|refine xLd H ?_|(refine xEf H ?_;clear H;intro b A' w H))
    obtain⟨bc,kn,re,rd,wv,up,as_,H⟩:=zy.parts pk H
    refine xRg [5,10] (fun L=>[L,[],[]]) H ?_
    clear H;intro w H
    have HS:=H
    refine xO 0 0 HS ?_
    refine xO 1 0 HS ?_
    refine xO 2 0 HS ?_
    refine xL 3 0 HS ?_ (hin:=(.stop (n:=12) hd (by kernel_rfl)))
    refine xV 4 0 HS ?_ (hin:=(.stop (n:=12) hdV (by kernel_rfl)))
    clear HS
    refine tk2 5 9 1 0 (fun K' hK=>?_) (fun K' hK=>?_)
    go_simp;revert H;refine zi.use (HA.out _) pks ?_;rintro _ _ w ⟨rfl,rfl⟩ H;try simp only[xNf]at H
    refine hK _ _ (H.sub sbn) (fun HS=>?_)
    clear hK K'
    try simp only[xPt]
    refine xO 6 1 HS ?_
    refine xO 7 1 HS ?_
    refine xO 8 1 HS ?_
    clear HS
    refine tk1 9 1 (fun K' hK=>?_)
    (refine wal H ?_;clear H;intro bq w H)
    refine hK _ _ (H.sub sbn) (fun HS=>?_)
    clear hK K'
    try simp only[xPt]
    refine xM 10 2 H ?_
    clear H HS;intro _ _ w H HS
    refine xO 11 2 HS ?_
    refine xD ?_
    rotate_left
    (refine wal H ?_;clear H;intro bq w H)
    refine hK _ _ (H.sub sbn) (fun HS=>?_)
    clear hK K'
    try simp only[xPt]
    refine xC 5 1 (HA.out _) H ?_
    clear H HS;intro w H HS
    refine xO 6 1 HS ?_
    refine xO 7 1 HS ?_
    refine xO 8 1 HS ?_
    refine xM 10 2 H ?_
    clear H HS;intro _ _ w H HS
    refine xO 11 2 HS ?_
    refine xD ?_
    rotate_left
    all_goals
     have H3:Sep F0 w0 w (zy p t::z7 bq 110 cq.cells::z7 bl 114 (Letter.cells ⟨lf,lt,li,la,lq,ly⟩)::R):=by
      rw[<-HT.out]
      exact zy.join (s:={s with calls:=ca}) bc kn re rd wv up as_ (H.sub sba) (by rfl)
     clear H
     have H:=H3
     clear H3
     go_upto_region 6 with(first|refine xLd H ?_|(refine xEf H ?_;clear H;intro b A' w H))
     refine xRg [12] (fun L=>[L,[]]) H ?_
     clear H;intro w H
     have HS:=H
     refine xO 0 0 HS ?_
     refine xO 1 0 HS ?_
     refine xO 2 0 HS ?_
     refine xO 3 0 HS ?_
     refine xL 4 0 HS ?_ (hin:=(.stop (n:=13) (zj (v:=.func (.func (phF x)) #[.pointer (some ⟨p,0,none⟩)] #[]) pk (fun _=>by show some (zix p t.work.next)=_;rw[HX.out];rfl)) (by kernel_rfl)))
     refine xO 5 0 HS ?_
     refine xO 7 0 HS ?_
     refine xL 8 0 HS ?_ (hin:=(.stop (n:=13) hdp (by kernel_rfl)))
     refine xV 9 0 HS ?_ (hin:=(.stop (n:=13) zmT (by kernel_rfl)))
     refine xO 10 0 HS ?_
     refine xV 11 0 HS ?_ (hin:=(.stop (n:=13) (by first|exact z0y pk (ze (by rfl))|exact zg (cs:=ly.cells) 13 pk (by rfl) (ze (by rfl))|exact z0V (cs:=ly.cells) 13 pk (by rfl) (ze (by rfl))) (by kernel_rfl)))
     clear HS
     refine tk1 6 0 (fun K' hK=>?_)
     go_simp;refine(HW.out _).mono ?_;rintro e w' ⟨rfl,rfl⟩
     refine hK _ _ (H.sub sbn) (fun HS=>?_)
     clear hK K'
     try simp only[xPt]
     clear HS
     refine tk1 12 1 (fun K' hK=>?_)
     (refine zcU (by cases x<;>(first|(go_simp;rfl)|go_simp|rfl)) HR.out pks ?_ H;clear H;rintro _ _ w ⟨rfl,rfl⟩ H;try simp only[xNf]at H)
     refine hK _ _ (H.sub sbn) (fun HS=>?_)
     clear hK K'
     try simp only[xPt]
     refine xD ?_
     go_wp2_with (first|(go_at_call 115;revert H;refine zi.use (zg2 _ _) pks ?_;rintro v1 _ w rfl H;try simp only[xNf]at H;obtain⟨A1,c1,rfl⟩:=zt (v:=v1) H .head)|first|refine xLd H ?_|(refine xEf H ?_;clear H;intro b A' w H))
     refine xR1 H ?_
     exact⟨.slice A1 t2.asked.length c1,_,rfl,rfl,H.sub sba⟩
end Go.Proofs.YtmfincpagnpkjaaGreat
