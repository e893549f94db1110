/- Part of the proof. -/
import Derived.Test.YtmfincpagnpkjaaGreatM36
set_option linter.all false
set_option maxRecDepth 100000
set_option maxHeartbeats 100000000
namespace Go.Proofs.YtmfincpagnpkjaaGreat
open Go.RowKit
theorem z5Q {N:Nat} {c o:Int} (h2:N<=6):(z0c N c o).length<=64/\(z1J N c o).length<=64:=by
 have hl:(ji N c).length<=6:=by
  unfold ji
  exact Nat.le_trans (List.length_filter_le _ _) (by simp;omega)
 unfold z0c z1J
 constructor
 ·split
  ·omega
  ·simp
 ·split<;>simp
theorem z9O {N:Nat} {c o:Int} (h1:3<=N) (h2:N<=6):(z6X N c o).length<=64/\(zcP N c o).length<=64:=by
 refine⟨Nat.le_trans (zjW h1 h2) (by decide), ?_⟩
 unfold zcP
 split
 ·simp
 ·split<;>simp
abbrev PilotM.outC (s:PilotM):Int:=z4c s.N s.S s.work.stripe s.work.out
abbrev PilotM.reading (s:PilotM):PilotM:={s with work:={s.work with reads:=z0c s.N.toNat s.work.column s.outC}}
abbrev PilotM.writing (s:PilotM):PilotM:={s with work:={s.work with reads:=z6X s.N.toNat s.work.column s.outC,writes:=zcP s.N.toNat s.work.column s.outC}}
abbrev PilotM.doWork (s:PilotM) (now:Int):PilotM:=
 if(s.work.op.kind==1)=true then s.reading.enterRead now (z1J s.N.toNat s.work.column s.outC)
 else if((z6X s.N.toNat s.work.column s.outC).length==0)=true then s.writing.makeBlocks now else s.writing.enterRead now []
theorem z3s (p:Nat) (s:PilotM) (now:Int) (hs:PilOk 130 s) (hr:yn s.N s.S=true) (hc1:0<=s.work.column) (hc2:s.work.column<s.N-1) (hk:s.work.op.kind≠3):
  zi Tryz.prog 167 #[.pointer (some ⟨p,0,none⟩),.int .i64 now] [zy p s] fun r K=>r= .tuple #[]/\K=[zy p (s.doWork now)]:=by
 intro F0 w0 w R H
 try simp only[xNf]at H
 obtain⟨r1,r2,r3,r4⟩:=yc.1 hr
 obtain⟨N,hN⟩:∃n:Nat,s.N=n:=⟨s.N.toNat,by omega⟩
 have hNN:s.N.toNat=N:=by omega
 have hcr:=z2t (s:=s.work.stripe) (n:=s.work.out) hr
 have hCO:=z17 p s s.work.out
 unfold PilotM.doWork
 rw[hNN]
 obtain⟨o,ho⟩:=xG (z4c s.N s.S s.work.stripe s.work.out)
 have ho':s.outC=o:=ho
 rw[ho]at hcr hCO
 rw[ho']
 have d3:(s.work.op.kind==3)=false:=by simpa using hk
 cases d1:(s.work.op.kind==1)with
 |true=>
  rw[if_pos rfl]
  have hF:=z9x N s.S s.work.column o (by omega) (by omega) r3 r4 hc1 (by omega) hcr.1 (by omega)
  have hfl:=z5Q (N:=N) (c:=s.work.column) (o:=o) (by omega)
  have hrd:s.reading={s with work:={s.work with reads:=z0c N s.work.column o}}:=by unfold PilotM.reading;rw[hNN,ho']
  rw[hrd]
  obtain⟨fr,hfr⟩:=xG (z0c N s.work.column o)
  obtain⟨fb,hfb⟩:=xG (z1J N s.work.column o)
  rw[hfr,hfb]at hF hfl
  rw[hfr,hfb]
  obtain⟨s1,h1⟩:=xG (({s with work:={s.work with reads:=fr}}:PilotM))
  have hR:=fun v=>z3r p s1 now fb v fb.length rfl hfl.2 (by rw[<-h1];exact hfl.1) (by rw[<-h1];exact⟨hs.last,hs.few,hs.st0,hs.st8⟩)
  rw[h1]
  obtain⟨s9,h9⟩:=xG (s1.enterRead now fb)
  rw[h9]at hR⊢
  have HR:=Lib.hid hR
  have HF:=Lib.hid hF
  have HCO:=Lib.hid hCO
  have HN:=Lib.hid hN
  have H1:=Lib.hid h1
  clear hR hF hCO hN h9 h1 hfr hfb hrd hfl ho ho' hcr hNN hk hc1 hc2 hr hs r1 r2 r3 r4
  go_enter Tryz.func167,Tryz.ntmps167
  go_upto_region 11 with(first|(go_at_call 205;refine xT2 (HCO.out) H ?_;clear H;intro w H)|first|refine ldp H ?_|refine zc3 H ?_|refine xLd H ?_|(refine xEf H ?_;clear H;intro b A' w H))
  refine xRg [] (fun L=>[L]) H ?_
  clear H;intro w H
  have HS:=H
  refine xO 0 0 HS ?_
  refine xO 1 0 HS ?_
  refine xO 2 0 HS ?_
  refine xV 3 0 HS ?_ (hin:=(.last (z2S (m:=(N:Int)) pk HN.out rfl (ze (by rfl)))))
  refine xO 4 0 HS ?_
  refine xO 5 0 HS ?_
  refine xO 6 0 HS ?_
  refine xL 7 0 HS ?_ (hin:=(.last hdp))
  refine xO 8 0 HS ?_
  clear HS
  refine tk1 9 0 (fun K' hK=>?_)
  go_simp;revert H;refine zi.use HF.out pks ?_;rintro _ _ w ⟨A1,a1,B1,b1,rfl,rfl⟩ H;try simp only[xNf]at H
  refine hK _ _ (H.sub sbn) (fun HS=>?_)
  clear hK K'
  try simp only[xPt]
  refine xO 10 0 HS ?_
  refine xO 11 0 HS ?_
  refine xO 12 0 HS ?_
  refine xO 13 0 HS ?_
  refine xO 14 0 HS ?_
  refine xO 15 0 HS ?_
  refine xO 16 0 HS ?_
  refine xD ?_
  go_upto_region 12 with(first|refine xLd H ?_|(refine xEf H ?_;clear H;intro b A' w H))
  obtain⟨bc,kn,re,rd,wv,up,as_,H⟩:=zy.parts pk H
  go_upto_region 13 with(first|refine xLd H ?_|(refine xEf H ?_;clear H;intro b A' w H))
  have H2:Sep F0 w0 _ (zy p {s with work:={s.work with reads:=fr}}::zh 3 1 (.slice B1 fb.length b1) fb.length (fb.map z09)::R):=zy.join bc kn re (.slice A1 fr.length a1) wv up as_ (H.sub sba) (by kernel_rfl)
  rw[H1.out]at H2
  clear H
  have H:=H2
  clear H2
  go_wp2_with (first|(go_at_call 208;refine xT2 (HR.out _) H ?_;clear H;intro w H)|first|refine xLd H ?_|(refine xEf H ?_;clear H;intro b A' w H))
  refine xRe ?_
  exact xF H
 |false=>
  rw[if_neg (by decide)]
  have hF:=z6W N s.S s.work.column o (by omega) (by omega) r3 r4 hc1 (by omega) hcr.1 (by omega)
  have hfl:=z9O (N:=N) (c:=s.work.column) (o:=o) (by omega) (by omega)
  have hrd:s.writing={s with work:={s.work with reads:=z6X N s.work.column o,writes:=zcP N s.work.column o}}:=by unfold PilotM.writing;rw[hNN,ho']
  rw[hrd]
  obtain⟨fr,hfr⟩:=xG (z6X N s.work.column o)
  obtain⟨fb,hfb⟩:=xG (zcP N s.work.column o)
  rw[hfr,hfb]at hF hfl
  rw[hfr,hfb]
  obtain⟨s1,h1⟩:=xG (({s with work:={s.work with reads:=fr,writes:=fb}}:PilotM))
  have hs1:PilOk 130 s1:=by rw[<-h1];exact⟨hs.last,hs.few,hs.st0,hs.st8⟩
  rw[h1]
  cases d0:(fr.length==0)with
  |true=>
   rw[if_pos rfl]
   have hfr0:fr=[]:=List.eq_nil_of_length_eq_zero (by simpa using d0)
   have hM:=z9b p s1 now (hs1.less (by omega)) (by rw[<-h1];exact hr) (by rw[<-h1];exact hc1) (by rw[<-h1];exact hc2) (by rw[<-h1];exact hfl.1) (by rw[<-h1];exact hfl.2) (by rw[<-h1];show ∀c∈fr,_;rw[hfr0];intro c h;cases h)
   obtain⟨s9,h9⟩:=xG (s1.makeBlocks now)
   rw[h9]at hM⊢
   have d00:((fr.length:Int)==0)=true:=by rw[hfr0];rfl
   have HM:=Lib.hid hM
   have HF:=Lib.hid hF
   have HCO:=Lib.hid hCO
   have HN:=Lib.hid hN
   have H1:=Lib.hid h1
   clear hM hF hCO hN h9 h1 hfr hfb hrd hfl ho ho' hcr hNN hk hc1 hc2 hr hs r1 r2 r3 r4 hs1 hfr0
   go_enter Tryz.func167,Tryz.ntmps167
   go_upto_region 2 with(first|(go_at_call 205;refine xT2 (HCO.out) H ?_;clear H;intro w H)|first|refine ldp H ?_|refine zc3 H ?_|refine xLd H ?_|(refine xEf H ?_;clear H;intro b A' w H))
   obtain⟨bc,kn,re,rd,wv,up,as_,H⟩:=zy.parts pk H
   refine xRg [18,21] (fun L=>[L,[],[]]) H ?_
   clear H;intro w H
   have HS:=H
   refine xO 0 0 HS ?_
   refine xO 1 0 HS ?_
   refine xO 2 0 HS ?_
   refine xO 3 0 HS ?_
   refine xO 4 0 HS ?_
   refine xV 5 0 HS ?_ (hin:=(.stop (n:=22) (zg (cs:=[.int .i64 (N:Int),.int .i64 s.S]) 2 pk (by rw[<-HN.out];rfl) (ze (by rfl))) (by kernel_rfl)))
   refine xO 6 0 HS ?_
   refine xO 7 0 HS ?_
   refine xO 8 0 HS ?_
   refine xL 9 0 HS ?_ (hin:=(.stop (n:=22) hd (by kernel_rfl)))
   refine xO 10 0 HS ?_
   clear HS
   refine tk1 11 0 (fun K' hK=>?_)
   go_simp;revert H;refine zi.use HF.out pks ?_;rintro _ _ w ⟨A1,a1,B1,b1,rfl,rfl⟩ H;try simp only[xNf]at H
   refine hK _ _ (H.sub sbn) (fun HS=>?_)
   clear hK K'
   try simp only[xPt]
   refine xO 12 0 HS ?_
   refine xO 13 0 HS ?_
   refine xO 14 0 HS ?_
   refine xO 15 0 HS ?_
   refine xO 16 0 HS ?_
   refine xO 17 0 HS ?_
   refine xM 18 1 H ?_
   clear H HS;intro _ _ w H HS
   refine xO 19 1 HS ?_
   refine xO 20 1 HS ?_
   refine xM 21 2 H ?_
   clear H HS;intro _ _ w H HS
   refine xD ?_
   all_goals
    go_upto_region 4 with(first|refine xLd H ?_|(refine xEf H ?_;clear H;intro b A' w H))
    have H2:Sep F0 w0 _ (zy p {s with work:={s.work with reads:=fr,writes:=fb}}::R):=zy.join bc kn re (.slice A1 fr.length a1) (.slice B1 fb.length b1) up as_ (H.sub sba) (by kernel_rfl)
    rw[H1.out]at H2
    clear H
    have H:=H2
    clear H2
    go_wp2_with (first|(go_at_call 210;refine xT2 (HM.out) H ?_;clear H;intro w H)|first|refine xLd H ?_|(refine xEf H ?_;clear H;intro b A' w H))
    refine xRz ?_
    exact xF H
  |false=>
   rw[if_neg (by decide)]
   have hM:=fun v=>z3r p s1 now [] v 0 rfl (by decide) (by rw[<-h1];exact hfl.1) (hs1.less (by omega))
   obtain⟨s9,h9⟩:=xG (s1.enterRead now [])
   rw[h9]at hM⊢
   have d00:((fr.length:Int)==0)=false:=by simp at d0⊢;omega
   have HM:=Lib.hid hM
   have HF:=Lib.hid hF
   have HCO:=Lib.hid hCO
   have HN:=Lib.hid hN
   have H1:=Lib.hid h1
   clear hM hF hCO hN h9 h1 hfr hfb hrd hfl ho ho' hcr hNN hk hc1 hc2 hr hs r1 r2 r3 r4 hs1
   go_enter Tryz.func167,Tryz.ntmps167
   go_upto_region 2 with(first|(go_at_call 205;refine xT2 (HCO.out) H ?_;clear H;intro w H)|first|refine ldp H ?_|refine zc3 H ?_|refine xLd H ?_|(refine xEf H ?_;clear H;intro b A' w H))
   obtain⟨bc,kn,re,rd,wv,up,as_,H⟩:=zy.parts pk H
   refine xRg [18,21] (fun L=>[L,[],[]]) H ?_
   clear H;intro w H
   have HS:=H
   refine xO 0 0 HS ?_
   refine xO 1 0 HS ?_
   refine xO 2 0 HS ?_
   refine xO 3 0 HS ?_
   refine xO 4 0 HS ?_
   refine xV 5 0 HS ?_ (hin:=(.stop (n:=22) (zg (cs:=[.int .i64 (N:Int),.int .i64 s.S]) 2 pk (by rw[<-HN.out];rfl) (ze (by rfl))) (by kernel_rfl)))
   refine xO 6 0 HS ?_
   refine xO 7 0 HS ?_
   refine xO 8 0 HS ?_
   refine xL 9 0 HS ?_ (hin:=(.stop (n:=22) hd (by kernel_rfl)))
   refine xO 10 0 HS ?_
   clear HS
   refine tk1 11 0 (fun K' hK=>?_)
   go_simp;revert H;refine zi.use HF.out pks ?_;rintro _ _ w ⟨A1,a1,B1,b1,rfl,rfl⟩ H;try simp only[xNf]at H
   refine hK _ _ (H.sub sbn) (fun HS=>?_)
   clear hK K'
   try simp only[xPt]
   refine xO 12 0 HS ?_
   refine xO 13 0 HS ?_
   refine xO 14 0 HS ?_
   refine xO 15 0 HS ?_
   refine xO 16 0 HS ?_
   refine xO 17 0 HS ?_
   refine xM 18 1 H ?_
   clear H HS;intro _ _ w H HS
   refine xO 19 1 HS ?_
   refine xO 20 1 HS ?_
   refine xM 21 2 H ?_
   clear H HS;intro _ _ w H HS
   refine xD ?_
   all_goals
    go_upto_region 5 with(first|refine xLd H ?_|(refine xEf H ?_;clear H;intro b A' w H))
    have H2:Sep F0 w0 _ (zy p {s with work:={s.work with reads:=fr,writes:=fb}}::R):=zy.join bc kn re (.slice A1 fr.length a1) (.slice B1 fb.length b1) up as_ (H.sub sba) (by kernel_rfl)
    rw[H1.out]at H2
    clear H
    have H:=H2
    clear H2
    replace H:=Sep.mk_row_nil (e:=3) (size:=1) H
    rw[show([]:List Value)=([]:List Int).map z09 from rfl]at H
    go_wp2_with (first|(go_at_call 208;refine xT2 (HM.out _) H ?_;clear H;intro w H)|first|refine xLd H ?_|(refine xEf H ?_;clear H;intro b A' w H))
    refine xRe ?_
    exact xF H
end Go.Proofs.YtmfincpagnpkjaaGreat
