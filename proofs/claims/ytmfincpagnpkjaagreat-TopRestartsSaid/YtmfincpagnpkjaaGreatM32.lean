/- Part of the proof. -/
import Derived.Test.YtmfincpagnpkjaaGreatM31
set_option linter.all false
set_option maxRecDepth 100000
set_option maxHeartbeats 100000000
namespace Go.Proofs.YtmfincpagnpkjaaGreat
open Go.RowKit
theorem zhk (R0:List ByteArray) (v:Value) (n:Nat) (hn:R0.length=n) (h0:0<n) (hs:∀s∈R0,s.size=16):zi Tryz.prog 278 #[v] [zh 9 1 v n (R0.map Value.string)] fun r K=>r= .tuple #[.string (zjG 16 R0),.int .i64 0]/\K=[zh 9 1 v n (R0.map Value.string)]:=by
 intro F0 w0 w R H
 obtain⟨g,c,rfl⟩:=zz H .head h0
 have hr:=Rd.of_own (H.row (v:=.slice (some ⟨g,0,none⟩) n c) .head)
 refine(znw 16 R0 _ n c w hr hs hn h0 (z4s H .head) (z5v H .head) (by decide)).mono ?_
 rintro e w' ⟨rfl,hb⟩
 exact⟨_,_,rfl,⟨rfl,rfl⟩,H.below hb⟩
def zl6 (N:Nat) (c o:Int) (R:List ByteArray):ByteArray×Int:=if z0M R (z0c N c o).length then(zlt c o R,0)else(noB,10)
theorem z4F {R:List ByteArray} {m:Nat} (h:z0M R m=true):R.length=m/\∀s∈R,s.size=16:=by
 unfold z0M at h
 simp only[Bool.and_eq_true,beq_iff_eq,List.all_eq_true]at h
 exact⟨by omega,h.2⟩
theorem zl5 (N:Nat) (S c o:Int) (R0:List ByteArray) (v:Value) (n:Nat) (hn:R0.length=n) (h1:3<=N) (h2:N<=6) (h3:1<=S) (h4:S<=8) (c1:0<=c) (c2:c<(N:Int)-1) (o1:-1<=o) (o2:o<=(N:Int)-1):
  zi Tryz.prog 265 #[.agg #[.int .i64 N,.int .i64 S],.int .i64 c,.int .i64 o,v] [zh 9 1 v n (R0.map Value.string)] fun r K=>r= .tuple #[.string (zl6 N c o R0).1,.int .i64 (zl6 N c o R0).2]/\K=[zh 9 1 v n (R0.map Value.string)]:=by
 intro F0 w0 w R H
 try simp only[xNf]at H
 have hF:=z9x N S c o h1 h2 h3 h4 c1 c2 o1 o2
 have hpos:0<(z0c N c o).length:=zgG h1 h2 c1 c2
 obtain⟨m,hm⟩:=xG ((z0c N c o).length)
 obtain⟨mb,hmb⟩:=xG ((z1J N c o).length)
 have hB:=z8g R0 v n m hn
 have hg:zl6 N c o R0=if z0M R0 m then(zlt c o R0,0)else(noB,10):=by unfold zl6;rw[hm]
 rw[hm,hmb]at hF
 rw[hm]at hpos
 rw[hg]
 cases hb:z0M R0 m with
 |false=>
  rw[hb]at hB
  rw[if_neg (by decide)]
  have HF:=Lib.hid hF
  have HB:=Lib.hid hB
  clear hg hb hF hB hm hmb hn hpos c1 c2 o1 o2 h1 h2 h3 h4
  go_enter Tryz.func265,Tryz.ntmps265
  go_wp2_with (first|(go_at_call 207;refine xTr (HF.out) H ?_;clear H;rintro _ _ w ⟨A1,a1,B1,b1,rfl,rfl⟩ H;try simp only[xNf]at H)|(go_at_call 266;refine xT2 (HB.out) H ?_;clear H;intro w H)|first|refine xLd H ?_|(refine xEf H ?_;clear H;intro b A' w H))
  refine xR2 H ?_
  exact xF H
 |true=>
  rw[hb]at hB
  rw[if_pos rfl]
  obtain⟨hRl,hs⟩:=z4F hb
  have hnm:n=m:=hn.symm.trans hRl
  have HF:=Lib.hid hF
  have HB:=Lib.hid hB
  have HX:=Lib.hid (zhk R0 v n hn (by omega) hs)
  by_cases ho:o=c
  ·have e:zlt c o R0=zjG 16 R0:=by unfold zlt;rw[if_pos ho]
   rw[e]
   have d1:(o==c)=true:=by simpa using ho
   subst ho
   clear hg hb hF hB hm hmb hn hpos e hnm hRl hs c1 c2 o1 o2 h1 h2 h3 h4
   go_enter Tryz.func265,Tryz.ntmps265
   go_wp2_with (first|(go_at_call 207;refine xTr (HF.out) H ?_;clear H;rintro _ _ w ⟨A1,a1,B1,b1,rfl,rfl⟩ H;try simp only[xNf]at H)|(go_at_call 266;refine xT2 (HB.out) H ?_;clear H;intro w H)|(go_at_call 278;refine xT2 (HX.out) H ?_;clear H;intro w H)|first|refine xLd H ?_|(refine xEf H ?_;clear H;intro b A' w H))
   refine xR2 H ?_
   exact xF H
  ·have e:zlt c o R0=R0.getD 0 ⟨#[]⟩:=by unfold zlt;rw[if_neg ho]
   rw[e]
   have d1:(o==c)=false:=by simpa using ho
   obtain⟨x,hx⟩:∃x,R0[0]?=some x:=⟨_,List.getElem?_eq_getElem (by omega)⟩
   have e2:R0.getD 0 ⟨#[]⟩=x:=by rw[List.getD_eq_getElem?_getD,hx];rfl
   rw[e2]
   obtain⟨g,c',rfl⟩:=zz H pk (by omega)
   have HXX:=Lib.hid (z07 hx)
   have hn0:0<n:=by omega
   clear hg hb hF hB hm hmb hn hpos e e2 hx hnm hRl hs ho c1 c2 o1 o2 h1 h2 h3 h4
   go_enter Tryz.func265,Tryz.ntmps265
   go_wp2_with (first|(go_at_call 207;refine xTr (HF.out) H ?_;clear H;rintro _ _ w ⟨A1,a1,B1,b1,rfl,rfl⟩ H;try simp only[xNf]at H)|(go_at_call 266;refine xT2 (HB.out) H ?_;clear H;intro w H)|(refine ld1 H (hh:=(by first|exact zn pk HXX.out|exact zc pk HXX.out)) ?_)|first|refine xLd H ?_|(refine xEf H ?_;clear H;intro b A' w H))
   refine xR2 H ?_
   exact xF H
theorem zdN (N S s n:Int):zi Tryz.prog 213 #[.agg #[.int .i64 N,.int .i64 S],.int .i64 s,.int .i64 n] [] fun v K=>v= .int .i64 (z3t N S s n)/\K=[]:=zm fun w=>zgd N S s n w
theorem z9C (N S s n:Int):zi Tryz.prog 239 #[.agg #[.int .i64 N,.int .i64 S],.int .i64 s,.int .i64 n] [] fun v K=>v= .int .i64 (z4c N S s n)/\K=[]:=zm fun w=>zjg N S s n w
theorem z9d (N S:Int):zi Tryz.prog 42 #[.agg #[.int .i64 N,.int .i64 S]] [] fun v K=>v= .bool (yn N S)/\K=[]:=zm fun w=>zds N S w
def ofG (N S b:Int):Int×Int×Int×Int:=if inZ N S b then(b/ (N-1),b % (N-1),(b % (N-1)+b/ (N-1)) % N,0)else(0,0,0,50)
theorem zdB (N S b:Int) (h:yn N S=true):zi Tryz.prog 173 #[.agg #[.int .i64 N,.int .i64 S],.int .i64 b] [] fun v K=>v= .tuple #[.agg #[.int .i64 (ofG N S b).1,.int .i64 (ofG N S b).2.1,.int .i64 (ofG N S b).2.2.1],.int .i64 (ofG N S b).2.2.2]/\K=[]:=by
 obtain⟨h1,h2,h3,h4⟩:=yc.1 h
 cases hi:inZ N S b with
 |false=>
  unfold ofG
  rw[hi,if_neg (by decide)]
  exact zm fun w=>znm N S b w hi
 |true=>
  have hb:=of_decide_eq_true hi
  have hz:yl N S=S*(N-1):=by unfold yl;rw[if_pos h]
  rw[hz]at hb
  unfold ofG
  rw[hi,if_pos rfl]
  exact zm fun w=>zlr N S b w h1 h2 h3 h4 hb.1 hb.2
theorem zdO (r:ByteArray) (n:Nat) (a b c:ByteArray) (hv:z9M (z9M a b) c=r) (ha:a.size=n) (hb:b.size=n) (hc:c.size=n) (hn:n<=maxLen):zi Tryz.prog 268 #[.string a,.string b,.string c] [] fun v K=>v= .tuple #[.string r,.int .i64 0]/\K=[]:=zm fun w=>zm0 r n a b c w hv ha hb hc hn
theorem zbX (r first:ByteArray) (R0:List ByteArray) (v:Value) (n:Nat) (hn:R0.length=n) (hv:z6A first R0=(r,0)) (h0:0<n) (hs:first.size<=maxLen):zi Tryz.prog 267 #[.string first,v] [zh 9 1 v n (R0.map Value.string)] fun z K=>z= .tuple #[.string r,.int .i64 0]/\K=[zh 9 1 v n (R0.map Value.string)]:=by
 intro F0 w0 w R H
 obtain⟨g,c,rfl⟩:=zz H .head h0
 have hr:=Rd.of_own (H.row (v:=.slice (some ⟨g,0,none⟩) n c) .head)
 refine(ziz r first R0 _ n c w hv hr hs (Nat.le_trans (z4s H .head) (z5v H .head)) hn).mono ?_
 rintro e w' ⟨rfl,hb⟩
 exact⟨_,_,rfl,⟨rfl,rfl⟩,H.below hb⟩
def z6B (N:Nat) (c o:Int) (R:List ByteArray) (data:ByteArray):List ByteArray×Int:=if z0M R (z6X N c o).length&&data.size==16 then(z8J N c o R data,0)else([],10)
theorem ziB (N:Nat) (S c o:Int) (R0:List ByteArray) (data:ByteArray) (v:Value) (n:Nat) (hn:R0.length=n) (h1:3<=N) (h2:N<=6) (h3:1<=S) (h4:S<=8) (c1:0<=c) (c2:c<(N:Int)-1) (o1:-1<=o) (o2:o<=(N:Int)-1):
  zi Tryz.prog 246 #[.agg #[.int .i64 N,.int .i64 S],.int .i64 c,.int .i64 o,v,.string data] [zh 9 1 v n (R0.map Value.string)]
   fun r K=>∃A a,r= .tuple #[.slice A (z6B N c o R0 data).1.length a,.int .i64 (z6B N c o R0 data).2]/\K=[zh 9 1 v n (R0.map Value.string),zh 9 1 (.slice A (z6B N c o R0 data).1.length a) (z6B N c o R0 data).1.length ((z6B N c o R0 data).1.map Value.string)]:=by
 intro F0 w0 w R H
 try simp only[xNf]at H
 have hU:=z6W N S c o h1 h2 h3 h4 c1 c2 o1 o2
 have HY:=Lib.hid (z7G N S (by omega) (by omega) h3 h4)
 obtain⟨m,hm⟩:=xG ((z6X N c o).length)
 obtain⟨mb,hmb⟩:=xG ((zcP N c o).length)
 have hB:=z8g R0 v n m hn
 have hg:z6B N c o R0 data=if z0M R0 m&&data.size==16 then(z8J N c o R0 data,0)else([],10):=by unfold z6B;rw[hm]
 rw[hm,hmb]at hU
 rw[hg]
 by_cases hbd:(z0M R0 m&&data.size==16)=true
 ·rw[if_pos hbd]
  have hb:=(Bool.and_eq_true _ _▸hbd:z0M R0 m=true/\(data.size==16)=true).1
  have hd:data.size=16:=by simpa using(Bool.and_eq_true _ _▸hbd:z0M R0 m=true/\(data.size==16)=true).2
  have d0:((data.size:Int) !=16)=false:=by rw[hd];rfl
  rw[hb]at hB
  obtain⟨hRl,hs⟩:=z4F hb
  have hnm:n=m:=hn.symm.trans hRl
  have HU:=Lib.hid hU
  have HB:=Lib.hid hB
  rcases(show o=(N:Int)-1\/(o≠(N:Int)-1/\o=c)\/(o≠(N:Int)-1/\o≠c) by omega)with g|⟨g,g2⟩|⟨g,g2⟩
  ·have e1:z8J N c o R0 data=[data]:=by unfold z8J;rw[if_pos g]
   rw[e1]
   simp only[List.map_nil,List.map_cons,List.length_nil,List.length_cons,Nat.zero_add]
   have d1:(o==(N:Int)-1)=true:=by simpa using g
   clear hg hb hbd hd hU hB hm hmb hn e1 hnm hRl hs g c1 c2 o1 o2 h1 h2 h3 h4
   go_enter Tryz.func246,Tryz.ntmps246
   go_wp2_with (first|(go_at_call 209;refine xTr (HU.out) H ?_;clear H;rintro _ _ w ⟨A1,a1,B1,b1,rfl,rfl⟩ H;try simp only[xNf]at H)|(go_at_call 266;refine xT2 (HB.out) H ?_;clear H;intro w H)|(go_at_call 174;refine xT2 (HY.out) H ?_;clear H;intro w H)|(refine zp (by rfl) (fun K' hK=>?_);refine z5o 1 H ?_;clear H;intro b4 w H;refine hK _ _ ?_;clear hK K')|first|refine xLd H ?_|(refine xEf H ?_;clear H;intro b A' w H))
   refine xR2 H ?_
   exact⟨_,_,rfl,⟨_,_,rfl,rfl⟩,H.sub sba⟩
  ·obtain⟨r,hr⟩:=xG (z1m data R0)
   have e1:z8J N c o R0 data=[r]:=by unfold z8J;rw[if_neg g,if_pos g2,hr]
   have hv:z6A data R0=(r,0):=by rw[zaz (fun s h=>by rw[hs s h,hd]),hr]
   have hn0:0<n:=by
    rw[hnm,<-hm];unfold z6X;rw[if_neg g,if_pos g2,z7J (by omega) c1 (by omega)];omega
   rw[e1]
   simp only[List.map_nil,List.map_cons,List.length_nil,List.length_cons,Nat.zero_add]
   have d1:(o==(N:Int)-1)=false:=by simpa using g
   have d2:(o==c)=true:=by simpa using g2
   have HM:=Lib.hid (zbX r data R0 v n hn hv hn0 (by rw[hd];decide))
   clear hg hb hbd hd hU hB hm hmb hn e1 hnm hRl hs g g2 hr hv hn0 c1 c2 o1 o2 h1 h2 h3 h4
   go_enter Tryz.func246,Tryz.ntmps246
   go_wp2_with (first|(go_at_call 209;refine xTr (HU.out) H ?_;clear H;rintro _ _ w ⟨A1,a1,B1,b1,rfl,rfl⟩ H;try simp only[xNf]at H)|(go_at_call 266;refine xT2 (HB.out) H ?_;clear H;intro w H)|(go_at_call 174;refine xT2 (HY.out) H ?_;clear H;intro w H)|(go_at_call 267;refine xT2 (HM.out) H ?_;clear H;intro w H)|(refine zp (by rfl) (fun K' hK=>?_);refine z5o 1 H ?_;clear H;intro b4 w H;refine hK _ _ ?_;clear hK K')|first|refine xLd H ?_|(refine xEf H ?_;clear H;intro b A' w H))
   refine xR2 H ?_
   exact⟨_,_,rfl,⟨_,_,rfl,rfl⟩,H.sub sba⟩
  ·have hm2:m=2:=by rw[<-hm];unfold z6X;rw[if_neg g,if_neg g2];rfl
   subst hm2
   obtain⟨x0,x1,rfl⟩:∃x0 x1,R0=[x0,x1]:=by
    match R0,hRl with
    |[a,b],_=>exact⟨a,b,rfl⟩
   obtain rfl:n=2:=hnm
   obtain⟨r,hr⟩:=xG (z9M (z9M x1 x0) data)
   have e1:z8J N c o [x0,x1] data=[data,r]:=by unfold z8J;rw[if_neg g,if_neg g2,<-hr];rfl
   rw[e1]
   simp only[List.map_nil,List.map_cons,List.length_nil,List.length_cons,Nat.zero_add]at H HB⊢
   have d1:(o==(N:Int)-1)=false:=by simpa using g
   have d2:(o==c)=false:=by simpa using g2
   have HM:=Lib.hid (zdO r 16 x1 x0 data hr (hs _ (by simp)) (hs _ (by simp)) hd (by decide))
   obtain⟨gg,cc,rfl⟩:=zz H pk (by omega)
   clear hg hb hbd hd hU hB hm hmb hn e1 hRl hs g g2 hr c1 c2 o1 o2 h1 h2 h3 h4
   go_enter Tryz.func246,Tryz.ntmps246
   go_upto_region 14 with(first|(go_at_call 209;refine xTr (HU.out) H ?_;clear H;rintro _ _ w ⟨A1,a1,B1,b1,rfl,rfl⟩ H;try simp only[xNf]at H)|(go_at_call 266;refine xT2 (HB.out) H ?_;clear H;intro w H)|(go_at_call 174;refine xT2 (HY.out) H ?_;clear H;intro w H)|first|refine xLd H ?_|(refine xEf H ?_;clear H;intro b A' w H))
   refine xRg [] (fun L=>[L]) H ?_
   clear H;intro w H
   have HS:=H
   refine xO 0 0 HS ?_
   refine xO 1 0 HS ?_
   refine xL 2 0 HS ?_
   refine xO 3 0 HS ?_
   refine xO 4 0 HS ?_
   refine xL 5 0 HS ?_
   refine xO 6 0 HS ?_
   refine xC 7 0 HM.out H ?_
   clear H HS;intro w H HS
   refine xO 8 0 HS ?_
   refine xO 9 0 HS ?_
   refine xO 10 0 HS ?_
   refine xO 11 0 HS ?_
   refine xO 12 0 HS ?_
   refine xD ?_
   go_wp2_with (first|(refine zp (by rfl) (fun K' hK=>?_);refine z5o 2 H ?_;clear H;intro b4 w H;refine hK _ _ ?_;clear hK K')|first|refine xLd H ?_|(refine xEf H ?_;clear H;intro b A' w H))
   refine xR2 H ?_
   exact⟨_,_,rfl,⟨_,_,rfl,rfl⟩,H.sub sba⟩
 ·rw[if_neg hbd]
  have hbd:=Bool.eq_false_iff.2 hbd
  simp only[List.map_nil,List.length_nil]
  have HU:=Lib.hid hU
  cases hb:z0M R0 m with
  |false=>
   rw[hb]at hB
   have HB:=Lib.hid hB
   clear hg hb hbd hU hB hm hmb hn c1 c2 o1 o2 h1 h2 h3 h4
   go_enter Tryz.func246,Tryz.ntmps246
   go_wp2_with (first|(go_at_call 209;refine xTr (HU.out) H ?_;clear H;rintro _ _ w ⟨A1,a1,B1,b1,rfl,rfl⟩ H;try simp only[xNf]at H)|(go_at_call 266;refine xT2 (HB.out) H ?_;clear H;intro w H)|first|refine xLd H ?_|(refine xEf H ?_;clear H;intro b A' w H))
   refine xR2 H ?_
   replace H:=Sep.mk_row_nil (e:=9) (size:=1) H
   exact⟨_,_,rfl,⟨none,0,rfl,rfl⟩,H.sub sba⟩
  |true=>
   rw[hb]at hB hbd
   have hd:data.size≠16:=by simpa using hbd
   have d0:((data.size:Int) !=16)=true:=by simp;omega
   have HB:=Lib.hid hB
   clear hg hb hbd hd hU hB hm hmb hn c1 c2 o1 o2 h1 h2 h3 h4
   go_enter Tryz.func246,Tryz.ntmps246
   go_wp2_with (first|(go_at_call 209;refine xTr (HU.out) H ?_;clear H;rintro _ _ w ⟨A1,a1,B1,b1,rfl,rfl⟩ H;try simp only[xNf]at H)|(go_at_call 266;refine xT2 (HB.out) H ?_;clear H;intro w H)|first|refine xLd H ?_|(refine xEf H ?_;clear H;intro b A' w H))
   refine xR2 H ?_
   replace H:=Sep.mk_row_nil (e:=9) (size:=1) H
   exact⟨_,_,rfl,⟨none,0,rfl,rfl⟩,H.sub sba⟩
end Go.Proofs.YtmfincpagnpkjaaGreat
