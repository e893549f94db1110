/- Part of the proof. -/
import Derived.Test.YtmfincpagnpkjaaGreatM22
set_option linter.all false
set_option maxRecDepth 100000
set_option maxHeartbeats 100000000
namespace Go.Proofs.YtmfincpagnpkjaaGreat
open Go.RowKit
def zjH (stripe epoch:Int) (known:List Bool) (rs:List Rec) (i:Nat):AskM:=
 ⟨6,stripe,epoch,0,if z45 known rs (rs[i]?.getD Rec.nil).ie (rs[i]?.getD Rec.nil).iq (rs[i]?.getD Rec.nil).mask then 1 else 0,0,(rs[i]?.getD Rec.nil).ie,(rs[i]?.getD Rec.nil).iq,noB⟩
def z4a (known:List Bool) (rs:List Rec):List Nat:=soL (fun r=>r.opn) rs (z2D known 63 known.length)
theorem zgV (st e ie iq:Int) (W:World):(Instr.build 110 #[(0,.int .i64 6),(1,.int .i64 st),(2,.int .i64 e),(6,.agg #[.int .i64 ie,.int .i64 iq])]).run Tryz.prog W= .ok (.agg (AskM.mk 6 st e 0 0 0 ie iq noB).cells.toArray) W:=by kernel_rfl
theorem zkf (cols:List Nat) (rs:List Rec) (v1 v2:Value) (hmax:cols.length<=64) (hin:∀i∈cols,i<rs.length):zi Tryz.prog 283 #[v1,v2,.agg #[.func (.func 289) #[] #[]]] [zh 3 1 v1 cols.length (cols.map z5E),zh 54 10 v2 rs.length (zd Rec.cells rs)]
  fun v K=>∃A c,v= .slice A (soL (fun r=>r.opn) rs cols).length c/\K=[zh 3 1 (.slice A (soL (fun r=>r.opn) rs cols).length c) (soL (fun r=>r.opn) rs cols).length ((soL (fun r=>r.opn) rs cols).map z5E),zh 3 1 v1 cols.length (cols.map z5E),zh 54 10 v2 rs.length (zd Rec.cells rs)]:=by
 intro F0 w0 w R H
 refine(zlJ cols rs v1 v2 hmax hin F0 w0 w R H).mono ?_
 rintro v w' ⟨K,w2,he,⟨n,xs,A,c,hO,rfl,rfl⟩,H'⟩
 obtain⟨h1,h2⟩:=hO
 subst h1 h2
 exact⟨_,_,he,⟨A,c,rfl,rfl⟩,H'⟩
theorem zfS (stripe epoch:Int) (known:List Bool) (rs:List Rec) (v1 v2:Value) (hmax:known.length<=6) (hl:rs.length=known.length):zi Tryz.prog 275 #[.int .i64 stripe,.int .i64 epoch,v1,v2] [zh 4 1 v1 known.length (known.map Value.bool),zh 54 10 v2 rs.length (zd Rec.cells rs)]
  fun v K=>∃A1 c1 A2 c2,v= .tuple #[.slice A1 (z4a known rs).length c1,.slice A2 (z4a known rs).length c2]/\K=[zh 3 1 (.slice A1 (z4a known rs).length c1) (z4a known rs).length ((z4a known rs).map z5E),zh 110 9 (.slice A2 (z4a known rs).length c2) (z4a known rs).length (zd AskM.cells ((z4a known rs).map (zjH stripe epoch known rs))),zh 4 1 v1 known.length (known.map Value.bool),zh 54 10 v2 rs.length (zd Rec.cells rs)]:=by
 intro F0 w0 w R H
 try simp only[xNf]at H
 obtain⟨A2,c2,rfl⟩:=zt (v:=v2) H pk
 obtain⟨A1,c1,rfl⟩:=zt (v:=v1) H pk
 obtain⟨cols,hc⟩:=xG (z2D known 63 known.length)
 have hcm:cols.length<=64:=by have:=z1O known 63 known.length;rw[<-hc];omega
 have hcin:∀i∈cols,i<rs.length:=by intro i hi;rw[<-hc]at hi;rw[hl];exact z9V hi
 have HT:=Lib.hid (zew known 63 (.slice A1 known.length c1) (.slice A2 rs.length c2) rs hmax hl hc)
 have HF:=Lib.hid (fun te ts m=>z9Y known rs te ts m (.slice A1 known.length c1) (.slice A2 rs.length c2) hmax hl)
 obtain⟨os,hos⟩:=xG (z4a known rs)
 have hos':soL (fun r=>r.opn) rs cols=os:=by rw[<-hos,z4a,hc]
 have hom:os.length<=64:=by rw[<-hos'];exact Nat.le_trans (List.length_filter_le _ _) hcm
 have hoin:∀i∈os,i<rs.length:=by intro i hi;rw[<-hos']at hi;exact hcin i (List.mem_filter.1 hi).1
 have hso:=fun v3=>zkf cols rs v3 (.slice A2 rs.length c2) hcm hcin
 rw[hos']at hso
 have HS:=Lib.hid hso
 have HIN:=Lib.hid hoin
 rw[hos]
 obtain⟨n,hn⟩:=xG (os.length)
 rw[hn]at HS hom⊢
 have HN:=Lib.hid hn
 clear hso hoin hos hos' hcm hcin hc hl hmax hn
 go_enter Tryz.func275,Tryz.ntmps275
 go_wp2_with (first|(go_at_call 284;refine xTr (HT.out) H ?_;clear H;rintro _ _ w ⟨A3,c3,rfl,rfl⟩ H;try simp only[xNf]at H)|(go_at_call 285;refine xT2 (zdU) H ?_;clear H;intro w H)|(go_at_call 283;refine xTr (HS.out _) H ?_;clear H;rintro _ _ w ⟨A4,c4,rfl,rfl⟩ H;try simp only[xNf]at H)|first|refine xLd H ?_|(refine xEf H ?_;clear H;intro b A' w H))
 replace H:=Sep.mk_row_nil (e:=110) (size:=9) H
 go_loopw [11,23] (fun v11 i wr=>∃(k:Nat) (A:Option Addr) (c:Nat) (xs:List Value),k<=n/\xs=zd AskM.cells ((os.take k).map (zjH stripe epoch known rs))/\v11= .slice A k c/\i= .int .i64 k/\
  Sep F0 w0 wr (zh 110 9 (.slice A k c) k xs::zh 3 1 (.slice A4 n c4) n (os.map z5E)::zh 4 1 (.slice A1 known.length c1) known.length (known.map Value.bool)::zh 54 10 (.slice A2 rs.length c2) rs.length (zd Rec.cells rs)::R)) (fun _ i _=>n-(intOf i).toNat)
 case atStart=>exact⟨0,none,0,[],Nat.zero_le _,rfl,rfl,rfl,H.sub sb⟩
 case round=>
  clear H
  obtain⟨k,A,c,xs,hk,hxs,rfl,rfl,H⟩:=hrel
  have HXS:=Lib.hid hxs
  clear hxs
  by_cases hlt:k<n
  ·obtain⟨i,hx⟩:∃i,os[k]?=some i:=⟨_,List.getElem?_eq_getElem (by rw[HN.out];exact hlt)⟩
   have hi:i<rs.length:=HIN.out i (List.mem_of_getElem? hx)
   obtain⟨r,hy⟩:∃r,rs[i]?=some r:=⟨_,List.getElem?_eq_getElem hi⟩
   obtain⟨g4,c4',hA⟩:=zz (n:=n) (v:=.slice A4 n c4) H pk (by omega)
   cases hA
   obtain⟨g2,c2',hA⟩:=zz (n:=rs.length) (v:=.slice A2 rs.length c2) H pk (by omega)
   cases hA
   have b0:(0:Int)<=(i:Int):=by omega
   have b1:(i:Int)<(rs.length:Int):=by omega
   have e1:(os.take (k+1)).map (zjH stripe epoch known rs)=(os.take k).map (zjH stripe epoch known rs)++[zjH stripe epoch known rs i]:=by
    have ht:os.take (k+1)=os.take k++[i]:=by
     obtain⟨h1,rfl⟩:=List.getElem?_eq_some_iff.1 hx
     exact List.take_succ_eq_append_getElem h1
    rw[ht,List.map_append];rfl
   have e2:zjH stripe epoch known rs i=⟨6,stripe,epoch,0,if z45 known rs r.ie r.iq r.mask then 1 else 0,0,r.ie,r.iq,noB⟩:=by unfold zjH;rw[hy];rfl
   obtain⟨fb,hfb⟩:=xG (z45 known rs r.ie r.iq r.mask)
   rw[hfb]at e2
   have hF:=HF.out r.ie r.iq r.mask
   rw[hfb]at hF
   have HFW:=Lib.hid hF
   have E1:=Lib.hid e1
   have E2:=Lib.hid e2
   have HX:=Lib.hid hx
   have HY:=Lib.hid hy
   clear hx hy hfb e1 e2 hF
   go_upto_region 7 with(first|(refine ld1 H (hh:=(by first|exact zn pk (z0v HX.out)|exact zc pk (z0v HX.out))) ?_)|(refine ldr H (hh:=z3I (cs:=[.int .i64 r.ie,.int .i64 r.iq]) 2 pk HY.out Rec.cells_length (by rfl) (by rfl) (ze (by rfl))) ?_)|(refine z8 (v:=.agg (AskM.mk 6 stripe epoch 0 0 0 r.ie r.iq noB).cells.toArray) (by rfl) (zb (t:=110) rfl ?_) ?_;(·simp only[List.map_cons,List.map_nil];exact zgV _ _ _ _ _))|first|refine xLd H ?_|(refine xEf H ?_;clear H;intro b A' w H))
   refine xRg [] (fun L=>[L]) H ?_
   clear H;intro w H
   have HS:=H
   refine xO 0 0 HS ?_
   refine xO 1 0 HS ?_
   refine xO 2 0 HS ?_
   refine xO 3 0 HS ?_
   refine xO 4 0 HS ?_
   refine xO 5 0 HS ?_
   refine xV 6 0 HS ?_ (hin:=(.last (z3I (cs:=[.int .i64 r.ie,.int .i64 r.iq]) 2 pk HY.out Rec.cells_length (by rfl) (by rfl) (ze (by rfl)))))
   refine xO 7 0 HS ?_
   refine xO 8 0 HS ?_
   refine xO 9 0 HS ?_
   refine xO 10 0 HS ?_
   refine xL 11 0 HS ?_ (hin:=(.last (by exact yr pk HY.out Rec.cells_length (by rfl) (by rfl))))
   refine xC 12 0 HFW.out H ?_
   clear H HS;intro w H HS
   refine xD ?_
   all_goals
    cases fb
    ·go_wp2_with (first|refine xLd H ?_|(refine xEf H ?_;clear H;intro b A' w H))
     go_roundw
     case rel=>
      refine⟨k+1,_,_,_,by omega, ?_,rfl,by go_num,H.sub sb⟩
      rw[E1.out,E2.out,z0a,<-HXS.out]
      try rfl
     case measure=>simp[intOf];omega
    ·go_wp2_with (first|refine xLd H ?_|(refine xEf H ?_;clear H;intro b A' w H))
     go_roundw
     case rel=>
      refine⟨k+1,_,_,_,by omega, ?_,rfl,by go_num,H.sub sb⟩
      rw[E1.out,E2.out,z0a,<-HXS.out]
      try rfl
     case measure=>simp[intOf];omega
  ·obtain rfl:k=n:=by omega
   go_wp2_with (first|refine xLd H ?_|(refine xEf H ?_;clear H;intro b A' w H))
   refine xR2 H ?_
   have hx:=HXS.out
   rw[List.take_of_length_le (by rw[HN.out];exact Nat.le_refl _)]at hx
   subst hx
   exact⟨_,_,rfl,⟨_,_,_,_,rfl,rfl⟩,H.sub sba⟩
abbrev zmN (m c:Int):Int:=bits .or .i64 m (IntKind.i64.wrap (2^c.toNat))
def zkR (cs:List Int):Int:=cs.foldl zmN 0
def z6i (cs:List Int) (bs:List ByteArray):List PartM:=List.zipWith (fun c b=>⟨c,b,false,false⟩) cs bs
def newU (stripe te ts:Int) (cs:List Int) (bs:List ByteArray):UpdM:=⟨stripe,zkR cs,te,ts,z6i cs bs,false,false⟩
theorem zeE:∀{cs:List Int} {bs:List ByteArray} {last:Int} {k:Nat} {c:Int},z7n last cs bs=true->cs.length=bs.length->-1<=last->cs[k]?=some c->0<=c/\c<6
 |[],_,_,_,_,_,_,_,h=>by simp at h
 |c::cs,[],_,_,_,_,h,_,_=>by simp at h
 |c::cs,b::bs,last,k,d,h,hl,h0,hc=>by
  rw[z7n]at h
  split at h
  ·cases h
  ·rename_i hx
   cases k with
   |zero=>
    simp only[List.getElem?_cons_zero,Option.some.injEq]at hc
    omega
   |succ k=>exact zeE h (by simpa using hl) (by omega) (by simpa using hc)
structure NAt (cs:List Int) (bs:List ByteArray) (k:Nat) (m:Int) (ps:List PartM):Prop where
 m:m=zkR (cs.take k)
 ps:ps=z6i (cs.take k) (bs.take k)
theorem NAt.next {cs:List Int} {bs:List ByteArray} {k:Nat} {m c:Int} {b:ByteArray} {ps:List PartM} (h:NAt cs bs k m ps) (hc:cs[k]?=some c) (hb:bs[k]?=some b):NAt cs bs (k+1) (zmN m c) (ps++[⟨c,b,false,false⟩]):=by
 obtain⟨h1,rfl⟩:=List.getElem?_eq_some_iff.1 hc
 obtain⟨h2,rfl⟩:=List.getElem?_eq_some_iff.1 hb
 refine⟨?_, ?_⟩
 ·rw[List.take_succ_eq_append_getElem h1,zkR,List.foldl_append,<-zkR,<-h.m]
  rfl
 ·rw[List.take_succ_eq_append_getElem h1,List.take_succ_eq_append_getElem h2,z6i,List.zipWith_append (by rw[List.length_take,List.length_take];omega),<-z6i,<-h.ps]
  rfl
theorem NAt.length {cs:List Int} {bs:List ByteArray} {k:Nat} {m:Int} {ps:List PartM} (h:NAt cs bs k m ps) (h1:k<=cs.length) (h2:k<=bs.length):ps.length=k:=by
 rw[h.ps,z6i,List.length_zipWith,List.length_take,List.length_take]
 omega
theorem zjl (stripe te ts:Int) (W:World):(Instr.build 357 #[(0,.int .i64 stripe),(2,.agg #[.int .i64 te,.int .i64 ts])]).run Tryz.prog W= .ok (.agg #[.int .i64 stripe,.int .i64 0,.int .i64 te,.int .i64 ts,.slice none 0 0,.bool false,.bool false]) W:=by kernel_rfl
theorem zgQ (c:Int) (b:ByteArray) (W:World):(Instr.build 359 #[(0,.int .i64 c),(1,.string b)]).run Tryz.prog W= .ok (.agg (PartM.mk c b false false).cells.toArray) W:=by kernel_rfl
theorem zlE (stripe te ts:Int) (cs:List Int) (bs:List ByteArray) (v1 v2:Value) (hmax:cs.length<=64) (hmab:bs.length<=64) (hr:z4g stripe te ts cs bs=false):zi Tryz.prog 248 #[.int .i64 stripe,.agg #[.int .i64 te,.int .i64 ts],v1,v2] [zh 3 1 v1 cs.length (cs.map zl1),zh 9 1 v2 bs.length (bs.map Value.string)] fun v K=>v= .tuple #[.pointer none,.int .i64 1]/\K=[zh 3 1 v1 cs.length (cs.map zl1),zh 9 1 v2 bs.length (bs.map Value.string)]:=by
 intro F0 w0 w R H
 try simp only[xNf]at H
 have hT:=z6V stripe te ts cs bs v1 v2 hmax hmab
 rw[hr]at hT
 have HT:=Lib.hid hT
 clear hT hr
 go_enter Tryz.func248,Tryz.ntmps248
 go_wp2_with (first|(go_at_call 269;refine xT2 (HT.out) H ?_;clear H;intro w H)|first|refine xLd H ?_|(refine xEf H ?_;clear H;intro b A' w H))
 refine xR2 H ?_
 exact xF H
theorem zjX (stripe te ts:Int) (cs:List Int) (bs:List ByteArray) (v1 v2:Value) (hmax:cs.length<=64) (hmab:bs.length<=64) (hr:z4g stripe te ts cs bs=true):zi Tryz.prog 248 #[.int .i64 stripe,.agg #[.int .i64 te,.int .i64 ts],v1,v2] [zh 3 1 v1 cs.length (cs.map zl1),zh 9 1 v2 bs.length (bs.map Value.string)] fun v K=>∃b,v= .tuple #[.pointer (some ⟨b,0,none⟩),.int .i64 0]/\K=[z3g b (newU stripe te ts cs bs),zh 3 1 v1 cs.length (cs.map zl1),zh 9 1 v2 bs.length (bs.map Value.string)]:=by
 intro F0 w0 w R H
 try simp only[xNf]at H
 have hT:=z6V stripe te ts cs bs v1 v2 hmax hmab
 rw[hr]at hT
 have HT:=Lib.hid hT
 have hr':decide (0<=stripe/\stripe<8/\1<=te/\te<=16777215/\1<=ts/\ts<=16777215/\cs.length≠0/\cs.length=bs.length)=true/\z7n (-1) cs bs=true:=by
  unfold z4g at hr
  simpa only[Bool.and_eq_true]using hr
 have hlen:cs.length=bs.length:=(of_decide_eq_true hr'.1).2.2.2.2.2.2.2
 have HR:=Lib.hid (fun(k:Nat) (c:Int) (h:cs[k]?=some c)=>zeE hr'.2 hlen (by omega) h)
 clear hT hr hr'
 obtain⟨A1,c1,rfl⟩:=zt H pk
 obtain⟨A2,c2,rfl⟩:=zt (v:=v2) H pk
 have HL:=Lib.hid hlen
 clear hlen
 go_enter Tryz.func248,Tryz.ntmps248
 go_upto_region 3 with(first|(go_at_call 269;refine xT2 (HT.out) H ?_;clear H;intro w H)|first|refine xLd H ?_|(refine xEf H ?_;clear H;intro b A' w H))
 go_wp2_with (first|(refine z8 (v:=.agg #[.int .i64 stripe,.int .i64 0,.int .i64 te,.int .i64 ts,.slice none 0 0,.bool false,.bool false]) (by rfl) (zb (t:=357) rfl ?_) ?_;(·simp only[List.map_cons,List.map_nil];exact zjl _ _ _ _))|first|refine xLd H ?_|(refine xEf H ?_;clear H;intro b A' w H))
 replace H:=Sep.mk_row_nil (e:=359) (size:=4) H
 go_loopw [25] (fun i wr=>∃(k:Nat) (m:Int) (ps:List PartM) (A:Option Addr) (c:Nat),k<=cs.length/\NAt cs bs k m ps/\i= .int .i64 k/\
  Sep F0 w0 wr (z7 b 357 [.int .i64 stripe,.int .i64 m,.int .i64 te,.int .i64 ts,.slice A k c,.bool false,.bool false]::zh 359 4 (.slice A k c) k (zd PartM.cells ps)::
   zh 3 1 (.slice A1 cs.length c1) cs.length (cs.map zl1)::zh 9 1 (.slice A2 bs.length c2) bs.length (bs.map Value.string)::R)) (fun i _=>cs.length-(intOf i).toNat)
 case atStart=>
  refine⟨0,0,[],none,0,Nat.zero_le _,⟨rfl,rfl⟩,rfl, ?_⟩
  rw[show zd PartM.cells []=([]:List Value)from rfl]
  exact H.sub sb
 case round=>
  clear H
  obtain⟨k,m,ps,A,c,hk,hU,rfl,H⟩:=hrel
  by_cases hlt:k<cs.length
  ·have hl:=HL.out
   obtain⟨x,hx⟩:∃x,cs[k]?=some x:=⟨_,List.getElem?_eq_getElem hlt⟩
   obtain⟨y,hy⟩:∃y,bs[k]?=some y:=⟨_,List.getElem?_eq_getElem (by omega)⟩
   have hlt2:k<bs.length:=by omega
   obtain⟨g1,c1',hA⟩:=zz (n:=cs.length) (v:=.slice A1 cs.length c1) H pk (by omega)
   cases hA
   obtain⟨g2,c2',hA⟩:=zz (n:=bs.length) (v:=.slice A2 bs.length c2) H pk (by omega)
   cases hA
   obtain⟨x0,x1⟩:=HR.out k x hx
   have x2:x<=64:=by omega
   have HU:=Lib.hid hU
   have HX:=Lib.hid hx
   have HY:=Lib.hid hy
   clear hx hy hU hl
   go_upto_region 7 with(first|(refine ld1 H (hh:=(by first|exact zn pk (z2b HX.out)|exact zc pk (z2b HX.out)|exact zn pk (z07 HY.out)|exact zc pk (z07 HY.out))) ?_)|first|refine xLd H ?_|(refine xEf H ?_;clear H;intro b A' w H))
   refine xRg [9] (fun L=>[L,[]]) H ?_
   clear H;intro w H
   have HS:=H
   refine xO 0 0 HS ?_
   refine xO 1 0 HS ?_
   refine xO 2 0 HS ?_
   refine xL 3 0 HS ?_ (hin:=(.stop (n:=10) hd (by kernel_rfl)))
   refine xO 4 0 HS ?_
   refine xO 5 0 HS ?_
   refine xO 6 0 HS ?_
   refine xO 7 0 HS ?_
   refine xO 8 0 HS ?_
   refine xM 9 1 H ?_
   clear H HS;intro _ _ w H HS
   refine xD ?_
   go_upto_region 8 with(first|refine xLd H ?_|(refine xEf H ?_;clear H;intro b A' w H))
   refine xRg [12,15] (fun L=>[L,[],[]]) H ?_
   clear H;intro w H
   have HS:=H
   refine xO 0 0 HS ?_
   refine xO 1 0 HS ?_
   refine xO 2 0 HS ?_
   refine xO 3 0 HS ?_
   refine xL 4 0 HS ?_ (hin:=(.stop (n:=16) hd (by kernel_rfl)))
   refine xO 5 0 HS ?_
   refine xO 6 0 HS ?_
   refine xO 7 0 HS ?_
   refine xO 8 0 HS ?_
   refine xL 9 0 HS ?_ (hin:=(.stop (n:=16) (by exact zn pk (z07 HY.out)) (by kernel_rfl)))
   refine xO 10 0 HS ?_ (v:=(.agg (PartM.mk x y false false).cells.toArray)) (hy:=by(intro W;exact zb rfl (zgQ _ _ W)))
   refine xM 11 0 H ?_
   clear H HS;intro b _ w H HS
   refine xM 12 1 H ?_
   clear H HS;intro k' A' w H HS
   refine xO 13 1 HS ?_
   refine xO 14 1 HS ?_
   refine xM 15 2 H ?_
   clear H HS;intro _ _ w H HS
   refine xD ?_
   go_wp2_with (first|refine xLd H ?_|(refine xEf H ?_;clear H;intro b A' w H))
   go_roundw
   case rel=>exact⟨k+1,_,_,_,_,by omega,HU.out.next HX.out HY.out,by go_num,by rw[z0a];exact H.sub sb⟩
   case measure=>simp[intOf];omega
  ·obtain rfl:k=cs.length:=by omega
   have hm:=hU.m
   have hp:=hU.ps
   have hn:=hU.length (Nat.le_refl _) (by rw[HL.out];exact Nat.le_refl _)
   rw[List.take_length]at hm hp
   rw[HL.out,List.take_length]at hp
   clear hU hk
   have HP:=Lib.hid hp
   have HM:=Lib.hid hm
   have HN:=Lib.hid hn
   clear hp hm hn
   go_wp2_with (first|refine xLd H ?_|(refine xEf H ?_;clear H;intro b A' w H))
   refine xR2 H ?_
   exact⟨_,_,rfl,⟨_,rfl,rfl⟩,z3g.mk (s:=newU stripe te ts cs bs) (H.sub sba) (by rw[HM.out];rfl) (by rw[<-HN.out,HP.out];rfl) (by rw[HP.out];rfl)⟩
end Go.Proofs.YtmfincpagnpkjaaGreat
