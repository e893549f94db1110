/- Part of the proof. -/
import Derived.Test.YtmfincpagnpkjaaGreatM21
set_option linter.all false
set_option maxRecDepth 100000
set_option maxHeartbeats 100000000
namespace Go.Proofs.YtmfincpagnpkjaaGreat
open Go.RowKit
def zfQ (st:Int) (p:PartM):Bool:=(st==0&&!p.opn)||(st==1&&!p.dn)
def znF (p:PartM):Value:=.int .i64 p.column
theorem z4q {α:Type} {l:List α} {k:Nat} {x:α} (f:α->Bool) (h:l[k]?=some x):(l.take (k+1)).filter f=(l.take k).filter f++if f x then[x]else[]:=by
 obtain⟨hlt,rfl⟩:=List.getElem?_eq_some_iff.1 h
 rw[List.take_succ_eq_append_getElem hlt,List.filter_append]
 congr 1
 simp[List.filter_cons]
structure UAt (st stripe mask te ts:Int) (ps:List PartM) (n:Nat) (xs ys:List Value):Prop where
 n:n=(ps.filter (zfQ st)).length
 xs:xs=(ps.filter (zfQ st)).map znF
 ys:ys=zd AskM.cells ((ps.filter (zfQ st)).map fun p=>if st=0 then AskM.mk 4 stripe te ts mask 0 0 0 p.block else AskM.mk 5 stripe te ts 0 0 0 0 noB)
theorem UAt.no {st stripe mask te ts:Int} {parts:List PartM} {k n:Nat} {x:PartM} {xs ys:List Value} (h:UAt st stripe mask te ts (parts.take k) n xs ys) (hx:parts[k]?=some x) (hs:zfQ st x=false):UAt st stripe mask te ts (parts.take (k+1)) n xs ys:=by
 have ht:=z4q (zfQ st) hx
 rw[hs]at ht
 simp only[Bool.false_eq_true,if_false,List.append_nil]at ht
 exact⟨by rw[ht];exact h.n,by rw[ht];exact h.xs,by rw[ht];exact h.ys⟩
theorem UAt.yes {st stripe mask te ts:Int} {parts:List PartM} {k n:Nat} {x:PartM} {xs ys us:List Value} {c:Value} (h:UAt st stripe mask te ts (parts.take k) n xs ys) (hx:parts[k]?=some x) (hs:zfQ st x=true) (hc:c=znF x) (hu:us=(if st=0 then AskM.mk 4 stripe te ts mask 0 0 0 x.block else AskM.mk 5 stripe te ts 0 0 0 0 noB).cells):UAt st stripe mask te ts (parts.take (k+1)) (n+1) (xs++[c]) (ys++us):=by
 have ht:=z4q (zfQ st) hx
 rw[hs]at ht
 simp only[if_true]at ht
 subst hc hu
 exact⟨by rw[ht,List.length_append,<-h.n];rfl,by rw[ht,List.map_append,<-h.xs];rfl,by rw[ht,List.map_append,List.map_cons,List.map_nil,z0a,<-h.ys]⟩
theorem UAt.le {st stripe mask te ts:Int} {parts:List PartM} {k n:Nat} {xs ys:List Value} (h:UAt st stripe mask te ts (parts.take k) n xs ys):n<=k:=by
 rw[h.n]
 exact Nat.le_trans (List.length_filter_le _ _) (List.length_take_le _ _)
theorem zk2 (u:Nat) (s:UpdM) (st:Int) (hmax:s.parts.length<=64) (hst:s.state=st):zi Tryz.prog 271 #[.pointer (some ⟨u,0,none⟩)] [z3g u s] fun v K=>∃A1 c1 A2 c2 n xs ys,UAt st s.stripe s.mask s.te s.ts s.parts n xs ys/\v= .tuple #[.slice A1 n c1,.slice A2 n c2]/\
  K=[z3g u ⟨s.stripe,s.mask,s.te,s.ts,s.parts,s.began||decide (0<n),s.failed⟩,zh 3 1 (.slice A1 n c1) n xs,zh 110 9 (.slice A2 n c2) n ys]:=by
 intro F0 w0 w R H
 try simp only[xNf]at H
 have hT:=z4o u s (by omega)
 rw[hst]at hT
 have HT:=Lib.hid hT
 clear hT hst
 go_enter Tryz.func271,Tryz.ntmps271
 go_upto_region 4 with(first|(go_at_call 281;refine xT2 (HT.out) H ?_;clear H;intro w H)|first|refine xLd H ?_|(refine xEf H ?_;clear H;intro b A' w H))
 replace H:=z3g.open' H
 obtain⟨v,H⟩:=H
 obtain⟨stripe,mask,te,ts,parts,began,failed⟩:=s
 simp only at*
 obtain⟨A,c,rfl⟩:=zt H pk
 replace H:=Sep.mk_row_nil (e:=3) (size:=1) (Sep.mk_row_nil (e:=110) (size:=9) H)
 go_wp2_with (first|refine xLd H ?_|(refine xEf H ?_;clear H;intro b A' w H))
 go_loopw [4,5,16] (fun v4 v5 i wr=>∃(k n:Nat) (xs ys:List Value) (A1:Option Addr) (c1:Nat) (A2:Option Addr) (c2:Nat),k<=parts.length/\UAt st stripe mask te ts (parts.take k) n xs ys/\i= .int .i64 k/\v4= .slice A1 n c1/\v5= .slice A2 n c2/\
  Sep F0 w0 wr (z7 u 357 [.int .i64 stripe,.int .i64 mask,.int .i64 te,.int .i64 ts,.slice A parts.length c,.bool began,.bool failed]::zh 359 4 (.slice A parts.length c) parts.length (zd PartM.cells parts)::
   zh 3 1 (.slice A1 n c1) n xs::zh 110 9 (.slice A2 n c2) n ys::R)) (fun _ _ i _=>parts.length-(intOf i).toNat)
 case atStart=>exact⟨0,0,[],[],none,0,none,0,Nat.zero_le _,⟨rfl,rfl,rfl⟩,rfl,rfl,rfl,H.sub sb⟩
 case round=>
  clear H
  obtain⟨k,n,xs,ys,A1,c1,A2,c2,hk,hU,rfl,rfl,rfl,H⟩:=hrel
  have hpl:=hU.le
  have HU:=Lib.hid hU
  clear hU
  by_cases hlt:k<parts.length
  ·obtain⟨x,hx⟩:∃x,parts[k]?=some x:=⟨_,List.getElem?_eq_getElem hlt⟩
   obtain⟨g,c',hA⟩:=zz (n:=parts.length) (v:=.slice A parts.length c) H pk (by omega)
   cases hA
   have HX:=Lib.hid hx
   clear hx
   obtain⟨column,block,opn,dn⟩:=x
   by_cases e0:st=0
   ·subst e0
    cases opn
    ·go_wp2_with (first|(refine ldr H (hh:=(by first|exact yd pk (by first|exact HX.out) PartM.cells_length (by rfl) (ze (by rfl))|exact yq pk (by first|exact HX.out) PartM.cells_length (by rfl) (ze (by rfl)))) ?_)|(go_at_call 282;refine xT2 (z3l _) H ?_;clear H;intro w H)|first|refine xLd H ?_|(refine xEf H ?_;clear H;intro b A' w H))
     go_roundw
     case rel=>
      refine⟨k+1,n+1,_,_,_,_,_,_,by omega, ?_,by go_num,rfl,rfl,H.sub sb⟩
      exact HU.out.yes HX.out (by simp[zfQ]) (by rfl) (by rfl)
     case measure=>simp[intOf];omega
    ·go_wp2_with (first|(refine ldr H (hh:=(by first|exact yd pk (by first|exact HX.out) PartM.cells_length (by rfl) (ze (by rfl))|exact yq pk (by first|exact HX.out) PartM.cells_length (by rfl) (ze (by rfl)))) ?_)|(go_at_call 282;refine xT2 (z3l _) H ?_;clear H;intro w H)|first|refine xLd H ?_|(refine xEf H ?_;clear H;intro b A' w H))
     go_roundw
     case rel=>exact⟨k+1,n,xs,ys,_,_,_,_,by omega,HU.out.no HX.out (by simp[zfQ, *]),by go_num,rfl,rfl,H.sub sb⟩
     case measure=>simp[intOf];omega
   by_cases e1:st=1
   ·subst e1
    clear e0
    cases dn
    ·go_wp2_with (first|(refine ldr H (hh:=(by first|exact yd pk (by first|exact HX.out) PartM.cells_length (by rfl) (ze (by rfl))|exact yq pk (by first|exact HX.out) PartM.cells_length (by rfl) (ze (by rfl)))) ?_)|(go_at_call 282;refine xT2 (z3l _) H ?_;clear H;intro w H)|first|refine xLd H ?_|(refine xEf H ?_;clear H;intro b A' w H))
     go_roundw
     case rel=>
      refine⟨k+1,n+1,_,_,_,_,_,_,by omega, ?_,by go_num,rfl,rfl,H.sub sb⟩
      exact HU.out.yes HX.out (by simp[zfQ]) (by rfl) (by rfl)
     case measure=>simp[intOf];omega
    ·go_wp2_with (first|(refine ldr H (hh:=(by first|exact yd pk (by first|exact HX.out) PartM.cells_length (by rfl) (ze (by rfl))|exact yq pk (by first|exact HX.out) PartM.cells_length (by rfl) (ze (by rfl)))) ?_)|(go_at_call 282;refine xT2 (z3l _) H ?_;clear H;intro w H)|first|refine xLd H ?_|(refine xEf H ?_;clear H;intro b A' w H))
     go_roundw
     case rel=>exact⟨k+1,n,xs,ys,_,_,_,_,by omega,HU.out.no HX.out (by simp[zfQ, *]),by go_num,rfl,rfl,H.sub sb⟩
     case measure=>simp[intOf];omega
   ·have h0:(st==0)=false:=by simpa using e0
    have h1:(st==1)=false:=by simpa using e1
    clear e0 e1
    go_wp2_with (first|(refine ldr H (hh:=(by first|exact yd pk (by first|exact HX.out) PartM.cells_length (by rfl) (ze (by rfl))|exact yq pk (by first|exact HX.out) PartM.cells_length (by rfl) (ze (by rfl)))) ?_)|(go_at_call 282;refine xT2 (z3l _) H ?_;clear H;intro w H)|first|refine xLd H ?_|(refine xEf H ?_;clear H;intro b A' w H))
    go_roundw
    case rel=>exact⟨k+1,n,xs,ys,_,_,_,_,by omega,HU.out.no HX.out (by simp[zfQ, *]),by go_num,rfl,rfl,H.sub sb⟩
    case measure=>simp[intOf];omega
  ·obtain rfl:k=parts.length:=by omega
   have hU:=HU.out
   rw[List.take_length]at hU
   have HU2:=Lib.hid hU
   clear hU hk
   have hn:decide ((0:Int)<(n:Int))=decide (0<n):=by simp
   by_cases h0:0<n
   ·have d0:decide ((0:Int)<(n:Int))=true:=by simpa using h0
    have d1:decide (0<n)=true:=by simpa using h0
    go_wp2_with (first|refine xLd H ?_|(refine xEf H ?_;clear H;intro b A' w H))
    refine xR2 H ?_
    exact⟨_,_,rfl,⟨_,_,_,_,_,_,_,HU2.out,rfl,rfl⟩,z3g.mk (H.sub sba) (by rw[d1,Bool.or_true]) (by rfl) (by rfl)⟩
   ·have d0:decide ((0:Int)<(n:Int))=false:=by simpa using h0
    have d1:decide (0<n)=false:=by simpa using h0
    go_wp2_with (first|refine xLd H ?_|(refine xEf H ?_;clear H;intro b A' w H))
    refine xR2 H ?_
    exact⟨_,_,rfl,⟨_,_,_,_,_,_,_,HU2.out,rfl,rfl⟩,z3g.mk (H.sub sba) (by rw[d1,Bool.or_false]) (by rfl) (by rfl)⟩
section
def soL (f:Rec->Bool) (rs:List Rec) (cols:List Nat):List Nat:=cols.filter fun i=>f (rs[i]?.getD Rec.nil)
theorem z0v {cs:List Nat} {k i:Nat} (h:cs[k]?=some i):(cs.map z5E)[k]?=some (.int .i64 i):=by rw[List.getElem?_map,h];rfl
structure OAt (f:Rec->Bool) (rs:List Rec) (cols:List Nat) (n:Nat) (xs:List Value):Prop where
 n:n=(soL f rs cols).length
 xs:xs=(soL f rs cols).map z5E
section
variable {f:Rec->Bool} {rs:List Rec} {cols:List Nat} {k i n:Nat} {xs:List Value} {r:Rec}
theorem zez (hc:cols[k]?=some i) (hr:rs[i]?=some r):soL f rs (cols.take (k+1))=soL f rs (cols.take k)++if f r then[i]else[]:=by
 unfold soL
 rw[z4q _ hc,hr]
 rfl
theorem OAt.yes (h:OAt f rs (cols.take k) n xs) (hc:cols[k]?=some i) (hr:rs[i]?=some r) (hf:f r=true):OAt f rs (cols.take (k+1)) (n+1) (xs++[.int .i64 i]):=by
 have e:=zez (f:=f) hc hr
 rw[hf,if_pos rfl]at e
 exact⟨by rw[e,List.length_append,<-h.n];rfl,by rw[e,List.map_append,<-h.xs];rfl⟩
theorem OAt.no (h:OAt f rs (cols.take k) n xs) (hc:cols[k]?=some i) (hr:rs[i]?=some r) (hf:f r=false):OAt f rs (cols.take (k+1)) n xs:=by
 have e:=zez (f:=f) hc hr
 rw[hf,if_neg (by decide),List.append_nil]at e
 exact⟨by rw[e];exact h.n,by rw[e];exact h.xs⟩
theorem OAt.le (h:OAt f rs (cols.take k) n xs):n<=k:=by
 rw[h.n]
 exact Nat.le_trans (List.length_filter_le _ _) (List.length_take_le _ _)
end
theorem zlJ (cols:List Nat) (rs:List Rec) (v1 v2:Value) (hmax:cols.length<=64) (hin:∀i∈cols,i<rs.length):zi Tryz.prog 283 #[v1,v2,.agg #[.func (.func 289) #[] #[]]] [zh 3 1 v1 cols.length (cols.map z5E),zh 54 10 v2 rs.length (zd Rec.cells rs)] fun v K=>∃n xs A c,OAt (fun r=>r.opn) rs cols n xs/\v= .slice A n c/\K=[zh 3 1 (.slice A n c) n xs,zh 3 1 v1 cols.length (cols.map z5E),zh 54 10 v2 rs.length (zd Rec.cells rs)]:=by
 intro F0 w0 w R H
 try simp only[xNf]at H
 obtain⟨A1,c1,rfl⟩:=zt H pk
 obtain⟨A2,c2,rfl⟩:=zt (v:=v2) H pk
 have HIN:=Lib.hid hin
 clear hin
 go_enter Tryz.func283,Tryz.ntmps283
 go_wp2_with (first|refine xLd H ?_|(refine xEf H ?_;clear H;intro b A' w H))
 replace H:=Sep.mk_row_nil (e:=3) (size:=1) H
 go_loopw [7,12] (fun v7 i wr=>∃(k n:Nat) (xs:List Value) (A:Option Addr) (c:Nat),k<=cols.length/\OAt (fun r=>r.opn) rs (cols.take k) n xs/\v7= .slice A n c/\i= .int .i64 k/\
  Sep F0 w0 wr (zh 3 1 (.slice A n c) n xs::z7 b 373 [.func (.func 289) #[] #[]]::zh 3 1 (.slice A1 cols.length c1) cols.length (cols.map z5E)::zh 54 10 (.slice A2 rs.length c2) rs.length (zd Rec.cells rs)::R)) (fun _ i _=>cols.length-(intOf i).toNat)
 case atStart=>exact⟨0,0,[],none,0,Nat.zero_le _,⟨rfl,rfl⟩,rfl,rfl,H.sub sb⟩
 case round=>
  clear H
  obtain⟨k,n,xs,A,c,hk,hU,rfl,rfl,H⟩:=hrel
  have hnk:=hU.le
  by_cases hlt:k<cols.length
  ·obtain⟨i,hx⟩:∃i,cols[k]?=some i:=⟨_,List.getElem?_eq_getElem hlt⟩
   have hi:i<rs.length:=HIN.out i (List.mem_of_getElem? hx)
   obtain⟨r,hy⟩:∃r,rs[i]?=some r:=⟨_,List.getElem?_eq_getElem hi⟩
   obtain⟨g1,c1',hA⟩:=zz (n:=cols.length) (v:=.slice A1 cols.length c1) H pk (by omega)
   cases hA
   obtain⟨g2,c2',hA⟩:=zz (n:=rs.length) (v:=.slice A2 rs.length c2) H pk (by omega)
   cases hA
   have HU:=Lib.hid hU
   have HX:=Lib.hid hx
   have HY:=Lib.hid hy
   clear hx hU hy
   cases hb:r.opn
   ·have HB:=Lib.hid hb
    go_upto_region 5 with(first|(refine ld1 H (hh:=(by first|exact zn pk (z0v HX.out)|exact zc pk (z0v HX.out))) ?_)|first|refine xLd H ?_|(refine xEf H ?_;clear H;intro b A' w H))
    refine xRg [] (fun L=>[L]) H ?_
    clear H;intro w H
    have HS:=H
    refine xO 0 0 HS ?_
    refine xL 1 0 HS ?_
    refine xO 2 0 HS ?_
    refine xO 3 0 HS ?_
    refine xO 4 0 HS ?_
    refine xV 5 0 HS ?_ (hin:=(.last (by exact yd pk HY.out Rec.cells_length (by rfl) (ze (by rfl)))))
    refine xC 6 0 (z6n _) H ?_
    clear H HS;intro w H HS;rw[HB.out]
    refine xD ?_
    clear hb
    go_wp2_with (first|refine xLd H ?_|(refine xEf H ?_;clear H;intro b A' w H))
    go_roundw
    case rel=>exact⟨k+1,n,xs,_,_,by omega,HU.out.no HX.out HY.out HB.out,rfl,by go_num,H.sub sb⟩
    case measure=>simp[intOf];omega
   ·have HB:=Lib.hid hb
    go_upto_region 5 with(first|(refine ld1 H (hh:=(by first|exact zn pk (z0v HX.out)|exact zc pk (z0v HX.out))) ?_)|first|refine xLd H ?_|(refine xEf H ?_;clear H;intro b A' w H))
    refine xRg [] (fun L=>[L]) H ?_
    clear H;intro w H
    have HS:=H
    refine xO 0 0 HS ?_
    refine xL 1 0 HS ?_
    refine xO 2 0 HS ?_
    refine xO 3 0 HS ?_
    refine xO 4 0 HS ?_
    refine xV 5 0 HS ?_ (hin:=(.last (by exact yd pk HY.out Rec.cells_length (by rfl) (ze (by rfl)))))
    refine xC 6 0 (z6n _) H ?_
    clear H HS;intro w H HS;rw[HB.out]
    refine xD ?_
    clear hb
    go_wp2_with (first|refine xLd H ?_|(refine xEf H ?_;clear H;intro b A' w H))
    go_roundw
    case rel=>exact⟨k+1,n+1,_,_,_,by omega,HU.out.yes HX.out HY.out HB.out,rfl,by go_num,H.sub sb⟩
    case measure=>simp[intOf];omega
  ·obtain rfl:k=cols.length:=by omega
   rw[List.take_length]at hU
   have HU:=Lib.hid hU
   clear hU hk
   go_wp2_with (first|refine xLd H ?_|(refine xEf H ?_;clear H;intro b A' w H))
   refine xR1 H ?_
   exact⟨_,_,rfl,⟨n,xs,_,_,HU.out,rfl,rfl⟩,H.sub sba⟩
theorem zhL (tb:Nat) (te ts:Int) (cols:List Nat) (rs:List Rec) (v1 v2:Value) (hmax:cols.length<=64) (hin:∀i∈cols,i<rs.length):zi Tryz.prog 283 #[v1,v2,.agg #[.func (.func 293) #[] #[.pointer (some ⟨tb,0,none⟩)]]] [zh 3 1 v1 cols.length (cols.map z5E),zh 54 10 v2 rs.length (zd Rec.cells rs),z7 tb 52 [.int .i64 te,.int .i64 ts]] fun v K=>∃n xs A c,OAt (fun r=>(r.de==te&&r.ds==ts)) rs cols n xs/\v= .slice A n c/\K=[zh 3 1 (.slice A n c) n xs,zh 3 1 v1 cols.length (cols.map z5E),zh 54 10 v2 rs.length (zd Rec.cells rs),z7 tb 52 [.int .i64 te,.int .i64 ts]]:=by
 intro F0 w0 w R H
 try simp only[xNf]at H
 obtain⟨A1,c1,rfl⟩:=zt H pk
 obtain⟨A2,c2,rfl⟩:=zt (v:=v2) H pk
 have HIN:=Lib.hid hin
 clear hin
 go_enter Tryz.func283,Tryz.ntmps283
 go_wp2_with (first|refine xLd H ?_|(refine xEf H ?_;clear H;intro b A' w H))
 replace H:=Sep.mk_row_nil (e:=3) (size:=1) H
 go_loopw [7,12] (fun v7 i wr=>∃(k n:Nat) (xs:List Value) (A:Option Addr) (c:Nat),k<=cols.length/\OAt (fun r=>(r.de==te&&r.ds==ts)) rs (cols.take k) n xs/\v7= .slice A n c/\i= .int .i64 k/\
  Sep F0 w0 wr (zh 3 1 (.slice A n c) n xs::z7 b 373 [.func (.func 293) #[] #[.pointer (some ⟨tb,0,none⟩)]]::zh 3 1 (.slice A1 cols.length c1) cols.length (cols.map z5E)::zh 54 10 (.slice A2 rs.length c2) rs.length (zd Rec.cells rs)::z7 tb 52 [.int .i64 te,.int .i64 ts]::R)) (fun _ i _=>cols.length-(intOf i).toNat)
 case atStart=>exact⟨0,0,[],none,0,Nat.zero_le _,⟨rfl,rfl⟩,rfl,rfl,H.sub sb⟩
 case round=>
  clear H
  obtain⟨k,n,xs,A,c,hk,hU,rfl,rfl,H⟩:=hrel
  have hnk:=hU.le
  by_cases hlt:k<cols.length
  ·obtain⟨i,hx⟩:∃i,cols[k]?=some i:=⟨_,List.getElem?_eq_getElem hlt⟩
   have hi:i<rs.length:=HIN.out i (List.mem_of_getElem? hx)
   obtain⟨r,hy⟩:∃r,rs[i]?=some r:=⟨_,List.getElem?_eq_getElem hi⟩
   obtain⟨g1,c1',hA⟩:=zz (n:=cols.length) (v:=.slice A1 cols.length c1) H pk (by omega)
   cases hA
   obtain⟨g2,c2',hA⟩:=zz (n:=rs.length) (v:=.slice A2 rs.length c2) H pk (by omega)
   cases hA
   have HU:=Lib.hid hU
   have HX:=Lib.hid hx
   have HY:=Lib.hid hy
   clear hx hU hy
   cases hb:(r.de==te&&r.ds==ts)
   ·have HB:=Lib.hid hb
    go_upto_region 5 with(first|(refine ld1 H (hh:=(by first|exact zn pk (z0v HX.out)|exact zc pk (z0v HX.out))) ?_)|first|refine xLd H ?_|(refine xEf H ?_;clear H;intro b A' w H))
    refine xRg [] (fun L=>[L]) H ?_
    clear H;intro w H
    have HS:=H
    refine xO 0 0 HS ?_
    refine xL 1 0 HS ?_
    refine xO 2 0 HS ?_
    refine xO 3 0 HS ?_
    refine xO 4 0 HS ?_
    refine xV 5 0 HS ?_ (hin:=(.last (by exact yd pk HY.out Rec.cells_length (by rfl) (ze (by rfl)))))
    refine xC 6 0 (z9A _ tb te ts) H ?_
    clear H HS;intro w H HS;rw[HB.out]
    refine xD ?_
    clear hb
    go_wp2_with (first|refine xLd H ?_|(refine xEf H ?_;clear H;intro b A' w H))
    go_roundw
    case rel=>exact⟨k+1,n,xs,_,_,by omega,HU.out.no HX.out HY.out HB.out,rfl,by go_num,H.sub sb⟩
    case measure=>simp[intOf];omega
   ·have HB:=Lib.hid hb
    go_upto_region 5 with(first|(refine ld1 H (hh:=(by first|exact zn pk (z0v HX.out)|exact zc pk (z0v HX.out))) ?_)|first|refine xLd H ?_|(refine xEf H ?_;clear H;intro b A' w H))
    refine xRg [] (fun L=>[L]) H ?_
    clear H;intro w H
    have HS:=H
    refine xO 0 0 HS ?_
    refine xL 1 0 HS ?_
    refine xO 2 0 HS ?_
    refine xO 3 0 HS ?_
    refine xO 4 0 HS ?_
    refine xV 5 0 HS ?_ (hin:=(.last (by exact yd pk HY.out Rec.cells_length (by rfl) (ze (by rfl)))))
    refine xC 6 0 (z9A _ tb te ts) H ?_
    clear H HS;intro w H HS;rw[HB.out]
    refine xD ?_
    clear hb
    go_wp2_with (first|refine xLd H ?_|(refine xEf H ?_;clear H;intro b A' w H))
    go_roundw
    case rel=>exact⟨k+1,n+1,_,_,_,by omega,HU.out.yes HX.out HY.out HB.out,rfl,by go_num,H.sub sb⟩
    case measure=>simp[intOf];omega
  ·obtain rfl:k=cols.length:=by omega
   rw[List.take_length]at hU
   have HU:=Lib.hid hU
   clear hU hk
   go_wp2_with (first|refine xLd H ?_|(refine xEf H ?_;clear H;intro b A' w H))
   refine xR1 H ?_
   exact⟨_,_,rfl,⟨n,xs,_,_,HU.out,rfl,rfl⟩,H.sub sba⟩
theorem zhK (tb:Nat) (te ts:Int) (cols:List Nat) (rs:List Rec) (v1 v2:Value) (hmax:cols.length<=64) (hin:∀i∈cols,i<rs.length):zi Tryz.prog 283 #[v1,v2,.agg #[.func (.func 294) #[] #[.pointer (some ⟨tb,0,none⟩)]]] [zh 3 1 v1 cols.length (cols.map z5E),zh 54 10 v2 rs.length (zd Rec.cells rs),z7 tb 52 [.int .i64 te,.int .i64 ts]] fun v K=>∃n xs A c,OAt (fun r=>(r.opn&&(r.ie==te&&r.iq==ts))) rs cols n xs/\v= .slice A n c/\K=[zh 3 1 (.slice A n c) n xs,zh 3 1 v1 cols.length (cols.map z5E),zh 54 10 v2 rs.length (zd Rec.cells rs),z7 tb 52 [.int .i64 te,.int .i64 ts]]:=by
 intro F0 w0 w R H
 try simp only[xNf]at H
 obtain⟨A1,c1,rfl⟩:=zt H pk
 obtain⟨A2,c2,rfl⟩:=zt (v:=v2) H pk
 have HIN:=Lib.hid hin
 clear hin
 go_enter Tryz.func283,Tryz.ntmps283
 go_wp2_with (first|refine xLd H ?_|(refine xEf H ?_;clear H;intro b A' w H))
 replace H:=Sep.mk_row_nil (e:=3) (size:=1) H
 go_loopw [7,12] (fun v7 i wr=>∃(k n:Nat) (xs:List Value) (A:Option Addr) (c:Nat),k<=cols.length/\OAt (fun r=>(r.opn&&(r.ie==te&&r.iq==ts))) rs (cols.take k) n xs/\v7= .slice A n c/\i= .int .i64 k/\
  Sep F0 w0 wr (zh 3 1 (.slice A n c) n xs::z7 b 373 [.func (.func 294) #[] #[.pointer (some ⟨tb,0,none⟩)]]::zh 3 1 (.slice A1 cols.length c1) cols.length (cols.map z5E)::zh 54 10 (.slice A2 rs.length c2) rs.length (zd Rec.cells rs)::z7 tb 52 [.int .i64 te,.int .i64 ts]::R)) (fun _ i _=>cols.length-(intOf i).toNat)
 case atStart=>exact⟨0,0,[],none,0,Nat.zero_le _,⟨rfl,rfl⟩,rfl,rfl,H.sub sb⟩
 case round=>
  clear H
  obtain⟨k,n,xs,A,c,hk,hU,rfl,rfl,H⟩:=hrel
  have hnk:=hU.le
  by_cases hlt:k<cols.length
  ·obtain⟨i,hx⟩:∃i,cols[k]?=some i:=⟨_,List.getElem?_eq_getElem hlt⟩
   have hi:i<rs.length:=HIN.out i (List.mem_of_getElem? hx)
   obtain⟨r,hy⟩:∃r,rs[i]?=some r:=⟨_,List.getElem?_eq_getElem hi⟩
   obtain⟨g1,c1',hA⟩:=zz (n:=cols.length) (v:=.slice A1 cols.length c1) H pk (by omega)
   cases hA
   obtain⟨g2,c2',hA⟩:=zz (n:=rs.length) (v:=.slice A2 rs.length c2) H pk (by omega)
   cases hA
   have HU:=Lib.hid hU
   have HX:=Lib.hid hx
   have HY:=Lib.hid hy
   clear hx hU hy
   cases hb:(r.opn&&(r.ie==te&&r.iq==ts))
   ·have HB:=Lib.hid hb
    go_upto_region 5 with(first|(refine ld1 H (hh:=(by first|exact zn pk (z0v HX.out)|exact zc pk (z0v HX.out))) ?_)|first|refine xLd H ?_|(refine xEf H ?_;clear H;intro b A' w H))
    refine xRg [] (fun L=>[L]) H ?_
    clear H;intro w H
    have HS:=H
    refine xO 0 0 HS ?_
    refine xL 1 0 HS ?_
    refine xO 2 0 HS ?_
    refine xO 3 0 HS ?_
    refine xO 4 0 HS ?_
    refine xV 5 0 HS ?_ (hin:=(.last (by exact yd pk HY.out Rec.cells_length (by rfl) (ze (by rfl)))))
    refine xC 6 0 (z9k _ tb te ts) H ?_
    clear H HS;intro w H HS;rw[HB.out]
    refine xD ?_
    clear hb
    go_wp2_with (first|refine xLd H ?_|(refine xEf H ?_;clear H;intro b A' w H))
    go_roundw
    case rel=>exact⟨k+1,n,xs,_,_,by omega,HU.out.no HX.out HY.out HB.out,rfl,by go_num,H.sub sb⟩
    case measure=>simp[intOf];omega
   ·have HB:=Lib.hid hb
    go_upto_region 5 with(first|(refine ld1 H (hh:=(by first|exact zn pk (z0v HX.out)|exact zc pk (z0v HX.out))) ?_)|first|refine xLd H ?_|(refine xEf H ?_;clear H;intro b A' w H))
    refine xRg [] (fun L=>[L]) H ?_
    clear H;intro w H
    have HS:=H
    refine xO 0 0 HS ?_
    refine xL 1 0 HS ?_
    refine xO 2 0 HS ?_
    refine xO 3 0 HS ?_
    refine xO 4 0 HS ?_
    refine xV 5 0 HS ?_ (hin:=(.last (by exact yd pk HY.out Rec.cells_length (by rfl) (ze (by rfl)))))
    refine xC 6 0 (z9k _ tb te ts) H ?_
    clear H HS;intro w H HS;rw[HB.out]
    refine xD ?_
    clear hb
    go_wp2_with (first|refine xLd H ?_|(refine xEf H ?_;clear H;intro b A' w H))
    go_roundw
    case rel=>exact⟨k+1,n+1,_,_,_,by omega,HU.out.yes HX.out HY.out HB.out,rfl,by go_num,H.sub sb⟩
    case measure=>simp[intOf];omega
  ·obtain rfl:k=cols.length:=by omega
   rw[List.take_length]at hU
   have HU:=Lib.hid hU
   clear hU hk
   go_wp2_with (first|refine xLd H ?_|(refine xEf H ?_;clear H;intro b A' w H))
   refine xR1 H ?_
   exact⟨_,_,rfl,⟨n,xs,_,_,HU.out,rfl,rfl⟩,H.sub sba⟩
end
def zmi (known:List Bool) (rs:List Rec) (te ts:Int):List Nat:=soL (fun r=>r.de==te&&r.ds==ts) rs (z2D known 63 known.length)
theorem z9V {known:List Bool} {mask:Int} {k i:Nat} (h:i∈z2D known mask k):i<k:=List.mem_range.1 (List.mem_filter.1 h).1
theorem z1O (known:List Bool) (mask:Int) (k:Nat):(z2D known mask k).length<=k:=Nat.le_trans (List.length_filter_le _ _) (by rw[List.length_range];exact Nat.le_refl _)
theorem KAt.row {known:List Bool} {mask:Int} {k n:Nat} {xs:List Value} (h:KAt known mask k n xs):∃cols,cols=z2D known mask k/\n=cols.length/\xs=cols.map z5E:=⟨_,rfl,h.n,h.xs⟩
theorem z73 (known:List Bool) (mask:Int) (v1 v2:Value) (rs:List Rec) (hmax:known.length<=6) (hl:rs.length=known.length):zi Tryz.prog 284 #[v1,v2,.int .i64 mask] [zh 4 1 v1 known.length (known.map Value.bool),zh 54 10 v2 rs.length (zd Rec.cells rs)] fun v K=>∃cols A c,cols=z2D known mask known.length/\v= .slice A cols.length c/\K=[zh 3 1 (.slice A cols.length c) cols.length (cols.map z5E),zh 4 1 v1 known.length (known.map Value.bool),zh 54 10 v2 rs.length (zd Rec.cells rs)]:=by
 rw[hl]
 intro F0 w0 w R H
 refine(zd8 known mask v1 v2 (zd Rec.cells rs) hmax F0 w0 w R H).mono ?_
 rintro v w' ⟨K,w2,he,⟨n,xs,A,c,hK,rfl,rfl⟩,H'⟩
 obtain⟨cols,h1,rfl,rfl⟩:=hK.row
 exact⟨_,_,he,⟨cols,A,c,h1,rfl,rfl⟩,H'⟩
theorem zfR (known:List Bool) (rs:List Rec) (te ts:Int) (v1 v2:Value) (hmax:known.length<=6) (hl:rs.length=known.length):zi Tryz.prog 287 #[v1,v2,.agg #[.int .i64 te,.int .i64 ts]] [zh 4 1 v1 known.length (known.map Value.bool),zh 54 10 v2 rs.length (zd Rec.cells rs)] fun v K=>v= .bool (decide (0<(zmi known rs te ts).length))/\K=[zh 4 1 v1 known.length (known.map Value.bool),zh 54 10 v2 rs.length (zd Rec.cells rs)]:=by
 intro F0 w0 w R H
 try simp only[xNf]at H
 have HT:=Lib.hid (z73 known 63 v1 v2 rs hmax hl)
 have HS:=Lib.hid (fun(cols:List Nat) (h:cols=z2D known 63 known.length) (v3:Value) (tb:Nat)=>zhL tb te ts cols rs v3 v2 (by subst h;have:=z1O known 63 known.length;omega) (by intro i hi;subst h;rw[hl];exact z9V hi))
 clear hmax hl
 go_enter Tryz.func287,Tryz.ntmps287
 go_upto_region 1 with(first|refine xLd H ?_|(refine xEf H ?_;clear H;intro b A' w H))
 refine xRg [] (fun L=>[L]) H ?_
 clear H;intro w H
 have HS:=H
 refine xO 0 0 HS ?_
 refine xO 1 0 HS ?_
 refine xO 3 0 HS ?_
 refine xV 4 0 HS ?_
 clear HS
 refine tk1 2 0 (fun K' hK=>?_)
 go_simp;revert H;refine zi.use HT.out pks ?_;rintro _ _ w ⟨cols,A3,c3,hcols,rfl,rfl⟩ H;replace hcols:=Lib.hid hcols;try simp only[xNf]at H
 refine hK _ _ (H.sub sbn) (fun HS=>?_)
 clear hK K'
 try simp only[xPt]
 clear HS
 refine tk1 5 0 (fun K' hK=>?_)
 go_simp;revert H;refine zi.use (z1L _ _) pks ?_;rintro _ _ w ⟨tb,rfl,rfl⟩ H;try simp only[xNf]at H
 refine hK _ _ (H.sub sbn) (fun HS=>?_)
 clear hK K'
 try simp only[xPt]
 clear HS
 refine tk1 6 0 (fun K' hK=>?_)
 go_simp;revert H;refine zi.use (HS.out _ hcols.out _ _) pks ?_;rintro _ _ w ⟨n4,xs4,A4,c4,hO,rfl,rfl⟩ H;try simp only[xNf]at H
 refine hK _ _ (H.sub sbn) (fun HS=>?_)
 clear hK K'
 try simp only[xPt]
 refine xO 7 0 HS ?_
 refine xO 8 0 HS ?_
 refine xO 9 0 HS ?_
 refine xD ?_
 all_goals
  go_wp2_with (first|refine xLd H ?_|(refine xEf H ?_;clear H;intro b A' w H))
  refine xR1 H ?_
  refine⟨_,_,rfl,⟨?_,rfl⟩,H.sub sba⟩
  replace hcols:=hcols.out
  subst hcols
  have hn:=hO.n
  simp only[zmi,<-hn]
  first|rfl|(simp;done)|(congr 1;simp)|(simp;congr)
section
def zmh (te ts:Int) (r:Rec):Bool:=r.de==te&&r.ds==ts
def zlT (te ts:Int) (r:Rec):Bool:=r.opn&&(r.ie==te&&r.iq==ts)
def z45 (known:List Bool) (rs:List Rec) (te ts mask:Int):Bool:=
 decide (0<(soL (zmh te ts) rs (z2D known mask known.length)).length)||(decide (0<(z2D known mask known.length).length)&&(soL (zlT te ts) rs (z2D known mask known.length)).length==(z2D known mask known.length).length)
section
variable {cols:List Nat} {rs:List Rec} {v1 v2:Value} {tb n:Nat} {te ts:Int}
theorem zkg (hmax:cols.length<=64) (hin:∀i∈cols,i<rs.length) (hn:(soL (zmh te ts) rs cols).length=n):zi Tryz.prog 283 #[v1,v2,.agg #[.func (.func 293) #[] #[.pointer (some ⟨tb,0,none⟩)]]] [zh 3 1 v1 cols.length (cols.map z5E),zh 54 10 v2 rs.length (zd Rec.cells rs),z7 tb 52 [.int .i64 te,.int .i64 ts]] fun v K=>∃xs A c,v= .slice A n c/\K=[zh 3 1 (.slice A n c) n xs,zh 3 1 v1 cols.length (cols.map z5E),zh 54 10 v2 rs.length (zd Rec.cells rs),z7 tb 52 [.int .i64 te,.int .i64 ts]]:=by
 intro F0 w0 w R H
 refine(zhL tb te ts cols rs v1 v2 hmax hin F0 w0 w R H).mono ?_
 rintro v w' ⟨K,w2,he,⟨m,xs,A,c,hK,rfl,rfl⟩,H'⟩
 have e:m=n:=hK.n.trans hn
 subst e
 exact⟨_,_,he,⟨xs,A,c,rfl,rfl⟩,H'⟩
theorem zke (hmax:cols.length<=64) (hin:∀i∈cols,i<rs.length) (hn:(soL (zlT te ts) rs cols).length=n):zi Tryz.prog 283 #[v1,v2,.agg #[.func (.func 294) #[] #[.pointer (some ⟨tb,0,none⟩)]]] [zh 3 1 v1 cols.length (cols.map z5E),zh 54 10 v2 rs.length (zd Rec.cells rs),z7 tb 52 [.int .i64 te,.int .i64 ts]] fun v K=>∃xs A c,v= .slice A n c/\K=[zh 3 1 (.slice A n c) n xs,zh 3 1 v1 cols.length (cols.map z5E),zh 54 10 v2 rs.length (zd Rec.cells rs),z7 tb 52 [.int .i64 te,.int .i64 ts]]:=by
 intro F0 w0 w R H
 refine(zhK tb te ts cols rs v1 v2 hmax hin F0 w0 w R H).mono ?_
 rintro v w' ⟨K,w2,he,⟨m,xs,A,c,hK,rfl,rfl⟩,H'⟩
 have e:m=n:=hK.n.trans hn
 subst e
 exact⟨_,_,he,⟨xs,A,c,rfl,rfl⟩,H'⟩
end
theorem zew {cols:List Nat} (known:List Bool) (mask:Int) (v1 v2:Value) (rs:List Rec) (hmax:known.length<=6) (hl:rs.length=known.length) (hc:z2D known mask known.length=cols):zi Tryz.prog 284 #[v1,v2,.int .i64 mask] [zh 4 1 v1 known.length (known.map Value.bool),zh 54 10 v2 rs.length (zd Rec.cells rs)] fun v K=>∃A c,v= .slice A cols.length c/\K=[zh 3 1 (.slice A cols.length c) cols.length (cols.map z5E),zh 4 1 v1 known.length (known.map Value.bool),zh 54 10 v2 rs.length (zd Rec.cells rs)]:=by
 intro F0 w0 w R H
 refine(z73 known mask v1 v2 rs hmax hl F0 w0 w R H).mono ?_
 rintro v w' ⟨K,w2,he,⟨cs,A,c,h1,rfl,rfl⟩,H'⟩
 have e:cs=cols:=h1.trans hc
 subst e
 exact⟨_,_,he,⟨A,c,rfl,rfl⟩,H'⟩
theorem z9Y (known:List Bool) (rs:List Rec) (te ts mask:Int) (v1 v2:Value) (hmax:known.length<=6) (hl:rs.length=known.length):zi Tryz.prog 286 #[v1,v2,.agg #[.int .i64 te,.int .i64 ts],.int .i64 mask] [zh 4 1 v1 known.length (known.map Value.bool),zh 54 10 v2 rs.length (zd Rec.cells rs)] fun v K=>v= .bool (z45 known rs te ts mask)/\K=[zh 4 1 v1 known.length (known.map Value.bool),zh 54 10 v2 rs.length (zd Rec.cells rs)]:=by
 intro F0 w0 w R H
 try simp only[xNf]at H
 obtain⟨cols,hc⟩:=xG (z2D known mask known.length)
 have hcm:cols.length<=64:=by have:=z1O known mask known.length;rw[<-hc];omega
 have hcin:∀i∈cols,i<rs.length:=by intro i hi;rw[<-hc]at hi;rw[hl];exact z9V hi
 obtain⟨nd,hd⟩:=xG ((soL (zmh te ts) rs cols).length)
 obtain⟨no,ho⟩:=xG ((soL (zlT te ts) rs cols).length)
 have HT:=Lib.hid (zew known mask v1 v2 rs hmax hl hc)
 have HD:=Lib.hid (fun(v3:Value) (tb:Nat)=>zkg (v1:=v3) (v2:=v2) (tb:=tb) hcm hcin hd)
 have HO:=Lib.hid (fun(v3:Value) (tb:Nat)=>zke (v1:=v3) (v2:=v2) (tb:=tb) hcm hcin ho)
 have hf:z45 known rs te ts mask=(decide (0<nd)||(decide (0<cols.length)&&no==cols.length)):=by
  unfold z45
  rw[hc,hd,ho]
 rw[hf]
 clear hf hd ho hc hcm hcin hmax hl
 by_cases n0:0<nd
 ·have d0:decide ((0:Int)<(nd:Int))=true:=by simpa using n0
  have d0':decide (0<nd)=true:=by simpa using n0
  rw[d0',Bool.true_or]
  clear n0
  go_enter Tryz.func286,Tryz.ntmps286
  go_wp2_with (first|(go_at_call 284;refine xTr (HT.out) H ?_;clear H;rintro _ _ w ⟨A3,c3,rfl,rfl⟩ H;try simp only[xNf]at H)|(go_at_call 290;refine xTr (z1L _ _) H ?_;clear H;rintro _ _ w ⟨tb,rfl,rfl⟩ H;try simp only[xNf]at H)|(go_at_call 283;refine xTr (HD.out _ _) H ?_;clear H;rintro _ _ w ⟨xs4,A4,c4,rfl,rfl⟩ H;try simp only[xNf]at H)|first|refine xLd H ?_|(refine xEf H ?_;clear H;intro b A' w H))
  refine xR1 H ?_
  exact xF H
 have d0:decide ((0:Int)<(nd:Int))=false:=by simpa using n0
 have d0':decide (0<nd)=false:=by simpa using n0
 rw[d0',Bool.false_or]
 by_cases n1:0<cols.length
 ·have d1:decide ((0:Int)<(cols.length:Int))=true:=by simpa using n1
  have d1':decide (0<cols.length)=true:=by simpa using n1
  rw[d1',Bool.true_and]
  by_cases h:no=cols.length
  ·have d2:((no:Int)==(cols.length:Int))=true:=by simp[h]
   have d2':(no==cols.length)=true:=by simp[h]
   rw[d2']
   clear n0 n1 h
   go_enter Tryz.func286,Tryz.ntmps286
   go_upto_region 4 with(first|(go_at_call 284;refine xTr (HT.out) H ?_;clear H;rintro _ _ w ⟨A3,c3,rfl,rfl⟩ H;try simp only[xNf]at H)|(go_at_call 290;refine xTr (z1L _ _) H ?_;clear H;rintro _ _ w ⟨tb,rfl,rfl⟩ H;try simp only[xNf]at H)|(go_at_call 283;refine xTr (HD.out _ _) H ?_;clear H;rintro _ _ w ⟨xs4,A4,c4,rfl,rfl⟩ H;try simp only[xNf]at H)|first|refine xLd H ?_|(refine xEf H ?_;clear H;intro b A' w H))
   go_wp2_with (first|(go_at_call 291;refine xTr (z7L _ _) H ?_;clear H;rintro _ _ w ⟨tb2,rfl,rfl⟩ H;try simp only[xNf]at H)|(go_at_call 283;refine xTr (HO.out _ _) H ?_;clear H;rintro _ _ w ⟨xs5,A5,c5,rfl,rfl⟩ H;try simp only[xNf]at H)|first|refine xLd H ?_|(refine xEf H ?_;clear H;intro b A' w H))
   refine xR1 H ?_
   exact xF H
  ·have d2:((no:Int)==(cols.length:Int))=false:=beq_eq_false_iff_ne.2 (by omega)
   have d2':(no==cols.length)=false:=beq_eq_false_iff_ne.2 h
   rw[d2']
   clear n0 n1 h
   go_enter Tryz.func286,Tryz.ntmps286
   go_upto_region 4 with(first|(go_at_call 284;refine xTr (HT.out) H ?_;clear H;rintro _ _ w ⟨A3,c3,rfl,rfl⟩ H;try simp only[xNf]at H)|(go_at_call 290;refine xTr (z1L _ _) H ?_;clear H;rintro _ _ w ⟨tb,rfl,rfl⟩ H;try simp only[xNf]at H)|(go_at_call 283;refine xTr (HD.out _ _) H ?_;clear H;rintro _ _ w ⟨xs4,A4,c4,rfl,rfl⟩ H;try simp only[xNf]at H)|first|refine xLd H ?_|(refine xEf H ?_;clear H;intro b A' w H))
   go_wp2_with (first|(go_at_call 291;refine xTr (z7L _ _) H ?_;clear H;rintro _ _ w ⟨tb2,rfl,rfl⟩ H;try simp only[xNf]at H)|(go_at_call 283;refine xTr (HO.out _ _) H ?_;clear H;rintro _ _ w ⟨xs5,A5,c5,rfl,rfl⟩ H;try simp only[xNf]at H)|first|refine xLd H ?_|(refine xEf H ?_;clear H;intro b A' w H))
   refine xR1 H ?_
   exact xF H
 ·have d1:decide ((0:Int)<(cols.length:Int))=false:=by simpa using n1
  have d1':decide (0<cols.length)=false:=by simpa using n1
  rw[d1',Bool.false_and]
  clear n0 n1
  go_enter Tryz.func286,Tryz.ntmps286
  go_wp2_with (first|(go_at_call 284;refine xTr (HT.out) H ?_;clear H;rintro _ _ w ⟨A3,c3,rfl,rfl⟩ H;try simp only[xNf]at H)|(go_at_call 290;refine xTr (z1L _ _) H ?_;clear H;rintro _ _ w ⟨tb,rfl,rfl⟩ H;try simp only[xNf]at H)|(go_at_call 283;refine xTr (HD.out _ _) H ?_;clear H;rintro _ _ w ⟨xs4,A4,c4,rfl,rfl⟩ H;try simp only[xNf]at H)|first|refine xLd H ?_|(refine xEf H ?_;clear H;intro b A' w H))
  refine xR1 H ?_
  exact xF H
end
end Go.Proofs.YtmfincpagnpkjaaGreat
