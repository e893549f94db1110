/- Part of the proof. -/
import Derived.Deep.Cut
import Derived.Test.YtmfincpagnpkjaaGreatM08
set_option linter.all false
set_option maxRecDepth 100000
set_option maxHeartbeats 100000000
namespace Go.Proofs.YtmfincpagnpkjaaGreat
open Go.RowKit
section
structure PartM where
 column:Int
 block:ByteArray
 opn:Bool
 dn:Bool
def PartM.cells (p:PartM):List Value:=[.int .i64 p.column,.string p.block,.bool p.opn,.bool p.dn]
def PartM.nil:PartM:=⟨0,noB,false,false⟩
theorem PartM.cells_length (p:PartM):p.cells.length=4:=rfl
theorem zhc:(Tryz.prog.info? 359).bind (·.zero)=some (.agg PartM.nil.cells.toArray):=by kernel_rfl
theorem zl2:(Tryz.prog.info? 359).map (fun i=>(i.size,i.bytes))=some (4,32):=by kernel_rfl
theorem zhq:Tryz.prog.underlying 355=some (.slice 359):=Tryz.underlying355
structure UpdM where
 stripe:Int
 mask:Int
 te:Int
 ts:Int
 parts:List PartM
 began:Bool
 failed:Bool
def z3g (u:Nat) (s:UpdM):Assn:=exA fun v:Value=>zaN [z7 u 357 [.int .i64 s.stripe,.int .i64 s.mask,.int .i64 s.te,.int .i64 s.ts,v,.bool s.began,.bool s.failed],zh 359 4 v s.parts.length (zd PartM.cells s.parts)]
section
variable {F0:Nat->Prop} {w0 w:World} {L:List Assn} {u:Nat} {s:UpdM}
theorem z3g.open' (H:Sep F0 w0 w (z3g u s::L)):∃v,Sep F0 w0 w (z7 u 357 [.int .i64 s.stripe,.int .i64 s.mask,.int .i64 s.te,.int .i64 s.ts,v,.bool s.began,.bool s.failed]::zh 359 4 v s.parts.length (zd PartM.cells s.parts)::L):=by
 obtain⟨v,H⟩:=H.ex
 exact⟨v,H.unbag⟩
theorem z3g.mk {v:Value} {l xs:List Value} {n:Nat} (H:Sep F0 w0 w (z7 u 357 l::zh 359 4 v n xs::L)) (h1:l=[.int .i64 s.stripe,.int .i64 s.mask,.int .i64 s.te,.int .i64 s.ts,v,.bool s.began,.bool s.failed]) (h2:n=s.parts.length) (h3:xs=zd PartM.cells s.parts):Sep F0 w0 w (z3g u s::L):=by
 subst h1 h2 h3
 exact Sep.mk_ex v (Sep.bag (K:=[_,_]) H)
end
def z7e:List PartM->Int->Int
 |[],st=>st
 |p::ps,st=>if p.opn=false then 0 else z7e ps (if p.dn=false then 1 else st)
def UpdM.state (s:UpdM):Int:=if s.failed then 3 else z7e s.parts 2
theorem z2r {α:Type} {l:List α} {k:Nat} {x:α} (h:l[k]?=some x):l.drop k=x::l.drop (k+1):=by
 obtain⟨hlt,rfl⟩:=List.getElem?_eq_some_iff.1 h
 rw[List.getElem_cons_drop]
theorem z4o (u:Nat) (s:UpdM) (hmax:s.parts.length<=9223372036854775807):zi Tryz.prog 281 #[.pointer (some ⟨u,0,none⟩)] [z3g u s] fun v K=>v= .int .i64 s.state/\K=[z3g u s]:=by
 intro F0 w0 w R H
 try simp only[xNf]at H
 replace H:=z3g.open' H
 obtain⟨v,H⟩:=H
 obtain⟨stripe,mask,te,ts,parts,began,failed⟩:=s
 simp only at*
 obtain⟨A,c,rfl⟩:=zt H pk
 cases failed
 ·have hs:UpdM.state ⟨stripe,mask,te,ts,parts,began,false⟩=z7e parts 2:=rfl
  rw[hs]
  clear hs
  go_enter Tryz.func281,Tryz.ntmps281
  go_wp2_with (first|refine xLd H ?_|(refine xEf H ?_;clear H;intro b A' w H))
  go_loopw [3,15] (fun s i wr=>∃(k:Nat) (st:Int),k<=parts.length/\i= .int .i64 k/\s= .int .i64 st/\z7e parts 2=z7e (parts.drop k) st/\Sep F0 w0 wr (z7 u 357 [.int .i64 stripe,.int .i64 mask,.int .i64 te,.int .i64 ts,.slice A parts.length c,.bool began,.bool false]::zh 359 4 (.slice A parts.length c) parts.length (zd PartM.cells parts)::R)) (fun _ i _=>parts.length-(intOf i).toNat)
  case atStart=>exact⟨0,2,Nat.zero_le _,rfl,rfl,rfl,H⟩
  case round=>
   clear H
   obtain⟨k,st,hk,rfl,rfl,hst,H⟩:=hrel
   by_cases hlt:k<parts.length
   ·obtain⟨x,hx⟩:∃x,parts[k]?=some x:=⟨_,List.getElem?_eq_getElem hlt⟩
    obtain⟨g,c',hA⟩:=zz H pk (by omega)
    cases hA
    rw[z2r hx,z7e]at hst
    have HX:=Lib.hid hx
    obtain⟨column,block,opn,dn⟩:=x
    simp only at hst
    have HST:=Lib.hid hst
    clear hx hst
    cases opn
    ·go_wp2_with (first|(refine ldr H (hh:=(by first|exact yd pk (by first|exact HX.out) PartM.cells_length (by rfl) (ze (by rfl))|exact yq pk (by first|exact HX.out) PartM.cells_length (by rfl) (ze (by rfl)))) ?_)|first|refine xLd H ?_|(refine xEf H ?_;clear H;intro b A' w H))
     refine xR1 H ?_
     refine⟨_,_,rfl,⟨?_,rfl⟩,z3g.mk (H.sub sba) (by rfl) (by rfl) (by rfl)⟩
     rw[HST.out]
     rfl
    ·cases dn
     all_goals
      go_wp2_with (first|(refine ldr H (hh:=(by first|exact yd pk (by first|exact HX.out) PartM.cells_length (by rfl) (ze (by rfl))|exact yq pk (by first|exact HX.out) PartM.cells_length (by rfl) (ze (by rfl)))) ?_)|first|refine xLd H ?_|(refine xEf H ?_;clear H;intro b A' w H))
      go_roundw
      case rel=>exact⟨k+1,_,by omega,by go_num,rfl,HST.out,H.sub sba⟩
      case measure=>simp[intOf];omega
   ·obtain rfl:k=parts.length:=by omega
    rw[List.drop_length,z7e]at hst
    have HST:=Lib.hid hst
    clear hst hk
    go_wp2_with (first|refine xLd H ?_|(refine xEf H ?_;clear H;intro b A' w H))
    refine xR1 H ?_
    refine⟨_,_,rfl,⟨?_,rfl⟩,z3g.mk (H.sub sba) (by rfl) (by rfl) (by rfl)⟩
    rw[HST.out]
    rfl
 ·go_enter Tryz.func281,Tryz.ntmps281
  go_wp2_with (first|refine xLd H ?_|(refine xEf H ?_;clear H;intro b A' w H))
  refine xR1 H ?_
  exact⟨_,_,rfl,⟨rfl,rfl⟩,z3g.mk (H.sub sba) (by rfl) (by rfl) (by rfl)⟩
end
def zl1 (n:Int):Value:=.int .i64 n
def z7n:Int->List Int->List ByteArray->Bool
 |last,c::cs,b::bs=>if c<=last\/6<=c\/b.size≠16 then false else z7n c cs bs
 |_,_,_=>true
def z4g (stripe te ts:Int) (cs:List Int) (bs:List ByteArray):Bool:=
 decide (0<=stripe/\stripe<8/\1<=te/\te<=16777215/\1<=ts/\ts<=16777215/\cs.length≠0/\cs.length=bs.length)&&z7n (-1) cs bs
theorem z2b {cs:List Int} {k:Nat} {c:Int} (h:cs[k]?=some c):(cs.map zl1)[k]?=some (.int .i64 c):=by rw[List.getElem?_map,h];rfl
theorem z07 {bs:List ByteArray} {k:Nat} {b:ByteArray} (h:bs[k]?=some b):(bs.map Value.string)[k]?=some (.string b):=by rw[List.getElem?_map,h];rfl
structure RAt (r:Bool) (cs:List Int) (bs:List ByteArray) (k:Nat) (last:Int):Prop where
 eq:r=z7n last (cs.drop k) (bs.drop k)
theorem RAt.no {r:Bool} {cs:List Int} {bs:List ByteArray} {k:Nat} {last c:Int} {b:ByteArray} (h:RAt r cs bs k last) (hc:cs[k]?=some c) (hb:bs[k]?=some b) (hx:c<=last\/6<=c\/b.size≠16):r=false:=by
 rw[h.eq,z2r hc,z2r hb,z7n,if_pos hx]
theorem RAt.yes {r:Bool} {cs:List Int} {bs:List ByteArray} {k:Nat} {last c:Int} {b:ByteArray} (h:RAt r cs bs k last) (hc:cs[k]?=some c) (hb:bs[k]?=some b) (hx:¬(c<=last\/6<=c\/b.size≠16)):RAt r cs bs (k+1) c:=by
 refine⟨?_⟩
 rw[h.eq,z2r hc,z2r hb,z7n,if_neg hx]
theorem RAt.done {r:Bool} {cs:List Int} {bs:List ByteArray} {last:Int} (h:RAt r cs bs cs.length last):r=true:=by
 rw[h.eq,List.drop_length,z7n]
 intro _ _ _ _ h0
 cases h0
theorem z6V (stripe te ts:Int) (cs:List Int) (bs:List ByteArray) (v1 v2:Value) (hmax:cs.length<=64) (hmab:bs.length<=64):zi Tryz.prog 269 #[.int .i64 stripe,.agg #[.int .i64 te,.int .i64 ts],v1,v2] [zh 3 1 v1 cs.length (cs.map zl1),zh 9 1 v2 bs.length (bs.map Value.string)] fun v K=>v= .bool (z4g stripe te ts cs bs)/\K=[zh 3 1 v1 cs.length (cs.map zl1),zh 9 1 v2 bs.length (bs.map Value.string)]:=by
 intro F0 w0 w R H
 try simp only[xNf]at H
 obtain⟨A1,c1,rfl⟩:=zt H pk
 obtain⟨A2,c2,rfl⟩:=zt (v:=v2) H pk
 have no (h:¬(0<=stripe/\stripe<8/\1<=te/\te<=16777215/\1<=ts/\ts<=16777215/\cs.length≠0/\cs.length=bs.length)):z4g stripe te ts cs bs=false:=by
  unfold z4g
  rw[decide_eq_false h,Bool.false_and]
 have NO:=Lib.hid no
 clear no
 by_cases s0:stripe<0
 ·rw[NO.out (by omega)]
  have d0:decide (stripe<0)=true:=by simpa using s0
  go_enter Tryz.func269,Tryz.ntmps269
  go_wp2_with (first|refine xLd H ?_|(refine xEf H ?_;clear H;intro b A' w H))
  refine xR1 H ?_
  exact xF H
 have d0:decide (stripe<0)=false:=by simpa using s0
 by_cases s1:8<=stripe
 ·rw[NO.out (by omega)]
  have d1:decide (8<=stripe)=true:=by simpa using s1
  go_enter Tryz.func269,Tryz.ntmps269
  go_wp2_with (first|refine xLd H ?_|(refine xEf H ?_;clear H;intro b A' w H))
  refine xR1 H ?_
  exact xF H
 have d1:decide (8<=stripe)=false:=by simpa using s1
 by_cases e0:te<1
 ·rw[NO.out (by omega)]
  have d2:decide (te<1)=true:=by simpa using e0
  go_enter Tryz.func269,Tryz.ntmps269
  go_wp2_with (first|refine xLd H ?_|(refine xEf H ?_;clear H;intro b A' w H))
  refine xR1 H ?_
  exact xF H
 have d2:decide (te<1)=false:=by simpa using e0
 by_cases e1:16777215<te
 ·rw[NO.out (by omega)]
  have d3:decide (16777215<te)=true:=by simpa using e1
  go_enter Tryz.func269,Tryz.ntmps269
  go_wp2_with (first|refine xLd H ?_|(refine xEf H ?_;clear H;intro b A' w H))
  refine xR1 H ?_
  exact xF H
 have d3:decide (16777215<te)=false:=by simpa using e1
 by_cases f0:ts<1
 ·rw[NO.out (by omega)]
  have d4:decide (ts<1)=true:=by simpa using f0
  go_enter Tryz.func269,Tryz.ntmps269
  go_wp2_with (first|refine xLd H ?_|(refine xEf H ?_;clear H;intro b A' w H))
  refine xR1 H ?_
  exact xF H
 have d4:decide (ts<1)=false:=by simpa using f0
 by_cases f1:16777215<ts
 ·rw[NO.out (by omega)]
  have d5:decide (16777215<ts)=true:=by simpa using f1
  go_enter Tryz.func269,Tryz.ntmps269
  go_wp2_with (first|refine xLd H ?_|(refine xEf H ?_;clear H;intro b A' w H))
  refine xR1 H ?_
  exact xF H
 have d5:decide (16777215<ts)=false:=by simpa using f1
 by_cases l0:cs.length=0
 ·rw[NO.out (by omega)]
  have d6:((cs.length:Int)==0)=true:=by simp[l0]
  have d6':(cs.length==0)=true:=by simp[l0]
  clear l0
  go_enter Tryz.func269,Tryz.ntmps269
  go_wp2_with (first|refine xLd H ?_|(refine xEf H ?_;clear H;intro b A' w H))
  refine xR1 H ?_
  exact xF H
 have d6:((cs.length:Int)==0)=false:=beq_eq_false_iff_ne.2 (by omega)
 have d6':(cs.length==0)=false:=beq_eq_false_iff_ne.2 (by omega)
 by_cases l1:cs.length=bs.length
 case neg=>
  rw[NO.out (by omega)]
  have d7:((cs.length:Int) !=(bs.length:Int))=true:=by simp;omega
  have d7':(cs.length !=bs.length)=true:=by simp;omega
  go_enter Tryz.func269,Tryz.ntmps269
  go_wp2_with (first|refine xLd H ?_|(refine xEf H ?_;clear H;intro b A' w H))
  refine xR1 H ?_
  exact xF H
 have d7:((cs.length:Int) !=(bs.length:Int))=false:=by simp;omega
 have d7':(cs.length !=bs.length)=false:=by simp;omega
 have hr:z4g stripe te ts cs bs=z7n (-1) cs bs:=by
  unfold z4g
  rw[decide_eq_true (by omega),Bool.true_and]
 rw[hr]
 obtain⟨r,h9⟩:=xG (z7n (-1) cs bs)
 rw[h9]
 have H9:=Lib.hid h9
 clear hr NO h9
 have HL:=Lib.hid l1
 have HS:=Lib.hid (And.intro s0 l0)
 clear s0 s1 e0 e1 f0 f1 l0 l1
 go_enter Tryz.func269,Tryz.ntmps269
 go_wp2_with (first|refine xLd H ?_|(refine xEf H ?_;clear H;intro b A' w H))
 clear d0 d1 d2 d3 d4 d5 d6 d6' d7 d7'
 go_loopw [9,48] (fun l i wr=>∃(k:Nat) (last:Int),k<=cs.length/\RAt r cs bs k last/\l= .int .i64 last/\i= .int .i64 k/\
  Sep F0 w0 wr (zh 3 1 (.slice A1 cs.length c1) cs.length (cs.map zl1)::zh 9 1 (.slice A2 bs.length c2) bs.length (bs.map Value.string)::R)) (fun _ i _=>cs.length-(intOf i).toNat)
 case atStart=>exact⟨0,-1,Nat.zero_le _,⟨H9.out.symm⟩,rfl,rfl,H.sub sb⟩
 case round=>
  clear H
  obtain⟨k,last,hk,hU,rfl,rfl,H⟩:=hrel
  by_cases hlt:k<cs.length
  ·have hl:=HL.out
   obtain⟨x,hx⟩:∃x,cs[k]?=some x:=⟨_,List.getElem?_eq_getElem hlt⟩
   obtain⟨y,hy⟩:∃y,bs[k]?=some y:=⟨_,List.getElem?_eq_getElem (by omega)⟩
   have hlt2:k<bs.length:=by omega
   obtain⟨g1,c1',hA⟩:=zz (n:=cs.length) (v:=.slice A1 cs.length c1) H pk (by omega)
   cases hA
   obtain⟨g2,c2',hA⟩:=zz (n:=bs.length) (v:=.slice A2 bs.length c2) H pk (by omega)
   cases hA
   have HU:=Lib.hid hU
   have HX:=Lib.hid hx
   have HY:=Lib.hid hy
   clear hx hy hU hl
   by_cases x0:x<=last
   ·obtain rfl:=HU.out.no HX.out HY.out (by omega)
    have d0:decide (x<=last)=true:=by simpa using x0
    go_wp2_with (first|(refine ld1 H (hh:=(by first|exact zn pk (z2b HX.out)|exact zc pk (z2b HX.out)|exact zn pk (z07 HY.out)|exact zc pk (z07 HY.out))) ?_)|first|refine xLd H ?_|(refine xEf H ?_;clear H;intro b A' w H))
    refine xR1 H ?_
    exact xF H
   have d0:decide (x<=last)=false:=by simpa using x0
   by_cases x1:6<=x
   ·obtain rfl:=HU.out.no HX.out HY.out (by omega)
    have d1:decide (6<=x)=true:=by simpa using x1
    go_wp2_with (first|(refine ld1 H (hh:=(by first|exact zn pk (z2b HX.out)|exact zc pk (z2b HX.out)|exact zn pk (z07 HY.out)|exact zc pk (z07 HY.out))) ?_)|first|refine xLd H ?_|(refine xEf H ?_;clear H;intro b A' w H))
    refine xR1 H ?_
    exact xF H
   have d1:decide (6<=x)=false:=by simpa using x1
   by_cases x2:y.size=16
   ·have d2:((y.size:Int) !=16)=false:=by simp[x2]
    have d2':(y.size !=16)=false:=by simp[x2]
    go_wp2_with (first|(refine ld1 H (hh:=(by first|exact zn pk (z2b HX.out)|exact zc pk (z2b HX.out)|exact zn pk (z07 HY.out)|exact zc pk (z07 HY.out))) ?_)|first|refine xLd H ?_|(refine xEf H ?_;clear H;intro b A' w H))
    go_roundw
    case rel=>exact⟨k+1,x,by omega,HU.out.yes HX.out HY.out (by omega),rfl,by go_num,H.sub sb⟩
    case measure=>simp[intOf];omega
   ·obtain rfl:=HU.out.no HX.out HY.out (by omega)
    have d2:((y.size:Int) !=16)=true:=by simp;omega
    have d2':(y.size !=16)=true:=by simp;omega
    go_wp2_with (first|(refine ld1 H (hh:=(by first|exact zn pk (z2b HX.out)|exact zc pk (z2b HX.out)|exact zn pk (z07 HY.out)|exact zc pk (z07 HY.out))) ?_)|first|refine xLd H ?_|(refine xEf H ?_;clear H;intro b A' w H))
    refine xR1 H ?_
    exact xF H
  ·obtain rfl:k=cs.length:=by omega
   obtain rfl:=hU.done
   clear hU hk
   go_wp2_with (first|refine xLd H ?_|(refine xEf H ?_;clear H;intro b A' w H))
   refine xR1 H ?_
   exact xF H
abbrev zmr (mask:Int) (i:Nat):Bool:=bits .and .i64 (mask/2^i) 1==1
def z2D (known:List Bool) (mask:Int) (k:Nat):List Nat:=(List.range k).filter fun i=>known[i]?.getD false&&zmr mask i
def z5E (n:Nat):Value:=.int .i64 n
theorem z92 (known:List Bool) (mask:Int) (k:Nat) {x:Bool} (hx:known[k]?=some x):z2D known mask (k+1)=z2D known mask k++if x&&zmr mask k then[k]else[]:=by
 unfold z2D
 rw[List.range_succ,List.filter_append]
 congr 1
 simp[List.filter_cons,hx]
theorem z3U {bs:List Bool} {k:Nat} {b:Bool} (h:bs[k]?=some b):(bs.map Value.bool)[k]?=some (.bool b):=by rw[List.getElem?_map,h];rfl
structure KAt (known:List Bool) (mask:Int) (k n:Nat) (xs:List Value):Prop where
 n:n=(z2D known mask k).length
 xs:xs=(z2D known mask k).map z5E
theorem KAt.le {known:List Bool} {mask:Int} {k n:Nat} {xs:List Value} (h:KAt known mask k n xs):n<=k:=by
 rw[h.n]
 exact Nat.le_trans (List.length_filter_le _ _) (by rw[List.length_range];exact Nat.le_refl _)
theorem KAt.yes {known:List Bool} {mask:Int} {k n:Nat} {xs:List Value} (h:KAt known mask k n xs) (hx:known[k]?=some true) (hb:zmr mask k=true):KAt known mask (k+1) (n+1) (xs++[.int .i64 k]):=by
 have e:=z92 known mask k hx
 rw[hb,Bool.and_self,if_pos rfl]at e
 exact⟨by rw[e,List.length_append,<-h.n];rfl,by rw[e,List.map_append,<-h.xs];rfl⟩
theorem KAt.no {known:List Bool} {mask:Int} {k n:Nat} {xs:List Value} {x:Bool} (h:KAt known mask k n xs) (hx:known[k]?=some x) (hb:(x&&zmr mask k)=false):KAt known mask (k+1) n xs:=by
 have e:=z92 known mask k hx
 rw[hb,if_neg (by decide),List.append_nil]at e
 exact⟨by rw[e];exact h.n,by rw[e];exact h.xs⟩
theorem zd8 (known:List Bool) (mask:Int) (v1 v2:Value) (rs:List Value) (hmax:known.length<=6):zi Tryz.prog 284 #[v1,v2,.int .i64 mask] [zh 4 1 v1 known.length (known.map Value.bool),zh 54 10 v2 known.length rs] fun v K=>∃n xs A c,KAt known mask known.length n xs/\v= .slice A n c/\K=[zh 3 1 (.slice A n c) n xs,zh 4 1 v1 known.length (known.map Value.bool),zh 54 10 v2 known.length rs]:=by
 intro F0 w0 w R H
 try simp only[xNf]at H
 obtain⟨A1,c1,rfl⟩:=zt H pk
 obtain⟨A2,c2,rfl⟩:=zt (v:=v2) H pk
 have hm1:min (known.length:Int) (min (known.length:Int) 6)=(known.length:Int):=by omega
 have hm2:min (min (known.length:Int) (known.length:Int)) 6=(known.length:Int):=by omega
 have hm3:min (known.length:Int) 6=(known.length:Int):=by omega
 have hm4:min known.length 6=known.length:=by omega
 go_enter Tryz.func284,Tryz.ntmps284
 go_wp2_with (first|refine xLd H ?_|(refine xEf H ?_;clear H;intro b A' w H))
 replace H:=Sep.mk_row_nil (e:=3) (size:=1) H
 go_loopw [7,14] (fun v7 i wr=>∃(k n:Nat) (xs:List Value) (A:Option Addr) (c:Nat),k<=known.length/\KAt known mask k n xs/\v7= .slice A n c/\i= .int .i64 k/\
  Sep F0 w0 wr (zh 3 1 (.slice A n c) n xs::zh 4 1 (.slice A1 known.length c1) known.length (known.map Value.bool)::zh 54 10 (.slice A2 known.length c2) known.length rs::R)) (fun _ i _=>known.length-(intOf i).toNat)
 case atStart=>exact⟨0,0,[],none,0,Nat.zero_le _,⟨rfl,rfl⟩,rfl,rfl,H.sub sb⟩
 case round=>
  clear H
  obtain⟨k,n,xs,A,c,hk,hU,rfl,rfl,H⟩:=hrel
  have hnk:=hU.le
  by_cases hlt:k<known.length
  ·obtain⟨x,hx⟩:∃x,known[k]?=some x:=⟨_,List.getElem?_eq_getElem hlt⟩
   obtain⟨g1,c1',hA⟩:=zz (n:=known.length) (v:=.slice A1 known.length c1) H pk (by omega)
   cases hA
   have HU:=Lib.hid hU
   have HX:=Lib.hid hx
   clear hx hU
   have k0:(0:Int)<=(k:Int):=by omega
   have k1:(k:Int)<=64:=by omega
   cases x
   ·go_wp2_with (first|(refine ld1 H (hh:=(by first|exact zn pk (z3U HX.out)|exact zc pk (z3U HX.out))) ?_)|first|refine xLd H ?_|(refine xEf H ?_;clear H;intro b A' w H))
    go_roundw
    case rel=>exact⟨k+1,n,xs,_,_,by omega,HU.out.no HX.out (by rfl),rfl,by go_num,H.sub sb⟩
    case measure=>simp[intOf];omega
   ·cases hb:zmr mask k
    ·have HB:=Lib.hid hb
     have hb':bits .and .i64 (mask/2^k) 1≠1:=by simpa [zmr]using hb
     clear hb
     go_wp2_with (first|(refine ld1 H (hh:=(by first|exact zn pk (z3U HX.out)|exact zc pk (z3U HX.out))) ?_)|first|refine xLd H ?_|(refine xEf H ?_;clear H;intro b A' w H))
     go_roundw
     case rel=>exact⟨k+1,n,xs,_,_,by omega,HU.out.no HX.out (by rw[HB.out];rfl),rfl,by go_num,H.sub sb⟩
     case measure=>simp[intOf];omega
    ·have HB:=Lib.hid hb
     have hb':bits .and .i64 (mask/2^k) 1=1:=by simpa [zmr]using hb
     clear hb
     go_wp2_with (first|(refine ld1 H (hh:=(by first|exact zn pk (z3U HX.out)|exact zc pk (z3U HX.out))) ?_)|first|refine xLd H ?_|(refine xEf H ?_;clear H;intro b A' w H))
     go_roundw
     case rel=>exact⟨k+1,n+1,_,_,_,by omega,HU.out.yes HX.out HB.out,rfl,by go_num,H.sub sb⟩
     case measure=>simp[intOf];omega
  ·obtain rfl:k=known.length:=by omega
   have HU:=Lib.hid hU
   clear hU hk
   go_wp2_with (first|refine xLd H ?_|(refine xEf H ?_;clear H;intro b A' w H))
   refine xR1 H ?_
   exact⟨_,_,rfl,⟨n,xs,_,_,HU.out,rfl,rfl⟩,H.sub sba⟩
theorem z2y:(Tryz.prog.info? 373).bind (·.zero)=some (.agg [Value.nilFunc].toArray):=by kernel_rfl
theorem z6n (r:Rec):zi Tryz.prog 289 #[r.v] [] fun v K=>v= .bool r.opn/\K=[]:=by
 intro F0 w0 w R H
 try simp only[xNf]at H
 go_enter Tryz.func289,Tryz.ntmps289
 go_wp2_with (first|refine xLd H ?_|(refine xEf H ?_;clear H;intro b A' w H))
 refine xR1 H ?_
 exact xF H
theorem z9A (r:Rec) (b:Nat) (te ts:Int):zi Tryz.prog 293 #[r.v,.pointer (some ⟨b,0,none⟩)] [z7 b 52 [.int .i64 te,.int .i64 ts]] fun v K=>v= .bool (r.de==te&&r.ds==ts)/\K=[z7 b 52 [.int .i64 te,.int .i64 ts]]:=by
 intro F0 w0 w R H
 try simp only[xNf]at H
 obtain⟨used,fence,de,ds,block,opn,ie,iq,mask,staged⟩:=r
 go_enter Tryz.func293,Tryz.ntmps293
 go_wp2_with (first|(refine j6 (by rfl) rfl rfl H (zg (cs:=[.int .i64 de,.int .i64 ds]) 2 pk (by rfl) (ze (by rfl))) (z0p (by rfl)) ?_)|first|refine xLd H ?_|(refine xEf H ?_;clear H;intro b A' w H))
 all_goals
  refine xR1 H ?_
  refine⟨_,_,rfl,⟨?_,rfl⟩,H.sub sba⟩
  simp_all
theorem z9k (r:Rec) (b:Nat) (te ts:Int):zi Tryz.prog 294 #[r.v,.pointer (some ⟨b,0,none⟩)] [z7 b 52 [.int .i64 te,.int .i64 ts]] fun v K=>v= .bool (r.opn&&(r.ie==te&&r.iq==ts))/\K=[z7 b 52 [.int .i64 te,.int .i64 ts]]:=by
 intro F0 w0 w R H
 try simp only[xNf]at H
 obtain⟨used,fence,de,ds,block,opn,ie,iq,mask,staged⟩:=r
 cases opn
 ·go_enter Tryz.func294,Tryz.ntmps294
  go_wp2_with (first|(refine j6 (by rfl) rfl rfl H (zg (cs:=[.int .i64 ie,.int .i64 iq]) 2 pk (by rfl) (ze (by rfl))) (z0p (by rfl)) ?_)|first|refine xLd H ?_|(refine xEf H ?_;clear H;intro b A' w H))
  refine xR1 H ?_
  exact xF H
 ·go_enter Tryz.func294,Tryz.ntmps294
  go_wp2_with (first|(refine j6 (by rfl) rfl rfl H (zg (cs:=[.int .i64 ie,.int .i64 iq]) 2 pk (by rfl) (ze (by rfl))) (z0p (by rfl)) ?_)|first|refine xLd H ?_|(refine xEf H ?_;clear H;intro b A' w H))
  all_goals
   refine xR1 H ?_
   refine⟨_,_,rfl,⟨?_,rfl⟩,H.sub sba⟩
   simp_all
theorem zdU:zi Tryz.prog 285 #[] [] fun v K=>v= .agg #[.func (.func 289) #[] #[]]/\K=[]:=by
 intro F0 w0 w R H
 try simp only[xNf]at H
 go_enter Tryz.func285,Tryz.ntmps285
 go_wp2_with (first|first|refine xLd H ?_|(refine xEf H ?_;clear H;intro b A' w H)|(refine j1 (by rfl) (by rfl) (fun K' hK=>?_);revert H;refine z2A rfl z2y ?_;intro b w H;refine hK _ _ ?_;clear hK K'))
 refine xR1 H ?_
 exact xF H
theorem z1L (te ts:Int):zi Tryz.prog 290 #[.agg #[.int .i64 te,.int .i64 ts]] [] fun v K=>∃b,v= .agg #[.func (.func 293) #[] #[.pointer (some ⟨b,0,none⟩)]]/\K=[z7 b 52 [.int .i64 te,.int .i64 ts]]:=by
 intro F0 w0 w R H
 try simp only[xNf]at H
 go_enter Tryz.func290,Tryz.ntmps290
 go_wp2_with (first|first|refine xLd H ?_|(refine xEf H ?_;clear H;intro b A' w H)|(refine j1 (by rfl) (by rfl) (fun K' hK=>?_);revert H;refine z2A rfl z2y ?_;intro b w H;refine hK _ _ ?_;clear hK K'))
 refine xR1 H ?_
 exact⟨_,_,rfl,⟨_,rfl,rfl⟩,H.sub sba⟩
theorem z7L (te ts:Int):zi Tryz.prog 291 #[.agg #[.int .i64 te,.int .i64 ts]] [] fun v K=>∃b,v= .agg #[.func (.func 294) #[] #[.pointer (some ⟨b,0,none⟩)]]/\K=[z7 b 52 [.int .i64 te,.int .i64 ts]]:=by
 intro F0 w0 w R H
 try simp only[xNf]at H
 go_enter Tryz.func291,Tryz.ntmps291
 go_wp2_with (first|first|refine xLd H ?_|(refine xEf H ?_;clear H;intro b A' w H)|(refine j1 (by rfl) (by rfl) (fun K' hK=>?_);revert H;refine z2A rfl z2y ?_;intro b w H;refine hK _ _ ?_;clear hK K'))
 refine xR1 H ?_
 exact⟨_,_,rfl,⟨_,rfl,rfl⟩,H.sub sba⟩
section
theorem z9H (k st e s:Int) (W:World):(Instr.build 110 #[(0,.int .i64 k),(1,.int .i64 st),(2,.int .i64 e),(3,.int .i64 s)]).run Tryz.prog W= .ok (.agg (AskM.mk k st e s 0 0 0 0 noB).cells.toArray) W:=by kernel_rfl
section
variable {u:Nat} {v:Value} {stripe mask te ts st:Int} {bg fl:Bool}
theorem z3l (p:PartM):zi Tryz.prog 282 #[.pointer (some ⟨u,0,none⟩),.agg p.cells.toArray,.int .i64 st] [z7 u 357 [.int .i64 stripe,.int .i64 mask,.int .i64 te,.int .i64 ts,v,.bool bg,.bool fl]]
  fun r K=>r=(if st=0 then AskM.mk 4 stripe te ts mask 0 0 0 p.block else AskM.mk 5 stripe te ts 0 0 0 0 noB).v/\K=[z7 u 357 [.int .i64 stripe,.int .i64 mask,.int .i64 te,.int .i64 ts,v,.bool bg,.bool fl]]:=by
 intro F0 w0 w R H
 try simp only[xNf]at H
 by_cases h0:st=0
 ·rw[if_pos h0]
  subst h0
  go_enter Tryz.func282,Tryz.ntmps282
  go_upto_region 1 with(first|refine xLd H ?_|(refine xEf H ?_;clear H;intro b A' w H))
  refine xRg [16] (fun L=>[L,[]]) H ?_
  clear H;intro w H
  have HS:=H
  refine xO 0 0 HS ?_
  refine xO 1 0 HS ?_
  refine xO 2 0 HS ?_
  refine xL 3 0 HS ?_ (hin:=(.stop (n:=17) hd (by kernel_rfl)))
  refine xO 4 0 HS ?_
  refine xO 5 0 HS ?_
  refine xO 6 0 HS ?_
  refine xO 7 0 HS ?_
  refine xL 8 0 HS ?_ (hin:=(.stop (n:=17) hd (by kernel_rfl)))
  refine xO 9 0 HS ?_
  refine xO 10 0 HS ?_
  refine xO 11 0 HS ?_
  refine xO 12 0 HS ?_
  refine xL 13 0 HS ?_ (hin:=(.stop (n:=17) hd (by kernel_rfl)))
  refine xO 14 0 HS ?_ (v:=(.agg (AskM.mk 5 stripe te ts 0 0 0 0 noB).cells.toArray)) (hy:=by(intro W;exact zb rfl (z9H _ _ _ _ W)))
  refine xM 15 0 H ?_
  clear H HS;intro b _ w H HS
  refine xM 16 1 H ?_
  clear H HS;intro _ _ w H HS
  refine xD ?_
  go_upto_region 3 with(first|refine xLd H ?_|(refine xEf H ?_;clear H;intro b A' w H))
  refine xRg [7,9,11] (fun L=>[L,L.drop 1,L.drop 1,[]]) H ?_
  clear H;intro w H
  simp only[List.drop_succ_cons,List.drop_zero]
  have HS:=H
  refine xO 0 0 HS ?_
  refine xO 1 0 HS ?_
  refine xO 2 0 HS ?_
  refine xL 3 0 HS ?_ (hin:=(.go hd (.stop (n:=12) hd (by kernel_rfl))))
  refine xO 4 0 HS ?_
  refine xL 5 0 HS ?_ (hin:=(.go hd (.go hd (.stop (n:=12) hd (by kernel_rfl)))))
  refine xO 6 0 HS ?_
  refine xM 7 1 H ?_
  clear H HS;intro _ _ w H HS
  refine xO 8 1 HS ?_
  refine xM 9 2 H ?_
  clear H HS;intro _ _ w H HS
  refine xO 10 2 HS ?_
  refine xM 11 3 H ?_
  clear H HS;intro _ _ w H HS
  refine xD ?_
  go_wp2_with (first|refine xLd H ?_|(refine xEf H ?_;clear H;intro b A' w H))
  refine xR1 H ?_
  exact xF H
 ·rw[if_neg h0]
  have d0:(st==0)=false:=by simpa using h0
  clear h0
  go_enter Tryz.func282,Tryz.ntmps282
  go_upto_region 1 with(first|refine xLd H ?_|(refine xEf H ?_;clear H;intro b A' w H))
  refine xRg [16] (fun L=>[L,[]]) H ?_
  clear H;intro w H
  have HS:=H
  refine xO 0 0 HS ?_
  refine xO 1 0 HS ?_
  refine xO 2 0 HS ?_
  refine xL 3 0 HS ?_ (hin:=(.stop (n:=17) hd (by kernel_rfl)))
  refine xO 4 0 HS ?_
  refine xO 5 0 HS ?_
  refine xO 6 0 HS ?_
  refine xO 7 0 HS ?_
  refine xL 8 0 HS ?_ (hin:=(.stop (n:=17) hd (by kernel_rfl)))
  refine xO 9 0 HS ?_
  refine xO 10 0 HS ?_
  refine xO 11 0 HS ?_
  refine xO 12 0 HS ?_
  refine xL 13 0 HS ?_ (hin:=(.stop (n:=17) hd (by kernel_rfl)))
  refine xO 14 0 HS ?_ (v:=(.agg (AskM.mk 5 stripe te ts 0 0 0 0 noB).cells.toArray)) (hy:=by(intro W;exact zb rfl (z9H _ _ _ _ W)))
  refine xM 15 0 H ?_
  clear H HS;intro b _ w H HS
  refine xM 16 1 H ?_
  clear H HS;intro _ _ w H HS
  refine xD ?_
  go_wp2_with (first|refine xLd H ?_|(refine xEf H ?_;clear H;intro b A' w H))
  refine xR1 H ?_
  exact xF H
end
end
end Go.Proofs.YtmfincpagnpkjaaGreat
