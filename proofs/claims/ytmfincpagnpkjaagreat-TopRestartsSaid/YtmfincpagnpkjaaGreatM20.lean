/- Part of the proof. -/
import Derived.Test.YtmfincpagnpkjaaGreatM08
set_option linter.all false
set_option maxRecDepth 100000
set_option maxHeartbeats 100000000
namespace Go.Proofs.YtmfincpagnpkjaaGreat
open Go.RowKit
section
structure OpM where
 kind:Int
 at_:Int
 data:ByteArray
structure EventM where
 plt:Int
 bgn:Int
 fin:Int
 op:OpM
 err:Int
 out:ByteArray
def OpM.cells (o:OpM):List Value:=[.int .i64 o.kind,.int .i64 o.at_,.string o.data]
def OpM.v (o:OpM):Value:=.agg o.cells.toArray
def OpM.nil:OpM:=⟨0,0,noB⟩
def EventM.cells (e:EventM):List Value:=[.int .i64 e.plt,.int .i64 e.bgn,.int .i64 e.fin,.int .i64 e.op.kind,.int .i64 e.op.at_,.string e.op.data,.int .i64 e.err,.string e.out]
def EventM.nil:EventM:=⟨0,0,0,OpM.nil,0,noB⟩
theorem EventM.cells_length (e:EventM):e.cells.length=8:=rfl
theorem zfg:(Tryz.prog.info? 234).bind (·.zero)=some (.agg EventM.nil.cells.toArray):=by kernel_rfl
theorem ziQ:(Tryz.prog.info? 234).map (fun i=>(i.size,i.bytes))=some (8,80):=by kernel_rfl
theorem z5q:Tryz.prog.underlying 150=some (.slice 234):=Tryz.underlying150
structure HistM where
 evs:List EventM
 given:Int
def js (h:Nat) (s:HistM):Assn:=exA fun x:Value×Nat=>zaN [z7 h 152 [x.1,.func (.func 77) #[] #[.pointer (some ⟨x.2,0,none⟩)]],
 z7 x.2 3 [.int .i64 s.given],zh 234 8 x.1 s.evs.length (zd EventM.cells s.evs)]
section
variable {F0:Nat->Prop} {w0 w:World} {L:List Assn} {h:Nat} {s:HistM}
theorem js.open' (H:Sep F0 w0 w (js h s::L)):∃v gb,Sep F0 w0 w (z7 h 152 [v,.func (.func 77) #[] #[.pointer (some ⟨gb,0,none⟩)]]::z7 gb 3 [.int .i64 s.given]::zh 234 8 v s.evs.length (zd EventM.cells s.evs)::L):=by
 obtain⟨⟨v,gb⟩,H⟩:=H.ex
 exact⟨v,gb,H.unbag⟩
theorem js.mk {v:Value} {gb n:Nat} {xs:List Value} {g:Value} (H:Sep F0 w0 w (z7 h 152 [v,.func (.func 77) #[] #[.pointer (some ⟨gb,0,none⟩)]]::z7 gb 3 [g]::zh 234 8 v n xs::L)) (hg:g= .int .i64 s.given) (hn:n=s.evs.length) (hx:xs=zd EventM.cells s.evs):Sep F0 w0 w (js h s::L):=by
 subst hg hn hx
 exact Sep.mk_ex (v,gb) (Sep.bag (K:=[_,_,_]) H)
end
theorem z9s (gb:Nat) (n:Int) (h0:0<=n) (h1:n<1099511627776):zi Tryz.prog 77 #[.pointer (some ⟨gb,0,none⟩)] [z7 gb 3 [.int .i64 n]] fun v K=>v= .int .i64 (n+1)/\K=[z7 gb 3 [.int .i64 (n+1)]]:=by
 intro F0 w0 w R H
 try simp only[xNf]at H
 go_enter Tryz.func77,Tryz.ntmps77
 go_wp2_with (first|refine xLd H ?_|(refine xEf H ?_;clear H;intro b A' w H))
 refine xR1 H ?_
 exact xF H
theorem ziT:zi Tryz.prog 44 #[] [] fun v K=>∃h,v= .pointer (some ⟨h,0,none⟩)/\K=[js h ⟨[],0⟩]:=by
 intro F0 w0 w R H
 try simp only[xNf]at H
 go_enter Tryz.func44,Tryz.ntmps44
 go_wp2_with (first|refine xLd H ?_|(refine xEf H ?_;clear H;intro b A' w H))
 refine xR1 H ?_
 have H:=Sep.mk_row_nil (e:=234) (size:=8) H
 exact⟨_,_,rfl,⟨_,rfl,rfl⟩,js.mk (H.sub sba) (by rfl) (by rfl) (by rfl)⟩
def HistM.begin (s:HistM) (plt:Int) (op:OpM):HistM×Int:=
 if 200<=s.evs.length then(s,-1)else(⟨s.evs++[⟨plt,s.given+1,0,op,0,noB⟩],s.given+1⟩,s.evs.length)
theorem zem (plt n:Int) (op:OpM) (W:World):(Instr.build 234 #[(0,.int .i64 plt),(1,.int .i64 n),(3,.agg op.cells.toArray)]).run Tryz.prog W= .ok (.agg (EventM.mk plt n 0 op 0 noB).cells.toArray) W:=by kernel_rfl
theorem zdZ (h:Nat) (s:HistM) (plt:Int) (op:OpM) (h0:0<=s.given) (h1:s.given<1099511627776):
  zi Tryz.prog 118 #[.pointer (some ⟨h,0,none⟩),.int .i64 plt,op.v] [js h s] fun v K=>v= .int .i64 (s.begin plt op).2/\K=[js h (s.begin plt op).1]:=by
 intro F0 w0 w R H
 try simp only[xNf]at H
 replace H:=js.open' H
 obtain⟨v,gb,H⟩:=H
 obtain⟨evs,given⟩:=s
 simp only at*
 obtain⟨A,k,rfl⟩:=zt H pk
 by_cases hl:200<=evs.length
 ·have hs:HistM.begin ⟨evs,given⟩ plt op=(⟨evs,given⟩,-1):=by unfold HistM.begin;rw[if_pos hl]
  rw[hs]
  have d1:decide ((200:Int)<=(evs.length:Int))=true:=by simp;omega
  clear hs
  go_enter Tryz.func118,Tryz.ntmps118
  go_wp2_with (first|refine xLd H ?_|(refine xEf H ?_;clear H;intro b A' w H))
  refine xR1 H ?_
  exact⟨_,_,rfl,⟨rfl,rfl⟩,js.mk (H.sub sba) (by rfl) (by rfl) (by rfl)⟩
 ·have hs:HistM.begin ⟨evs,given⟩ plt op=(⟨evs++[⟨plt,given+1,0,op,0,noB⟩],given+1⟩,(evs.length:Int)):=by unfold HistM.begin;rw[if_neg hl]
  rw[hs]
  have d1:decide ((200:Int)<=(evs.length:Int))=false:=by simp;omega
  have hl':evs.length<200:=by omega
  clear hs hl
  go_enter Tryz.func118,Tryz.ntmps118
  go_wp2_with (first|refine xLd H ?_|(refine xEf H ?_;clear H;intro b A' w H))
  refine xRg [10,14,17] (fun L=>[L,[z7 b 173 op.cells,z7 h 152 [.slice A evs.length k,.func (.func 77) #[] #[.pointer (some ⟨gb,0,none⟩)]]],[],[]]) H ?_
  clear H;intro w H
  have HS:=H
  refine xO 0 0 HS ?_
  refine xO 1 0 HS ?_
  refine xO 2 0 HS ?_
  refine xO 3 0 HS ?_
  refine xL 4 0 HS ?_ (hin:=(.go hd (.stop (n:=18) hd (by kernel_rfl))))
  refine xO 5 0 HS ?_
  refine xO 6 0 HS ?_
  refine xO 7 0 HS ?_
  refine xO 8 0 HS ?_
  refine xL 9 0 HS ?_ (hin:=(.stop (n:=18) hd (by kernel_rfl)))
  refine xV 11 0 HS ?_ (hin:=(.go hdV (.stop (n:=18) hdV (by kernel_rfl))))
  refine xC 10 1 (z9s gb given h0 h1) H ?_
  clear H HS;intro w H HS
  refine xO 12 1 HS ?_ (v:=(.agg (EventM.mk plt (given+1) 0 op 0 noB).cells.toArray)) (hy:=by(intro W;exact zb rfl (zem _ _ _ W)))
  refine xM 13 1 H ?_
  clear H HS;intro b _ w H HS
  refine xM 14 2 H ?_
  clear H HS;intro k' A' w H HS
  refine xO 15 2 HS ?_
  refine xO 16 2 HS ?_
  refine xM 17 3 H ?_
  clear H HS;intro _ _ w H HS
  refine xD ?_
  go_wp2_with (first|refine xLd H ?_|(refine xEf H ?_;clear H;intro b A' w H))
  refine xR1 H ?_
  exact⟨_,_,rfl,⟨rfl,rfl⟩,js.mk (H.sub sba) (by rfl) (by simp) (z0a _ _).symm⟩
def HistM.fin (s:HistM) (n err:Int) (out:ByteArray):HistM×Bool:=
 match s.evs[n.toNat]? with
 |none=>(s,false)
 |some x=>if 0<=n/\x.fin=0 then(⟨s.evs.set n.toNat ⟨x.plt,x.bgn,s.given+1,x.op,err,out⟩,s.given+1⟩,true)else(s,false)
theorem ziU (h:Nat) (s:HistM) (n err:Int) (out:ByteArray) (h0:0<=s.given) (h1:s.given<1099511627776):
  zi Tryz.prog 165 #[.pointer (some ⟨h,0,none⟩),.int .i64 n,.int .i64 err,.string out] [js h s] fun v K=>v= .bool (s.fin n err out).2/\K=[js h (s.fin n err out).1]:=by
 intro F0 w0 w R H
 try simp only[xNf]at H
 replace H:=js.open' H
 obtain⟨v,gb,H⟩:=H
 obtain⟨evs,given⟩:=s
 simp only at*
 by_cases hn:n<0
 ·have hs:HistM.fin ⟨evs,given⟩ n err out=(⟨evs,given⟩,false):=by
   unfold HistM.fin
   split
   ·rfl
   ·rw[if_neg (by omega)]
  rw[hs]
  have d1:decide (n<0)=true:=by simpa using hn
  clear hs hn
  go_enter Tryz.func165,Tryz.ntmps165
  go_wp2_with (first|refine xLd H ?_|(refine xEf H ?_;clear H;intro b A' w H))
  refine xR1 H ?_
  exact⟨_,_,rfl,⟨rfl,rfl⟩,js.mk (H.sub sba) (by rfl) (by rfl) (by rfl)⟩
 obtain⟨i,rfl⟩:∃i:Nat,n=(i:Int):=⟨n.toNat,by omega⟩
 have d1:decide ((i:Int)<0)=false:=by simp
 clear hn
 by_cases hl:evs.length<=i
 ·have hs:HistM.fin ⟨evs,given⟩ i err out=(⟨evs,given⟩,false):=by
   unfold HistM.fin
   simp only[Int.toNat_natCast,List.getElem?_eq_none hl]
  rw[hs]
  obtain⟨A,k,rfl⟩:=zt H pk
  have d2:decide ((evs.length:Int)<=(i:Int))=true:=by simp;omega
  have d2':decide (evs.length<=i)=true:=by simpa using hl
  clear hs hl
  go_enter Tryz.func165,Tryz.ntmps165
  go_wp2_with (first|refine xLd H ?_|(refine xEf H ?_;clear H;intro b A' w H))
  refine xR1 H ?_
  exact⟨_,_,rfl,⟨rfl,rfl⟩,js.mk (H.sub sba) (by rfl) (by rfl) (by rfl)⟩
 have hlt:i<evs.length:=by omega
 obtain⟨x,hx⟩:∃x,evs[i]?=some x:=⟨_,List.getElem?_eq_getElem hlt⟩
 obtain⟨g,k,rfl⟩:=zz H pk (by omega)
 have d2:decide ((evs.length:Int)<=(i:Int))=false:=by simp;omega
 have d2':decide (evs.length<=i)=false:=by simpa using hlt
 have b0:(0:Int)<=(i:Int):=by omega
 have b1:(i:Int)<(evs.length:Int):=by omega
 have HX:=Lib.hid hx
 by_cases hf:x.fin=0
 ·have hs:HistM.fin ⟨evs,given⟩ i err out=(⟨evs.set i ⟨x.plt,x.bgn,given+1,x.op,err,out⟩,given+1⟩,true):=by
   unfold HistM.fin
   simp only[Int.toNat_natCast,hx]
   rw[if_pos ⟨by omega,hf⟩]
  rw[hs]
  have d3:(x.fin !=0)=false:=by simpa using hf
  have HLT:=Lib.hid hlt
  clear hs hf hl hx
  go_enter Tryz.func165,Tryz.ntmps165
  go_wp2_with (first
   |(refine zr (by rfl) (fun K' hK=>?_);refine jo H (ht:=(by first|exact jw (⟨x.plt,x.bgn,given+1,x.op,x.err,x.out⟩) pk (by first|exact HX.out|exact List.getElem?_set_self HLT.out) EventM.cells_length (by rfl) (by decide) (by rfl)|exact z0r (⟨x.plt,x.bgn,given+1,x.op,x.err,x.out⟩) pk (by first|exact HX.out|exact List.getElem?_set_self HLT.out) EventM.cells_length (by rfl) (by decide) (by rfl)|exact z02 (⟨x.plt,x.bgn,given+1,x.op,x.err,x.out⟩) pk (by first|exact HX.out|exact List.getElem?_set_self HLT.out) EventM.cells_length (by rfl) (by decide) (by rfl)|exact z01 (⟨x.plt,x.bgn,given+1,x.op,x.err,x.out⟩) pk (by first|exact HX.out|exact List.getElem?_set_self HLT.out) EventM.cells_length (by rfl) (by decide) (by rfl))) ?_;clear H;intro w H;refine hK _ _ ?_;clear hK K')
   |(refine zr (by rfl) (fun K' hK=>?_);refine jo H (ht:=(by first|exact jw (⟨x.plt,x.bgn,given+1,x.op,err,x.out⟩) pk (by first|exact HX.out|exact List.getElem?_set_self HLT.out) EventM.cells_length (by rfl) (by decide) (by rfl)|exact z0r (⟨x.plt,x.bgn,given+1,x.op,err,x.out⟩) pk (by first|exact HX.out|exact List.getElem?_set_self HLT.out) EventM.cells_length (by rfl) (by decide) (by rfl)|exact z02 (⟨x.plt,x.bgn,given+1,x.op,err,x.out⟩) pk (by first|exact HX.out|exact List.getElem?_set_self HLT.out) EventM.cells_length (by rfl) (by decide) (by rfl)|exact z01 (⟨x.plt,x.bgn,given+1,x.op,err,x.out⟩) pk (by first|exact HX.out|exact List.getElem?_set_self HLT.out) EventM.cells_length (by rfl) (by decide) (by rfl))) ?_;clear H;intro w H;refine hK _ _ ?_;clear hK K')
   |(refine zr (by rfl) (fun K' hK=>?_);refine jo H (ht:=(by first|exact jw (⟨x.plt,x.bgn,given+1,x.op,err,out⟩) pk (by first|exact HX.out|exact List.getElem?_set_self (by rw[List.length_set];exact HLT.out)) EventM.cells_length (by rfl) (by decide) (by rfl)|exact z0r (⟨x.plt,x.bgn,given+1,x.op,err,out⟩) pk (by first|exact HX.out|exact List.getElem?_set_self (by rw[List.length_set];exact HLT.out)) EventM.cells_length (by rfl) (by decide) (by rfl)|exact z02 (⟨x.plt,x.bgn,given+1,x.op,err,out⟩) pk (by first|exact HX.out|exact List.getElem?_set_self (by rw[List.length_set];exact HLT.out)) EventM.cells_length (by rfl) (by decide) (by rfl)|exact z01 (⟨x.plt,x.bgn,given+1,x.op,err,out⟩) pk (by first|exact HX.out|exact List.getElem?_set_self (by rw[List.length_set];exact HLT.out)) EventM.cells_length (by rfl) (by decide) (by rfl))) ?_;clear H;intro w H;refine hK _ _ ?_;clear hK K')
   |(refine ld1 H (hh:=(by first|exact yr pk (by first|exact HX.out) EventM.cells_length (by rfl) (by rfl)|exact yu pk (by first|exact HX.out) EventM.cells_length (by rfl) (by rfl)|exact j0 pk (by first|exact HX.out) EventM.cells_length (by rfl) (by rfl)|exact j3 pk (by first|exact HX.out) EventM.cells_length (by rfl) (by rfl))) ?_)
   |(go_at_call 77;revert H;refine zi.use (z9s gb given h0 h1) pks ?_;rintro _ _ w ⟨rfl,rfl⟩ H;try simp only[xNf]at H)
   |first|refine xLd H ?_|(refine xEf H ?_;clear H;intro b A' w H))
  refine xR1 H ?_
  simp only[List.set_set]at H
  exact⟨_,_,rfl,⟨rfl,rfl⟩,js.mk (H.sub sba) (by rfl) (by simp) (by rfl)⟩
 ·have hs:HistM.fin ⟨evs,given⟩ i err out=(⟨evs,given⟩,false):=by
   unfold HistM.fin
   simp only[Int.toNat_natCast,hx]
   rw[if_neg (fun h=>hf h.2)]
  rw[hs]
  have d3:(x.fin !=0)=true:=by simpa using hf
  clear hs hf hl hx
  go_enter Tryz.func165,Tryz.ntmps165
  go_wp2_with (first|(refine ld1 H (hh:=(by first|exact yr pk (by first|exact HX.out) EventM.cells_length (by rfl) (by rfl)|exact yu pk (by first|exact HX.out) EventM.cells_length (by rfl) (by rfl)|exact j0 pk (by first|exact HX.out) EventM.cells_length (by rfl) (by rfl)|exact j3 pk (by first|exact HX.out) EventM.cells_length (by rfl) (by rfl))) ?_)|first|refine xLd H ?_|(refine xEf H ?_;clear H;intro b A' w H))
  refine xR1 H ?_
  exact⟨_,_,rfl,⟨rfl,rfl⟩,js.mk (H.sub sba) (by rfl) (by rfl) (by rfl)⟩
end
end Go.Proofs.YtmfincpagnpkjaaGreat
