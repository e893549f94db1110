/- Part of the proof. -/
import Derived.Maps.OwnSet
import Derived.Sort.KeysCollected
import Derived.Test.YtmfincpagnpkjaaGreatM27
set_option linter.all false
set_option maxRecDepth 100000
set_option maxHeartbeats 100000000
namespace Go.Proofs.YtmfincpagnpkjaaGreat
open Go.RowKit
section
abbrev DU:=DataW Unit
abbrev z1e (s:ByteArray):Lit:=.string s.data.toList
def z1p (D:DU) (k:Lit):Int:=match D.atKey k (.lit (.int .i64 0))with| .lit (.int _ c)=>c|_=>0
theorem zat {P:Program} {k:TypeId} {R:Value->Option (DU×List MemPlace)} {w:World} {b n:Nat} {D:DU} (h:w.ownsMap P k R b n D):w.ownsMap P k R b (Maps.size D) D:=by
 obtain⟨es,clock,hb,F,hs,rfl⟩:=h
 exact⟨es,clock,hb,F,by simp[Maps.size,length_sorted],rfl⟩
def zcQ (b:Nat) (D:DU):Assn:=⟨fun F w=>F b/\w.ownsMap Tryz.prog 9 (plainElem Tryz.prog 3) b (Maps.size D) D,fun {F w w'} h hk=>⟨h.1,by
 obtain⟨h1,es,clock,hb,Ft,hs,hD⟩:=h
 exact⟨es,clock,(hk b h1).trans hb,Ft,hs,hD⟩⟩⟩
theorem K9:Maps.Keyed Tryz.prog 9:=Maps.string_keyed Tryz.underlying9
section
variable {op:Oper} {a:Act} {w w' w0:World} {F0:Nat->Prop} {Q:Exit->Act->World->Prop} {K':Act->World->Prop} {L L':List Assn} {m b:Nat} {D D':DU} {x y z:Operand} {s:ByteArray} {c:Int} {e size n:Nat} {v:Value} {xs:List Value}
theorem Sep.map (H:Sep F0 w0 w L) (hp:Pick (zcQ m D) L L'):w.ownsMap Tryz.prog 9 (plainElem Tryz.prog 3) m (Maps.size D) D:=by
 obtain⟨F,⟨_,h⟩,_⟩:=(H.pick hp).say
 exact h
theorem Sep.turnMap (H:Sep F0 w0 w L) (hp:Pick (zcQ m D) L L') (hg:w.grownBy w' (some m)) (ho:w'.ownsMap Tryz.prog 9 (plainElem Tryz.prog 3) m n D'):Sep F0 w0 w' (zcQ m D'::L'):=by
 refine Sep.turn (K:=[zcQ m D']) (H.pick hp) hg.os hg.tape hg.output hg.size ?_
 rintro F ⟨h1,h2⟩ hF
 refine⟨F,⟨F,fun _=>False,fun _ h=>h,fun _ h=>h.elim,fun _ _ h=>h,⟨h1,zat ho⟩,trivial⟩,fun k hk=>⟨Nat.lt_of_lt_of_le (hF k hk) hg.size,.inl hk⟩,fun k hk hFk=>hg.block k hk (fun e=>by cases e;exact hFk h1)⟩
theorem Sep.newMap (H:Sep F0 w0 w L):Sep F0 w0 (w.alloc (.map #[] 0)) (zcQ w.heap.size (.map [])::L):=by
 obtain⟨es,clock,hb,Ft,hs,hD⟩:=World.ownsMap_made (H:=Unit) w Tryz.prog 9 (plainElem Tryz.prog 3)
 have e:=World.alloc_heap_new w (.map #[] 0)
 rw[hb]at e
 cases e
 refine Sep.conv ?_ (H.new (.map #[] 0))
 rintro F w ⟨h1,h2⟩
 exact⟨h1,⟨#[],0,h2,Ft,Nat.le_refl _,rfl⟩⟩
theorem Sep.newRow (H:Sep F0 w0 w L) (hb:Below w.heap.size w w') (ho:w'.ownsRow w.heap.size e size v n xs):Sep F0 w0 w' (zh e size v n xs::L):=by
 refine Sep.turn (A:=z0w True) (K:=[zh e size v n xs]) (Sep.mk_pure trivial H) hb.os hb.tape hb.output hb.size ?_
 rintro F-hF
 have hlt:=ho.lt
 refine⟨fun k=>v.ownBlock=some k,⟨fun k=>v.ownBlock=some k,fun _=>False,fun _ h=>h,fun _ h=>h.elim,fun _ _ h=>h,⟨⟨ho.1, ?_⟩,fun _ h=>h⟩,trivial⟩,fun k hk=>⟨(hlt k hk).2,.inr (hlt k hk).1⟩,fun k hk _=>hb.block k hk⟩
 rcases ho.2 with h|⟨g,cap,cur,h1,h2,h3⟩
 ·exact .inl h
 ·exact .inr ⟨g,cap,cur,h1,Nat.zero_le _,h3⟩
theorem zcZ (H:Sep F0 w0 w L) (h:K' (a.put op.dst (.int .i64 (z1p D (z1e s)))) w) (hs:s.size<=maxLen) (ho:op.op= .lookup 125 x y false:=by exact rfl) (hx:a.eval x= .map (some m):=by exact rfl) (hy:a.eval y= .string s:=by exact rfl) (hp:Pick (zcQ m D) L L':=by exact pk):op.wp Tryz.prog a w K' Q:=by
 obtain⟨c,hrun,hat,_⟩:=(H.map hp).lookup_int K9 Tryz.underlying125 Tryz.underlying3 (Tryz.zeroValue3 w) (WideMaps.keyOf_string_mk Tryz.underlying9 hs)
 refine jp (v:=.int .i64 c) (w':=w) ?_ ?_
 ·unfold execOp
  simp[ho,hx,hy,hrun]
 ·have e:z1p D (z1e s)=c:=by unfold z1p;rw[hat]
  rw[e]at h
  exact h
theorem zcY (H:Sep F0 w0 w L) (h:∀w',Sep F0 w0 w' (zcQ m (D.put (z1e s) (.lit (.int .i64 c)))::L')->K' (a.put op.dst undef) w') (hs:s.size<=maxLen) (hn:Maps.size D<maxLen) (hw:(Lit.int .i64 c).wf=true) (ho:op.op= .mapUpdate 125 x y z:=by exact rfl) (hx:a.eval x= .map (some m):=by exact rfl) (hy:a.eval y= .string s:=by exact rfl) (hz:a.eval z= .int .i64 c:=by exact rfl) (hp:Pick (zcQ m D) L L':=by exact pk):op.wp Tryz.prog a w K' Q:=by
 obtain⟨w',hrun,r1,r2⟩:=(H.map hp).update K9 Tryz.underlying125 hn (WideMaps.keyOf_string_mk Tryz.underlying9 hs) (plainElem_int Tryz.underlying3 hw)
 refine z3i (w':=w') ?_ (h _ (H.turnMap hp r2 r1))
 unfold execOp
 simp[ho,hx,hy,hz,hrun]
theorem zlC (H:Sep F0 w0 w L) (h:∀w',Sep F0 w0 w' (zcQ m (D.del (z1e s))::L')->K' (a.put op.dst (.tuple #[])) w') (hs:s.size<=maxLen) (ho:op.op=Op.call {callee:=Callee.builtin Builtin.delete,args:=#[x,y],argTypes:=#[125,9]}:=by exact rfl) (hx:a.eval x= .map (some m):=by exact rfl) (hy:a.eval y= .string s:=by exact rfl) (hp:Pick (zcQ m D) L L':=by exact pk):op.wp Tryz.prog a w K' Q:=by
 obtain⟨w',hrun,r1,r2⟩:=(H.map hp).drop K9 Tryz.underlying125 (WideMaps.keyOf_string_mk Tryz.underlying9 hs) op.type
 refine jp (v:=.tuple #[]) (w':=w') ?_ (h _ (H.turnMap hp r2.grown r1))
 unfold execOp
 simp[ho,resolve,invoke,builtin,hx,hy,hrun]
end
theorem ziM (m:Nat):zi Tryz.prog 98 #[.map (some m)] [] fun v K=>∃kb,v= .func (.func 145) #[] #[.pointer (some ⟨kb,0,none⟩)]/\K=[z7 kb 125 [.map (some m)]]:=by
 intro F0 w0 w R H
 refine(callsIn_wide.1 (Tryz.maps_Keys_98 (some m) w)).mono ?_
 rintro e w' ⟨rfl,rfl⟩
 exact⟨_,_,rfl,⟨_,rfl,rfl⟩,H.newC #[.map (some m)] 125⟩
open Go.Maps Go.Sort in
theorem zdl (m kb:Nat) (D:DU) (hD:Maps.size D<=1000):zi Tryz.prog 97 #[.func (.func 145) #[] #[.pointer (some ⟨kb,0,none⟩)]] [z7 kb 125 [.map (some m)],zcQ m D] fun v K=>∃A n c,n=(strKeys D).length/\v= .slice A n c/\K=[zh 9 1 (.slice A n c) n (((strKeys D).mergeSort leB).map encStr),z7 kb 125 [.map (some m)],zcQ m D]:=by
 intro F0 w0 w R H
 have hc:=H.cell (b:=kb) (j:=0) .head rfl
 have hkb:=(Array.getElem?_eq_some_iff.1 (H.heap (b:=kb) .head)).1
 have hown:=H.map (.tail .head)
 have hseq:SeqGives Fence.wide 2 Tryz.prog 145 #[.pointer (some ⟨kb,0,none⟩)] encStr (fun ss=>ss.Perm (strKeys D)) (Maps.size D) w:=
  AnyZ.keys_gives (ρ:=Tryz.keys98_ren) {Tryz.keys98 with} Fence.wide _ trivial rfl (by omega) kb m _ D w hkb hc hown
 refine(callsIn_wide.1 (AnyZ.sorted_in Tryz.sorted97 Fence.wide 5 trivial trivial trivial trivial rfl (by omega) (Tryz.sorts97 _) (enters_of Tryz.func144 (by kernel_rfl) rfl) 145 #[.pointer (some ⟨kb,0,none⟩)] trivial (enters_of Tryz.func145 (by kernel_rfl) rfl) _ _ (by unfold maxLen;omega) (by omega) w hseq)).mono ?_
 rintro e w' ⟨v,ss,rfl,hS,hrow,_,hb⟩
 have hm:ss.mergeSort leB=(strKeys D).mergeSort leB:=mergeSort_of_perm hS
 have hl:ss.length=(strKeys D).length:=hS.length_eq
 have H2:=H.newRow hb hrow
 rw[hm]at H2
 obtain⟨A,c,rfl⟩:=zt H2 .head
 exact⟨_,_,rfl,⟨A,ss.length,c,hl,rfl,rfl⟩,H2⟩
structure NetM where
 D:DU
 all:Int
def z13 (n:Nat) (s:NetM):Assn:=exA fun m:Nat=>zaN [z7 n 127 [.map (some m),.int .i64 s.all],zcQ m s.D]
section
variable {F0:Nat->Prop} {w0 w:World} {L:List Assn} {n:Nat} {s:NetM}
theorem z13.open' (H:Sep F0 w0 w (z13 n s::L)):∃m,Sep F0 w0 w (z7 n 127 [.map (some m),.int .i64 s.all]::zcQ m s.D::L):=by
 obtain⟨m,H⟩:=H.ex
 exact⟨m,H.unbag⟩
theorem z13.mk {m:Nat} {v:Value} {D:DU} (H:Sep F0 w0 w (z7 n 127 [.map (some m),v]::zcQ m D::L)) (hv:v= .int .i64 s.all) (hD:D=s.D):Sep F0 w0 w (z13 n s::L):=by
 subst hv hD
 exact Sep.mk_ex m (Sep.bag (K:=[_,_]) H)
end
theorem zjM:(Tryz.prog.info? 127).bind (·.zero)=some (.agg [.map none,.int .i64 0].toArray):=by kernel_rfl
theorem zjo (m:Nat) (W:World):(Instr.build 127 #[(0,.map (some m))]).run Tryz.prog W= .ok (.agg #[.map (some m),.int .i64 0]) W:=by kernel_rfl
theorem ziu:zi Tryz.prog 43 #[] [] fun v K=>∃n,v= .pointer (some ⟨n,0,none⟩)/\K=[z13 n ⟨.map [],0⟩]:=by
 intro F0 w0 w R H
 try simp only[xNf]at H
 have hmm:= @run_makeMap Tryz.prog
 go_enter Tryz.func43,Tryz.ntmps43
 go_wp2_with (first|(refine zp (by rfl) (fun K' hK=>?_);refine jp (v:=.map (some w.heap.size)) (w':=w.alloc (.map #[] 0)) (by rfl) ?_;replace H:=H.newMap;generalize w.heap.size=m at H⊢;generalize (World.alloc w (.map #[] 0))=w at H⊢;refine hK _ _ ?_;clear hK K')|(refine z8 (v:=.agg #[.map (some m),.int .i64 0]) (by rfl) (zb (t:=127) rfl ?_) ?_;(·simp only[List.map_cons,List.map_nil];exact zjo _ _))|first|refine xLd H ?_|(refine xSt H ?_;clear H;intro w H;try dsimp only[List.set]at H)|(refine xNw H ?_;clear H;intro b w H)|(refine xAp H ?_;clear H;intro A' k' w H))
 refine xR1 H ?_
 exact⟨_,_,rfl,⟨_,rfl,rfl⟩,z13.mk (H.sub sba) (by rfl) (by rfl)⟩
def NetM.send (s:NetM) (x:ByteArray):NetM×Bool:=
 if 64<=s.all\/1000<x.size then(s,false)else(⟨s.D.put (z1e x) (.lit (.int .i64 (wrap64 (z1p s.D (z1e x)+1)))),s.all+1⟩,true)
theorem z9m (n:Nat) (s:NetM) (x:ByteArray) (h0:0<=s.all) (hD:Maps.size s.D<=1000) (hx:x.size<=9223372036854775807):zi Tryz.prog 33 #[.pointer (some ⟨n,0,none⟩),.string x] [z13 n s] fun v K=>v= .bool (s.send x).2/\K=[z13 n (s.send x).1]:=by
 intro F0 w0 w R H
 try simp only[xNf]at H
 replace H:=z13.open' H
 obtain⟨m,H⟩:=H
 obtain⟨D,all⟩:=s
 simp only at*
 by_cases h1:64<=all
 ·have hs:NetM.send ⟨D,all⟩ x=(⟨D,all⟩,false):=by unfold NetM.send;rw[if_pos (.inl h1)]
  rw[hs]
  have d1:decide ((64:Int)<=all)=true:=by simpa using h1
  clear hs h1
  go_enter Tryz.func33,Tryz.ntmps33
  go_wp2_with (first|refine xLd H ?_|(refine xSt H ?_;clear H;intro w H;try dsimp only[List.set]at H)|(refine xNw H ?_;clear H;intro b w H)|(refine xAp H ?_;clear H;intro A' k' w H))
  refine xR1 H ?_
  exact⟨_,_,rfl,⟨rfl,rfl⟩,z13.mk (H.sub sba) (by rfl) (by rfl)⟩
 have d1:decide ((64:Int)<=all)=false:=by simpa using h1
 by_cases h2:1000<x.size
 ·have hs:NetM.send ⟨D,all⟩ x=(⟨D,all⟩,false):=by unfold NetM.send;rw[if_pos (.inr h2)]
  rw[hs]
  have d2:decide ((1000:Int)<(x.size:Int))=true:=by simp;omega
  clear hs h1
  go_enter Tryz.func33,Tryz.ntmps33
  go_wp2_with (first|refine xLd H ?_|(refine xSt H ?_;clear H;intro w H;try dsimp only[List.set]at H)|(refine xNw H ?_;clear H;intro b w H)|(refine xAp H ?_;clear H;intro A' k' w H))
  refine xR1 H ?_
  exact⟨_,_,rfl,⟨rfl,rfl⟩,z13.mk (H.sub sba) (by rfl) (by rfl)⟩
 have d2:decide ((1000:Int)<(x.size:Int))=false:=by simp;omega
 have hs:NetM.send ⟨D,all⟩ x=(⟨D.put (z1e x) (.lit (.int .i64 (wrap64 (z1p D (z1e x)+1)))),all+1⟩,true):=by unfold NetM.send;rw[if_neg (by show ¬(64<=all\/1000<x.size);omega)]
 rw[hs]
 have hxm:x.size<=maxLen:=hx
 have hDm:Maps.size D<maxLen:=by unfold maxLen;omega
 have hall:all<64:=by omega
 clear hs h1 h2
 go_enter Tryz.func33,Tryz.ntmps33
 go_wp2_with (first|(refine zp (by rfl) (fun K' hK=>?_);refine zcZ H (hK _ _ ?_) hxm;clear hK K')|(refine zp (by rfl) (fun K' hK=>?_);refine zcY H ?_ hxm hDm (wrap64_wf _);clear H;intro w H;refine hK _ _ ?_;clear hK K')|first|refine xLd H ?_|(refine xSt H ?_;clear H;intro w H;try dsimp only[List.set]at H)|(refine xNw H ?_;clear H;intro b w H)|(refine xAp H ?_;clear H;intro A' k' w H))
 refine xR1 H ?_
 exact⟨_,_,rfl,⟨rfl,rfl⟩,z13.mk (H.sub sba) (by rfl) (by rfl)⟩
def z7T (D:DU):List (List UInt8)->Int->Option ByteArray
 |[],_=>none
 |k::ks,i=>if i<z1p D (.string k)then some ⟨k.toArray⟩else z7T D ks (wrap64 (i-z1p D (.string k)))
open Go.Maps Go.Sort in
def NetM.keys (s:NetM):List (List UInt8):=(strKeys s.D).mergeSort leB
def NetM.look (s:NetM) (i:Int):Option ByteArray:=if i<0\/s.all<=i then none else z7T s.D s.keys i
def zlS (o:Option ByteArray):Value:=.tuple #[.string (o.getD noB),.bool o.isSome]
theorem ziv (n:Nat) (s:NetM):zi Tryz.prog 68 #[.pointer (some ⟨n,0,none⟩)] [z13 n s] fun v K=>v= .int .i64 s.all/\K=[z13 n s]:=by
 intro F0 w0 w R H
 try simp only[xNf]at H
 replace H:=z13.open' H
 obtain⟨m,H⟩:=H
 obtain⟨D,all⟩:=s
 simp only at*
 go_enter Tryz.func68,Tryz.ntmps68
 go_wp2_with (first|refine xLd H ?_|(refine xSt H ?_;clear H;intro w H;try dsimp only[List.set]at H)|(refine xNw H ?_;clear H;intro b w H)|(refine xAp H ?_;clear H;intro A' k' w H))
 refine xR1 H ?_
 exact⟨_,_,rfl,⟨rfl,rfl⟩,z13.mk (H.sub sba) (by rfl) (by rfl)⟩
open Go.Maps Go.Sort in
theorem zad {ks:List (List UInt8)} {j:Nat} {k:List UInt8} (h:ks[j]?=some k):(ks.map encStr)[j]?=some (.string ⟨k.toArray⟩):=by rw[List.getElem?_map,h];rfl
open Go.Maps Go.Sort in
theorem zgf (n:Nat) (s:NetM) (i:Int) (hD:Maps.size s.D<=1000) (hk:∀k∈s.keys,k.length<=9223372036854775807) (hlen:(strKeys s.D).length<=1000):zi Tryz.prog 67 #[.pointer (some ⟨n,0,none⟩),.int .i64 i] [z13 n s] fun v K=>v=zlS (s.look i)/\K=[z13 n s]:=by
 intro F0 w0 w R H
 try simp only[xNf]at H
 replace H:=z13.open' H
 obtain⟨m,H⟩:=H
 obtain⟨D,all⟩:=s
 simp only at*
 by_cases h1:i<0
 ·have hs:NetM.look ⟨D,all⟩ i=none:=by unfold NetM.look;rw[if_pos (.inl h1)]
  rw[hs]
  have d1:decide (i<(0:Int))=true:=by simpa using h1
  clear hs h1
  go_enter Tryz.func67,Tryz.ntmps67
  go_wp2_with (first|refine xLd H ?_|(refine xSt H ?_;clear H;intro w H;try dsimp only[List.set]at H)|(refine xNw H ?_;clear H;intro b w H)|(refine xAp H ?_;clear H;intro A' k' w H))
  refine xR2 H ?_
  exact⟨_,_,rfl,⟨rfl,rfl⟩,z13.mk (H.sub sba) (by rfl) (by rfl)⟩
 have d1:decide (i<(0:Int))=false:=by simpa using h1
 by_cases h2:all<=i
 ·have hs:NetM.look ⟨D,all⟩ i=none:=by unfold NetM.look;rw[if_pos (.inr h2)]
  rw[hs]
  have d2:decide (all<=i)=true:=by simpa using h2
  clear hs h1 h2
  go_enter Tryz.func67,Tryz.ntmps67
  go_wp2_with (first|refine xLd H ?_|(refine xSt H ?_;clear H;intro w H;try dsimp only[List.set]at H)|(refine xNw H ?_;clear H;intro b w H)|(refine xAp H ?_;clear H;intro A' k' w H))
  refine xR2 H ?_
  exact⟨_,_,rfl,⟨rfl,rfl⟩,z13.mk (H.sub sba) (by rfl) (by rfl)⟩
 have d2:decide (all<=i)=false:=by simpa using h2
 obtain⟨ks,hks⟩:∃ks,ks=NetM.keys ⟨D,all⟩:=⟨_,rfl⟩
 have hs:NetM.look ⟨D,all⟩ i=z7T D ks i:=by unfold NetM.look;rw[if_neg (by show ¬(i<0\/all<=i);omega),<-hks]
 have hST:=fun kb=>zdl m kb D hD
 have hkl:ks.length=(strKeys D).length:=by rw[hks];exact List.length_mergeSort _
 have hks':(strKeys D).mergeSort leB=ks:=hks.symm
 rw[hks',<-hkl]at hST
 rw[<-hks]at hk
 have hl1:ks.length<=1000:=by rw[hkl];exact hlen
 have HST:=Lib.hid hST
 have HK:=Lib.hid hk
 rw[hs]
 obtain⟨res,hres⟩:=xG (z7T D ks i)
 rw[hres]
 clear hs h1 h2 hks hks' hkl hlen hST hk hD
 go_enter Tryz.func67,Tryz.ntmps67
 go_wp2_with (first|(go_at_call 98;refine xTr (ziM m) H ?_;clear H;rintro _ _ w ⟨kb,rfl,rfl⟩ H;try simp only[xNf]at H)|(go_at_call 97;revert H;refine zi.use (HST.out _) pks ?_;rintro _ _ w ⟨A,nk,c,rfl,rfl,rfl⟩ H;try simp only[xNf]at H)|first|refine xLd H ?_|(refine xSt H ?_;clear H;intro w H;try dsimp only[List.set]at H)|(refine xNw H ?_;clear H;intro b w H)|(refine xAp H ?_;clear H;intro A' k' w H))
 go_loopw [1,25] (fun v1 v25 wr=>∃(j:Nat) (i':Int),j<=ks.length/\res=z7T D (ks.drop j) i'/\v1= .int .i64 i'/\v25= .int .i64 j/\
  Sep F0 w0 wr (zh 9 1 (.slice A ks.length c) ks.length (ks.map encStr)::z7 n 127 [.map (some m),.int .i64 all]::zcQ m D::R)) (fun _ v25 _=>ks.length-(intOf v25).toNat)
 case atStart=>exact⟨0,i,Nat.zero_le _,hres.symm,rfl,rfl,H.sub sb⟩
 case round=>
  clear H hres
  obtain⟨j,i',hj,hl,rfl,rfl,H⟩:=hrel
  by_cases hlt:j<ks.length
  ·obtain⟨k,hx⟩:∃k,ks[j]?=some k:=⟨_,List.getElem?_eq_getElem hlt⟩
   have hd:ks.drop j=k::ks.drop (j+1):=by
    obtain⟨h1,rfl⟩:=List.getElem?_eq_some_iff.1 hx
    exact List.drop_eq_getElem_cons h1
   have hkm:=HK.out k (List.mem_of_getElem? hx)
   have hsz:(ByteArray.mk k.toArray).size<=maxLen:=by show k.toArray.size<=9223372036854775807;simpa using hkm
   have hkey:z1e ⟨k.toArray⟩= .string k:=by simp[z1e]
   obtain⟨g,c',hA⟩:=zz (n:=ks.length) (v:=.slice A ks.length c) H pk (by omega)
   cases hA
   obtain⟨cn,hcn⟩:=xG (z1p D (.string k))
   rw[hd,z7T,hcn]at hl
   have hcn':z1p D (z1e ⟨k.toArray⟩)=cn:=by rw[hkey,hcn]
   have HX:=Lib.hid hx
   have HC:=Lib.hid hcn'
   clear hx hd hkm hcn hcn' hkey
   by_cases hic:i'<cn
   ·rw[if_pos hic]at hl
    subst hl
    have d3:decide (i'<cn)=true:=by simpa using hic
    clear hic
    go_wp2_with (first|(refine ld1 H (hh:=(by first|exact zn pk (zad HX.out)|exact zc pk (zad HX.out))) ?_)|(refine zp (by rfl) (fun K' hK=>?_);refine zcZ H ?_ hsz;rw[HC.out];refine hK _ _ ?_;clear hK K')|first|refine xLd H ?_|(refine xSt H ?_;clear H;intro w H;try dsimp only[List.set]at H)|(refine xNw H ?_;clear H;intro b w H)|(refine xAp H ?_;clear H;intro A' k' w H))
    refine xR2 H ?_
    exact⟨_,_,rfl,⟨rfl,rfl⟩,z13.mk (H.sub sba) (by rfl) (by rfl)⟩
   ·rw[if_neg hic]at hl
    have d3:decide (i'<cn)=false:=by simpa using hic
    have HL:=Lib.hid hl
    clear hl hic
    go_wp2_with (first|(refine ld1 H (hh:=(by first|exact zn pk (zad HX.out)|exact zc pk (zad HX.out))) ?_)|(refine zp (by rfl) (fun K' hK=>?_);refine zcZ H ?_ hsz;rw[HC.out];refine hK _ _ ?_;clear hK K')|first|refine xLd H ?_|(refine xSt H ?_;clear H;intro w H;try dsimp only[List.set]at H)|(refine xNw H ?_;clear H;intro b w H)|(refine xAp H ?_;clear H;intro A' k' w H))
    go_roundw
    case rel=>exact⟨j+1,_,by omega,HL.out,rfl,by go_num,H.sub sb⟩
    case measure=>simp[intOf];omega
  ·obtain rfl:j=ks.length:=by omega
   rw[List.drop_length,z7T]at hl
   subst hl
   go_wp2_with (first|refine xLd H ?_|(refine xSt H ?_;clear H;intro w H;try dsimp only[List.set]at H)|(refine xNw H ?_;clear H;intro b w H)|(refine xAp H ?_;clear H;intro A' k' w H))
   refine xR2 H ?_
   exact⟨_,_,rfl,⟨rfl,rfl⟩,z13.mk (H.sub sba) (by rfl) (by rfl)⟩
theorem zbY {D:DU}:∀{ks:List (List UInt8)} {i:Int} {x:ByteArray},z7T D ks i=some x->∃k∈ks,x=⟨k.toArray⟩
 |[],_,_,h=>by cases h
 |k::ks,i,x,h=>by
  unfold z7T at h
  split at h
  ·cases h;exact⟨k,List.mem_cons_self ..,rfl⟩
  ·obtain⟨k',h1,h2⟩:=zbY h
   exact⟨k',List.mem_cons_of_mem _ h1,h2⟩
def NetM.take (s:NetM) (i:Int):NetM×Option ByteArray:=
 match s.look i with
 |none=>(s,none)
 |some x=>
  let D1:=s.D.put (z1e x) (.lit (.int .i64 (wrap64 (z1p s.D (z1e x)-1))))
  (⟨if z1p D1 (z1e x)=0 then D1.del (z1e x)else D1,s.all-1⟩,some x)
open Go.Maps Go.Sort in
theorem zgc (n:Nat) (s:NetM) (i:Int) (hD:Maps.size s.D<=1000) (hall:s.all<=1000) (hk:∀k∈s.keys,k.length<=9223372036854775807) (hlen:(strKeys s.D).length<=1000):zi Tryz.prog 58 #[.pointer (some ⟨n,0,none⟩),.int .i64 i] [z13 n s] fun v K=>v=zlS (s.take i).2/\K=[z13 n (s.take i).1]:=by
 intro F0 w0 w R H
 try simp only[xNf]at H
 have hL:=zgf n s i hD hk hlen
 cases hx:s.look i with
 |none=>
  have hs:s.take i=(s,none):=by unfold NetM.take;rw[hx]
  rw[hs]
  rw[hx]at hL
  have HL:=Lib.hid hL
  clear hs hx hL hk hlen hD
  go_enter Tryz.func58,Tryz.ntmps58
  go_wp2_with (first|(go_at_call 67;revert H;refine zi.use HL.out pks ?_;rintro _ _ w ⟨rfl,rfl⟩ H;try simp only[xNf]at H;simp only[zlS,Option.getD_none,Option.isSome_none])|first|refine xLd H ?_|(refine xSt H ?_;clear H;intro w H;try dsimp only[List.set]at H)|(refine xNw H ?_;clear H;intro b w H)|(refine xAp H ?_;clear H;intro A' k' w H))
  refine xR2 H ?_
  exact xF H
 |some x=>
  have hb:0<=i/\i<s.all:=by
   unfold NetM.look at hx
   split at hx
   ·cases hx
   ·omega
  obtain⟨k,hkm,rfl⟩:∃k∈s.keys,x=⟨k.toArray⟩:=by
   unfold NetM.look at hx
   split at hx
   ·cases hx
   ·exact zbY hx
  have hxm:(ByteArray.mk k.toArray).size<=maxLen:=by show k.toArray.size<=9223372036854775807;have:=hk k hkm;simpa using this
  obtain⟨x,hxx⟩:∃x:ByteArray,x=⟨k.toArray⟩:=⟨_,rfl⟩
  rw[<-hxx]at hxm hx
  obtain⟨D,all⟩:=s
  simp only at hD hall hb
  obtain⟨D1,hD1⟩:∃D1,D1=D.put (z1e x) (.lit (.int .i64 (wrap64 (z1p D (z1e x)-1)))):=⟨_,rfl⟩
  have hs:NetM.take ⟨D,all⟩ i=(⟨if z1p D1 (z1e x)=0 then D1.del (z1e x)else D1,all-1⟩,some x):=by unfold NetM.take;rw[hx,hD1]
  rw[hs]
  rw[hx]at hL
  have HL:=Lib.hid hL
  have hDm:Maps.size D<maxLen:=by unfold maxLen;omega
  have HD1:=Lib.hid hD1
  obtain⟨c1,hc1⟩:=xG (z1p D1 (z1e x))
  rw[hc1]
  have HC1:=Lib.hid hc1
  obtain⟨hb0,hb1⟩:=hb
  clear hs hx hL hk hlen hD hxx hkm hD1 hc1
  by_cases h0:c1=0
  ·rw[if_pos h0]
   have d3:(c1==0)=true:=by simpa using h0
   clear h0
   go_enter Tryz.func58,Tryz.ntmps58
   go_upto_region 4 with(first|(go_at_call 67;revert H;refine zi.use HL.out pks ?_;rintro _ _ w ⟨rfl,rfl⟩ H;try simp only[xNf]at H;simp only[zlS,Option.getD_some,Option.isSome_some];replace H:=z13.open' H;obtain⟨m,H⟩:=H;simp only at H)|first|refine xLd H ?_|(refine xSt H ?_;clear H;intro w H;try dsimp only[List.set]at H)|(refine xNw H ?_;clear H;intro b w H)|(refine xAp H ?_;clear H;intro A' k' w H))
   go_upto_region 6 with(first|(refine zp (by rfl) (fun K' hK=>?_);refine zcZ H (hK _ _ ?_) hxm;clear hK K')|(refine zp (by rfl) (fun K' hK=>?_);refine zcY H ?_ hxm hDm (wrap64_wf _);clear H;intro w H;rw[<-HD1.out]at H;refine hK _ _ ?_;clear hK K')|first|refine xLd H ?_|(refine xSt H ?_;clear H;intro w H;try dsimp only[List.set]at H)|(refine xNw H ?_;clear H;intro b w H)|(refine xAp H ?_;clear H;intro A' k' w H))
   go_wp2_with (first|(refine zp (by rfl) (fun K' hK=>?_);refine zcZ H ?_ hxm;rw[HC1.out];refine hK _ _ ?_;clear hK K')|(refine zp (by rfl) (fun K' hK=>?_);refine zlC H ?_ hxm;clear H;intro w H;refine hK _ _ ?_;clear hK K')|first|refine xLd H ?_|(refine xSt H ?_;clear H;intro w H;try dsimp only[List.set]at H)|(refine xNw H ?_;clear H;intro b w H)|(refine xAp H ?_;clear H;intro A' k' w H))
   refine xR2 H ?_
   exact⟨_,_,rfl,⟨rfl,rfl⟩,z13.mk (H.sub sba) (by rfl) (by rfl)⟩
  ·rw[if_neg h0]
   have d3:(c1==0)=false:=by simpa using h0
   clear h0
   go_enter Tryz.func58,Tryz.ntmps58
   go_upto_region 4 with(first|(go_at_call 67;revert H;refine zi.use HL.out pks ?_;rintro _ _ w ⟨rfl,rfl⟩ H;try simp only[xNf]at H;simp only[zlS,Option.getD_some,Option.isSome_some];replace H:=z13.open' H;obtain⟨m,H⟩:=H;simp only at H)|first|refine xLd H ?_|(refine xSt H ?_;clear H;intro w H;try dsimp only[List.set]at H)|(refine xNw H ?_;clear H;intro b w H)|(refine xAp H ?_;clear H;intro A' k' w H))
   go_upto_region 6 with(first|(refine zp (by rfl) (fun K' hK=>?_);refine zcZ H (hK _ _ ?_) hxm;clear hK K')|(refine zp (by rfl) (fun K' hK=>?_);refine zcY H ?_ hxm hDm (wrap64_wf _);clear H;intro w H;rw[<-HD1.out]at H;refine hK _ _ ?_;clear hK K')|first|refine xLd H ?_|(refine xSt H ?_;clear H;intro w H;try dsimp only[List.set]at H)|(refine xNw H ?_;clear H;intro b w H)|(refine xAp H ?_;clear H;intro A' k' w H))
   go_wp2_with (first|(refine zp (by rfl) (fun K' hK=>?_);refine zcZ H ?_ hxm;rw[HC1.out];refine hK _ _ ?_;clear hK K')|first|refine xLd H ?_|(refine xSt H ?_;clear H;intro w H;try dsimp only[List.set]at H)|(refine xNw H ?_;clear H;intro b w H)|(refine xAp H ?_;clear H;intro A' k' w H))
   refine xR2 H ?_
   exact⟨_,_,rfl,⟨rfl,rfl⟩,z13.mk (H.sub sba) (by rfl) (by rfl)⟩
end
end Go.Proofs.YtmfincpagnpkjaaGreat
