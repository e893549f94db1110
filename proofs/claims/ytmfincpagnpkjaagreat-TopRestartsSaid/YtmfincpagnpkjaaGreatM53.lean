/- Part of the proof. -/
import Derived.Deep.Slices
import Derived.ChangeSlices
import Derived.Test.YtmfincpagnpkjaaGreatM52
set_option linter.all false
set_option maxRecDepth 100000
set_option maxHeartbeats 100000000
namespace Go.Proofs.YtmfincpagnpkjaaGreat
section
open Go.ChangeShapes Go.WideShapes Go.ChangeAt Go.RowKit
instance:Inhabited TAsk:=⟨⟨0,0,0,0,⟨#[]⟩⟩⟩
section
variable {H:Type} {enc:TypeId×Value->H} {P:Program} {W:World}
theorem zdL {r:Reach} {b0:Nat} {t e:TypeId} {f0 f1 f2 f3 f4:Field} {v:Value} {d:DataW H} {p:List MemPlace} (ht:P.underlying t=some (.slice e)) (he:P.underlying e=some (.struct #[f0,f1,f2,f3,f4]))
  (ce:P.cellsOf e=5) (o0:f0.offset=0) (o1:f1.offset=1) (o2:f2.offset=2) (o3:f3.offset=3) (o4:f4.offset=4) (t0:P.underlying f0.type=some (.int .i64)) (t1:P.underlying f1.type=some (.int .i64)) (t2:P.underlying f2.type=some (.int .i64)) (t3:P.underlying f3.type=some (.int .i64)) (t4:P.underlying f4.type=some .string)
  (c0:P.cellsOf f0.type=1) (c1:P.cellsOf f1.type=1) (c2:P.cellsOf f2.type=1) (c3:P.cellsOf f3.type=1) (c4:P.cellsOf f4.type=1)
  (hval:Value.okWide P W r b0 t v) (h0:DataW.Trod enc P W 0 (fun _=>true) true t v d p) (hlt:∀x∈p,x.block<W.heap.size):
  ∃(A:Option Addr) (n c:Nat) (l:List TAsk),v= .slice A n c/\l.length=n/\n<=maxLen/\(∀x∈l,TAskOk x)/\
   (l=[]\/∃g off,A=some ⟨g,off,none⟩/\g<W.heap.size/\∀(i:Nat) (x:TAsk),l[i]?=some x->∀(j:Nat) (u:Value),x.cells[j]?=some u->W.cell? ⟨g,off+i*5+j,none⟩=some u):=by
 obtain⟨A,n,c,rfl⟩:=okWide_slice ht hval
 obtain⟨fuel,hf⟩:=h0
 refine⟨A,n,c, ?_⟩
 rcases Deep.open_slice ht hf with⟨hcs,_⟩|⟨a,len,cap,m,k,D,Pl,hcs,_,hl,hm,hmm,hx,hall⟩
 ·simp[Value.cells]at hcs
  obtain⟨rfl,rfl,rfl⟩:=hcs
  exact⟨[],rfl,rfl,by unfold maxLen;omega,by intro f hf;simp at hf,.inl rfl⟩
 ·simp[Value.cells]at hcs
  obtain⟨rfl,rfl,rfl⟩:=hcs
  simp only[if_true]at hmm
  simp only[Prod.mk.injEq]at hx
  obtain⟨_,hp⟩:=hx
  have each:∀i,i<n->∃q:TAsk,(∀(j:Nat) (u:Value),q.cells[j]?=some u->W.cell? (a.add (i*5+j))=some u)/\TAskOk q:=by
   intro i hi
   obtain⟨cs',h1,h2⟩:=hall i (by omega)
   rw[ce]at h1
   obtain⟨_,hlen,hcell⟩:=World.cells?_some h1
   obtain⟨xs,k',hk,hxy,_,hxl,hf'⟩:=DataW.trod_struct he h2
   match xs,hxl,cs',hlen with
   |[y0,y1,y2,y3,y4],_,[v0,v1,v2,v3,v4],_=>
    have g0:=hf' 0 f0 rfl
    have g1:=hf' 1 f1 rfl
    have g2:=hf' 2 f2 rfl
    have g3:=hf' 3 f3 rfl
    have g4:=hf' 4 f4 rfl
    simp[o0,o1,o2,o3,o4,c0,c1,c2,c3,c4]at g0 g1 g2 g3 g4
    obtain⟨z0,e0,_,w0⟩:=DataW.trod_int t0 g0
    obtain⟨z1,e1,_,w1⟩:=DataW.trod_int t1 g1
    obtain⟨z2,e2,_,w2⟩:=DataW.trod_int t2 g2
    obtain⟨z3,e3,_,w3⟩:=DataW.trod_int t3 g3
    obtain⟨s4,e4,_,w4⟩:=DataW.trod_string t4 g4
    simp only[List.cons.injEq,and_true]at e0 e1 e2 e3 e4
    subst e0 e1 e2 e3 e4
    refine⟨⟨z0,z1,z2,z3,s4⟩,fun j u hu=>?_,⟨z08 w0,z08 w1,z08 w2,z08 w3, ?_⟩⟩
    ·have hj:=(List.getElem?_eq_some_iff.1 hu).1
     have hj:j<5:=hj
     have:=hcell j (by omega)
     rw[Deep.add_add]at this
     rw[this]
     exact hu
    ·unfold maxLen at w4
     exact w4
  obtain⟨q,hq⟩:=Deep.choose_lt each
  refine⟨(List.range n).map q,rfl,by simp,by omega, ?_, ?_⟩
  ·intro f hf
   obtain⟨i,hi,rfl⟩:=List.mem_map.1 hf
   exact(hq i (List.mem_range.1 hi)).2
  ·by_cases hn:n=0
   ·left;subst hn;rfl
   ·right
    have hc0:=(hq 0 (by omega)).1 0 _ rfl
    obtain⟨b,off,spot⟩:=a
    have hspot:spot=none:=by simpa [Addr.add]using World.cell?_spot hc0
    subst hspot
    refine⟨b,off,rfl,hlt (.cell b off) ?_,fun i x hx j u hu=>?_⟩
    ·rw[hp]
     exact List.mem_append_left _ (MemPlace.mem_row.2 ⟨0,by rw[ce];omega,by simp⟩)
    ·have hi:=(List.getElem?_eq_some_iff.1 hx).1
     simp only[List.length_map,List.length_range]at hi
     rw[List.getElem?_map,List.getElem?_range hi]at hx
     simp at hx
     subst hx
     have:=(hq i hi).1 j u hu
     rw[Addr.add_lit]at this
     rw[Nat.add_assoc]
     exact this
end
end
section
open Go.ChangeShapes Go.WideShapes Go.ChangeAt Go.RowKit
section
variable {H:Type} {enc:TypeId×Value->H} {P:Program} {W:World}
theorem zdK {r:Reach} {b0:Nat} {t e:TypeId} {v:Value} {d:DataW H} {p:List MemPlace} (ht:P.underlying t=some (.slice e)) (he:P.underlying e=some (.int .i64)) (hc:P.cellsOf e=1)
  (hval:Value.okWide P W r b0 t v) (h0:DataW.Trod enc P W 0 (fun _=>true) true t v d p) (hlt:∀x∈p,x.block<W.heap.size)
  (hsz:∀elems spare,d= .slice elems spare->(elems.length+spare.length)*8<=140737488351232):
  ∃(A:Option Addr) (n c:Nat) (l:List Int),v= .slice A n c/\Rd W W.heap.size A (z1W l)/\l.length=n/\n<=c/\c*8<=140737488351232/\∀z∈l,-9223372036854775808<=z/\z<=9223372036854775807:=by
 obtain⟨A,n,c,rfl⟩:=okWide_slice ht hval
 obtain⟨fuel,hf⟩:=h0
 refine⟨A,n,c, ?_⟩
 rcases open_ints ht he hc hf with⟨hcs,_⟩|⟨a,len,cap,zs,hcs,_,hl,_,hz,hx,hcell,hs⟩
 ·simp[Value.cells]at hcs
  obtain⟨rfl,rfl,rfl⟩:=hcs
  exact⟨[],rfl,Rd.nil _ _ _,rfl,Nat.le_refl _,by omega,by simp⟩
 ·simp[Value.cells]at hcs
  obtain⟨rfl,rfl,rfl⟩:=hcs
  simp only[if_true]at hz
  simp only[Prod.mk.injEq]at hx
  obtain⟨hd,hp⟩:=hx
  have hb:=hsz _ _ hd
  simp only[lits,List.length_map,List.length_take,List.length_drop]at hb
  refine⟨zs.take n,rfl, ?_,by rw[List.length_take];omega,hl,by omega,fun z h=>z08 (hs z (List.mem_of_mem_take h))⟩
  by_cases hn:n=0
  ·left;subst hn;simp[z1W]
  ·right
   have hc0:=hcell 0 (by omega)
   obtain⟨b,off,spot⟩:=a
   have hspot:spot=none:=by simpa [Addr.add]using World.cell?_spot hc0
   subst hspot
   refine⟨b,off,rfl,hlt (.cell b off) (by rw[hp];exact MemPlace.mem_row.2 ⟨0,by omega,by simp⟩),fun i u hu=>?_⟩
   simp only[z1W,List.getElem?_map,List.getElem?_take,Option.map_eq_some_iff]at hu
   obtain⟨z,hz1,rfl⟩:=hu
   split at hz1
   ·have hi:=(List.getElem?_eq_some_iff.1 hz1).1
    have hci:=hcell i hi
    rw[Addr.add_lit]at hci
    rw[hci]
    simp[List.getD,hz1]
   ·cases hz1
end
end
end Go.Proofs.YtmfincpagnpkjaaGreat
namespace Go.Proofs.YtmfincpagnpkjaaGreat
open Go.RowKit
theorem zjk (c i B n:Nat) (s:ClusM) (ops:List OpM) (text:ByteArray) (hI:CInv (B+13300) s) (hi:i<2) (hn:ops.length=n) (hl:n<=100) (ho:∀op∈ops,OpOk s.N s.S op)
  (hT:zi Tryz.prog 85 #[.agg #[.int .i64 s.N,.int .i64 s.S],.string text] [] fun v K=>∃A cc,v= .tuple #[.slice A n cc,.int .i64 0]/\K=[zh 173 3 (.slice A n cc) n (zd OpM.cells ops)]):
  zi Tryz.prog 54 #[.pointer (some ⟨c,0,none⟩),.int .i64 i,.string text] [ym c s] fun r K=>r= .string (s.askB i)/\K=[ym c (s.ask i ops)]:=by
 intro F0 w0 w R H
 try simp only[xNf]at H
 have hIi:(i:Int)<2:=by omega
 obtain⟨p,hg⟩:=hI.g i hi
 have hbz:s.busyAt i=(!(s.ctl i).queue.isEmpty||((s.ctl i).doing||decide (192<s.hist.evs.length))):=rfl
 have hask:s.ask i ops=if s.busyAt i=true then s else(s.asked i ops).goOn i:=rfl
 have haskB:s.askB i=if s.busyAt i=true then z1j [201] [noB]else noB:=rfl
 obtain⟨bz,hb⟩:=xG (s.busyAt i)
 rw[hb]at hbz hask haskB
 have hG:bz=false->zi Tryz.prog 81 #[.pointer (some ⟨c,0,none⟩),.int .i64 i] [ym c (s.asked i ops)] fun r K=>r= .tuple #[]/\K=[ym c ((s.asked i ops).goOn i)]:=fun h0=>by
  have h1:=GInv.asked (m:=B+13001) (hg.less (by omega)) (z9E (hb.trans h0)).1 ho (by omega)
  exact z81 c i B (s.asked i ops) p hi (h1.less (by
   show B+130*(upC s.ctl i _ i).queue.length+1<=_
   rw[yv]
   show B+130*ops.length+1<=B+13001
   omega)) h1.hid
 have hR:=zbs 201
 have hEV:=fun hb=>zcb hb s.hist (by have:=hI.ev;omega)
 have hsp:s.asked i ops={s with ctl:=upC s.ctl i {s.ctl i with queue:=ops,errs:=[],data:=[],answer:=noB,done:=false}}:=rfl
 obtain⟨mv,ke,nb,hb',ch,zs,hz,H⟩:=ym.ctl hi .head H
 have HZ:=Lib.hid hz
 have HUP:=Lib.hid (z4M s.ctl i)
 have hpil:=hg.pil
 obtain⟨x,hx⟩:=xG (s.ctl i)
 rw[hx]at hpil H hsp hbz
 rw[hx]at HUP
 obtain⟨xp,xs,xq,xd,xe,xr,xt,xa,xo⟩:=x
 dsimp only at hpil hbz
 subst hpil
 obtain⟨⟨pb,qu,er,da⟩,hch⟩:∃x,ch i=x:=⟨_,rfl⟩
 rw[hch]at H
 obtain⟨ne,hne⟩:=xG (xr.length)
 obtain⟨nd,hnd⟩:=xG (xt.length)
 obtain⟨nq,hnq⟩:=xG (xq.length)
 obtain⟨nv,hnv⟩:=xG (s.hist.evs.length)
 rw[hnv]at hbz
 simp only[hnv]at hEV
 simp only[hne,hnd,zaV]at H
 obtain⟨A1,c1,rfl⟩:=zt (v:=er) H pk
 obtain⟨A2,c2,rfl⟩:=zt (v:=da) H pk
 obtain⟨A3,c3,hqf,hqc⟩:=z6L (v:=qu) H pk
 rw[hnq]at hqf hqc
 subst hqf
 obtain⟨oc,hoc⟩:=xG (s.ctl (1-i))
 obtain⟨och,hoch⟩:=xG (ch (1-i))
 rw[hoc,hoch]at H
 rw[show CtlM.cells ⟨some p,xs,xq,xd,xe,xr,xt,xa,xo⟩ ⟨pb,.slice A3 nq c3,.slice A1 ne c1,.slice A2 nd c2⟩=[.pointer (some ⟨pb,0,none⟩),.int .i64 xs,.slice A3 nq c3,.bool xd,.int .i64 xe,.slice A1 ne c1,.slice A2 nd c2,.string xa,.bool xo]from rfl]at H
 have HPO:zy pb p=zaV pb (some p):=rfl
 have HOC:=Lib.hid hoc
 have HOCH:=Lib.hid hoch
 have HSP:=Lib.hid hsp
 have HNE:=Lib.hid hne
 have HND:=Lib.hid hnd
 have HNO:=Lib.hid hn
 obtain⟨rB,hrB⟩:=xG (z1j [201] [noB])
 rw[hrB]at hR haskB
 have HR:=Lib.hid hR
 have HT:=Lib.hid hT
 have HEV:=Lib.hid (hEV hb')
 have HSAME:∀w:World,Sep F0 w0 w (z7 c z4d (CX [.int .i64 s.N,.int .i64 s.S,.int .i64 s.time,mv,.pointer (some ⟨ke,0,none⟩)] [.pointer (some ⟨nb,0,none⟩),.pointer (some ⟨hb',0,none⟩)] (oc.cells och) i [.pointer (some ⟨pb,0,none⟩),.int .i64 xs,.slice A3 nq c3,.bool xd,.int .i64 xe,.slice A1 ne c1,.slice A2 nd c2,.string xa,.bool xo])::zy pb p::zes (.slice A3 nq c3) xq::zh 38 1 (.slice A1 ne c1) ne (xr.map z09)::zh 9 1 (.slice A2 nd c2) nd (xt.map Value.string)::z3e och oc::ya ke s.keeper::z13 nb s.net::js hb' s.hist::zh 89 2 mv zs.length (zd z8K zs)::jj s.S.toNat zs::R)->Sep F0 w0 w (ym c s::R):=by
  intro w H
  have H2:=ym.ctl_join (s:=s) mv ke nb hb' ch zs ⟨some p,xs,xq,xd,xe,xr,xt,xa,xo⟩ ⟨pb,.slice A3 nq c3,.slice A1 ne c1,.slice A2 nd c2⟩ hi (po:=some p) (by rw[HOC.out,HOCH.out,<-HPO];exact H) rfl HZ.out (e2:=HNE.out.symm) (e4:=HND.out.symm)
  rw[HUP.out]at H2
  exact H2
 have HSM:=Lib.hid HSAME
 have HNQ:=Lib.hid hnq
 have HG:=Lib.hid hG
 clear hz hx hne hnd hnq hch hoc hoch hR hEV hG hsp hT HSAME hn hnv hrB hb ho
 cases xq with
 |cons op rest=>
  obtain rfl:bz=true:=hbz
  rw[if_pos rfl]at hask haskB
  rw[hask,haskB]
  obtain⟨k,rfl⟩:∃k,nq=k+1:=⟨rest.length,HNQ.out.symm⟩
  have hpos:decide (((k+1:Nat):Int)>0)=true:=decide_eq_true (by omega)
  have hpos2:decide ((0:Int)<((k+1:Nat):Int))=true:=hpos
  clear hask haskB HNQ
  go_enter Tryz.func54,Tryz.ntmps54
  go_wp2_with (first|(go_at_call 83;refine xT2 (HR.out) H ?_;clear H;intro w H)|first|refine ld1 H (hh:=hdx) ?_|refine xLd H ?_|(refine zr (by rfl) (fun K' hK=>?_);(first|refine jo H (ht:=yy pk (by assumption)) ?_|refine jo H (ht:=yt pk (by assumption)) ?_);clear H;intro w H;try dsimp only[List.set]at H;refine hK _ _ ?_;clear hK K')|(refine xEf H ?_;clear H;intro b A' w H))
  refine xR1 H ?_
  exact⟨_,_,rfl,⟨rfl,rfl⟩,HSM.out _ (H.sub sba)⟩
 |nil=>
  obtain rfl:nq=0:=HNQ.out.symm
  cases xd with
  |true=>
   obtain rfl:bz=true:=hbz
   rw[if_pos rfl]at hask haskB
   rw[hask,haskB]
   clear hask haskB HNQ
   go_enter Tryz.func54,Tryz.ntmps54
   go_wp2_with (first|(go_at_call 83;refine xT2 (HR.out) H ?_;clear H;intro w H)|first|refine ld1 H (hh:=hdx) ?_|refine xLd H ?_|(refine zr (by rfl) (fun K' hK=>?_);(first|refine jo H (ht:=yy pk (by assumption)) ?_|refine jo H (ht:=yt pk (by assumption)) ?_);clear H;intro w H;try dsimp only[List.set]at H;refine hK _ _ ?_;clear hK K')|(refine xEf H ?_;clear H;intro b A' w H))
   refine xR1 H ?_
   exact⟨_,_,rfl,⟨rfl,rfl⟩,HSM.out _ (H.sub sba)⟩
  |false=>
   cases hv:decide (192<nv)with
   |true=>
    rw[hv]at hbz
    obtain rfl:bz=true:=hbz
    rw[if_pos rfl]at hask haskB
    rw[hask,haskB]
    have hv1:decide ((nv:Int)>192)=true:=by simp at hv⊢;omega
    have hv2:decide ((192:Int)<nv)=true:=hv1
    clear hask haskB HNQ hv
    go_enter Tryz.func54,Tryz.ntmps54
    go_wp2_with (first|(go_at_call 83;refine xT2 (HR.out) H ?_;clear H;intro w H)|(go_at_call 84;refine xTr (HEV.out) H ?_;clear H;rintro _ _ w ⟨A9,c9,rfl,rfl⟩ H;try simp only[xNf]at H)|first|refine ld1 H (hh:=hdx) ?_|refine xLd H ?_|(refine zr (by rfl) (fun K' hK=>?_);(first|refine jo H (ht:=yy pk (by assumption)) ?_|refine jo H (ht:=yt pk (by assumption)) ?_);clear H;intro w H;try dsimp only[List.set]at H;refine hK _ _ ?_;clear hK K')|(refine xEf H ?_;clear H;intro b A' w H))
    refine xR1 H ?_
    exact⟨_,_,rfl,⟨rfl,rfl⟩,HSM.out _ (H.sub sba)⟩
   |false=>
    rw[hv]at hbz
    obtain rfl:bz=false:=hbz
    rw[if_neg (by decide)]at hask haskB
    rw[haskB]
    have hG:=HG.out rfl
    rw[<-hask]at hG
    obtain⟨out,hout⟩:=xG (s.ask i ops)
    rw[hout]at hG⊢
    have HGO:=Lib.hid hG
    have hv1:decide ((nv:Int)>192)=false:=by simp at hv⊢;omega
    have hv2:decide ((192:Int)<nv)=false:=hv1
    clear hask haskB HNQ hv hG HG hout
    go_enter Tryz.func54,Tryz.ntmps54
    go_upto_region 11 with(first|(go_at_call 84;refine xTr (HEV.out) H ?_;clear H;rintro _ _ w ⟨A9,c9,rfl,rfl⟩ H;try simp only[xNf]at H)|(refine ldr H (hh:=zca pk (ze (by rfl))) ?_)|(go_at_call 85;refine xTr (HT.out) H ?_;clear H;rintro _ _ w ⟨A8,c8,rfl,rfl⟩ H;try simp only[xNf]at H)|first|refine ld1 H (hh:=hdx) ?_|refine xLd H ?_|(refine zr (by rfl) (fun K' hK=>?_);(first|refine jo H (ht:=yy pk (by assumption)) ?_|refine jo H (ht:=yt pk (by assumption)) ?_);clear H;intro w H;try dsimp only[List.set]at H;refine hK _ _ ?_;clear hK K')|(refine xEf H ?_;clear H;intro b A' w H))
    have H2:=Sep.row_que (H.pick pk) HNO.out.symm
    have H3:=Sep.mk_row_nil (e:=38) (size:=1) H2
    have H4:=Sep.mk_row_nil (e:=9) (size:=1) H3
    have H5:=ym.ctl_join (s:=s) mv ke nb hb' ch zs ⟨some p,xs,ops,false,xe,[],[],noB,false⟩ ⟨pb,.slice A8 n c8,.slice none 0 0,.slice none 0 0⟩ hi (po:=some p) (by rw[HOC.out,HOCH.out,<-HPO];exact H4.sub sba) (by rfl) HZ.out
    replace H5:=HSP.out.symm▸H5
    clear H H2 H3 H4
    have H:Sep F0 w0 w (ym c (s.asked i ops)::R):=H5.sub sba
    clear H5
    go_wp2_with (first|(go_at_call 81;refine xT2 (HGO.out) H ?_;clear H;intro w H)|first|refine xLd H ?_|(refine xEf H ?_;clear H;intro b A' w H))
    refine xR1 H ?_
    exact xF H
abbrev hN (pb:Nat):CtlH:=⟨pb,.slice none 0 0,.slice none 0 0,.slice none 0 0⟩
theorem zjq (k:Int) (W:World):(Instr.build 69 #[(1,.int .i64 k)]).run Tryz.prog W= .ok (.agg ((CtlM.nil k).cells (hN 0)).toArray) W:=by kernel_rfl
theorem zlh {a b d:Value} {m k n h:Value} {oc:CtlM} {och:CtlH} {x:CtlM} {hx:CtlH} {i:Nat} (hi:i<2) (x':CtlM) (h':CtlH):setFrom (CX [a,b,d,m,k] [n,h] (oc.cells och) i (x.cells hx)) (5+i*9) (x'.cells h')=CX [a,b,d,m,k] [n,h] (oc.cells och) i (x'.cells h'):=by
 rcases(show i=0\/i=1 by omega)with rfl|rfl<;>kernel_rfl
theorem zgK (c i:Nat) (s:ClusM) (hi:i<2) (hx:s.ctl i=CtlM.nil 0):zi Tryz.prog 52 #[.pointer (some ⟨c,0,none⟩),.int .i64 i] [ym c s] fun r K=>r= .tuple #[]/\K=[ym c s]:=by
 intro F0 w0 w R H
 try simp only[xNf]at H
 have hI:(i:Int)<2:=by omega
 obtain⟨mv,ke,nb,hb,ch,zs,hz,H⟩:=ym.ctl hi .head H
 have HZ:=Lib.hid hz
 have HUP:=Lib.hid (z4M s.ctl i)
 rw[hx]at HUP
 have HBC:=Lib.hid (zjq 0)
 have hcx:= @zlh (.int .i64 s.N) (.int .i64 s.S) (.int .i64 s.time) mv (.pointer (some ⟨ke,0,none⟩)) (.pointer (some ⟨nb,0,none⟩)) (.pointer (some ⟨hb,0,none⟩)) (s.ctl (1-i)) (ch (1-i)) (CtlM.nil 0) (ch i) i hi (CtlM.nil 0) (hN 0)
 have hlen:= @zlx i [.int .i64 s.N,.int .i64 s.S,.int .i64 s.time,mv,.pointer (some ⟨ke,0,none⟩)] [.pointer (some ⟨nb,0,none⟩),.pointer (some ⟨hb,0,none⟩)] ((s.ctl (1-i)).cells (ch (1-i))) ((CtlM.nil 0).cells (ch i)) rfl rfl rfl rfl
 rw[hx]at H
 obtain⟨oc,hoc⟩:=xG (s.ctl (1-i))
 obtain⟨och,hoch⟩:=xG (ch (1-i))
 obtain⟨hh,hhh⟩:=xG (ch i)
 rw[hoc,hoch,hhh]at H hcx hlen
 have HOC:=Lib.hid hoc
 have HOCH:=Lib.hid hoch
 have HCX:=Lib.hid hcx
 have HLEN:=Lib.hid hlen
 clear hz hx hoc hoch hcx hhh hlen
 go_enter Tryz.func52,Tryz.ntmps52
 go_upto_region 0 with(first|refine ld1 H (hh:=hdx) ?_|refine xLd H ?_|(refine zr (by rfl) (fun K' hK=>?_);(first|refine jo H (ht:=yy pk (by assumption)) ?_|refine jo H (ht:=yt pk (by assumption)) ?_);clear H;intro w H;try dsimp only[List.set]at H;refine hK _ _ ?_;clear hK K')|(refine xEf H ?_;clear H;intro b A' w H))
 refine xRg [13] (fun L=>[L,[]]) H ?_
 clear H;intro w H
 have HS:=H
 refine xO 0 0 HS ?_
 refine xO 1 0 HS ?_
 refine xO 2 0 HS ?_
 refine xO 3 0 HS ?_
 refine xO 4 0 HS ?_
 refine xO 5 0 HS ?_
 refine xO 6 0 HS ?_
 refine xO 7 0 HS ?_
 refine xL 8 0 HS ?_ (hin:=(.stop (n:=14) (z6O pk (by assumption) (by rfl)) (by kernel_rfl)))
 refine xO 9 0 HS ?_ (v:=(.agg ((CtlM.nil 0).cells (hN 0)).toArray)) (hy:=by(intro W;exact zb (t:=69) rfl (HBC.out W)))
 refine xO 10 0 HS ?_
 refine xO 11 0 HS ?_
 refine xO 12 0 HS ?_
 clear HS
 refine tk1 13 1 (fun K' hK=>?_)
 (refine z6S H (ht:=z77 _ pk HCX.out (by rw[HLEN.out];show 5+i*9+9<=25;omega)) ?_;clear H;intro w H)
 refine hK _ _ (H.sub sbn) (fun HS=>?_)
 clear hK K'
 try simp only[xPt]
 refine xD ?_
 go_wp2
 refine xRe ?_
 have H4:=Sep.mk_pure (p:=True) trivial (Sep.mk_que_nil (Sep.mk_row_nil (e:=38) (size:=1) (Sep.mk_row_nil (e:=9) (size:=1) H)))
 rw[show z0w True=zaV 0 none from rfl]at H4
 have H5:=ym.ctl_join (s:=s) mv ke nb hb ch zs (CtlM.nil 0) (hN 0) hi (po:=none) (by rw[HOC.out,HOCH.out];exact H4.sub sba) rfl HZ.out
 rw[HUP.out]at H5
 exact⟨_,_,rfl,⟨rfl,rfl⟩,H5.sub sba⟩
abbrev znc (N S:Int) (i:Nat):CtlM:=⟨some (PilotM.new N S i 1),1,[],false,0,[],[],noB,false⟩
abbrev ClusM.start (s:ClusM) (i:Nat):ClusM:={s with ctl:=upC s.ctl i (znc s.N s.S i)}
theorem z67 (c i:Nat) (s:ClusM) (hi:i<2) (hr:yn s.N s.S=true) (hx:s.ctl i=CtlM.nil 0):zi Tryz.prog 27 #[.pointer (some ⟨c,0,none⟩),.agg (zh5 7 i 0 (.slice none 0 0) noB).toArray] [ym c s] fun r K=>r= .string noB/\K=[ym c (s.start i)]:=by
 intro F0 w0 w R H
 try simp only[xNf]at H
 have hI:(i:Int)<2:=by omega
 have HCR:=Lib.hid (zgK c i s hi hx)
 have HPN:=Lib.hid (zdC s.N s.S i 1 hr (by omega) (by omega) (by omega) (by omega))
 have HXX:=Lib.hid hx
 have HST:=Lib.hid (show s.start i={s with ctl:=upC s.ctl i (znc s.N s.S i)}from rfl)
 clear hr hx
 go_enter Tryz.func27,Tryz.ntmps27
 go_upto_region 8 with(first|(refine xNt 37 H ?_;clear H;intro bh w H)|(go_at_call 52;refine xT2 (HCR.out) H ?_;clear H;intro w H)|first|refine xLd H ?_|(refine xEf H ?_;clear H;intro b A' w H))
 obtain⟨mv,ke,nb,hb,ch,zs,hz,H⟩:=ym.ctl hi pk H
 have HZ:=Lib.hid hz
 rw[HXX.out]at H
 obtain⟨oc,hoc⟩:=xG (s.ctl (1-i))
 obtain⟨och,hoch⟩:=xG (ch (1-i))
 obtain⟨⟨pb,qu,er,da⟩,hhh⟩:∃x,ch i=x:=⟨_,rfl⟩
 rw[hoc,hoch,hhh]at H
 have H2:Sep F0 w0 w (z7 c z4d (CX [.int .i64 s.N,.int .i64 s.S,.int .i64 s.time,mv,.pointer (some ⟨ke,0,none⟩)] [.pointer (some ⟨nb,0,none⟩),.pointer (some ⟨hb,0,none⟩)] (oc.cells och) i [.pointer none,.int .i64 0,qu,.bool false,.int .i64 0,er,da,.string noB,.bool false])::zaV pb none::zes qu []::zh 38 1 er 0 []::zh 9 1 da 0 []::z3e och oc::ya ke s.keeper::z13 nb s.net::js hb s.hist::zh 89 2 mv zs.length (zd z8K zs)::jj s.S.toNat zs::z7 bh 37 (zh5 7 i 0 (.slice none 0 0) noB)::R):=H
 clear H
 have H:=H2
 clear H2
 have her:=zt (v:=er) (n:=0) (xs:=[]) H pk
 have hda:=zt (v:=da) (n:=0) (xs:=[]) H pk
 have hqu:=z6L (v:=qu) (ops:=[]) H pk
 obtain⟨A1,c1,rfl⟩:=her
 obtain⟨A2,c2,rfl⟩:=hda
 obtain⟨A3,c3,hqe,_⟩:=hqu
 have hqe:qu= .slice A3 0 c3:=hqe
 subst hqe
 have HOC:=Lib.hid hoc
 have HOCH:=Lib.hid hoch
 clear hz hoc hoch hhh
 refine xRg [] (fun L=>[L]) H ?_
 clear H;intro w H
 have HS:=H
 refine xO 0 0 HS ?_
 refine xO 1 0 HS ?_
 refine xL 2 0 HS ?_
 refine xO 3 0 HS ?_
 refine xO 4 0 HS ?_
 refine xO 5 0 HS ?_
 refine xO 6 0 HS ?_
 refine xD ?_
 go_upto_region 10 with(first|refine ld1 H (hh:=hdx) ?_|refine xLd H ?_|(refine zr (by rfl) (fun K' hK=>?_);(first|refine jo H (ht:=yy pk (by assumption)) ?_|refine jo H (ht:=yt pk (by assumption)) ?_);clear H;intro w H;try dsimp only[List.set]at H;refine hK _ _ ?_;clear hK K')|(refine xEf H ?_;clear H;intro b A' w H))
 refine xRg [14] (fun L=>[L,[]]) H ?_
 clear H;intro w H
 have HS:=H
 refine xO 0 0 HS ?_
 refine xO 1 0 HS ?_
 refine xO 2 0 HS ?_
 refine xO 3 0 HS ?_
 refine xV 4 0 HS ?_ (hin:=(.stop (n:=15) (zca pk (ze (by rfl))) (by kernel_rfl)))
 refine xO 5 0 HS ?_
 refine xL 6 0 HS ?_ (hin:=(.stop (n:=15) hd (by kernel_rfl)))
 refine xO 7 0 HS ?_
 refine xO 8 0 HS ?_
 refine xO 9 0 HS ?_
 refine xL 10 0 HS ?_ (hin:=(.stop (n:=15) hdx (by kernel_rfl)))
 clear HS
 refine tk1 11 0 (fun K' hK=>?_)
 go_simp;revert H;refine zi.use HPN.out pks ?_;rintro _ _ w ⟨p,rfl,rfl⟩ H;try simp only[xNf]at H
 refine hK _ _ (H.sub sbn) (fun HS=>?_)
 clear hK K'
 try simp only[xPt]
 refine xO 12 0 HS ?_
 refine xO 13 0 HS ?_
 clear HS
 refine tk1 14 1 (fun K' hK=>?_)
 (refine jo H (ht:=yt pk (by assumption)) ?_;clear H;intro w H;try dsimp only[List.set]at H)
 refine hK _ _ (H.sub sbn) (fun HS=>?_)
 clear hK K'
 try simp only[xPt]
 refine xD ?_
 go_wp2_with (first|refine ld1 H (hh:=hdx) ?_|refine xLd H ?_|(refine zr (by rfl) (fun K' hK=>?_);(first|refine jo H (ht:=yy pk (by assumption)) ?_|refine jo H (ht:=yt pk (by assumption)) ?_);clear H;intro w H;try dsimp only[List.set]at H;refine hK _ _ ?_;clear hK K')|(refine xEf H ?_;clear H;intro b A' w H))
 refine xR1 H ?_
 have HPS:zy p (PilotM.new s.N s.S i 1)=zaV p (some (PilotM.new s.N s.S i 1)):=rfl
 have H5:=ym.ctl_join (s:=s) mv ke nb hb ch zs (znc s.N s.S i) ⟨p,.slice A3 0 c3,.slice A1 0 c1,.slice A2 0 c2⟩ hi (po:=some (PilotM.new s.N s.S i 1)) (by rw[HOC.out,HOCH.out,<-HPS];exact H.sub sba) (by rfl) HZ.out
 exact⟨_,_,rfl,⟨rfl,rfl⟩,H5.sub sba⟩
theorem zfo (c i:Nat) (s s2:ClusM) (text d:ByteArray) (hA:zi Tryz.prog 54 #[.pointer (some ⟨c,0,none⟩),.int .i64 i,.string text] [ym c s] fun r K=>r= .string d/\K=[ym c s2]):
  zi Tryz.prog 27 #[.pointer (some ⟨c,0,none⟩),.agg (zh5 12 i 0 (.slice none 0 0) text).toArray] [ym c s] fun r K=>r= .string d/\K=[ym c s2]:=by
 intro F0 w0 w R H
 try simp only[xNf]at H
 have HA:=Lib.hid hA
 clear hA
 go_enter Tryz.func27,Tryz.ntmps27
 go_wp2_with (first|(refine xNt 37 H ?_;clear H;intro bh w H)|(go_at_call 54;refine xT2 (HA.out) H ?_;clear H;intro w H)|first|refine xLd H ?_|(refine xEf H ?_;clear H;intro b A' w H))
 refine xR1 H ?_
 exact xF H
section
abbrev z8N (what a:Int) (keep:Value) (text:ByteArray):Value:=.agg (zh5 what a 0 keep text).toArray
abbrev DoT (c:Nat) (v:Value) (s s2:ClusM) (d:ByteArray):Prop:=zi Tryz.prog 10 #[.pointer (some ⟨c,0,none⟩),v] [ym c s] fun r K=>r= .string d/\K=[ym c s2]
section
variable {c i n B:Nat} {s s2:ClusM} {text d:ByteArray}
theorem z5h (hi:i<2) (hT:zi Tryz.prog 27 #[.pointer (some ⟨c,0,none⟩),.agg (zh5 7 i 0 (.slice none 0 0) text).toArray] [ym c s] fun r K=>r= .string d/\K=[ym c s2]):DoT c (z8N 7 i (.slice none 0 0) text) s s2 d:=by
 intro F0 w0 w R H
 try simp only[xNf]at H
 have hP:=z3G i
 rw[show(decide ((0:Int)<=(i:Int))&&decide ((i:Int)<2))=true by simp;omega]at hP
 have HP:=Lib.hid hP
 have HT:=Lib.hid hT
 clear hP hT
 go_enter Tryz.func10,Tryz.ntmps10
 go_wp2_with (first|(refine xNt 37 H ?_;clear H;intro bh w H)|(go_at_call 26;refine xT2 (HP.out) H ?_;clear H;intro w H)|(go_at_call 27;refine xT2 (HT.out) H ?_;clear H;intro w H)|first|refine xLd H ?_|(refine xEf H ?_;clear H;intro b A' w H))
 refine xR1 H ?_
 exact xF H
theorem zeb (hi:i<2) (hT:zi Tryz.prog 27 #[.pointer (some ⟨c,0,none⟩),.agg (zh5 12 i 0 (.slice none 0 0) text).toArray] [ym c s] fun r K=>r= .string d/\K=[ym c s2]):DoT c (z8N 12 i (.slice none 0 0) text) s s2 d:=by
 intro F0 w0 w R H
 try simp only[xNf]at H
 have hP:=z3G i
 rw[show(decide ((0:Int)<=(i:Int))&&decide ((i:Int)<2))=true by simp;omega]at hP
 have HP:=Lib.hid hP
 have HT:=Lib.hid hT
 clear hP hT
 go_enter Tryz.func10,Tryz.ntmps10
 go_wp2_with (first|(refine xNt 37 H ?_;clear H;intro bh w H)|(go_at_call 26;refine xT2 (HP.out) H ?_;clear H;intro w H)|(go_at_call 27;refine xT2 (HT.out) H ?_;clear H;intro w H)|first|refine xLd H ?_|(refine xEf H ?_;clear H;intro b A' w H))
 refine xR1 H ?_
 exact xF H
theorem zmj (hI:CInv (B+877800) s):DoT c (z8N 14 0 (.slice none 0 0) noB) s s.round noB:=by
 intro F0 w0 w R H
 try simp only[xNf]at H
 have HT:=Lib.hid (zfW c B s hI)
 clear hI
 go_enter Tryz.func10,Tryz.ntmps10
 go_wp2_with (first|(refine xNt 37 H ?_;clear H;intro bh w H)|(go_at_call 34;refine xT2 (HT.out) H ?_;clear H;intro w H)|first|refine xLd H ?_|(refine xEf H ?_;clear H;intro b A' w H))
 refine xR1 H ?_
 exact xF H
theorem zmX (m:MacM) (hm:s.nodes[n]?=some m) (hn:(n:Int)<s.N):DoT c (z8N 8 n (.slice none 0 0) noB) s (s.turnN n ⟨m.disk,false⟩) noB:=by
 intro F0 w0 w R H
 try simp only[xNf]at H
 have hP:=z2Q c s n
 rw[show(decide ((0:Int)<=(n:Int))&&decide ((n:Int)<s.N))=true by simp;omega]at hP
 have HP:=Lib.hid hP
 have HT:=Lib.hid (zgI c n s m hm)
 clear hP hm hn
 go_enter Tryz.func10,Tryz.ntmps10
 go_wp2_with (first|(refine xNt 37 H ?_;clear H;intro bh w H)|(go_at_call 28;refine xT2 (HP.out) H ?_;clear H;intro w H)|(go_at_call 29;refine xT2 (HT.out) H ?_;clear H;intro w H)|first|refine xLd H ?_|(refine xEf H ?_;clear H;intro b A' w H))
 refine xR1 H ?_
 exact xF H
theorem zmW (dk:List ByteArray) (A:Option Addr) (kn kc:Nat) (hm:s.nodes[n]?=some ⟨dk,false⟩) (hS:dk.length=s.S.toNat) (hS0:s.S=s.S.toNat) (h1:1<=s.S.toNat) (h8:s.S.toNat<=8) (hn:(n:Int)<s.N):DoT c (z8N 9 n (.slice A kn kc) noB) s (s.turnN n ⟨dk,true⟩) noB:=by
 intro F0 w0 w R H
 try simp only[xNf]at H
 have hP:=z2Q c s n
 rw[show(decide ((0:Int)<=(n:Int))&&decide ((n:Int)<s.N))=true by simp;omega]at hP
 have HP:=Lib.hid hP
 have HT:=Lib.hid (zg0 c n s dk (.slice A kn kc) hm hS hS0 h1 h8 rfl)
 clear hP hm hn hS hS0 h1 h8
 go_enter Tryz.func10,Tryz.ntmps10
 go_wp2_with (first|(refine xNt 37 H ?_;clear H;intro bh w H)|(go_at_call 28;refine xT2 (HP.out) H ?_;clear H;intro w H)|(go_at_call 29;refine xT2 (HT.out) H ?_;clear H;intro w H)|first|refine xLd H ?_|(refine xEf H ?_;clear H;intro b A' w H))
 refine xR1 H ?_
 exact xF H
theorem z6s (hi:i<2):zi Tryz.prog 17 #[.pointer (some ⟨c,0,none⟩),.int .i64 i] [ym c s] fun r K=>r= .tuple #[.string (s.ctl i).answer,.bool (s.ctl i).done]/\K=[ym c s]:=by
 intro F0 w0 w R H
 try simp only[xNf]at H
 have hI:(i:Int)<2:=by omega
 have hP:=z3G i
 rw[show(decide ((0:Int)<=(i:Int))&&decide ((i:Int)<2))=true by simp;omega]at hP
 have HP:=Lib.hid hP
 clear hP
 obtain⟨mv,ke,nb,hb,ch,zs,hz,H⟩:=ym.ctl hi .head H
 have HZ:=Lib.hid hz
 have HUP:=Lib.hid (z4M s.ctl i)
 obtain⟨x,hx⟩:=xG (s.ctl i)
 rw[hx]at H⊢
 rw[hx]at HUP
 obtain⟨oc,hoc⟩:=xG (s.ctl (1-i))
 obtain⟨och,hoch⟩:=xG (ch (1-i))
 obtain⟨hh,hhh⟩:=xG (ch i)
 rw[hoc,hoch,hhh]at H
 have HOC:=Lib.hid hoc
 have HOCH:=Lib.hid hoch
 clear hz hx hoc hoch hhh
 go_enter Tryz.func17,Tryz.ntmps17
 go_upto_region 3 with(first|(go_at_call 26;refine xT2 (HP.out) H ?_;clear H;intro w H)|first|refine ld1 H (hh:=hdx) ?_|refine xLd H ?_|(refine zr (by rfl) (fun K' hK=>?_);(first|refine jo H (ht:=yy pk (by assumption)) ?_|refine jo H (ht:=yt pk (by assumption)) ?_);clear H;intro w H;try dsimp only[List.set]at H;refine hK _ _ ?_;clear hK K')|(refine xEf H ?_;clear H;intro b A' w H))
 refine xRg [] (fun L=>[L]) H ?_
 clear H;intro w H
 have HS:=H
 refine xO 0 0 HS ?_
 refine xO 1 0 HS ?_
 refine xO 2 0 HS ?_
 refine xO 3 0 HS ?_
 refine xO 4 0 HS ?_
 refine xO 5 0 HS ?_
 refine xL 6 0 HS ?_ (hin:=(.last hdx))
 refine xO 7 0 HS ?_
 refine xO 8 0 HS ?_
 refine xO 9 0 HS ?_
 refine xO 10 0 HS ?_
 refine xO 11 0 HS ?_
 refine xO 12 0 HS ?_
 refine xL 13 0 HS ?_ (hin:=(.last hdx))
 refine xO 14 0 HS ?_
 refine xO 15 0 HS ?_
 refine xD ?_
 go_wp2
 refine xR2 H ?_
 have H5:=ym.ctl_join (s:=s) mv ke nb hb ch zs x hh hi (by rw[HOC.out,HOCH.out];exact H.sub sba) rfl HZ.out
 rw[HUP.out]at H5
 exact⟨_,_,rfl,⟨rfl,rfl⟩,H5.sub sba⟩
end
end
end Go.Proofs.YtmfincpagnpkjaaGreat
