/- Part of the proof. -/
import Derived.Test.YtmfincpagnpkjaaGreatM43
import Derived.Test.YtmfincpagnpkjaaGreatM47
set_option linter.all false
set_option maxRecDepth 100000
set_option maxHeartbeats 100000000
namespace Go.Proofs.YtmfincpagnpkjaaGreat
open Go.RowKit
section
theorem zb9 (E:List Int) (D:List ByteArray) (n m:Nat) (v1 v2:Value) (hE:E.length=n) (hD:D.length=m) (hs:∀s∈D,s.size<=9223372036854775807):zi Tryz.prog 120 #[v1,v2] [zh 38 1 v1 n (E.map z09),zh 9 1 v2 m (D.map Value.string)]
  fun v K=>v= .tuple #[.string (z1j E D),.int .i64 (z8n E D)]/\K=[zh 38 1 v1 n (E.map z09),zh 9 1 v2 m (D.map Value.string)]:=by
 intro F0 w0 w R H
 try simp only[xNf]at H
 obtain⟨A1,c1,rfl⟩:=zt (v:=v1) H pk
 obtain⟨A2,c2,rfl⟩:=zt (v:=v2) H pk
 refine(zfr E D A1 A2 n m c1 c2 w (Rd.of_own (H.row (v:=.slice A1 n c1) .head)) (Rd.of_own (H.row (v:=.slice A2 m c2) (.tail .head))) hE hD hs).mono ?_
 rintro e w' ⟨rfl,hb⟩
 exact⟨_,_,rfl,⟨rfl,rfl⟩,H.below hb⟩
def ClusM.startOp (s:ClusM) (i:Nat) (p:PilotM) (op:OpM) (rest:List OpM):ClusM:=
 ClusM.ended {s with hist:=(s.hist.begin i op).1,ctl:=upC s.ctl i {s.ctl i with queue:=rest,event:=(s.hist.begin i op).2,doing:=true,pil:=some (p.submit s.time op)}} i
def ClusM.goLoop (i:Nat):Nat->ClusM->ClusM
 |0,s=>s
 |n+1,s=>if(s.ctl i).doing=true then s else match (s.ctl i).queue,(s.ctl i).pil with
  |op::rest,some p=>ClusM.goLoop i n (s.startOp i p op rest)
  |_,_=>s
def ClusM.told (s:ClusM) (i:Nat):ClusM:=
 if(s.ctl i).doing=false/\(s.ctl i).errs≠[]then {s with ctl:=upC s.ctl i {s.ctl i with answer:=z1j (s.ctl i).errs (s.ctl i).data,done:=true}}else s
def ClusM.goOn (s:ClusM) (i:Nat):ClusM:=ClusM.told (ClusM.goLoop i ((s.ended i).ctl i).queue.length (s.ended i)) i
def zne (c:Nat) (a z oc:List Value) (i:Nat):Assn:=exA fun X:List Value=>zaN [z0w (X.length=9),z7 c z4d (CX a z oc i X)]
section
variable {F0:Nat->Prop} {w0 w:World} {L L':List Assn} {c i o:Nat} {a z oc X:List Value} {v:Value}
theorem zjS (H:Sep F0 w0 w (z7 c z4d (CX a z oc i X)::L)) (hX:X.length=9:=by rfl):Sep F0 w0 w (zne c a z oc i::L):=Sep.mk_ex X (Sep.bag (K:=[_,_]) (Sep.mk_pure hX H))
theorem zgt (hp:Pick (zne c a z oc i) L L') (hv:z[o-23]?=some v) (ho23:23<=o:=by decide) (ha:a.length=5:=by rfl) (ho:oc.length=9:=by rfl):jz L c o v:=fun F0 w0 w H=>by
 obtain⟨X,H⟩:=(H.pick hp).ex
 obtain⟨hX,H⟩:=(H.unbag).pure
 exact zeT .head hv ho23 ha ho hX F0 w0 w H
end
def ziE (w:World) (c o:Nat):Nat:=match w.cell? ⟨c,o,none⟩with
 |some (.slice _ n _)=>n
 |_=>0
structure GInv (i m:Nat) (s:ClusM) (p:PilotM):Prop where
 pil:(s.ctl i).pil=some p
 inv:PInv s.N s.S m p
 idle:(s.ctl i).doing=false->p.busy=false
 ops:∀op∈(s.ctl i).queue,OpOk s.N s.S op
 h0:0<=s.hist.given
 h1:s.hist.given+m<=1000000000000
 er:(s.ctl i).errs.length+(s.ctl i).queue.length+(if(s.ctl i).doing=true then 1 else 0)<=1000
 da:(s.ctl i).data.length=(s.ctl i).errs.length
 ds:∀d∈(s.ctl i).data,d.size<=16
theorem HistM.fin_given (h:HistM) (n e:Int) (d:ByteArray):h.given<=(h.fin n e d).1.given/\(h.fin n e d).1.given<=h.given+1:=by
 unfold HistM.fin
 split
 ·exact⟨Int.le_refl _,by show h.given<=h.given+1;omega⟩
 ·split
  ·exact⟨by show h.given<=h.given+1;omega,Int.le_refl _⟩
  ·exact⟨Int.le_refl _,by show h.given<=h.given+1;omega⟩
theorem HistM.begin_given (h:HistM) (n:Int) (op:OpM):h.given<=(h.begin n op).1.given/\(h.begin n op).1.given<=h.given+1:=by
 unfold HistM.begin
 split
 ·exact⟨Int.le_refl _,by show h.given<=h.given+1;omega⟩
 ·exact⟨by show h.given<=h.given+1;omega,Int.le_refl _⟩
theorem GInv.less {i m k:Nat} {s:ClusM} {p:PilotM} (h:GInv i m s p) (hk:k<=m):GInv i k s p:=⟨h.pil,h.inv.less hk,h.idle,h.ops,h.h0,by have:=h.h1;omega,h.er,h.da,h.ds⟩
theorem zlg {s:ClusM} {i:Nat} {p:PilotM} (hp:(s.ctl i).pil=some p):s.ended i=if(s.ctl i).doing=false then s else if p.busy=true then s else {s with ctl:=upC s.ctl i ((s.ctl i).noted p),hist:=(s.hist.fin (s.ctl i).event p.err p.data).1}:=by unfold ClusM.ended;rw[hp]
theorem GInv.ended {i m:Nat} {s:ClusM} {p:PilotM} (h:GInv i (m+1) s p) (hi:(s.ctl i).doing=true\/p.busy=false):GInv i m (s.ended i) p/\((s.ended i).ctl i).queue=(s.ctl i).queue:=by
 rw[zlg h.pil]
 split
 ·exact⟨h.less (by omega),rfl⟩
 ·rename_i hd
  have hd:(s.ctl i).doing=true:=by simpa using hd
  split
  ·exact⟨h.less (by omega),rfl⟩
  ·rename_i hb
   have hb:p.busy=false:=by simpa using hb
   have hg:=s.hist.fin_given (s.ctl i).event p.err p.data
   have he:=h.er
   have h1:=h.h1
   have h0:=h.h0
   rw[hd,if_pos rfl]at he
   refine⟨⟨?_,h.inv.less (by omega),fun _=>hb, ?_, ?_, ?_, ?_, ?_, ?_⟩, ?_⟩
   ·show(upC s.ctl i _ i).pil=some p
    rw[yv]
    exact h.pil
   ·show ∀op∈(upC s.ctl i _ i).queue,OpOk s.N s.S op
    rw[yv]
    exact h.ops
   ·show 0<=(s.hist.fin (s.ctl i).event p.err p.data).1.given
    omega
   ·show(s.hist.fin (s.ctl i).event p.err p.data).1.given+m<=1000000000000
    omega
   ·show(upC s.ctl i ((s.ctl i).noted p) i).errs.length+(upC s.ctl i ((s.ctl i).noted p) i).queue.length+(if(upC s.ctl i ((s.ctl i).noted p) i).doing=true then 1 else 0)<=1000
    rw[yv]
    show((s.ctl i).errs++[p.err]).length+(s.ctl i).queue.length+0<=1000
    rw[List.length_append]
    simp only[List.length_cons,List.length_nil]
    omega
   ·show(upC s.ctl i ((s.ctl i).noted p) i).data.length=(upC s.ctl i ((s.ctl i).noted p) i).errs.length
    rw[yv]
    show((s.ctl i).data++[p.data]).length=((s.ctl i).errs++[p.err]).length
    rw[List.length_append,List.length_append,h.da]
    rfl
   ·show ∀d∈(upC s.ctl i ((s.ctl i).noted p) i).data,d.size<=16
    rw[yv]
    intro d hd
    rcases List.mem_append.1 hd with hd|hd
    ·exact h.ds d hd
    ·simp at hd
     subst hd
     exact h.inv.ds
   ·show(upC s.ctl i ((s.ctl i).noted p) i).queue=(s.ctl i).queue
    rw[yv]
theorem GInv.start {i m:Nat} {s:ClusM} {p:PilotM} {op:OpM} {rest:List OpM} (h:GInv i (m+130) s p) (hd:(s.ctl i).doing=false) (hq:(s.ctl i).queue=op::rest):GInv i m (s.startOp i p op rest) (p.submit s.time op)/\((s.startOp i p op rest).ctl i).queue=rest:=by
 have ho:OpOk s.N s.S op:=h.ops op (by rw[hq];exact List.mem_cons_self ..)
 have hps:PInv s.N s.S (m+1) (p.submit s.time op):=(h.inv.less (m:=m+1+128) (by omega)).submit s.time op (by rw[h.inv.gN,h.inv.gS];exact ho)
 have hg:=s.hist.begin_given i op
 have he:=h.er
 have h1:=h.h1
 have h0:=h.h0
 rw[hd,hq]at he
 simp only[Bool.false_eq_true,if_false,List.length_cons]at he
 have key:GInv i (m+1) {s with hist:=(s.hist.begin i op).1,ctl:=upC s.ctl i {s.ctl i with queue:=rest,event:=(s.hist.begin i op).2,doing:=true,pil:=some (p.submit s.time op)}} (p.submit s.time op):=by
  refine⟨?_,hps, ?_, ?_, ?_, ?_, ?_, ?_, ?_⟩
  ·show(upC s.ctl i _ i).pil=_
   rw[yv]
  ·show(upC s.ctl i _ i).doing=false->_
   rw[yv]
   exact fun h=>(by cases h)
  ·show ∀o∈(upC s.ctl i _ i).queue,OpOk s.N s.S o
   rw[yv]
   exact fun o hm=>h.ops o (by rw[hq];exact List.mem_cons_of_mem _ hm)
  ·show 0<=(s.hist.begin i op).1.given
   omega
  ·show(s.hist.begin i op).1.given+((m+1:Nat):Int)<=1000000000000
   omega
  ·show(upC s.ctl i {s.ctl i with queue:=rest,event:=(s.hist.begin i op).2,doing:=true,pil:=some (p.submit s.time op)} i).errs.length+(upC s.ctl i {s.ctl i with queue:=rest,event:=(s.hist.begin i op).2,doing:=true,pil:=some (p.submit s.time op)} i).queue.length+(if(upC s.ctl i {s.ctl i with queue:=rest,event:=(s.hist.begin i op).2,doing:=true,pil:=some (p.submit s.time op)} i).doing=true then 1 else 0)<=1000
   rw[yv]
   show(s.ctl i).errs.length+rest.length+1<=1000
   omega
  ·show(upC s.ctl i _ i).data.length=(upC s.ctl i _ i).errs.length
   rw[yv]
   exact h.da
  ·show ∀d∈(upC s.ctl i _ i).data,d.size<=16
   rw[yv]
   exact h.ds
 have h2:=key.ended (.inl (by show(upC s.ctl i _ i).doing=true;rw[yv]))
 refine⟨h2.1,h2.2.trans ?_⟩
 show(upC s.ctl i _ i).queue=rest
 rw[yv]
end
theorem zkU {w:World} {c o n k:Nat} {A:Option Addr} (h:w.cell? ⟨c,o,none⟩=some (.slice A n k)):ziE w c o=n:=by unfold ziE;rw[h]
theorem zji {F0:Nat->Prop} {w0 w:World} {L:List Assn} {c i:Nat} {s:ClusM} (hi:i<2) (H:Sep F0 w0 w (ym c s::L)):ziE w c (5+i*9+2)=(s.ctl i).queue.length:=by
 obtain⟨mv,ke,nb,hb,ch,zs,hz,H⟩:=ym.ctl hi .head H
 obtain⟨A3,c3,hqf,hqc⟩:=z6L (v:=(ch i).qu) (ops:=(s.ctl i).queue) H pk
 refine zkU (A:=A3) (k:=c3) ((show jz _ c (5+i*9+2) (.slice A3 (s.ctl i).queue.length c3)from z6O Pick.head hi ?_) F0 w0 w H)
 rw[<-hqf]
 rfl
theorem ze1 {i n:Nat} {s:ClusM} (h:(s.ctl i).doing=true\/(s.ctl i).queue=[]):ClusM.goLoop i n s=s:=by
 cases n with
 |zero=>rfl
 |succ n=>
  unfold ClusM.goLoop
  split
  ·rfl
  ·rename_i hd
   rcases h with h|h
   ·exact absurd h hd
   ·rw[h]
theorem ziY {i n:Nat} {s:ClusM} {op:OpM} {rest:List OpM} {p:PilotM} (h:(s.ctl i).doing=false) (hq:(s.ctl i).queue=op::rest) (hp:(s.ctl i).pil=some p):ClusM.goLoop i (n+1) s=ClusM.goLoop i n (s.startOp i p op rest):=by
 rw[ClusM.goLoop,if_neg (by rw[h];decide),hq,hp]
theorem z81 (c i m:Nat) (s:ClusM) (p:PilotM) (hi:i<2) (hg:GInv i (m+130*(s.ctl i).queue.length+1) s p) (hid:(s.ctl i).doing=true\/p.busy=false):
  zi Tryz.prog 81 #[.pointer (some ⟨c,0,none⟩),.int .i64 i] [ym c s] fun r K=>r= .tuple #[]/\K=[ym c (s.goOn i)]:=by
 intro F0 w0 w R H
 try simp only[xNf]at H
 have hI:(i:Int)<2:=by omega
 have hE:=z9z c i s p hi hg.pil hg.h0 (by have:=hg.h1;omega) (by have:=hg.er;omega) (by have:=hg.er;have:=hg.da;omega)
 have hge:=hg.ended hid
 have hfin:s.goOn i=ClusM.told (ClusM.goLoop i ((s.ended i).ctl i).queue.length (s.ended i)) i:=rfl
 obtain⟨s1,h1⟩:=xG (s.ended i)
 rw[h1]at hE hge hfin
 obtain⟨fin,hf⟩:=xG (ClusM.goLoop i (s1.ctl i).queue.length s1)
 rw[hf]at hfin
 rw[hfin]
 have hg1:GInv i (m+130*(s1.ctl i).queue.length) s1 p:=by rw[hge.2];exact hge.1
 have HG1:=Lib.hid hg1
 have HF:=Lib.hid hf
 have HE:=Lib.hid hE
 obtain⟨out,hout⟩:=xG (fin.told i)
 rw[hout]
 have HOUT:=Lib.hid hout
 clear hE hge hfin h1 hf hg1 hg hid hout
 go_enter Tryz.func81,Tryz.ntmps81
 go_wp2_with (first|(go_at_call 117;refine xT2 (HE.out) H ?_;clear H;intro w H)|first|refine xLd H ?_|(refine xEf H ?_;clear H;intro b A' w H))
 go_loopw [] (fun wr=>∃(t:ClusM) (q:PilotM),Hid (GInv i (m+130*(t.ctl i).queue.length) t q)/\Hid (ClusM.goLoop i (t.ctl i).queue.length t=fin)/\Sep F0 w0 wr (ym c t::R)) (fun wr=>ziE wr c (5+i*9+2))
 case atStart=>exact⟨s1,p,HG1,HF,H⟩
 case round=>
  clear H
  obtain⟨t,q,HG,HGO,H⟩:=hrel
  clear HE HF HG1
  have hz0:=HG.out
  have hgo:=HGO.out
  have hlen:=zji hi H
  obtain⟨mv,ke,nb,hb,ch,zs,hz,H⟩:=ym.ctl hi .head H
  have HZ:=Lib.hid hz
  have HUP:=Lib.hid (z4M t.ctl i)
  have hp:=hz0.pil
  have hda:=hz0.da
  have her:=hz0.er
  have hds:=hz0.ds
  obtain⟨x,hx⟩:=xG (t.ctl i)
  have hstart:=fun op rest=> @GInv.start i (m+130*rest.length) t q op rest
  have hstop:= @ze1 i (t.ctl i).queue.length t
  have hgonext:=fun op rest n=> @ziY i n t op rest q
  rw[hx]at hp hda her hds H hgo hstop hlen
  rw[hx]at HUP
  obtain⟨xp,xs,xq,xd,xe,xr,xt,xa,xo⟩:=x
  dsimp only at hp hda her hds hgo hstop
  subst hp
  obtain⟨⟨pb,qu,er,da⟩,hch⟩:∃x,ch i=x:=⟨_,rfl⟩
  rw[hch]at H
  obtain⟨ne,hne⟩:=xG (xr.length)
  obtain⟨nd,hnd⟩:=xG (xt.length)
  obtain⟨nq,hnq⟩:=xG (xq.length)
  simp only[hne,hnd,zaV]at H
  rw[hnd,hne]at hda
  obtain⟨A1,c1,rfl⟩:=zt (v:=er) H pk
  obtain⟨A2,c2,rfl⟩:=zt (v:=da) H pk
  obtain⟨A3,c3,hqf,hqc⟩:=z6L (v:=qu) H pk
  rw[hnq]at hqf hqc
  subst hqf
  have hlen:ziE wr c (5+i*9+2)=nq:=hlen.trans hnq
  have HLEN:=Lib.hid hlen
  obtain⟨oc,hoc⟩:=xG (t.ctl (1-i))
  obtain⟨och,hoch⟩:=xG (ch (1-i))
  rw[hoc,hoch]at H
  have HPO:zy pb q=zaV pb (some q):=rfl
  have HOC:=Lib.hid hoc
  have HOCH:=Lib.hid hoch
  have HX:=Lib.hid hx
  have HNE:=Lib.hid hne
  have HND:=Lib.hid hnd
  have HNQ:=Lib.hid hnq
  have HGOX:=Lib.hid hgo
  clear hz hx hne hnd hnq hch hoc hoch hlen hz0
  cases xd with
  |true=>
   have hft:t=fin:=by rw[<-hgo,hstop (.inl rfl)]
   have hto:t.told i=t:=by unfold ClusM.told;rw[if_neg (by rw[HX.out];simp)]
   have HO2:=Lib.hid (show t=out by rw[<-HOUT.out,<-hft,hto])
   clear hft hto hstop hgonext hstart hda her hds hgo
   go_wp2_with (first|refine ld1 H (hh:=hdx) ?_|refine xLd H ?_|(refine zr (by rfl) (fun K' hK=>?_);(first|refine jo H (ht:=yy pk (by assumption)) ?_|refine jo H (ht:=yt pk (by assumption)) ?_);clear H;intro w H;try dsimp only[List.set]at H;refine hK _ _ ?_;clear hK K')|(refine xEf H ?_;clear H;intro b A' w H))
   refine xRe ?_
   have H2:=ym.ctl_join (s:=t) mv ke nb hb ch zs ⟨some q,xs,xq,true,xe,xr,xt,xa,xo⟩ ⟨pb,.slice A3 nq c3,.slice A1 ne c1,.slice A2 nd c2⟩ hi (po:=some q) (by rw[HOC.out,HOCH.out,<-HPO];exact H.sub sba) rfl HZ.out (e2:=HNE.out.symm) (e4:=HND.out.symm)
   rw[HUP.out]at H2
   have H3:Sep F0 w0 _ (ym c t::R):=H2
   rw[HO2.out]at H3
   exact⟨_,_,rfl,⟨rfl,rfl⟩,H3.sub sba⟩
  |false=>
   cases xq with
   |nil=>
    have hft:t=fin:=by rw[<-hgo,hstop (.inr rfl)]
    obtain rfl:nq=0:=by rw[<-HNQ.out];rfl
    cases xr with
    |nil=>
     have hto:t.told i=t:=by unfold ClusM.told;rw[if_neg (by rw[HX.out];simp)]
     have HO2:=Lib.hid (show t=out by rw[<-HOUT.out,<-hft,hto])
     obtain rfl:ne=0:=by rw[<-HNE.out];rfl
     clear hft hto hstop hgonext hstart hda her hds hgo
     go_wp2_with (first|refine ld1 H (hh:=hdx) ?_|refine xLd H ?_|(refine zr (by rfl) (fun K' hK=>?_);(first|refine jo H (ht:=yy pk (by assumption)) ?_|refine jo H (ht:=yt pk (by assumption)) ?_);clear H;intro w H;try dsimp only[List.set]at H;refine hK _ _ ?_;clear hK K')|(refine xEf H ?_;clear H;intro b A' w H))
     refine xRe ?_
     have H2:=ym.ctl_join (s:=t) mv ke nb hb ch zs ⟨some q,xs,[],false,xe,[],xt,xa,xo⟩ ⟨pb,.slice A3 0 c3,.slice A1 0 c1,.slice A2 nd c2⟩ hi (po:=some q) (by rw[HOC.out,HOCH.out,<-HPO];exact H.sub sba) rfl HZ.out (e2:=HNE.out.symm) (e4:=HND.out.symm)
     rw[HUP.out]at H2
     have H3:Sep F0 w0 _ (ym c t::R):=H2
     rw[HO2.out]at H3
     exact⟨_,_,rfl,⟨rfl,rfl⟩,H3.sub sba⟩
    |cons r0 rs=>
     have hto:t.told i={t with ctl:=upC t.ctl i ⟨some q,xs,[],false,xe,r0::rs,xt,z1j (r0::rs) xt,true⟩}:=by
      unfold ClusM.told
      rw[if_pos (by rw[HX.out];simp),HX.out]
     have HO2:=Lib.hid (show {t with ctl:=upC t.ctl i ⟨some q,xs,[],false,xe,r0::rs,xt,z1j (r0::rs) xt,true⟩}=out by rw[<-HOUT.out,<-hft,hto])
     have hT:=zb9 (r0::rs) xt ne nd (.slice A1 ne c1) (.slice A2 nd c2) HNE.out HND.out (fun d hd=>by have:=hds d hd;omega)
     have HT:=Lib.hid hT
     have hpos:decide ((ne:Int)>0)=true:=by have:=HNE.out;simp at this⊢;omega
     have hpos2:decide ((0:Int)<ne)=true:=hpos
     have hpos3:decide (0<ne)=true:=by simp at hpos⊢;omega
     have hpos4:decide (ne>0)=true:=hpos3
     clear hft hto hstop hgonext hstart hda her hds hgo hT
     obtain⟨E,hE⟩:=xG (r0::rs)
     rw[hE]at H HT HO2
     have HNE2:=Lib.hid (show E.length=ne by rw[<-hE];exact HNE.out)
     clear hE
     go_upto_region 9 with(first|refine ld1 H (hh:=hdx) ?_|refine xLd H ?_|(refine zr (by rfl) (fun K' hK=>?_);(first|refine jo H (ht:=yy pk (by assumption)) ?_|refine jo H (ht:=yt pk (by assumption)) ?_);clear H;intro w H;try dsimp only[List.set]at H;refine hK _ _ ?_;clear hK K')|(refine xEf H ?_;clear H;intro b A' w H))
     refine xRg [15] (fun L=>[L,[]]) H ?_
     clear H;intro w H
     have HS:=H
     refine xO 0 0 HS ?_
     refine xO 1 0 HS ?_
     refine xO 2 0 HS ?_
     refine xO 3 0 HS ?_
     refine xL 4 0 HS ?_ (hin:=(.stop (n:=16) hdx (by kernel_rfl)))
     refine xO 5 0 HS ?_
     refine xO 6 0 HS ?_
     refine xO 7 0 HS ?_
     refine xL 8 0 HS ?_ (hin:=(.stop (n:=16) hdx (by kernel_rfl)))
     refine xC 9 0 HT.out H ?_
     clear H HS;intro w H HS
     refine xO 10 0 HS ?_
     refine xO 11 0 HS ?_
     refine xO 12 0 HS ?_
     refine xO 13 0 HS ?_
     refine xO 14 0 HS ?_
     clear HS
     refine tk1 15 1 (fun K' hK=>?_)
     (refine jo H (ht:=yy pk (by assumption)) ?_;clear H;intro w H;try dsimp only[List.set]at H)
     refine hK _ _ (H.sub sbn) (fun HS=>?_)
     clear hK K'
     try simp only[xPt]
     refine xD ?_
     go_wp2_with (first|refine ld1 H (hh:=hdx) ?_|refine xLd H ?_|(refine zr (by rfl) (fun K' hK=>?_);(first|refine jo H (ht:=yy pk (by assumption)) ?_|refine jo H (ht:=yt pk (by assumption)) ?_);clear H;intro w H;try dsimp only[List.set]at H;refine hK _ _ ?_;clear hK K')|(refine xEf H ?_;clear H;intro b A' w H))
     refine xRe ?_
     have H2:=ym.ctl_join (s:=t) mv ke nb hb ch zs ⟨some q,xs,[],false,xe,E,xt,z1j E xt,true⟩ ⟨pb,.slice A3 0 c3,.slice A1 ne c1,.slice A2 nd c2⟩ hi (po:=some q) (by rw[HOC.out,HOCH.out,<-HPO];exact H.sub sba) rfl HZ.out (e2:=HNE2.out.symm) (e4:=HND.out.symm)
     have H3:Sep F0 w0 _ (ym c out::R):=HO2.out▸H2
     exact⟨_,_,rfl,⟨rfl,rfl⟩,H3.sub sba⟩
   |cons op rest=>
    have hst:=hstart op rest ((HG.out).less (by rw[HX.out];simp only[List.length_cons];omega)) (by rw[HX.out]) (by rw[HX.out])
    have hnx:=hgonext op rest rest.length (by rw[HX.out]) (by rw[HX.out]) (by rw[HX.out])
    obtain⟨n,hn⟩:=xG (rest.length)
    obtain rfl:nq=n+1:=by rw[<-HNQ.out,<-hn];rfl
    have hgo':ClusM.goLoop i (rest.length+1) t=fin:=hgo
    rw[hgo']at hnx
    have HST:=Lib.hid hst
    have HNX:=Lib.hid hnx
    have HRN:=Lib.hid hn
    have hpos:decide (((n+1:Nat):Int)>0)=true:=decide_eq_true (by omega)
    have hpos2:decide ((0:Int)<((n+1:Nat):Int))=true:=hpos
    have hos:OpOk t.N t.S op:=(HG.out).ops op (by rw[HX.out];exact List.mem_cons_self ..)
    have HSUB:=Lib.hid (zbH pb q t.time op (((HG.out).inv.less (m:=130) (by rw[HX.out];simp only[List.length_cons];omega)).ok) (HG.out).inv.right (by rw[(HG.out).inv.gN,(HG.out).inv.gS];exact hos) ((HG.out).idle (by rw[HX.out])))
    have HBG:=Lib.hid (zdZ hb t.hist i op (HG.out).h0 (by have:=(HG.out).h1;omega))
    have hEQ:t.startOp i q op rest=ClusM.ended {t with hist:=(t.hist.begin i op).1,ctl:=upC t.ctl i ⟨some (q.submit t.time op),xs,rest,true,(t.hist.begin i op).2,xr,xt,xa,xo⟩} i:=by unfold ClusM.startOp;rw[HX.out]
    have hE2:=z9z c i {t with hist:=(t.hist.begin i op).1,ctl:=upC t.ctl i ⟨some (q.submit t.time op),xs,rest,true,(t.hist.begin i op).2,xr,xt,xa,xo⟩} (q.submit t.time op) hi (by show CtlM.pil (upC t.ctl i _ i)=_;rw[yv]) (by have:=t.hist.begin_given i op;have:=(HG.out).h0;show 0<=(t.hist.begin i op).1.given;omega) (by have:=t.hist.begin_given i op;have:=(HG.out).h1;show(t.hist.begin i op).1.given<1099511627776;omega)
     (by show(CtlM.errs (upC t.ctl i _ i)).length<=1000;rw[yv];show xr.length<=1000;rw[HNE.out];simp only[HNE.out]at her;omega) (by show(CtlM.data (upC t.ctl i _ i)).length<=1000;rw[yv];show xt.length<=1000;rw[HND.out];simp only[HNE.out]at her;omega)
    rw[<-hEQ]at hE2
    have HE2:=Lib.hid hE2
    clear hst hnx hn hgo hgo' hstop hgonext hstart hos hE2 hEQ
    obtain⟨g3,off3,c3',hA,hA2⟩:=zkH (v:=.slice A3 (n+1) c3) H pk
    rw[HRN.out]at hA hA2
    cases hA
    go_upto_region 3 with(first|refine ld1 H (hh:=hdx) ?_|refine xLd H ?_|(refine zr (by rfl) (fun K' hK=>?_);(first|refine jo H (ht:=yy pk (by assumption)) ?_|refine jo H (ht:=yt pk (by assumption)) ?_);clear H;intro w H;try dsimp only[List.set]at H;refine hK _ _ ?_;clear hK K')|(refine xEf H ?_;clear H;intro b A' w H))
    go_upto_region 5 with(first
     |(refine ldr H (hh:=zgv pk (ze (by rfl))) ?_)
     |(refine j1 (by rfl) (by rfl) (fun K' hK=>?_);refine wal (ty:=173) H ?_ (hz:=zhd);clear H;intro bo w H;refine hK _ _ ?_;clear hK K')
     |first|refine ld1 H (hh:=hdx) ?_|refine xLd H ?_|(refine zr (by rfl) (fun K' hK=>?_);(first|refine jo H (ht:=yy pk (by assumption)) ?_|refine jo H (ht:=yt pk (by assumption)) ?_);clear H;intro w H;try dsimp only[List.set]at H;refine hK _ _ ?_;clear hK K')|(refine xEf H ?_;clear H;intro b A' w H))
    replace H:=zkG (g:=g3) (off:=off3) (m:=n+1) (c:=c3) (op:=op) (ops:=rest) pk H
    rw[HRN.out]at H
    refine xRg [] (fun _=>[[zne c [.int .i64 t.N,.int .i64 t.S,.int .i64 t.time,mv,.pointer (some ⟨ke,0,none⟩)] [.pointer (some ⟨nb,0,none⟩),.pointer (some ⟨hb,0,none⟩)] (oc.cells och) i,z7 bo 173 op.cells]]) H ?_
    clear H;intro w H
    have HS:Sep F0 w0 w [zne c [.int .i64 t.N,.int .i64 t.S,.int .i64 t.time,mv,.pointer (some ⟨ke,0,none⟩)] [.pointer (some ⟨nb,0,none⟩),.pointer (some ⟨hb,0,none⟩)] (oc.cells och) i,z7 bo 173 op.cells]:=(by(try simp only[z2x]);exact zjS (L:=[z7 bo 173 op.cells]) (H.sub sb))
    refine xO 0 0 HS ?_
    refine xO 1 0 HS ?_
    refine xO 2 0 HS ?_
    refine xO 3 0 HS ?_
    refine xO 4 0 HS ?_
    refine xL 5 0 HS ?_ (hin:=(.last (zgt pk (by rfl))))
    refine xO 6 0 HS ?_
    refine xV 7 0 HS ?_
    clear HS
    refine tk1 8 0 (fun K' hK=>?_)
    go_simp;revert H;refine zi.use HBG.out pks ?_;rintro _ _ w ⟨rfl,rfl⟩ H;try simp only[xNf]at H
    refine hK _ _ (by(try simp only[z2x]);exact zjS (L:=[z7 bo 173 op.cells]) (H.sub sb)) (fun HS=>?_)
    clear hK K'
    try simp only[xPt]
    refine xO 9 0 HS ?_
    refine xO 10 0 HS ?_
    clear HS
    refine tk1 11 0 (fun K' hK=>?_)
    (refine jo H (ht:=yy pk (by assumption)) ?_;clear H;intro w H;try dsimp only[List.set]at H)
    refine hK _ _ (by(try simp only[z2x]);exact zjS (L:=[z7 bo 173 op.cells]) (H.sub sb)) (fun HS=>?_)
    clear hK K'
    try simp only[xPt]
    refine xO 12 0 HS ?_
    refine xO 13 0 HS ?_
    clear HS
    refine tk1 14 0 (fun K' hK=>?_)
    (refine jo H (ht:=yy pk (by assumption)) ?_;clear H;intro w H;try dsimp only[List.set]at H)
    refine hK _ _ (by(try simp only[z2x]);exact zjS (L:=[z7 bo 173 op.cells]) (H.sub sb)) (fun HS=>?_)
    clear hK K'
    try simp only[xPt]
    refine xD ?_
    all_goals
     go_upto_region 6 with(first|refine ld1 H (hh:=hdx) ?_|refine xLd H ?_|(refine zr (by rfl) (fun K' hK=>?_);(first|refine jo H (ht:=yy pk (by assumption)) ?_|refine jo H (ht:=yt pk (by assumption)) ?_);clear H;intro w H;try dsimp only[List.set]at H;refine hK _ _ ?_;clear hK K')|(refine xEf H ?_;clear H;intro b A' w H))
     refine xRg [9] (fun L=>[L,[]]) H ?_
     clear H;intro w H
     have HS:=H
     refine xO 0 0 HS ?_
     refine xO 1 0 HS ?_
     refine xO 2 0 HS ?_
     refine xL 3 0 HS ?_ (hin:=(.stop (n:=10) hdx (by kernel_rfl)))
     refine xO 4 0 HS ?_
     refine xO 5 0 HS ?_
     refine xO 6 0 HS ?_
     refine xL 7 0 HS ?_ (hin:=(.stop (n:=10) hdx (by kernel_rfl)))
     refine xV 8 0 HS ?_ (hin:=(.stop (n:=10) hdV (by kernel_rfl)))
     refine xC 9 1 HSUB.out H ?_
     clear H HS;intro w H HS
     refine xD ?_
     rw[show znl pb (some q)=znl pb (some (q.submit t.time op))from rfl]at H
     have HPS:zy pb (q.submit t.time op)=zaV pb (some (q.submit t.time op)):=rfl
     have H2:=ym.ctl_join (s:=t) mv ke nb hb ch zs ⟨some (q.submit t.time op),xs,rest,true,(t.hist.begin i op).2,xr,xt,xa,xo⟩ ⟨pb,.slice (if c3=1 then some ⟨g3,off3,none⟩else some ⟨g3,off3+3,none⟩) n (c3-1),.slice A1 ne c1,.slice A2 nd c2⟩ hi (po:=some (q.submit t.time op)) (by rw[HOC.out,HOCH.out,<-HPS];exact H.sub sba) rfl HZ.out (e2:=HNE.out.symm) (e4:=HND.out.symm)
     clear H
     have H:Sep F0 w0 w (ym c {t with hist:=(t.hist.begin i op).1,ctl:=upC t.ctl i ⟨some (q.submit t.time op),xs,rest,true,(t.hist.begin i op).2,xr,xt,xa,xo⟩}::R):=H2.sub sba
     clear H2
     go_wp2_with (first|(go_at_call 117;refine xT2 (HE2.out) H ?_;clear H;intro w H)|first|refine xLd H ?_|(refine xEf H ?_;clear H;intro b A' w H))
     have hl2:=zji hi H
     rw[HST.out.2,HRN.out]at hl2
     go_roundw
     case rel=>
      refine⟨t.startOp i q op rest,q.submit t.time op, ?_, ?_,H⟩
      ·rw[HST.out.2]
       exact HST.out.1
      ·rw[HST.out.2]
       exact HNX.out.symm
     case measure=>rw[hl2,HLEN.out];omega
section
abbrev zfb:=List (Lit×DU)
def znb:Lit×DU->Int
 |(_,.lit (.int _ c))=>c
 |_=>0
def zaW:zfb->Int
 |[]=>0
 |p::r=>znb p+zaW r
def zjF (p:Lit×DU):Prop:=∃(b:List UInt8) (c:Int),p=(.string b,.lit (.int .i64 c))/\1<=c/\b.length<=1000
structure EntsOk (es:zfb):Prop where
 each:∀p∈es,zjF p
 apart:es.Pairwise (fun p q=>p.1≠q.1)
theorem z88:∀{es:zfb},(∀p∈es,zjF p)->(es.length:Int)<=zaW es
 |[],_=>Int.le_refl _
 |p::r,h=>by
  have h1:=z88 (es:=r) (fun q hq=>h q (List.mem_cons_of_mem _ hq))
  obtain⟨b,c,rfl,hc,_⟩:=h p (List.mem_cons_self ..)
  simp only[zaW,znb,List.length_cons]
  omega
theorem z7j {p:Lit×DU} (h:zjF p) (k:List UInt8):p.1.sameKey (.string k)=true↔p.1= .string k:=by
 obtain⟨b,c,rfl,_⟩:=h
 simp[Lit.sameKey]
theorem z6r {p:Lit×DU} {r:zfb} {k:Lit} (h:p.1.sameKey k=false):z1p (.map (p::r)) k=z1p (.map r) k:=by
 unfold z1p DataW.atKey
 simp only[List.find?_cons,h]
theorem z5i {p:Lit×DU} {r:zfb} {k:Lit} (h:p.1.sameKey k=true) (hp:zjF p):z1p (.map (p::r)) k=znb p:=by
 obtain⟨b,c,rfl,_⟩:=hp
 unfold z1p DataW.atKey
 simp only[List.find?_cons,h]
 rfl
theorem zli (k:Lit):z1p (.map ([]:zfb)) k=0:=rfl
theorem z1K:∀{es:zfb} (k:List UInt8),EntsOk es->zaW (es.filter fun p=>!p.1.sameKey (.string k))=zaW es-z1p (.map es) (.string k)
 |[],k,_=>by simp[zaW,zli]
 |p::r,k,h=>by
  have hr:EntsOk r:=⟨fun q hq=>h.each q (List.mem_cons_of_mem _ hq),(List.pairwise_cons.1 h.apart).2⟩
  have ih:=z1K (es:=r) k hr
  have hp:=h.each p (List.mem_cons_self ..)
  cases hk:p.1.sameKey (.string k)with
  |true=>
   have e1:=(z7j hp k).1 hk
   have hall:r.filter (fun p=>!p.1.sameKey (.string k))=r:=by
    refine List.filter_eq_self.2 fun q hq=>?_
    have hne:=(List.pairwise_cons.1 h.apart).1 q hq
    cases hq2:q.1.sameKey (.string k)
    ·rfl
    ·exact absurd (e1.trans ((z7j (h.each q (List.mem_cons_of_mem _ hq)) k).1 hq2).symm) hne
   rw[List.filter_cons_of_neg (by simp[hk]),hall,z5i hk hp]
   simp only[zaW]
   omega
  |false=>
   rw[List.filter_cons_of_pos (by simp[hk]),z6r hk]
   simp only[zaW]
   omega
theorem z5V {es:zfb} (k:List UInt8) (h:EntsOk es):0<=z1p (.map es) (.string k)/\z1p (.map es) (.string k)<=zaW es:=by
 have h1:=z1K k h
 have h2:=z88 (es:=es.filter fun p=>!p.1.sameKey (.string k)) (fun p hp=>h.each p (List.mem_filter.1 hp).1)
 refine⟨?_,by omega⟩
 have:∀es:zfb,(∀p∈es,zjF p)->0<=z1p (.map es) (.string k):=by
  intro es
  induction es with
  |nil=>intro _;exact Int.le_refl _
  |cons p r ih=>
   intro h
   cases hk:p.1.sameKey (.string k)with
   |true=>
    rw[z5i hk (h p (List.mem_cons_self ..))]
    obtain⟨b,c,rfl,hc,_⟩:=h p (List.mem_cons_self ..)
    show 0<=c
    omega
   |false=>rw[z6r hk];exact ih fun q hq=>h q (List.mem_cons_of_mem _ hq)
 exact this es h.each
theorem z9p {x p:Lit×DU}:∀{l:zfb},p∈DataW.insert x l↔p=x\/p∈l
 |[]=>by simp[DataW.insert]
 |y::r=>by
  unfold DataW.insert
  split
  ·simp
  ·rw[List.mem_cons,z9p (l:=r),List.mem_cons]
   constructor
   ·rintro(h|h|h)
    ·exact .inr (.inl h)
    ·exact .inl h
    ·exact .inr (.inr h)
   ·rintro(h|h|h)
    ·exact .inr (.inl h)
    ·exact .inl h
    ·exact .inr (.inr h)
theorem z4D (x:Lit×DU):∀l:zfb,zaW (DataW.insert x l)=znb x+zaW l
 |[]=>by simp[DataW.insert,zaW]
 |y::r=>by
  unfold DataW.insert
  split
  ·rfl
  ·simp only[zaW]
   rw[z4D x r]
   omega
def z2Z (s:NetM):Prop:=∃es:zfb,s.D= .map es/\EntsOk es/\zaW es=s.all/\s.all<=64
theorem z2Z.new:z2Z ⟨.map [],0⟩:=⟨[],rfl,⟨fun p hp=>absurd hp (List.not_mem_nil),List.Pairwise.nil⟩,rfl,by decide⟩
section
variable {s:NetM}
theorem z2Z.all0 (h:z2Z s):0<=s.all:=by
 obtain⟨es,_,h2,h3,_⟩:=h
 have:=z88 h2.each
 omega
theorem z2Z.all64 (h:z2Z s):s.all<=64:=by
 obtain⟨es,_,_,_,h4⟩:=h
 exact h4
theorem z2Z.size (h:z2Z s):Maps.size s.D<=1000:=by
 obtain⟨es,h1,h2,h3,h4⟩:=h
 have:=z88 h2.each
 rw[h1]
 show es.length<=1000
 omega
theorem z2Z.keysN (h:z2Z s):(strKeys s.D).length<=1000:=by
 obtain⟨es,h1,h2,h3,h4⟩:=h
 have:=z88 h2.each
 rw[h1]
 show(es.map fun p=>strOf p.1).length<=1000
 rw[List.length_map]
 omega
theorem zkZ {k:List UInt8} {s:NetM} (hk:k∈s.keys):k∈strKeys s.D:=(List.mem_mergeSort ..).1 hk
theorem z2Z.keyLen (h:z2Z s):∀k∈s.keys,k.length<=1000:=by
 intro k hk
 have hk:=zkZ hk
 obtain⟨es,h1,h2,h3,h4⟩:=h
 rw[h1]at hk
 obtain⟨p,hp,rfl⟩:=List.mem_map.1 (show k∈es.map fun p=>strOf p.1 from hk)
 obtain⟨b,c,rfl,_,hb⟩:=h2.each p hp
 exact hb
theorem zf0 {es:zfb} (h:EntsOk es) (k:List UInt8) (c:Int) (hc:1<=c) (hk:k.length<=1000):EntsOk (DataW.insert (.string k,.lit (.int .i64 c)) (es.filter fun p=>!p.1.sameKey (.string k))):=by
 refine⟨fun p hp=>?_, ?_⟩
 ·rcases z9p.1 hp with rfl|hp
  ·exact⟨k,c,rfl,hc,hk⟩
  ·exact h.each p (List.mem_filter.1 hp).1
 ·obtain⟨es',e1,e2⟩:=Maps.Tidy.put (D:=(.map es:DU)) ⟨es,rfl,h.apart⟩ (k:=.string k) trivial (.lit (.int .i64 c))
  cases e1
  exact e2
theorem z2Z.send (h:z2Z s) (x:ByteArray):z2Z (s.send x).1:=by
 unfold NetM.send
 split
 ·exact h
 ·rename_i hn
  obtain⟨es,h1,h2,h3,h4⟩:=h
  have hr:=z5V x.data.toList h2
  have e0:z1p s.D (z1e x)=z1p (.map es) (.string x.data.toList):=by rw[h1]
  have e1:wrap64 (z1p s.D (z1e x)+1)=z1p s.D (z1e x)+1:=(by unfold wrap64;omega)
  have hxl:x.data.toList.length<=1000:=by
   have e:x.data.toList.length=x.size:=by rw[Array.length_toList];rfl
   omega
  refine⟨_, ?_,zf0 h2 x.data.toList (z1p s.D (z1e x)+1) (by omega) hxl, ?_,by show s.all+1<=64;omega⟩
  ·show s.D.put (z1e x) (.lit (.int .i64 (wrap64 (z1p s.D (z1e x)+1))))=_
   rw[e1,h1]
   rfl
  ·rw[z4D,z1K _ h2]
   show z1p s.D (z1e x)+1+(zaW es-z1p (.map es) (.string x.data.toList))=s.all+1
   omega
theorem z9o {D:DU}:∀{ks:List (List UInt8)} {i:Int} {x:ByteArray},(∀k,0<=z1p D (.string k)/\z1p D (.string k)<=64)->0<=i->i<=64->z7T D ks i=some x->x.data.toList∈ks/\1<=z1p D (z1e x)
 |k::ks,i,x,hc,h0,h64,h=>by
  unfold z7T at h
  have hk:=hc k
  split at h
  ·rename_i hlt
   cases h
   refine⟨by simp, ?_⟩
   show 1<=z1p D (.string k.toArray.toList)
   rw[List.toList_toArray]
   omega
  ·rename_i hge
   have e:wrap64 (i-z1p D (.string k))=i-z1p D (.string k):=(by unfold wrap64;omega)
   rw[e]at h
   have ih:=z9o (ks:=ks) hc (by omega) (by omega) h
   exact⟨List.mem_cons_of_mem _ ih.1,ih.2⟩
theorem z2Z.look (h:z2Z s) {i:Int} {x:ByteArray} (hx:s.look i=some x):x.size<=1000/\1<=z1p s.D (z1e x):=by
 have h0:=h.keyLen
 have ha:=h.all64
 unfold NetM.look at hx
 split at hx
 ·cases hx
 ·rename_i hi
  have hc:∀k,0<=z1p s.D (.string k)/\z1p s.D (.string k)<=64:=by
   obtain⟨es,h1,h2,h3,h4⟩:=h
   intro k
   have:=z5V k h2
   rw[h1]
   omega
  have h2:=z9o hc (by omega) (by omega) hx
  have h3:=h0 _ h2.1
  have e:x.data.toList.length=x.size:=by rw[Array.length_toList];rfl
  exact⟨by omega,h2.2⟩
theorem z2Z.take (h:z2Z s) (i:Int):z2Z (s.take i).1/\∀x,(s.take i).2=some x->x.size<=1000:=by
 have hlk:= @z2Z.look s h i
 unfold NetM.take
 cases hx:s.look i with
 |none=>exact⟨h,fun x hx=>(by cases hx)⟩
 |some x=>
  have hl:=hlk hx
  refine⟨?_,fun y hy=>by cases hy;exact hl.1⟩
  obtain⟨es,h1,h2,h3,h4⟩:=h
  obtain⟨sD,sa⟩:=s
  dsimp only at h1 h3 h4 hl
  subst h1
  have hr:0<=z1p (.map es) (z1e x)/\z1p (.map es) (z1e x)<=zaW es:=z5V x.data.toList h2
  have e1:wrap64 (z1p (.map es) (z1e x)-1)=z1p (.map es) (z1e x)-1:=(by unfold wrap64;omega)
  have hxl:x.data.toList.length<=1000:=by
   have e:x.data.toList.length=x.size:=by rw[Array.length_toList];rfl
   omega
  obtain⟨n,hn⟩:∃n,z1p (.map es) (z1e x)=n:=⟨_,rfl⟩
  have hn':z1p (.map es) (.string x.data.toList)=n:=hn
  have e2:z1p ((DataW.map es).put (z1e x) (.lit (.int .i64 (n-1)))) (z1e x)=n-1:=by
   unfold z1p
   rw[Maps.atKey_put_same ⟨es,rfl⟩ (show WideAt.IsKeyLit (z1e x)from trivial)]
  dsimp only
  rw[e1,hn,e2]
  rw[hn]at hr hl
  by_cases h0:n-1=0
  ·rw[if_pos h0]
   have hdel:((DataW.map es).put (z1e x) (.lit (.int .i64 (n-1)))).del (z1e x)= .map (es.filter fun p=>!p.1.sameKey (z1e x)):=by
    show DataW.map ((DataW.insert (z1e x,.lit (.int .i64 (n-1))) (es.filter fun p=>!p.1.sameKey (z1e x))).filter fun p=>!p.1.sameKey (z1e x))=_
    congr 1
    have key:∀l:zfb,(∀p∈l,(!p.1.sameKey (z1e x))=true)->(DataW.insert (z1e x,.lit (.int .i64 (n-1))) l).filter (fun p=>!p.1.sameKey (z1e x))=l:=by
     have hself:(z1e x).sameKey (z1e x)=true:=by simp[Lit.sameKey]
     intro l
     induction l with
     |nil=>intro _;simp[DataW.insert,hself]
     |cons y r ih=>
      intro hl
      unfold DataW.insert
      have hy:=hl y (List.mem_cons_self ..)
      have hall:r.filter (fun p=>!p.1.sameKey (z1e x))=r:=List.filter_eq_self.2 fun q hq=>hl q (List.mem_cons_of_mem _ hq)
      split
      ·rw[List.filter_cons_of_neg (by simp[hself]),List.filter_cons_of_pos (p:=fun p:Lit×DU=>!p.1.sameKey (z1e x)) hy,hall]
      ·rw[List.filter_cons_of_pos (p:=fun p:Lit×DU=>!p.1.sameKey (z1e x)) hy,ih fun q hq=>hl q (List.mem_cons_of_mem _ hq)]
    exact key _ fun p hp=>(List.mem_filter.1 hp).2
   refine⟨_,hdel,⟨fun p hp=>h2.each p (List.mem_filter.1 hp).1,h2.apart.sublist (List.filter_sublist ..)⟩, ?_,by show sa-1<=64;omega⟩
   rw[z1K _ h2,hn']
   show zaW es-n=sa-1
   omega
  ·rw[if_neg h0]
   refine⟨_,rfl,zf0 h2 x.data.toList (n-1) (by omega) hxl, ?_,by show sa-1<=64;omega⟩
   rw[z4D,z1K _ h2,hn']
   show n-1+(zaW es-n)=sa-1
   omega
end
end
end Go.Proofs.YtmfincpagnpkjaaGreat
