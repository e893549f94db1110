/- Part of the proof. -/
import Derived.Test.YtmfincpagnpkjaaGreatM38
set_option linter.all false
set_option maxRecDepth 100000
set_option maxHeartbeats 100000000
namespace Go.Proofs.YtmfincpagnpkjaaGreat
open Go.RowKit
section
def z8o (st column kind status:Int) (fl:Bool) (p:PartM):PartM×Bool:=
 if p.column≠column then(p,fl)
 else if kind=4/\status=1 then(⟨p.column,p.block,true,p.dn⟩,fl)
 else if kind=4 then(p,!p.opn)
 else if kind=5/\status≠1 then(p,!p.dn)
 else if kind=5/\st≠0 then(⟨p.column,p.block,p.opn,true⟩,fl)
 else(p,fl)
def z2G (st column kind status:Int):Bool->List PartM->List PartM×Bool
 |fl,[]=>([],fl)
 |fl,p::ps=>
  let x:=z8o st column kind status fl p
  let y:=z2G st column kind status x.2 ps
  (x.1::y.1,y.2)
def UpdM.said (s:UpdM) (column kind status:Int):UpdM:=
 if s.failed then s
 else
  let x:=z2G s.state column kind status s.failed s.parts
  ⟨s.stripe,s.mask,s.te,s.ts,x.1,s.began,x.2⟩
theorem z0B (st column kind status:Int):∀(fl:Bool) (ps:List PartM),(z2G st column kind status fl ps).1.length=ps.length
 |_,[]=>rfl
 |fl,p::ps=>by rw[z2G,List.length_cons,z0B st column kind status,List.length_cons]
theorem z3n (st column kind status:Int):∀(fl:Bool) (a b:List PartM),z2G st column kind status fl (a++b)=((z2G st column kind status fl a).1++(z2G st column kind status (z2G st column kind status fl a).2 b).1,(z2G st column kind status (z2G st column kind status fl a).2 b).2)
 |_,[],_=>rfl
 |fl,p::a,b=>by
  rw[List.cons_append,z2G,z3n st column kind status _ a b]
  rfl
structure SAt (st column kind status:Int) (parts:List PartM) (k:Nat) (ps:List PartM) (fl:Bool):Prop where
 ps:ps=(z2G st column kind status false (parts.take k)).1++parts.drop k
 fl:fl=(z2G st column kind status false (parts.take k)).2
section
variable {st column kind status:Int} {parts ps:List PartM} {k:Nat} {fl:Bool} {x:PartM}
theorem SAt.at_ (h:SAt st column kind status parts k ps fl) (hx:parts[k]?=some x):ps[k]?=some x:=by
 have hlt:=(List.getElem?_eq_some_iff.1 hx).1
 have hl:(z2G st column kind status false (parts.take k)).1.length=k:=by rw[z0B,List.length_take];omega
 rw[h.ps,List.getElem?_append_right (by omega),hl,Nat.sub_self,List.getElem?_drop]
 simpa using hx
theorem SAt.length (h:SAt st column kind status parts k ps fl) (hk:k<=parts.length):ps.length=parts.length:=by
 rw[h.ps,List.length_append,z0B,List.length_take,List.length_drop]
 omega
theorem SAt.next {y:PartM} {fl':Bool} (h:SAt st column kind status parts k ps fl) (hx:parts[k]?=some x) (hy:z8o st column kind status fl x=(y,fl')):SAt st column kind status parts (k+1) (ps.set k y) fl':=by
 have hlt:=(List.getElem?_eq_some_iff.1 hx).1
 have hl:(z2G st column kind status false (parts.take k)).1.length=k:=by rw[z0B,List.length_take];omega
 have ht:parts.take (k+1)=parts.take k++[x]:=by
  obtain⟨_,rfl⟩:=List.getElem?_eq_some_iff.1 hx
  exact List.take_succ_eq_append_getElem hlt
 have e:z2G st column kind status fl [x]=([y],fl'):=by rw[z2G,hy];rfl
 refine⟨?_, ?_⟩
 ·rw[ht,z3n,<-h.fl,e,h.ps,List.set_append_right _ _ (by omega),hl,Nat.sub_self,z2r hx,List.set_cons_zero,List.append_assoc]
  rfl
 ·rw[ht,z3n,<-h.fl,e]
theorem SAt.same (h:SAt st column kind status parts k ps fl) (hx:parts[k]?=some x):ps.set k x=ps:=by
 obtain⟨hlt,he⟩:=List.getElem?_eq_some_iff.1 (h.at_ hx)
 rw[<-he,List.set_getElem_self hlt]
theorem SAt.stay (h:SAt st column kind status parts k ps fl) (hx:parts[k]?=some x) (hy:z8o st column kind status fl x=(x,fl)):SAt st column kind status parts (k+1) ps fl:=by
 have e:=h.next hx hy
 obtain⟨hlt,he⟩:=List.getElem?_eq_some_iff.1 (h.at_ hx)
 rw[<-he,List.set_getElem_self hlt]at e
 exact e
end
theorem zjU (u:Nat) (s:UpdM) (st column kind status:Int) (hmax:s.parts.length<=64) (hst:s.state=st):zi Tryz.prog 280 #[.pointer (some ⟨u,0,none⟩),.int .i64 column,.int .i64 kind,.int .i64 status] [z3g u s] fun v K=>v= .tuple #[]/\K=[z3g u (s.said column kind status)]:=by
 intro F0 w0 w R H
 try simp only[xNf]at H
 by_cases hf:s.failed=true
 ·have hs:s.said column kind status=s:=by unfold UpdM.said;rw[if_pos hf]
  rw[hs]
  clear hs hst
  replace H:=z3g.open' H
  obtain⟨v,H⟩:=H
  obtain⟨stripe,mask,te,ts,parts,began,failed⟩:=s
  simp only at*
  subst hf
  go_enter Tryz.func280,Tryz.ntmps280
  go_wp2_with (first|refine xLd H ?_|(refine xEf H ?_;clear H;intro b A' w H))
  refine xRz ?_
  exact⟨_,_,rfl,⟨rfl,rfl⟩,z3g.mk (H.sub sba) (by rfl) (by rfl) (by rfl)⟩
 have hf':s.failed=false:=by simpa using hf
 have hs:s.said column kind status=⟨s.stripe,s.mask,s.te,s.ts,(z2G st column kind status false s.parts).1,s.began,(z2G st column kind status false s.parts).2⟩:=by
  unfold UpdM.said
  rw[if_neg hf,hst,hf']
 rw[hs]
 clear hs hf
 have hT:=z4o u s (by omega)
 rw[hst]at hT
 have HT:=Lib.hid hT
 clear hT hst
 obtain⟨stripe,mask,te,ts,parts,began,failed⟩:=s
 simp only at*
 subst hf'
 replace H:=z3g.open' H
 obtain⟨v,H⟩:=H
 simp only at H
 obtain⟨A,c,rfl⟩:=zt H pk
 go_enter Tryz.func280,Tryz.ntmps280
 go_upto_region 1 with(first|refine xLd H ?_|(refine xEf H ?_;clear H;intro b A' w H))
 replace H:Sep F0 w0 _ (z3g u ⟨stripe,mask,te,ts,parts,began,false⟩::R):=z3g.mk (H.sub sba) (by rfl) (by rfl) (by rfl)
 go_upto_region 2 with(first|(go_at_call 281;refine xT2 (HT.out) H ?_;clear H;intro w H)|first|refine xLd H ?_|(refine xEf H ?_;clear H;intro b A' w H))
 clear A c
 replace H:=z3g.open' H
 obtain⟨v,H⟩:=H
 simp only at H
 obtain⟨A,c,rfl⟩:=zt H pk
 go_wp2_with (first|refine xLd H ?_|(refine xEf H ?_;clear H;intro b A' w H))
 go_loopw [22] (fun i wr=>∃(k:Nat) (ps:List PartM) (fl:Bool),k<=parts.length/\SAt st column kind status parts k ps fl/\i= .int .i64 k/\
  Sep F0 w0 wr (z7 u 357 [.int .i64 stripe,.int .i64 mask,.int .i64 te,.int .i64 ts,.slice A parts.length c,.bool began,.bool fl]::zh 359 4 (.slice A parts.length c) parts.length (zd PartM.cells ps)::R)) (fun i _=>parts.length-(intOf i).toNat)
 case atStart=>exact⟨0,parts,false,Nat.zero_le _,⟨rfl,rfl⟩,rfl,H.sub sb⟩
 case round=>
  clear H
  obtain⟨k,ps,fl,hk,hU,rfl,H⟩:=hrel
  by_cases hlt:k<parts.length
  ·obtain⟨x,hx⟩:∃x,parts[k]?=some x:=⟨_,List.getElem?_eq_getElem hlt⟩
   have hy:=hU.at_ hx
   have HU:=Lib.hid hU
   obtain⟨g,c',hA⟩:=zz (n:=parts.length) (v:=.slice A parts.length c) H pk (by omega)
   cases hA
   have HX:=Lib.hid hx
   have HY:=Lib.hid hy
   clear hx hy hU
   obtain⟨col,block,opn,dn⟩:=x
   by_cases hc:col=column
   ·subst hc
    have c0:(col !=col)=false:=by simp
    by_cases k4:kind=4
    ·subst k4
     by_cases s1:status=1
     ·subst s1
      go_wp2_with (first|(refine zr (by rfl) (fun K' hK=>?_);refine jo H (ht:=(by first|exact jw (⟨col,block,true,dn⟩) pk (by first|exact HY.out) PartM.cells_length (by rfl) (by decide) (by rfl)|exact z0r (⟨col,block,true,dn⟩) pk (by first|exact HY.out) PartM.cells_length (by rfl) (by decide) (by rfl)|exact z02 (⟨col,block,true,dn⟩) pk (by first|exact HY.out) PartM.cells_length (by rfl) (by decide) (by rfl)|exact z01 (⟨col,block,true,dn⟩) pk (by first|exact HY.out) PartM.cells_length (by rfl) (by decide) (by rfl))) ?_;clear H;intro w H;refine hK _ _ ?_;clear hK K')|(refine ld1 H (hh:=(by first|exact yr pk (by first|exact HY.out) PartM.cells_length (by rfl) (by rfl)|exact yu pk (by first|exact HY.out) PartM.cells_length (by rfl) (by rfl)|exact j0 pk (by first|exact HY.out) PartM.cells_length (by rfl) (by rfl)|exact j3 pk (by first|exact HY.out) PartM.cells_length (by rfl) (by rfl))) ?_)|first|refine xLd H ?_|(refine xEf H ?_;clear H;intro b A' w H))
      go_roundw
      case rel=>exact⟨k+1,_,_,by omega,HU.out.next (y:=⟨col,block,true,dn⟩) (fl':=fl) HX.out (by simp[z8o]),by go_num,H.sub sb⟩
      case measure=>simp[intOf];omega
     ·have s1':(status==1)=false:=by simpa using s1
      go_wp2_with (first|(refine ld1 H (hh:=(by first|exact yr pk (by first|exact HY.out) PartM.cells_length (by rfl) (by rfl)|exact yu pk (by first|exact HY.out) PartM.cells_length (by rfl) (by rfl)|exact j0 pk (by first|exact HY.out) PartM.cells_length (by rfl) (by rfl)|exact j3 pk (by first|exact HY.out) PartM.cells_length (by rfl) (by rfl))) ?_)|first|refine xLd H ?_|(refine xEf H ?_;clear H;intro b A' w H))
      go_roundw
      case rel=>exact⟨k+1,ps.set k ⟨col,block,opn,dn⟩,_,by omega,HU.out.next (y:=⟨col,block,opn,dn⟩) (fl':=!opn) HX.out (by simp[z8o,s1]),by go_num,by rw[SAt.same HU.out HX.out];exact H.sub sb⟩
      case measure=>simp[intOf];omega
    by_cases k5:kind=5
    ·subst k5
     clear k4
     by_cases s1:status=1
     ·subst s1
      by_cases h0:st=0
      ·subst h0
       go_wp2_with (first|(refine ld1 H (hh:=(by first|exact yr pk (by first|exact HY.out) PartM.cells_length (by rfl) (by rfl)|exact yu pk (by first|exact HY.out) PartM.cells_length (by rfl) (by rfl)|exact j0 pk (by first|exact HY.out) PartM.cells_length (by rfl) (by rfl)|exact j3 pk (by first|exact HY.out) PartM.cells_length (by rfl) (by rfl))) ?_)|first|refine xLd H ?_|(refine xEf H ?_;clear H;intro b A' w H))
       go_roundw
       case rel=>exact⟨k+1,ps,fl,by omega,HU.out.stay HX.out (by simp[z8o]),by go_num,H.sub sb⟩
       case measure=>simp[intOf];omega
      ·have h0':(st !=0)=true:=by simpa using h0
       go_wp2_with (first|(refine zr (by rfl) (fun K' hK=>?_);refine jo H (ht:=(by first|exact jw (⟨col,block,opn,true⟩) pk (by first|exact HY.out) PartM.cells_length (by rfl) (by decide) (by rfl)|exact z0r (⟨col,block,opn,true⟩) pk (by first|exact HY.out) PartM.cells_length (by rfl) (by decide) (by rfl)|exact z02 (⟨col,block,opn,true⟩) pk (by first|exact HY.out) PartM.cells_length (by rfl) (by decide) (by rfl)|exact z01 (⟨col,block,opn,true⟩) pk (by first|exact HY.out) PartM.cells_length (by rfl) (by decide) (by rfl))) ?_;clear H;intro w H;refine hK _ _ ?_;clear hK K')|(refine ld1 H (hh:=(by first|exact yr pk (by first|exact HY.out) PartM.cells_length (by rfl) (by rfl)|exact yu pk (by first|exact HY.out) PartM.cells_length (by rfl) (by rfl)|exact j0 pk (by first|exact HY.out) PartM.cells_length (by rfl) (by rfl)|exact j3 pk (by first|exact HY.out) PartM.cells_length (by rfl) (by rfl))) ?_)|first|refine xLd H ?_|(refine xEf H ?_;clear H;intro b A' w H))
       go_roundw
       case rel=>exact⟨k+1,_,_,by omega,HU.out.next (y:=⟨col,block,opn,true⟩) (fl':=fl) HX.out (by simp[z8o,h0]),by go_num,H.sub sb⟩
       case measure=>simp[intOf];omega
     ·have s1':(status !=1)=true:=by simpa using s1
      go_wp2_with (first|(refine ld1 H (hh:=(by first|exact yr pk (by first|exact HY.out) PartM.cells_length (by rfl) (by rfl)|exact yu pk (by first|exact HY.out) PartM.cells_length (by rfl) (by rfl)|exact j0 pk (by first|exact HY.out) PartM.cells_length (by rfl) (by rfl)|exact j3 pk (by first|exact HY.out) PartM.cells_length (by rfl) (by rfl))) ?_)|first|refine xLd H ?_|(refine xEf H ?_;clear H;intro b A' w H))
      go_roundw
      case rel=>exact⟨k+1,ps.set k ⟨col,block,opn,dn⟩,_,by omega,HU.out.next (y:=⟨col,block,opn,dn⟩) (fl':=!dn) HX.out (by simp[z8o,s1]),by go_num,by rw[SAt.same HU.out HX.out];exact H.sub sb⟩
      case measure=>simp[intOf];omega
    ·have k4':(kind==4)=false:=by simpa using k4
     have k5':(kind==5)=false:=by simpa using k5
     go_wp2_with (first|(refine ld1 H (hh:=(by first|exact yr pk (by first|exact HY.out) PartM.cells_length (by rfl) (by rfl)|exact yu pk (by first|exact HY.out) PartM.cells_length (by rfl) (by rfl)|exact j0 pk (by first|exact HY.out) PartM.cells_length (by rfl) (by rfl)|exact j3 pk (by first|exact HY.out) PartM.cells_length (by rfl) (by rfl))) ?_)|first|refine xLd H ?_|(refine xEf H ?_;clear H;intro b A' w H))
     go_roundw
     case rel=>exact⟨k+1,ps,fl,by omega,HU.out.stay HX.out (by simp[z8o,k4,k5]),by go_num,H.sub sb⟩
     case measure=>simp[intOf];omega
   ·have c0:(col !=column)=true:=by simpa using hc
    go_wp2_with (first|(refine ld1 H (hh:=(by first|exact yr pk (by first|exact HY.out) PartM.cells_length (by rfl) (by rfl)|exact yu pk (by first|exact HY.out) PartM.cells_length (by rfl) (by rfl)|exact j0 pk (by first|exact HY.out) PartM.cells_length (by rfl) (by rfl)|exact j3 pk (by first|exact HY.out) PartM.cells_length (by rfl) (by rfl))) ?_)|first|refine xLd H ?_|(refine xEf H ?_;clear H;intro b A' w H))
    go_roundw
    case rel=>exact⟨k+1,ps,fl,by omega,HU.out.stay HX.out (by simp[z8o,hc]),by go_num,H.sub sb⟩
    case measure=>simp[intOf];omega
  ·obtain rfl:k=parts.length:=by omega
   have hp:=hU.ps
   have hl:=hU.fl
   rw[List.take_length,List.drop_length,List.append_nil]at hp
   rw[List.take_length]at hl
   have hlen:parts.length=ps.length:=by rw[hp,z0B]
   subst hp hl
   have HL:=Lib.hid hlen
   clear hU hk hlen
   go_wp2_with (first|refine xLd H ?_|(refine xEf H ?_;clear H;intro b A' w H))
   refine xRe ?_
   exact⟨_,_,rfl,⟨rfl,rfl⟩,z3g.mk (H.sub sba) (by rfl) HL.out (by rfl)⟩
end
theorem zaq (p:Nat) (s:PilotM) (h:PilotH) (c:Int):zi Tryz.prog 205 #[.pointer (some ⟨p,0,none⟩),.int .i64 c] [z7 p z4I (s.cells p h)] fun r K=>r= .int .i64 (z4c s.N s.S s.work.stripe c)/\K=[z7 p z4I (s.cells p h)]:=by
 intro F0 w0 w R H
 try simp only[xNf]at H
 go_enter Tryz.func205,Tryz.ntmps205
 go_upto_region 1 with(first|refine xLd H ?_|(refine xEf H ?_;clear H;intro b A' w H))
 refine xRg [] (fun L=>[L]) H ?_
 clear H;intro w H
 have HS:=H
 refine xO 0 0 HS ?_
 refine xO 1 0 HS ?_
 refine xO 2 0 HS ?_
 refine xV 3 0 HS ?_ (hin:=(.last (zg (cs:=[.int .i64 s.N,.int .i64 s.S]) 2 pk rfl (ze (by rfl)))))
 refine xO 4 0 HS ?_
 refine xO 5 0 HS ?_
 refine xO 6 0 HS ?_
 refine xO 7 0 HS ?_
 refine xL 8 0 HS ?_
 refine xO 9 0 HS ?_
 refine xC 10 0 (z9C s.N s.S s.work.stripe c) H ?_
 clear H HS;intro w H HS
 refine xO 11 0 HS ?_
 refine xD ?_
 go_wp2
 refine xR1 H ?_
 exact xF H
theorem za5 (u:UpdM) (c k st:Int):(u.said c k st).parts.length=u.parts.length:=by
 unfold UpdM.said
 split
 ·rfl
 ·exact z0B _ _ _ _ _ _
abbrev PilotM.saidS (s:PilotM) (u:UpdM) (node:Int) (q:AskM) (y:SayM):PilotM:={s with work:={s.work with upd:=some (u.said (z4c s.N s.S s.work.stripe node) q.kind y.status)}}
abbrev PilotM.onUpdate (s:PilotM) (u:UpdM) (now node:Int) (q:AskM) (y:SayM):PilotM:=
 if jd y false=true then s.refuse now node y false
 else if decide (0<s.calls.opn.length)=true then s.saidS u node q y
 else if((u.said (z4c s.N s.S s.work.stripe node) q.kind y.status).state==1)=true then(s.saidS u node q y).enterUpdate now (u.said (z4c s.N s.S s.work.stripe node) q.kind y.status)
 else if((u.said (z4c s.N s.S s.work.stripe node) q.kind y.status).state==2)=true then(s.saidS u node q y).fin 0 noS else s.saidS u node q y
theorem z8E (p:Nat) (s:PilotM) (u:UpdM) (now node:Int) (q:AskM) (y:SayM) (hs:PilOk 64 s) (hu:s.work.upd=some u) (hmax:u.parts.length<=64):
  zi Tryz.prog 270 #[.pointer (some ⟨p,0,none⟩),.int .i64 now,.int .i64 node,q.v,y.v] [zy p s] fun r K=>r= .tuple #[]/\K=[zy p (s.onUpdate u now node q y)]:=by
 intro F0 w0 w R H
 try simp only[xNf]at H
 have hRF:=z1k p s now node y false (hs.less (by omega))
 unfold PilotM.onUpdate
 cases hb:jd y false with
 |true=>
  rw[if_pos rfl]
  rw[hb]at hRF
  obtain⟨s3,h3⟩:=xG (s.refuse now node y false)
  rw[h3]at hRF⊢
  have HRF:=Lib.hid hRF
  clear hRF h3 hb hs hu hmax
  go_enter Tryz.func270,Tryz.ntmps270
  go_wp2_with (first|(go_at_call 261;refine xT2 (HRF.out) H ?_;clear H;intro w H)|first|refine xLd H ?_|(refine xEf H ?_;clear H;intro b A' w H))
  refine xRz ?_
  exact xF H
 |false=>
  rw[if_neg (by decide)]
  rw[hb]at hRF
  have h3:s.refuse now node y false=s:=by unfold PilotM.refuse;rw[hb,if_neg (by decide)]
  rw[h3]at hRF
  unfold PilotM.saidS
  have hCO:=fun h=>zaq p s h node
  obtain⟨o,ho⟩:=xG (z4c s.N s.S s.work.stripe node)
  rw[ho]at hCO⊢
  have hSA:=fun b=>zjU b u u.state o q.kind y.status hmax rfl
  have hm2:=za5 u o q.kind y.status
  obtain⟨u2,hu2⟩:=xG (u.said o q.kind y.status)
  rw[hu2]at hSA hm2⊢
  have hST:=fun b=>z4o b u2 (by omega)
  have hEU:=z2k p {s with work:={s.work with upd:=some u2}} now u2 rfl (by omega) ⟨hs.last,hs.few,hs.st0,hs.st8⟩
  obtain⟨s9,h9⟩:=xG (PilotM.enterUpdate {s with work:={s.work with upd:=some u2}} now u2)
  rw[h9]at hEU⊢
  obtain⟨st,hst⟩:=xG (u2.state)
  rw[hst]at hST⊢
  have hOP:=fun c=>z2s c s.calls
  obtain⟨n,hn⟩:=xG (s.calls.opn.length)
  rw[hn]at hOP⊢
  have HRF:=Lib.hid hRF
  have HCO:=Lib.hid hCO
  have HSA:=Lib.hid hSA
  have HST:=Lib.hid hST
  have HEU:=Lib.hid hEU
  have HOP:=Lib.hid hOP
  have HU:=Lib.hid hu
  clear hRF hCO hSA hST hEU hOP hu hn hst h9 hu2 hm2 ho h3 hb hs hmax
  cases d0:decide (0<n)with
  |true=>
   rw[if_pos rfl]
   have d00:decide ((n:Int)>0)=true:=by simp at d0⊢;omega
   go_enter Tryz.func270,Tryz.ntmps270
   go_upto_region 2 with(first
    |(go_at_call 261;revert H;refine zi.use HRF.out pks ?_;rintro _ _ w ⟨rfl,rfl⟩ H;try simp only[xNf]at H;obtain⟨bc,kn,re,rd,wv,up,as_,H⟩:=zy.parts .head H;rw[HU.out]at H;simp only[zaT]at H)
    |first|refine xLd H ?_|(refine xEf H ?_;clear H;intro b A' w H))
   refine xRg [12] (fun L=>[L,[]]) H ?_
   clear H;intro w H
   have HS:=H
   refine xO 0 0 HS ?_
   refine xO 1 0 HS ?_
   refine xO 2 0 HS ?_
   refine xO 3 0 HS ?_
   refine xL 4 0 HS ?_ (hin:=(.stop (n:=13) (zc (v:=.pointer (some ⟨up,0,none⟩)) (o:=68) pk (by show some (zjV up s.work.upd)=_;rw[HU.out];rfl)) (by kernel_rfl)))
   refine xO 5 0 HS ?_
   refine xO 6 0 HS ?_
   refine xO 8 0 HS ?_
   refine xL 9 0 HS ?_ (hin:=(.stop (n:=13) hd (by kernel_rfl)))
   refine xO 10 0 HS ?_
   refine xL 11 0 HS ?_ (hin:=(.stop (n:=13) hd (by kernel_rfl)))
   refine xC 7 0 (HCO.out _) H ?_
   clear H HS;intro w H HS
   refine xC 12 1 (HSA.out _) H ?_
   clear H HS;intro w H HS
   refine xD ?_
   go_wp2_with (first|(go_at_call 113;refine xT2 (HOP.out _) H ?_;clear H;intro w H)|first|refine xLd H ?_|(refine xEf H ?_;clear H;intro b A' w H))
   rw[show z3g up u2=zaT up (some u2)from rfl]at H
   have H2:Sep F0 w0 _ (zy p {s with work:={s.work with upd:=some u2}}::R):=zy.join bc kn re rd wv up as_ (u:=some u2) (H.sub sba) (z3j HU.out)
   clear H
   have H:=H2
   clear H2
   refine xRz ?_
   exact xF H
  |false=>
   rw[if_neg (by decide)]
   have d00:decide ((n:Int)>0)=false:=by simp at d0⊢;omega
   cases d1:(st==1)with
   |true=>
    rw[if_pos rfl]
    go_enter Tryz.func270,Tryz.ntmps270
    go_upto_region 2 with(first
     |(go_at_call 261;revert H;refine zi.use HRF.out pks ?_;rintro _ _ w ⟨rfl,rfl⟩ H;try simp only[xNf]at H;obtain⟨bc,kn,re,rd,wv,up,as_,H⟩:=zy.parts .head H;rw[HU.out]at H;simp only[zaT]at H)
     |first|refine xLd H ?_|(refine xEf H ?_;clear H;intro b A' w H))
    refine xRg [12] (fun L=>[L,[]]) H ?_
    clear H;intro w H
    have HS:=H
    refine xO 0 0 HS ?_
    refine xO 1 0 HS ?_
    refine xO 2 0 HS ?_
    refine xO 3 0 HS ?_
    refine xL 4 0 HS ?_ (hin:=(.stop (n:=13) (zc (v:=.pointer (some ⟨up,0,none⟩)) (o:=68) pk (by show some (zjV up s.work.upd)=_;rw[HU.out];rfl)) (by kernel_rfl)))
    refine xO 5 0 HS ?_
    refine xO 6 0 HS ?_
    refine xO 8 0 HS ?_
    refine xL 9 0 HS ?_ (hin:=(.stop (n:=13) hd (by kernel_rfl)))
    refine xO 10 0 HS ?_
    refine xL 11 0 HS ?_ (hin:=(.stop (n:=13) hd (by kernel_rfl)))
    refine xC 7 0 (HCO.out _) H ?_
    clear H HS;intro w H HS
    refine xC 12 1 (HSA.out _) H ?_
    clear H HS;intro w H HS
    refine xD ?_
    go_upto_region 6 with(first|(go_at_call 113;refine xT2 (HOP.out _) H ?_;clear H;intro w H)|(go_at_call 281;refine xT2 (HST.out _) H ?_;clear H;intro w H)|(refine ld1 H (v:=.pointer (some ⟨up,0,none⟩)) (hh:=zc (o:=68) pk (by show some (zjV up s.work.upd)=_;rw[HU.out];rfl)) ?_)|first|refine xLd H ?_|(refine xEf H ?_;clear H;intro b A' w H))
    rw[show z3g up u2=zaT up (some u2)from rfl]at H
    have H2:Sep F0 w0 _ (zy p {s with work:={s.work with upd:=some u2}}::R):=zy.join bc kn re rd wv up as_ (u:=some u2) (H.sub sba) (z3j HU.out)
    clear H
    have H:=H2
    clear H2
    go_wp2_with (first|(go_at_call 249;refine xT2 (HEU.out) H ?_;clear H;intro w H)|first|refine xLd H ?_|(refine xEf H ?_;clear H;intro b A' w H))
    refine xRe ?_
    exact xF H
   |false=>
    rw[if_neg (by decide)]
    cases d2:(st==2)with
    |true=>
     rw[if_pos rfl]
     go_enter Tryz.func270,Tryz.ntmps270
     go_upto_region 2 with(first
      |(go_at_call 261;revert H;refine zi.use HRF.out pks ?_;rintro _ _ w ⟨rfl,rfl⟩ H;try simp only[xNf]at H;obtain⟨bc,kn,re,rd,wv,up,as_,H⟩:=zy.parts .head H;rw[HU.out]at H;simp only[zaT]at H)
      |first|refine xLd H ?_|(refine xEf H ?_;clear H;intro b A' w H))
     refine xRg [12] (fun L=>[L,[]]) H ?_
     clear H;intro w H
     have HS:=H
     refine xO 0 0 HS ?_
     refine xO 1 0 HS ?_
     refine xO 2 0 HS ?_
     refine xO 3 0 HS ?_
     refine xL 4 0 HS ?_ (hin:=(.stop (n:=13) (zc (v:=.pointer (some ⟨up,0,none⟩)) (o:=68) pk (by show some (zjV up s.work.upd)=_;rw[HU.out];rfl)) (by kernel_rfl)))
     refine xO 5 0 HS ?_
     refine xO 6 0 HS ?_
     refine xO 8 0 HS ?_
     refine xL 9 0 HS ?_ (hin:=(.stop (n:=13) hd (by kernel_rfl)))
     refine xO 10 0 HS ?_
     refine xL 11 0 HS ?_ (hin:=(.stop (n:=13) hd (by kernel_rfl)))
     refine xC 7 0 (HCO.out _) H ?_
     clear H HS;intro w H HS
     refine xC 12 1 (HSA.out _) H ?_
     clear H HS;intro w H HS
     refine xD ?_
     go_upto_region 8 with(first|(go_at_call 113;refine xT2 (HOP.out _) H ?_;clear H;intro w H)|(go_at_call 281;refine xT2 (HST.out _) H ?_;clear H;intro w H)|(refine ld1 H (v:=.pointer (some ⟨up,0,none⟩)) (hh:=zc (o:=68) pk (by show some (zjV up s.work.upd)=_;rw[HU.out];rfl)) ?_)|first|refine xLd H ?_|(refine xEf H ?_;clear H;intro b A' w H))
     rw[show z3g up u2=zaT up (some u2)from rfl]at H
     have H2:Sep F0 w0 _ (zy p {s with work:={s.work with upd:=some u2}}::R):=zy.join bc kn re rd wv up as_ (u:=some u2) (H.sub sba) (z3j HU.out)
     clear H
     have H:=H2
     clear H2
     go_wp2_with (first|(go_at_call 155;refine xT2 (z1A _ _ _ _) H ?_;clear H;intro w H)|first|refine xLd H ?_|(refine xEf H ?_;clear H;intro b A' w H))
     refine xRe ?_
     exact xF H
    |false=>
     rw[if_neg (by decide)]
     go_enter Tryz.func270,Tryz.ntmps270
     go_upto_region 2 with(first
      |(go_at_call 261;revert H;refine zi.use HRF.out pks ?_;rintro _ _ w ⟨rfl,rfl⟩ H;try simp only[xNf]at H;obtain⟨bc,kn,re,rd,wv,up,as_,H⟩:=zy.parts .head H;rw[HU.out]at H;simp only[zaT]at H)
      |first|refine xLd H ?_|(refine xEf H ?_;clear H;intro b A' w H))
     refine xRg [12] (fun L=>[L,[]]) H ?_
     clear H;intro w H
     have HS:=H
     refine xO 0 0 HS ?_
     refine xO 1 0 HS ?_
     refine xO 2 0 HS ?_
     refine xO 3 0 HS ?_
     refine xL 4 0 HS ?_ (hin:=(.stop (n:=13) (zc (v:=.pointer (some ⟨up,0,none⟩)) (o:=68) pk (by show some (zjV up s.work.upd)=_;rw[HU.out];rfl)) (by kernel_rfl)))
     refine xO 5 0 HS ?_
     refine xO 6 0 HS ?_
     refine xO 8 0 HS ?_
     refine xL 9 0 HS ?_ (hin:=(.stop (n:=13) hd (by kernel_rfl)))
     refine xO 10 0 HS ?_
     refine xL 11 0 HS ?_ (hin:=(.stop (n:=13) hd (by kernel_rfl)))
     refine xC 7 0 (HCO.out _) H ?_
     clear H HS;intro w H HS
     refine xC 12 1 (HSA.out _) H ?_
     clear H HS;intro w H HS
     refine xD ?_
     go_wp2_with (first|(go_at_call 113;refine xT2 (HOP.out _) H ?_;clear H;intro w H)|(go_at_call 281;refine xT2 (HST.out _) H ?_;clear H;intro w H)|(refine ld1 H (v:=.pointer (some ⟨up,0,none⟩)) (hh:=zc (o:=68) pk (by show some (zjV up s.work.upd)=_;rw[HU.out];rfl)) ?_)|first|refine xLd H ?_|(refine xEf H ?_;clear H;intro b A' w H))
     rw[show z3g up u2=zaT up (some u2)from rfl]at H
     have H2:Sep F0 w0 _ (zy p {s with work:={s.work with upd:=some u2}}::R):=zy.join bc kn re rd wv up as_ (u:=some u2) (H.sub sba) (z3j HU.out)
     clear H
     have H:=H2
     clear H2
     refine xRe ?_
     exact xF H
theorem zcx (c:Nat) (s:CallsM) (l:Letter) (hmax:s.opn.length<=64):zi Tryz.prog 133 #[.pointer (some ⟨c,0,none⟩),l.v] [yk c s] fun v K=>v= .tuple #[(s.answer l).2.1.v,.bool (s.answer l).2.2]/\K=[yk c (s.answer l).1]:=by
 by_cases h:l.answer=true/\l.to=s.frm
 ·exact zej c s l hmax h.1 h.2
 ·refine zgO c s l ?_
  by_cases h1:l.answer=true
  ·exact .inr fun h2=>h ⟨h1,h2⟩
  ·exact .inl (Bool.eq_false_iff.2 h1)
end Go.Proofs.YtmfincpagnpkjaaGreat
