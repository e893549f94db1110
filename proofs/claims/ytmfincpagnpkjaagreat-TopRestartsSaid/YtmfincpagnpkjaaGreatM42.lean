/- Part of the proof. -/
import Derived.Test.YtmfincpagnpkjaaGreatM41
set_option linter.all false
set_option maxRecDepth 100000
set_option maxHeartbeats 100000000
namespace Go.Proofs.YtmfincpagnpkjaaGreat
open Go.RowKit
theorem zeQ:noB.toList=[]:=by rw[ByteArray.toList_eq];rfl
theorem zbZ (A:Option Addr) (c:Nat) (fs:List Fld) (hn:fs.length=7):zi Tryz.prog 89 #[.slice A 7 c] [zh 79 2 (.slice A 7 c) 7 (zo fs)] fun v K=>zfa (ju fs) v/\K=[]:=by
 intro F0 w0 w R H
 try simp only[xNf]at H
 obtain⟨g,c',hA⟩:=zz (n:=7) (v:=.slice A 7 c) H pk (by omega)
 cases hA
 have hc:=z4s H pk
 have hc3:¬c=3:=by omega
 have e7:(fs.length==7)=true:=by rw[hn];rfl
 have hT1:=fun pb lb=>z93 g 7 c lb pb fs ⟨0,0,0,true,AskM.nil,SayM.nil⟩ hn (by omega) (by omega)
 obtain⟨⟨l1,r1⟩,hx1⟩:∃x,jl (fs.map (·.2)) [0,1,2] ⟨0,0,0,true,AskM.nil,SayM.nil⟩=x:=⟨_,rfl⟩
 rw[hx1]at hT1
 simp only at hT1
 have HT1:=Lib.hid hT1
 have HTX:=Lib.hid (zhv (fs:=fs) (k:=6) (o:=13) (by omega) rfl)
 obtain⟨tx,htx⟩:=xG ((fs.map (·.2))[6]?.getD noB)
 rw[htx]at HTX
 have hT2:=fun c' pb lb=>zfx g c c' lb pb fs l1 hn
 obtain⟨⟨l2,r2⟩,hx2⟩:∃x,jl ((fs.map (·.2)).drop 3) [13,14,15] l1=x:=⟨_,rfl⟩
 rw[hx2]at hT2
 simp only at hT2
 have HT2:=Lib.hid hT2
 have hu:=zd0 tx
 obtain⟨⟨r,e⟩,hx3⟩:∃x,jc 0 tx=x:=⟨_,rfl⟩
 rw[hx3]at hu
 simp only at hu
 have HU:=Lib.hid hu
 have HU2:=Lib.hid (show setFrom l2.cells 16 r.cells=(Letter.mk l2.frm l2.to l2.id l2.answer l2.ask ⟨l2.say.status,l2.say.epoch,l2.say.out,r⟩).cells from rfl)
 have hl:ju fs=if !r1 then none else if !r2 then none else if tx.toList==noB.toList then some l2 else if e==0 then some ⟨l2.frm,l2.to,l2.id,l2.answer,l2.ask,⟨l2.say.status,l2.say.epoch,l2.say.out,r⟩⟩else none:=by
  unfold ju
  simp only[e7,hx1,htx,hx2,hx3]
  cases r1<;>simp
 have hans:l1.answer=true:=by
  have:=z4O [0,1,2] (fs.map (·.2)) ⟨0,0,0,true,AskM.nil,SayM.nil⟩
  rw[hx1]at this
  exact this
 have h3:l1.cells[3]?=some (.bool true):=by rw[<-hans];rfl
 have H3:=Lib.hid h3
 clear hx1 htx e7 hn hT1 hT2 hx2 hx3 hu hc hans h3
 cases r1 with
 |false=>
  have e:ju fs=none:=by rw[hl];rfl
  rw[e]
  clear e hl
  go_enter Tryz.func89,Tryz.ntmps89
  go_wp2_with (first|(go_at_call 128;refine xT2 (HT1.out _ _) H ?_;clear H;intro w H)|(refine zp (by rfl) (fun K' hK=>?_);refine z5o 3 H ?_;clear H;intro b3 w H;refine hK _ _ ?_;clear hK K')|(refine z8 (v:=.agg (Letter.mk 0 0 0 true AskM.nil SayM.nil).cells.toArray) (by rfl) (zb (t:=114) rfl ?_) ?_;(·simp only[List.map_cons,List.map_nil];exact z0Y _ _))|first|refine xLd H ?_|(refine xEf H ?_;clear H;intro b A' w H))
  refine xR2 H ?_
  exact⟨_,_,rfl,⟨⟨_,rfl⟩,rfl⟩,H.sub sba⟩
 |true=>
  cases r2 with
  |false=>
   have e:ju fs=none:=by rw[hl];rfl
   rw[e]
   clear e hl
   go_enter Tryz.func89,Tryz.ntmps89
   go_upto_region 7 with(first|(go_at_call 128;refine xT2 (HT1.out _ _) H ?_;clear H;intro w H)|(refine zp (by rfl) (fun K' hK=>?_);refine z5o 3 H ?_;clear H;intro b3 w H;refine hK _ _ ?_;clear hK K')|(refine z8 (v:=.agg (Letter.mk 0 0 0 true AskM.nil SayM.nil).cells.toArray) (by rfl) (zb (t:=114) rfl ?_) ?_;(·simp only[List.map_cons,List.map_nil];exact z0Y _ _))|first|refine xLd H ?_|(refine xEf H ?_;clear H;intro b A' w H))
   go_wp2_with (first|(go_at_call 128;refine xT2 (HT2.out _ _ _) H ?_;clear H;intro w H)|(go_at_call 40;refine xT2 (HU.out) H ?_;clear H;intro w H)|(refine zp (by rfl) (fun K' hK=>?_);refine z5o 3 H ?_;clear H;intro b4 w H;refine hK _ _ ?_;clear hK K')|(refine ld1 H (hh:=(by first|exact zn pk HTX.out|exact zc pk HTX.out|exact zn pk H3.out|exact zc pk H3.out)) ?_)|(refine j1 (by rfl) (by rfl) (fun K' hK=>?_);refine z6S (ty:=54) (cs:=r.cells) H (ht:=jt pk lek) ?_;clear H;intro w H;refine hK _ _ ?_;clear hK K';try rw[HU2.out]at H)|first|refine xLd H ?_|(refine xEf H ?_;clear H;intro b A' w H))
   refine xR2 H ?_
   exact⟨_,_,rfl,⟨⟨_,rfl⟩,rfl⟩,H.sub sba⟩
  |true=>
   cases ht:(tx.toList==noB.toList)with
   |true=>
    have e:ju fs=some l2:=by rw[hl,ht];rfl
    rw[e]
    have ht':tx=noB:=z0N (by simpa using ht)
    subst ht'
    have dt:noB.toList.isEmpty=true:=by rw[zeQ];rfl
    clear e hl ht
    go_enter Tryz.func89,Tryz.ntmps89
    go_upto_region 7 with(first|(go_at_call 128;refine xT2 (HT1.out _ _) H ?_;clear H;intro w H)|(refine zp (by rfl) (fun K' hK=>?_);refine z5o 3 H ?_;clear H;intro b3 w H;refine hK _ _ ?_;clear hK K')|(refine z8 (v:=.agg (Letter.mk 0 0 0 true AskM.nil SayM.nil).cells.toArray) (by rfl) (zb (t:=114) rfl ?_) ?_;(·simp only[List.map_cons,List.map_nil];exact z0Y _ _))|first|refine xLd H ?_|(refine xEf H ?_;clear H;intro b A' w H))
    go_wp2_with (first|(go_at_call 128;refine xT2 (HT2.out _ _ _) H ?_;clear H;intro w H)|(go_at_call 40;refine xT2 (HU.out) H ?_;clear H;intro w H)|(refine zp (by rfl) (fun K' hK=>?_);refine z5o 3 H ?_;clear H;intro b4 w H;refine hK _ _ ?_;clear hK K')|(refine ld1 H (hh:=(by first|exact zn pk HTX.out|exact zc pk HTX.out|exact zn pk H3.out|exact zc pk H3.out)) ?_)|(refine j1 (by rfl) (by rfl) (fun K' hK=>?_);refine z6S (ty:=54) (cs:=r.cells) H (ht:=jt pk lek) ?_;clear H;intro w H;refine hK _ _ ?_;clear hK K';try rw[HU2.out]at H)|first|refine xLd H ?_|(refine xEf H ?_;clear H;intro b A' w H))
    refine xR2 H ?_
    exact xF H
   |false=>
    have dt:(tx.toList==(ByteArray.mk #[]).toList)=false:=ht
    have dt2:tx.toList.isEmpty=false:=by
     cases hh:tx.toList with
     |nil=>
      rw[hh,zeQ]at ht
      cases ht
     |cons a b=>rfl
    rw[ht]at hl
    have HL:=Lib.hid hl
    clear hl ht
    go_enter Tryz.func89,Tryz.ntmps89
    go_upto_region 7 with(first|(go_at_call 128;refine xT2 (HT1.out _ _) H ?_;clear H;intro w H)|(refine zp (by rfl) (fun K' hK=>?_);refine z5o 3 H ?_;clear H;intro b3 w H;refine hK _ _ ?_;clear hK K')|(refine z8 (v:=.agg (Letter.mk 0 0 0 true AskM.nil SayM.nil).cells.toArray) (by rfl) (zb (t:=114) rfl ?_) ?_;(·simp only[List.map_cons,List.map_nil];exact z0Y _ _))|first|refine xLd H ?_|(refine xEf H ?_;clear H;intro b A' w H))
    go_wp2_with (first|(go_at_call 128;refine xT2 (HT2.out _ _ _) H ?_;clear H;intro w H)|(go_at_call 40;refine xT2 (HU.out) H ?_;clear H;intro w H)|(refine zp (by rfl) (fun K' hK=>?_);refine z5o 3 H ?_;clear H;intro b4 w H;refine hK _ _ ?_;clear hK K')|(refine ld1 H (hh:=(by first|exact zn pk HTX.out|exact zc pk HTX.out|exact zn pk H3.out|exact zc pk H3.out)) ?_)|(refine j1 (by rfl) (by rfl) (fun K' hK=>?_);refine z6S (ty:=54) (cs:=r.cells) H (ht:=jt pk lek) ?_;clear H;intro w H;refine hK _ _ ?_;clear hK K';try rw[HU2.out]at H)|first|refine xLd H ?_|(refine xEf H ?_;clear H;intro b A' w H))
    refine xR2 H ?_
    refine⟨_,_,rfl,⟨?_,rfl⟩,H.sub sba⟩
    rw[HL.out]
    cases he:(e==0)
    ·exact⟨_,rfl⟩
    ·rfl
theorem zdt {q:AskM} (h:yb q=true):∀x∈[q.kind,q.stripe,q.epoch,q.seq,q.mask,q.node,q.oe,q.oq],z1d x=true:=by
 have key:(0<=q.kind/\q.kind<=10)/\(0<=q.stripe/\q.stripe<=7)/\(0<=q.epoch/\q.epoch<=16777215)/\(0<=q.seq/\q.seq<=16777215)/\(0<=q.mask/\q.mask<=16777215)/\(0<=q.node/\q.node<=16777215)/\(0<=q.oe/\q.oe<=16777215)/\(0<=q.oq/\q.oq<=16777215):=by
  unfold yb at h
  simp only[Bool.and_eq_true,yx,decide_eq_true_eq]at h
  obtain⟨h1,h⟩:=h
  repeat' split at h
  all_goals first
   |(cases h;done)
   |(simp only[rk1,rk2,rk3,zlL,rk8,rk5,rk6,rk9,rk4,rk7,yx,Bool.and_eq_true,decide_eq_true_eq,beq_iff_eq]at h;omega)
 intro x hx
 simp only[List.mem_cons,List.not_mem_nil,or_false]at hx
 rw[z0J]
 rcases hx with rfl|rfl|rfl|rfl|rfl|rfl|rfl|rfl<;>omega
theorem z9i {n:Int} (h:z39 n=true):0<=n/\n<202:=by
 unfold z39 at h
 simp only[Bool.or_eq_true,Bool.and_eq_true,decide_eq_true_eq,beq_iff_eq]at h
 omega
theorem z6d {l:Letter} (h:z03 l=true):∀x∈[l.frm,l.to,l.id],z1d x=true:=by
 unfold z03 at h
 simp only[Bool.and_eq_true,decide_eq_true_eq]at h
 obtain⟨h1,h2,h3,h4,_⟩:=h
 have p1:=z9i h1
 have p2:=z9i h2
 intro x hx
 simp only[List.mem_cons,List.not_mem_nil,or_false]at hx
 rw[z0J]
 rcases hx with rfl|rfl|rfl<;>omega
theorem z8B {s:SayM} (h:z14 s=true):(∀x∈[s.status,s.epoch,s.out],z1d x=true)/\jg s.rcd=true:=by
 unfold z14 at h
 simp only[Bool.and_eq_true,decide_eq_true_eq]at h
 obtain⟨h1,h2,h3,h4,h5,h6,h7⟩:=h
 refine⟨fun x hx=>?_,h7⟩
 simp only[List.mem_cons,List.not_mem_nil,or_false]at hx
 rw[z0J]
 rcases hx with rfl|rfl|rfl<;>omega
def z0f (l:Letter):List Fld:=
 zav 1 [l.frm,l.to,l.id]++if l.answer then zav 32 [l.say.status,l.say.epoch,l.say.out]++[(35,if l.say.rcd.same Rec.nil then noB else z2N 0 l.say.rcd)]
  else zav 16 [l.ask.kind,l.ask.stripe,l.ask.epoch,l.ask.seq,l.ask.mask,l.ask.node,l.ask.oe,l.ask.oq]++[(24,l.ask.block)]
theorem z5Z (W:World):(Instr.build 54 #[]).run Tryz.prog W= .ok (.agg Rec.nil.cells.toArray) W:=by kernel_rfl
theorem zj2 (t:Int) (s:ByteArray):zo [(t,s)]=[.int .i64 t,.string s]:=rfl
theorem zcm (l:Letter) (h:z03 l=true) (ha:l.answer=false):zi Tryz.prog 130 #[l.v] [] fun v K=>∃A c,v= .tuple #[.slice A 12 c,.bool true]/\K=[zh 79 2 (.slice A 12 c) 12 (zo (z0f l))]:=by
 intro F0 w0 w R H
 try simp only[xNf]at H
 have hq:yb l.ask=true:=by
  unfold z03 at h
  rw[ha]at h
  simp only[Bool.and_eq_true]at h
  have:=h.2.2.2.2
  rw[if_neg (by decide),Bool.and_eq_true]at this
  exact this.2
 have hn1:=z6d h
 have hn2:=zdt hq
 have hf:z0f l=(zav 1 [l.frm,l.to,l.id]++zav 16 [l.ask.kind,l.ask.stripe,l.ask.epoch,l.ask.seq,l.ask.mask,l.ask.node,l.ask.oe,l.ask.oq])++[(24,l.ask.block)]:=by
  unfold z0f
  rw[ha,if_neg (by decide),List.append_assoc]
 rw[hf]
 obtain⟨lf,lt,id,la,lq,ls⟩:=l
 simp only at*
 subst ha
 obtain⟨F1,hF1⟩:∃F1,F1=zav 1 [lf,lt,id]:=⟨_,rfl⟩
 have h1:∀v2,zi Tryz.prog 179 #[.slice none 0 0,.int .i64 1,v2] [zh 79 2 (.slice none 0 0) 0 [],zh 3 1 v2 3 [.int .i64 lf,.int .i64 lt,.int .i64 id]] fun v K=>∃A c,v= .tuple #[.slice A 3 c,.bool true]/\K=[zh 79 2 (.slice A 3 c) 3 (zo F1),zh 3 1 v2 3 [.int .i64 lf,.int .i64 lt,.int .i64 id]]:=by
  rw[hF1]
  exact fun v2=>z1U (.slice none 0 0) v2 1 [] [lf,lt,id] 0 rfl (by omega) (by simp) hn1 (by omega)
 have hl1:F1.length=3:=by rw[hF1,z1C];rfl
 obtain⟨qk,qst,qe,qs,qm,qn,oe,oq,qb⟩:=lq
 simp only at*
 obtain⟨F2,hF2⟩:∃F2,F2=F1++zav 16 [qk,qst,qe,qs,qm,qn,oe,oq]:=⟨_,rfl⟩
 have h2:∀A c v2,zi Tryz.prog 179 #[.slice A 3 c,.int .i64 16,v2] [zh 79 2 (.slice A 3 c) 3 (zo F1),zh 3 1 v2 8 [.int .i64 qk,.int .i64 qst,.int .i64 qe,.int .i64 qs,.int .i64 qm,.int .i64 qn,.int .i64 oe,.int .i64 oq]] fun v K=>∃A c,v= .tuple #[.slice A 11 c,.bool true]/\K=[zh 79 2 (.slice A 11 c) 11 (zo F2),zh 3 1 v2 8 [.int .i64 qk,.int .i64 qst,.int .i64 qe,.int .i64 qs,.int .i64 qm,.int .i64 qn,.int .i64 oe,.int .i64 oq]]:=by
  rw[hF2]
  exact fun A c v2=>z1U (.slice A 3 c) v2 16 F1 [qk,qst,qe,qs,qm,qn,oe,oq] 3 hl1 (by omega) (by simp) hn2 (by omega)
 rw[<-hF1,<-hF2,z06,zj2]
 have H1:=Lib.hid h1
 have H2:=Lib.hid h2
 clear h1 h2 hF1 hF2 hn1 hn2 hf hl1 h hq
 replace H:=Sep.mk_row_nil (e:=79) (size:=2) H
 go_enter Tryz.func130,Tryz.ntmps130
 go_upto_region 5 with(first|(go_at_call_of 179 (Value.int IntKind.i64 1);revert H;refine zi.use (H1.out _) pks ?_;rintro _ _ w ⟨A3,c3,rfl,rfl⟩ H;try simp only[xNf]at H)|(refine zp (by rfl) (fun K' hK=>?_);refine z5o 3 H ?_;clear H;intro b3 w H;refine hK _ _ ?_;clear hK K')|first|refine xLd H ?_|(refine xEf H ?_;clear H;intro b A' w H))
 go_wp2_with (first|(go_at_call_of 179 (Value.int IntKind.i64 16);revert H;refine zi.use (H2.out _ _ _) pks ?_;rintro _ _ w ⟨A4,c4,rfl,rfl⟩ H;try simp only[xNf]at H)|(refine zp (by rfl) (fun K' hK=>?_);refine z5o 8 H ?_;clear H;intro b4 w H;refine hK _ _ ?_;clear hK K')|(refine ldr H (ty:=110) (cs:=(AskM.mk qk qst qe qs qm qn oe oq qb).cells) (hh:=by exact zg 9 pk (by rfl) (ze (by rfl))) ?_)|(refine z8 (v:=.agg #[.int .i64 24,.string qb]) (by rfl) (zb (t:=79) rfl ?_) ?_;(·simp only[List.map_cons,List.map_nil];exact z5k _ _ _))|first|refine xLd H ?_|(refine xEf H ?_;clear H;intro b A' w H))
 refine xR2 H ?_
 exact⟨_,_,rfl,⟨_,_,rfl,rfl⟩,H.sub sba⟩
theorem zif (r:Rec) (h:jg r=true) (hb:r.block.size<=9223372036854775807) (hs:r.staged.size<=9223372036854775807):zi Tryz.prog 76 #[.int .i64 0,r.v] [] fun v K=>v= .tuple #[.string (z2N 0 r),.int .i64 0]/\K=[]:=by
 have e:z8H 0 r= .tuple #[.string (z2N 0 r),.int .i64 0]:=by unfold z8H z1B;rw[h];rfl
 rw[<-e]
 exact zm fun w=>z1r 0 r w hb hs
theorem zcl (l:Letter) (h:z03 l=true) (ha:l.answer=true) (hb:l.say.rcd.block.size<=9223372036854775807) (hs:l.say.rcd.staged.size<=9223372036854775807):zi Tryz.prog 130 #[l.v] [] fun v K=>∃A c,v= .tuple #[.slice A 7 c,.bool true]/\K=[zh 79 2 (.slice A 7 c) 7 (zo (z0f l))]:=by
 intro F0 w0 w R H
 try simp only[xNf]at H
 have hq:z14 l.say=true:=by
  unfold z03 at h
  rw[ha]at h
  simp only[Bool.and_eq_true]at h
  have:=h.2.2.2.2
  rw[if_pos trivial,Bool.and_eq_true]at this
  exact this.2
 have hn1:=z6d h
 obtain⟨hn2,hr⟩:=z8B hq
 have hf:z0f l=(zav 1 [l.frm,l.to,l.id]++zav 32 [l.say.status,l.say.epoch,l.say.out])++[(35,if l.say.rcd.same Rec.nil then noB else z2N 0 l.say.rcd)]:=by
  unfold z0f
  rw[ha,if_pos rfl,List.append_assoc]
 have HP:=Lib.hid (zif l.say.rcd hr hb hs)
 rw[hf]
 obtain⟨lf,lt,id,la,lq,ls⟩:=l
 simp only at*
 subst ha
 obtain⟨F1,hF1⟩:∃F1,F1=zav 1 [lf,lt,id]:=⟨_,rfl⟩
 have h1:∀v2,zi Tryz.prog 179 #[.slice none 0 0,.int .i64 1,v2] [zh 79 2 (.slice none 0 0) 0 [],zh 3 1 v2 3 [.int .i64 lf,.int .i64 lt,.int .i64 id]] fun v K=>∃A c,v= .tuple #[.slice A 3 c,.bool true]/\K=[zh 79 2 (.slice A 3 c) 3 (zo F1),zh 3 1 v2 3 [.int .i64 lf,.int .i64 lt,.int .i64 id]]:=by
  rw[hF1]
  exact fun v2=>z1U (.slice none 0 0) v2 1 [] [lf,lt,id] 0 rfl (by omega) (by simp) hn1 (by omega)
 have hl1:F1.length=3:=by rw[hF1,z1C];rfl
 obtain⟨st,ep,out,r⟩:=ls
 simp only at*
 obtain⟨F2,hF2⟩:∃F2,F2=F1++zav 32 [st,ep,out]:=⟨_,rfl⟩
 have h2:∀A c v2,zi Tryz.prog 179 #[.slice A 3 c,.int .i64 32,v2] [zh 79 2 (.slice A 3 c) 3 (zo F1),zh 3 1 v2 3 [.int .i64 st,.int .i64 ep,.int .i64 out]] fun v K=>∃A c,v= .tuple #[.slice A 6 c,.bool true]/\K=[zh 79 2 (.slice A 6 c) 6 (zo F2),zh 3 1 v2 3 [.int .i64 st,.int .i64 ep,.int .i64 out]]:=by
  rw[hF2]
  exact fun A c v2=>z1U (.slice A 3 c) v2 32 F1 [st,ep,out] 3 hl1 (by omega) (by simp) hn2 (by omega)
 rw[<-hF1,<-hF2,z06,zj2]
 have hE:=z7O r Rec.nil (.tmp 78) (.tmp 79)
 obtain⟨es,hes⟩:=xG (r.same Rec.nil)
 obtain⟨pb,hpb⟩:=xG (z2N 0 r)
 rw[hes]at hE⊢
 rw[hpb]at HP⊢
 have H1:=Lib.hid h1
 have H2:=Lib.hid h2
 have HE:=Lib.hid hE
 clear h1 h2 hF1 hF2 hn1 hn2 hf hl1 h hq hr hb hs hes hpb hE
 obtain⟨u,f,de,ds,bl,op,ie,iq,m,sg⟩:=r
 replace H:=Sep.mk_row_nil (e:=79) (size:=2) H
 cases es
 ·rw[if_neg (by decide)]
  go_enter Tryz.func130,Tryz.ntmps130
  go_upto_region 8 with(first|(go_at_call_of 179 (Value.int IntKind.i64 1);revert H;refine zi.use (H1.out _) pks ?_;rintro _ _ w ⟨A3,c3,rfl,rfl⟩ H;try simp only[xNf]at H)|(refine zp (by rfl) (fun K' hK=>?_);refine z5o 3 H ?_;clear H;intro b3 w H;refine hK _ _ ?_;clear hK K')|first|refine xLd H ?_|(refine xEf H ?_;clear H;intro b A' w H))
  go_wp2_with (first|(go_at_call_of 179 (Value.int IntKind.i64 32);revert H;refine zi.use (H2.out _ _ _) pks ?_;rintro _ _ w ⟨A4,c4,rfl,rfl⟩ H;try simp only[xNf]at H)|(go_at_call 76;refine xT2 (HP.out) H ?_;clear H;intro w H)|(refine zp (by rfl) (fun K' hK=>?_);refine z5o 3 H ?_;clear H;intro b4 w H;refine hK _ _ ?_;clear hK K')|(refine z8 (by rfl) (yg (v1:=.agg (Rec.mk u f de ds bl op ie iq m sg).cells.toArray) (v2:=.agg Rec.nil.cells.toArray) rfl rfl rfl (HE.out _)) ?_)|(refine z8 (v:=.agg Rec.nil.cells.toArray) (by rfl) (zb (t:=54) rfl ?_) ?_;(·simp only[List.map_cons,List.map_nil];exact z5Z _))|(refine ldr H (ty:=54) (cs:=(Rec.mk u f de ds bl op ie iq m sg).cells) (hh:=by exact zg 10 pk (by rfl) (ze (by rfl))) ?_)|(refine z8 (v:=.agg #[.int .i64 35,.string pb]) (by rfl) (zb (t:=79) rfl ?_) ?_;(·simp only[List.map_cons,List.map_nil];exact z5k _ _ _))|first|refine xLd H ?_|(refine xEf H ?_;clear H;intro b A' w H))
  refine xR2 H ?_
  exact⟨_,_,rfl,⟨_,_,rfl,rfl⟩,H.sub sba⟩
 ·rw[if_pos rfl]
  go_enter Tryz.func130,Tryz.ntmps130
  go_upto_region 8 with(first|(go_at_call_of 179 (Value.int IntKind.i64 1);revert H;refine zi.use (H1.out _) pks ?_;rintro _ _ w ⟨A3,c3,rfl,rfl⟩ H;try simp only[xNf]at H)|(refine zp (by rfl) (fun K' hK=>?_);refine z5o 3 H ?_;clear H;intro b3 w H;refine hK _ _ ?_;clear hK K')|first|refine xLd H ?_|(refine xEf H ?_;clear H;intro b A' w H))
  go_wp2_with (first|(go_at_call_of 179 (Value.int IntKind.i64 32);revert H;refine zi.use (H2.out _ _ _) pks ?_;rintro _ _ w ⟨A4,c4,rfl,rfl⟩ H;try simp only[xNf]at H)|(refine zp (by rfl) (fun K' hK=>?_);refine z5o 3 H ?_;clear H;intro b4 w H;refine hK _ _ ?_;clear hK K')|(refine z8 (by rfl) (yg (v1:=.agg (Rec.mk u f de ds bl op ie iq m sg).cells.toArray) (v2:=.agg Rec.nil.cells.toArray) rfl rfl rfl (HE.out _)) ?_)|(refine z8 (v:=.agg Rec.nil.cells.toArray) (by rfl) (zb (t:=54) rfl ?_) ?_;(·simp only[List.map_cons,List.map_nil];exact z5Z _))|(refine ldr H (ty:=54) (cs:=(Rec.mk u f de ds bl op ie iq m sg).cells) (hh:=by exact zg 10 pk (by rfl) (ze (by rfl))) ?_)|(refine z8 (v:=.agg #[.int .i64 35,.string noB]) (by rfl) (zb (t:=79) rfl ?_) ?_;(·simp only[List.map_cons,List.map_nil];exact z5k _ _ _))|first|refine xLd H ?_|(refine xEf H ?_;clear H;intro b A' w H))
  refine xR2 H ?_
  exact⟨_,_,rfl,⟨_,_,rfl,rfl⟩,H.sub sba⟩
def zeH (l:Letter):Option ByteArray:=
 if z03 l&&z6C (z0f l)&&decide ((z6m (z0f l)).length<=800)then some (z83 ⟨(z6m (z0f l)).toArray⟩)else none
def zlu (o:Option ByteArray):Value:=.tuple #[.string (o.getD noB),.int .i64 (if o.isSome then 0 else 120)]
theorem zkV (l:List Fld) (A:Option Addr) (n c:Nat) (hln:l.length=n):zi Tryz.prog 131 #[.slice A n c] [zh 79 2 (.slice A n c) n (zo l)] fun v K=>v= .tuple #[.string ⟨(z6m l).toArray⟩,.int .i64 (z7W l)]/\K=[zh 79 2 (.slice A n c) n (zo l)]:=by
 intro F0 w0 w R H
 refine(zc4 l A n c w (Rd.of_own (H.row .head)) hln).mono ?_
 rintro e w' ⟨rfl,hb⟩
 exact⟨_,_,rfl,⟨rfl,rfl⟩,H.below hb⟩
theorem zgC (p:ByteArray) (hp:p.size<=800):zi Tryz.prog 132 #[.string p] [] fun v K=>v= .tuple #[.string (z83 p),.int .i64 0]/\K=[]:=zm fun w=>zla p w hp
theorem zgD (p:ByteArray) (hp:800<p.size):zi Tryz.prog 132 #[.string p] [] fun v K=>v= .tuple #[.string noB,.int .i64 40]/\K=[]:=zm fun w=>zmc p w hp
theorem zaG (l:Letter) (h:z03 l=true) (hb:l.say.rcd.block.size<=9223372036854775807) (hs:l.say.rcd.staged.size<=9223372036854775807):zi Tryz.prog 130 #[l.v] [] fun v K=>∃A n c,(z0f l).length=n/\v= .tuple #[.slice A n c,.bool true]/\K=[zh 79 2 (.slice A n c) n (zo (z0f l))]:=by
 intro F0 w0 w R H
 cases ha:l.answer with
 |true=>
  refine(zcl l h ha hb hs F0 w0 w R H).mono ?_
  rintro v w' ⟨K,w2,he,⟨A,c,rfl,rfl⟩,H'⟩
  exact⟨_,_,he,⟨A,7,c,by unfold z0f;rw[ha];simp[z1C],rfl,rfl⟩,H'⟩
 |false=>
  refine(zcm l h ha F0 w0 w R H).mono ?_
  rintro v w' ⟨K,w2,he,⟨A,c,rfl,rfl⟩,H'⟩
  exact⟨_,_,he,⟨A,12,c,by unfold z0f;rw[ha];simp[z1C],rfl,rfl⟩,H'⟩
theorem z7R (l:Letter) (hb:l.say.rcd.block.size<=9223372036854775807) (hs:l.say.rcd.staged.size<=9223372036854775807):zi Tryz.prog 90 #[l.v] [] fun v K=>v=zlu (zeH l)/\K=[]:=by
 intro F0 w0 w R H
 try simp only[xNf]at H
 have HR:=Lib.hid (z7Q l hb hs)
 cases h:z03 l with
 |false=>
  have e:zeH l=none:=by unfold zeH;rw[h];rfl
  rw[e]
  rw[h]at HR
  clear h e hb hs
  go_enter Tryz.func90,Tryz.ntmps90
  go_wp2_with (first|(go_at_call 129;refine xT2 (HR.out) H ?_;clear H;intro w H)|first|refine xLd H ?_|(refine xEf H ?_;clear H;intro b A' w H))
  refine xR2 H ?_
  exact xF H
 |true=>
  rw[h]at HR
  have HF:=Lib.hid (zaG l h hb hs)
  have HL:=Lib.hid (fun A n c hn=>zkV (z0f l) A n c hn)
  obtain⟨fs,hfs⟩:=xG (z0f l)
  have hp:zeH l=if z6C fs&&decide ((z6m fs).length<=800)then some (z83 ⟨(z6m fs).toArray⟩)else none:=by unfold zeH;rw[h,Bool.true_and,hfs]
  rw[hp]
  rw[hfs]at HF HL
  clear hp h hb hs hfs
  obtain⟨p,hpp⟩:∃p:ByteArray,p=⟨(z6m fs).toArray⟩:=⟨_,rfl⟩
  have hsz:(z6m fs).length=p.size:=by rw[hpp];simp[ByteArray.size]
  rw[<-hpp]at HL⊢
  rw[hsz]
  cases hok:z6C fs with
  |false=>
   rw[Bool.false_and,if_neg (by decide)]
   have he:z7W fs=30:=by unfold z7W;rw[if_neg (by rw[hok];decide)]
   rw[he]at HL
   clear he hok hsz hpp
   go_enter Tryz.func90,Tryz.ntmps90
   go_wp2_with (first|(go_at_call 129;refine xT2 (HR.out) H ?_;clear H;intro w H)|(go_at_call 130;revert H;refine zi.use HF.out pks ?_;rintro _ _ w ⟨A1,n1,c1,hn1,rfl,rfl⟩ H;try simp only[xNf]at H;replace hn1:=Lib.hid hn1)|(go_at_call 131;refine xT2 (HL.out _ _ _ hn1.out) H ?_;clear H;intro w H)|first|refine xLd H ?_|(refine xEf H ?_;clear H;intro b A' w H))
   refine xR2 H ?_
   exact xF H
  |true=>
   rw[Bool.true_and]
   have he:z7W fs=0:=by unfold z7W;rw[if_pos hok]
   rw[he]at HL
   by_cases h8:p.size<=800
   ·rw[if_pos (by simpa using h8)]
    have HY:=Lib.hid (zgC p h8)
    clear he hok hsz hpp h8
    go_enter Tryz.func90,Tryz.ntmps90
    go_wp2_with (first|(go_at_call 129;refine xT2 (HR.out) H ?_;clear H;intro w H)|(go_at_call 130;revert H;refine zi.use HF.out pks ?_;rintro _ _ w ⟨A1,n1,c1,hn1,rfl,rfl⟩ H;try simp only[xNf]at H;replace hn1:=Lib.hid hn1)|(go_at_call 131;refine xT2 (HL.out _ _ _ hn1.out) H ?_;clear H;intro w H)|(go_at_call 132;refine xT2 (HY.out) H ?_;clear H;intro w H)|first|refine xLd H ?_|(refine xEf H ?_;clear H;intro b A' w H))
    refine xR2 H ?_
    exact xF H
   ·rw[if_neg (by simpa using h8)]
    have HY:=Lib.hid (zgD p (by omega))
    clear he hok hsz hpp h8
    go_enter Tryz.func90,Tryz.ntmps90
    go_wp2_with (first|(go_at_call 129;refine xT2 (HR.out) H ?_;clear H;intro w H)|(go_at_call 130;revert H;refine zi.use HF.out pks ?_;rintro _ _ w ⟨A1,n1,c1,hn1,rfl,rfl⟩ H;try simp only[xNf]at H;replace hn1:=Lib.hid hn1)|(go_at_call 131;refine xT2 (HL.out _ _ _ hn1.out) H ?_;clear H;intro w H)|(go_at_call 132;refine xT2 (HY.out) H ?_;clear H;intro w H)|first|refine xLd H ?_|(refine xEf H ?_;clear H;intro b A' w H))
    refine xR2 H ?_
    exact xF H
def zh6 (s:ByteArray):Option Letter:=
 match z5e s with
 |none=>none
 |some p=>
  if z1N p.data.toList=0 then
   match ju (z0G p.data.toList)with
   |none=>none
   |some l=>if zeH l=some s then some l else none
  else none
def zns (o:Option Letter):Value:=match o with
 |some l=>.tuple #[l.v,.int .i64 0]
 |none=>.tuple #[Letter.nil.v,.int .i64 120]
theorem zaB (A:Option Addr) (n c:Nat) (fs:List Fld) (hn:fs.length=n):zi Tryz.prog 89 #[.slice A n c] [zh 79 2 (.slice A n c) n (zo fs)] fun v K=>zfa (ju fs) v/\K=[]:=by
 by_cases h7:n=7
 ·subst h7;exact zbZ A c fs hn
 ·by_cases h12:n=12
  ·subst h12;exact zc0 A c fs hn
  ·exact z8L A n c fs hn h7 h12
theorem zgB (s:ByteArray) (hs:s.size<=9223372036854775807):zi Tryz.prog 87 #[.string s] [] fun v K=>v=z5d s/\K=[]:=zm fun w=>ze4 s w hs
theorem zfl (s:ByteArray):zi Tryz.prog 88 #[.string s] [] fun v K=>∃A c,v= .tuple #[.slice A (z0G s.data.toList).length c,.int .i64 (z1N s.data.toList)]/\K=[zh 79 2 (.slice A (z0G s.data.toList).length c) (z0G s.data.toList).length (zo (z0G s.data.toList))]:=by
 intro F0 w0 w R H
 refine(z1q s w).mono ?_
 rintro e w' ⟨v,rfl,ho,hb⟩
 have H2:=H.newRow hb ho
 obtain⟨A,c,rfl⟩:=zt H2 .head
 exact⟨_,_,rfl,⟨A,c,rfl,rfl⟩,H2⟩
theorem z1u (W:World):(Instr.build 114 #[]).run Tryz.prog W= .ok (.agg Letter.nil.cells.toArray) W:=by kernel_rfl
theorem zkh (l:Letter) (o:Nat) (x:Int):(setL l o x).say.rcd=l.say.rcd:=by
 unfold setL
 split<;>rfl
theorem zfz:∀(os:List Nat) (ts:List ByteArray) (l:Letter),(jl ts os l).1.say.rcd=l.say.rcd:=by
 intro os
 induction os with
 |nil=>intro ts l;cases ts<;>simp[jl]
 |cons o os ih=>
  intro ts l
  cases ts with
  |nil=>simp[jl]
  |cons t ts=>
   unfold jl
   split
   ·rw[ih,zkh]
   ·rfl
theorem z9P (s:ByteArray):(jc 0 s).1.block.size<=16/\(jc 0 s).1.staged.size<=16:=by
 have:=z4t [s] 0
 simpa [z2j]using this
theorem zaC {fs:List Fld} {l:Letter} (h:ju fs=some l):l.say.rcd.block.size<=16/\l.say.rcd.staged.size<=16:=by
 have hn:Rec.nil.block.size<=16/\Rec.nil.staged.size<=16:=by decide
 unfold ju at h
 simp only at h
 repeat' split at h
 all_goals first
  |(cases h;done)
  |(simp only[Option.some.injEq]at h;subst h;simp only[zfz];first|exact hn|exact z9P _)
theorem ziA (s:ByteArray) (hs:s.size<=9223372036854775807):zi Tryz.prog 59 #[.string s] [] fun v K=>v=zns (zh6 s)/\K=[]:=by
 intro F0 w0 w R H
 try simp only[xNf]at H
 have ho:=zgB s hs
 cases h1:z5e s with
 |none=>
  have e:zh6 s=none:=by unfold zh6;rw[h1]
  rw[z84 h1]at ho
  rw[e]
  have HO:=Lib.hid ho
  clear e h1 ho hs
  go_enter Tryz.func59,Tryz.ntmps59
  go_wp2_with (first|(go_at_call 87;refine xT2 (HO.out) H ?_;clear H;intro w H)|(refine z8 (v:=.agg Letter.nil.cells.toArray) (by rfl) (zb (t:=114) rfl ?_) ?_;(·simp only[List.map_cons,List.map_nil];exact z1u _))|first|refine xLd H ?_|(refine xEf H ?_;clear H;intro b A' w H))
  refine xR2 H ?_
  exact xF H
 |some p=>
  rw[ze5 h1]at ho
  have HO:=Lib.hid ho
  have ht:=zfl p
  have hg:zh6 s=if z1N p.data.toList=0 then(match ju (z0G p.data.toList)with|none=>none|some l=>if zeH l=some s then some l else none)else none:=by unfold zh6;rw[h1]
  obtain⟨fs,hfs⟩:=xG (z0G p.data.toList)
  obtain⟨te,hte⟩:=xG (z1N p.data.toList)
  rw[hfs,hte]at ht hg
  obtain⟨n,hn⟩:=xG (fs.length)
  rw[hn]at ht
  have HT:=Lib.hid ht
  by_cases h0:te=0
  ·subst h0
   rw[if_pos rfl]at hg
   have hl:=fun A c=>zaB A n c fs hn
   cases hm:ju fs with
   |none=>
    rw[hm]at hg hl
    rw[hg]
    have HL:=Lib.hid hl
    clear hg h1 hfs hte hn hm hl ho ht hs
    go_enter Tryz.func59,Tryz.ntmps59
    go_wp2_with (first|(go_at_call 87;refine xT2 (HO.out) H ?_;clear H;intro w H)|(go_at_call 88;refine xTr (HT.out) H ?_;clear H;rintro _ _ w ⟨A1,c1,rfl,rfl⟩ H;try simp only[xNf]at H)|(go_at_call 89;revert H;refine zi.use (HL.out _ _) pks ?_;rintro _ _ w ⟨⟨l9,rfl⟩,rfl⟩ H;try simp only[xNf]at H)|(refine z8 (v:=.agg Letter.nil.cells.toArray) (by rfl) (zb (t:=114) rfl ?_) ?_;(·simp only[List.map_cons,List.map_nil];exact z1u _))|first|refine xLd H ?_|(refine xEf H ?_;clear H;intro b A' w H))
    refine xR2 H ?_
    exact xF H
   |some l=>
    have hz:=zaC hm
    rw[hm]at hg hl
    simp only at hg
    have hp:=z7R l (by omega) (by omega)
    obtain⟨ob,hob⟩:=xG (zeH l)
    rw[hob]at hp hg
    have HL:=Lib.hid hl
    have HP:=Lib.hid hp
    clear h1 hfs hte hn hm hl ho ht hs hz hob hp
    cases ob with
    |none=>
     have e:zh6 s=none:=by rw[hg];rfl
     rw[e]
     clear e hg
     go_enter Tryz.func59,Tryz.ntmps59
     go_wp2_with (first|(go_at_call 87;refine xT2 (HO.out) H ?_;clear H;intro w H)|(go_at_call 88;refine xTr (HT.out) H ?_;clear H;rintro _ _ w ⟨A1,c1,rfl,rfl⟩ H;try simp only[xNf]at H)|(go_at_call 89;revert H;refine zi.use (HL.out _ _) pks ?_;rintro _ _ w ⟨rfl,rfl⟩ H;try simp only[xNf]at H)|(go_at_call 90;revert H;refine zi.use HP.out pks ?_;rintro _ _ w ⟨rfl,rfl⟩ H;try simp only[xNf]at H;simp only[zlu,Option.getD_none,Option.isSome_none])|(refine z8 (v:=.agg Letter.nil.cells.toArray) (by rfl) (zb (t:=114) rfl ?_) ?_;(·simp only[List.map_cons,List.map_nil];exact z1u _))|first|refine xLd H ?_|(refine xEf H ?_;clear H;intro b A' w H))
     refine xR2 H ?_
     exact xF H
    |some x=>
     by_cases hxs:x=s
     ·subst hxs
      have e:zh6 x=some l:=by rw[hg,if_pos rfl]
      rw[e]
      have dt:(x.toList==x.toList)=true:=by simp
      clear e hg
      go_enter Tryz.func59,Tryz.ntmps59
      go_wp2_with (first|(go_at_call 87;refine xT2 (HO.out) H ?_;clear H;intro w H)|(go_at_call 88;refine xTr (HT.out) H ?_;clear H;rintro _ _ w ⟨A1,c1,rfl,rfl⟩ H;try simp only[xNf]at H)|(go_at_call 89;revert H;refine zi.use (HL.out _ _) pks ?_;rintro _ _ w ⟨rfl,rfl⟩ H;try simp only[xNf]at H)|(go_at_call 90;revert H;refine zi.use HP.out pks ?_;rintro _ _ w ⟨rfl,rfl⟩ H;try simp only[xNf]at H;simp only[zlu,Option.getD_some,Option.isSome_some])|(refine z8 (v:=.agg Letter.nil.cells.toArray) (by rfl) (zb (t:=114) rfl ?_) ?_;(·simp only[List.map_cons,List.map_nil];exact z1u _))|first|refine xLd H ?_|(refine xEf H ?_;clear H;intro b A' w H))
      refine xR2 H ?_
      exact xF H
     ·have e:zh6 s=none:=by rw[hg,if_neg (by simpa using hxs)]
      rw[e]
      have dt:(x.toList==s.toList)=false:=by
       cases h:(x.toList==s.toList)with
       |false=>rfl
       |true=>exact absurd (z0N (by simpa using h)) hxs
      clear e hg hxs
      go_enter Tryz.func59,Tryz.ntmps59
      go_wp2_with (first|(go_at_call 87;refine xT2 (HO.out) H ?_;clear H;intro w H)|(go_at_call 88;refine xTr (HT.out) H ?_;clear H;rintro _ _ w ⟨A1,c1,rfl,rfl⟩ H;try simp only[xNf]at H)|(go_at_call 89;revert H;refine zi.use (HL.out _ _) pks ?_;rintro _ _ w ⟨rfl,rfl⟩ H;try simp only[xNf]at H)|(go_at_call 90;revert H;refine zi.use HP.out pks ?_;rintro _ _ w ⟨rfl,rfl⟩ H;try simp only[xNf]at H;simp only[zlu,Option.getD_some,Option.isSome_some])|(refine z8 (v:=.agg Letter.nil.cells.toArray) (by rfl) (zb (t:=114) rfl ?_) ?_;(·simp only[List.map_cons,List.map_nil];exact z1u _))|first|refine xLd H ?_|(refine xEf H ?_;clear H;intro b A' w H))
      refine xR2 H ?_
      exact xF H
  ·rw[if_neg h0]at hg
   rw[hg]
   have d0:(te !=0)=true:=by simpa using h0
   clear hg h1 hfs hte hn ho ht hs h0
   go_enter Tryz.func59,Tryz.ntmps59
   go_wp2_with (first|(go_at_call 87;refine xT2 (HO.out) H ?_;clear H;intro w H)|(go_at_call 88;refine xTr (HT.out) H ?_;clear H;rintro _ _ w ⟨A1,c1,rfl,rfl⟩ H;try simp only[xNf]at H)|(refine z8 (v:=.agg Letter.nil.cells.toArray) (by rfl) (zb (t:=114) rfl ?_) ?_;(·simp only[List.map_cons,List.map_nil];exact z1u _))|first|refine xLd H ?_|(refine xEf H ?_;clear H;intro b A' w H))
   refine xR2 H ?_
   exact xF H
end Go.Proofs.YtmfincpagnpkjaaGreat
