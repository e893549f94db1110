/- Part of the proof. -/
import Derived.Test.YtmfincpagnpkjaaGreatM29
set_option linter.all false
set_option maxRecDepth 100000
set_option maxHeartbeats 100000000
namespace Go.Proofs.YtmfincpagnpkjaaGreat
open Go.RowKit
theorem zkL (n:Int):zi Tryz.prog 211 #[.int .i64 n] [] fun v K=>v= .tuple #[.string ⟨(z6z n).toArray⟩,.int .i64 (zmv n)]/\K=[]:=zm fun w=>ziq n w
theorem zlX {n:Int} (h:z1d n=true):zmv n=0:=by unfold zmv;rw[if_pos h]
def zav (tag:Int) (ns:List Int):List Fld:=ns.zipIdx.map fun x=>(tag+x.2,⟨(z6z x.1).toArray⟩)
theorem z1C (tag:Int) (ns:List Int):(zav tag ns).length=ns.length:=by simp[zav]
theorem zis {tag:Int} {ns:List Int} {j:Nat} {x:Int} (h:ns[j]?=some x):(zav tag ns).take (j+1)=(zav tag ns).take j++[(tag+j,⟨(z6z x).toArray⟩)]:=by
 have hj:=(List.getElem?_eq_some_iff.1 h).1
 have h2:(zav tag ns)[j]?=some (tag+j,⟨(z6z x).toArray⟩):=by
  unfold zav
  rw[List.getElem?_map,List.getElem?_zipIdx,h]
  simp
 obtain⟨h3,h4⟩:=List.getElem?_eq_some_iff.1 h2
 rw[<-h4]
 exact List.take_succ_eq_append_getElem h3
theorem zff:(Tryz.prog.info? 79).bind (·.zero)=some (.agg [.int .i64 0,.string noB].toArray):=by kernel_rfl
theorem z5k (t:Int) (s:ByteArray) (W:World):(Instr.build 79 #[(0,.int .i64 t),(1,.string s)]).run Tryz.prog W= .ok (.agg #[.int .i64 t,.string s]) W:=by kernel_rfl
theorem zeD {ns:List Int} {j:Nat} {x:Int} (h:ns[j]?=some x):(ns.map z09)[j]?=some (.int .i64 x):=by rw[List.getElem?_map,h];rfl
theorem z1U (v0 v2:Value) (tag:Int) (fs:List Fld) (ns:List Int) (m:Nat) (hm:fs.length=m) (hmx:m<=100) (hn:ns.length<=100) (hok:∀x∈ns,z1d x=true) (ht:0<=tag/\tag<=1000):zi Tryz.prog 179 #[v0,.int .i64 tag,v2] [zh 79 2 v0 m (zo fs),zh 3 1 v2 ns.length (ns.map z09)]
  fun v K=>∃A c,v= .tuple #[.slice A (m+ns.length) c,.bool true]/\K=[zh 79 2 (.slice A (m+ns.length) c) (m+ns.length) (zo (fs++zav tag ns)),zh 3 1 v2 ns.length (ns.map z09)]:=by
 intro F0 w0 w R H
 try simp only[xNf]at H
 obtain⟨A2,c2,rfl⟩:=zt (v:=v2) H pk
 obtain⟨A0,c0,rfl⟩:=zt (v:=v0) H pk
 obtain⟨n,hnn⟩:=xG (ns.length)
 rw[hnn]at H hn⊢
 obtain⟨ht0,ht1⟩:=ht
 have HOK:=Lib.hid hok
 have HN:=Lib.hid hnn
 have HM:=Lib.hid hm
 clear hok hnn hm
 go_enter Tryz.func179,Tryz.ntmps179
 go_wp2_with (first|refine xLd H ?_|(refine xEf H ?_;clear H;intro b A' w H))
 go_loopw [0,14] (fun v0 v14 wr=>∃(j mj:Nat) (A:Option Addr) (c:Nat) (xs:List Value),j<=n/\mj=m+j/\xs=zo (fs++(zav tag ns).take j)/\v0= .slice A mj c/\v14= .int .i64 j/\
  Sep F0 w0 wr (zh 79 2 (.slice A mj c) mj xs::zh 3 1 (.slice A2 n c2) n (ns.map z09)::R)) (fun _ v14 _=>n-(intOf v14).toNat)
 case atStart=>exact⟨0,m,A0,c0,zo fs,Nat.zero_le _,rfl,by simp,rfl,rfl,H.sub sb⟩
 case round=>
  clear H
  obtain⟨j,mj,A,c,xs,hj,hmj,hxs,rfl,rfl,H⟩:=hrel
  by_cases hlt:j<n
  ·obtain⟨x,hx⟩:∃x,ns[j]?=some x:=⟨_,List.getElem?_eq_getElem (by rw[HN.out];exact hlt)⟩
   have hxo:=HOK.out x (List.mem_of_getElem? hx)
   have hnum:=zkL x
   rw[zlX hxo]at hnum
   have HNUM:=Lib.hid hnum
   have HX:=Lib.hid hx
   have HXS:=Lib.hid hxs
   obtain⟨g,c',hA⟩:=zz (n:=n) (v:=.slice A2 n c2) H pk (by omega)
   cases hA
   have hb:mj+1<=1000:=by omega
   have ht2:tag+(j:Int)<=2000:=by omega
   have HMJ:=Lib.hid hmj
   clear hxo hnum hx hxs hmj
   go_wp2_with (first|(refine ld1 H (hh:=(by first|exact zn pk (zeD HX.out)|exact zc pk (zeD HX.out))) ?_)|(go_at_call 211;refine xT2 (HNUM.out) H ?_;clear H;intro w H)|(refine z8 (v:=.agg #[.int .i64 (tag+j),.string ⟨(z6z x).toArray⟩]) (by rfl) (zb (t:=79) rfl ?_) ?_;(·simp only[List.map_cons,List.map_nil];exact z5k _ _ _))|first|refine xLd H ?_|(refine xEf H ?_;clear H;intro b A' w H))
   go_roundw
   case rel=>
    refine⟨j+1,mj+1,_,_,_,by omega,by have:=HMJ.out;omega, ?_,rfl,by go_num,H.sub sb⟩
    rw[zis HX.out,<-List.append_assoc,z06,<-HXS.out]
    rfl
   case measure=>simp[intOf];omega
  ·obtain rfl:j=n:=by omega
   subst hmj
   have HXS:=Lib.hid hxs
   clear hxs
   go_wp2_with (first|refine xLd H ?_|(refine xEf H ?_;clear H;intro b A' w H))
   refine xR2 H ?_
   have hx:=HXS.out
   rw[List.take_of_length_le (by rw[z1C,HN.out];exact Nat.le_refl _)]at hx
   subst hx
   exact⟨_,_,rfl,⟨_,_,rfl,rfl⟩,H.sub sba⟩
theorem zl8 (s:ByteArray):zi Tryz.prog 170 #[.string s] [] fun v K=>v= .tuple #[.int .i64 (z8O s.data.toList),.int .i64 (z8P s.data.toList)]/\K=[]:=zm fun w=>z0l s w
def z78:List ByteArray->List Nat->List Value->List Value×Bool
 |_,[],cs=>(cs,true)
 |[],_::_,cs=>(cs,true)
 |t::ts,o::os,cs=>if z4b t.data.toList then z78 ts os (cs.set o (.int .i64 (z8O t.data.toList)))else(cs,false)
abbrev z4h (lb o:Nat):Value:=.pointer (some ⟨lb,o,none⟩)
theorem zac {lb:Nat} {os:List Nat} {j o:Nat} (h:os[j]?=some o):(os.map (z4h lb))[j]?=some (.pointer (some ⟨lb,o,none⟩)):=by rw[List.getElem?_map,h];rfl
theorem zlG {fs:List Fld} {q k0 i o:Nat} {t:ByteArray} (hq:q=k0*2) (ho:o=q+i*2+1) (h:((fs.drop k0).map (·.2))[i]?=some t):(zo fs)[o]?=some (.string t):=by
 rw[List.getElem?_map,List.getElem?_drop]at h
 cases hx:fs[k0+i]? with
 |none=>rw[hx]at h;cases h
 |some f=>
  rw[hx]at h
  simp only[Option.map_some,Option.some.injEq]at h
  obtain⟨h1,h2⟩:=List.getElem?_eq_some_iff.1 hx
  have e:o=(k0+i)*2+1:=by omega
  rw[e,z1n h1,h2,h]
theorem z5F (g n c k0 q m c' lb pb:Nat) (fs:List Fld) (os:List Nat) (t:TypeId) (cs:List Value) (hq:q=k0*2) (hn:fs.length=n) (hm:os.length=m) (hkm:k0+m<=n) (hmx:n<=100) (hos:∀o∈os,o<cs.length):
  zi Tryz.prog 128 #[.slice (some ⟨g,q,none⟩) (n-k0) c',.slice (some ⟨pb,0,none⟩) m m] [zh 79 2 (.slice (some ⟨g,0,none⟩) n c) n (zo fs),zh 141 1 (.slice (some ⟨pb,0,none⟩) m m) m (os.map (z4h lb)),z7 lb t cs]
   fun v K=>v= .bool (z78 ((fs.drop k0).map (·.2)) os cs).2/\K=[zh 79 2 (.slice (some ⟨g,0,none⟩) n c) n (zo fs),zh 141 1 (.slice (some ⟨pb,0,none⟩) m m) m (os.map (z4h lb)),z7 lb t (z78 ((fs.drop k0).map (·.2)) os cs).1]:=by
 intro F0 w0 w R H
 try simp only[xNf]at H
 obtain⟨ts,hts⟩:=xG ((fs.drop k0).map (·.2))
 have htl:ts.length=n-k0:=by rw[<-hts,List.length_map,List.length_drop,hn]
 obtain⟨res,hres⟩:=xG (z78 ts os cs)
 rw[hts,hres]
 obtain⟨xs,hxs⟩:∃xs,xs=zo fs:=⟨_,rfl⟩
 have htx:∀(i o:Nat) (t:ByteArray),o=q+i*2+1->ts[i]?=some t->xs[o]?=some (.string t):=fun i o t ho h=>by rw[hxs];exact zlG hq ho (by rw[hts];exact h)
 rw[<-hxs]at H⊢
 have HTX:=Lib.hid htx
 have HM:=Lib.hid hm
 have HTL:=Lib.hid htl
 have HOS:=Lib.hid hos
 obtain⟨d,hd⟩:=xG (n-k0)
 have hmd:m<=d:=by omega
 have hd100:d<=100:=by omega
 rw[hd]at HTL⊢
 clear hts htl htx hm hos hxs hn hq hd hkm hmx
 go_enter Tryz.func128,Tryz.ntmps128
 go_wp2_with (first|refine xLd H ?_|(refine xEf H ?_;clear H;intro b A' w H))
 go_loopw [11] (fun v11 wr=>∃(j:Nat) (cs':List Value),j<=m/\res=z78 (ts.drop j) (os.drop j) cs'/\cs'.length=cs.length/\v11= .int .i64 j/\
  Sep F0 w0 wr (zh 79 2 (.slice (some ⟨g,0,none⟩) n c) n xs::zh 141 1 (.slice (some ⟨pb,0,none⟩) m m) m (os.map (z4h lb))::z7 lb t cs'::R)) (fun v11 _=>m-(intOf v11).toNat)
 case atStart=>exact⟨0,cs,Nat.zero_le _,hres.symm,rfl,rfl,H.sub sb⟩
 case round=>
  clear H hres
  obtain⟨j,cs',hj,hr,hl,rfl,H⟩:=hrel
  by_cases hlt:j<m
  ·obtain⟨o,ho⟩:∃o,os[j]?=some o:=⟨_,List.getElem?_eq_getElem (by rw[HM.out];exact hlt)⟩
   obtain⟨x,hx⟩:∃x,ts[j]?=some x:=⟨_,List.getElem?_eq_getElem (by rw[HTL.out];omega)⟩
   have hol:o<cs'.length:=by rw[hl];exact HOS.out o (List.mem_of_getElem? ho)
   have d1:os.drop j=o::os.drop (j+1):=by
    obtain⟨h1,rfl⟩:=List.getElem?_eq_some_iff.1 ho
    exact List.drop_eq_getElem_cons h1
   have d2:ts.drop j=x::ts.drop (j+1):=by
    obtain⟨h1,rfl⟩:=List.getElem?_eq_some_iff.1 hx
    exact List.drop_eq_getElem_cons h1
   rw[d1,d2,z78]at hr
   have hg:=zl8 x
   have b0:(0:Int)<=(j:Int):=by omega
   have b1:(j:Int)<(d:Int):=by omega
   have HX:=Lib.hid hx
   have HO:=Lib.hid ho
   have HL:=Lib.hid hl
   clear d1 d2 hx ho hl
   by_cases hok:z4b x.data.toList=true
   ·rw[if_pos hok]at hr
    have he:z8P x.data.toList=0:=by unfold z8P;rw[if_pos hok]
    rw[he]at hg
    obtain⟨v,hv⟩:=xG (z8O x.data.toList)
    rw[hv]at hg hr
    have HG:=Lib.hid hg
    have HR:=Lib.hid hr
    clear hok he hg hr hv
    go_wp2_with (first|(refine ld1 H (hh:=(by first|exact zn pk (zac HO.out)|exact zc pk (zac HO.out)|exact zn pk (HTX.out j _ x (by first|rfl|omega) HX.out)|exact zc pk (HTX.out j _ x (by first|rfl|omega) HX.out))) ?_)|(go_at_call 170;refine xT2 (HG.out) H ?_;clear H;intro w H)|first|refine xLd H ?_|(refine xEf H ?_;clear H;intro b A' w H))
    go_roundw
    case rel=>exact⟨j+1,_,by omega,HR.out,by rw[List.length_set];exact HL.out,by go_num,H.sub sb⟩
    case measure=>simp[intOf];omega
   ·rw[if_neg hok]at hr
    have he:z8P x.data.toList=30:=by unfold z8P;rw[if_neg hok]
    rw[he]at hg
    have HG:=Lib.hid hg
    subst hr
    clear hok he hg
    go_wp2_with (first|(refine ld1 H (hh:=(by first|exact zn pk (zac HO.out)|exact zc pk (zac HO.out)|exact zn pk (HTX.out j _ x (by first|rfl|omega) HX.out)|exact zc pk (HTX.out j _ x (by first|rfl|omega) HX.out))) ?_)|(go_at_call 170;refine xT2 (HG.out) H ?_;clear H;intro w H)|first|refine xLd H ?_|(refine xEf H ?_;clear H;intro b A' w H))
    refine xR1 H ?_
    exact xF H
  ·obtain rfl:j=m:=by omega
   have hdn:os.drop j=[]:=List.drop_of_length_le (by rw[HM.out];exact Nat.le_refl _)
   rw[hdn,z78]at hr
   subst hr
   clear hdn
   go_wp2_with (first|refine xLd H ?_|(refine xEf H ?_;clear H;intro b A' w H))
   refine xR1 H ?_
   exact xF H
def setL (l:Letter) (o:Nat) (x:Int):Letter:=match o with
 |0=>⟨x,l.to,l.id,l.answer,l.ask,l.say⟩
 |1=>⟨l.frm,x,l.id,l.answer,l.ask,l.say⟩
 |2=>⟨l.frm,l.to,x,l.answer,l.ask,l.say⟩
 |4=>⟨l.frm,l.to,l.id,l.answer,⟨x,l.ask.stripe,l.ask.epoch,l.ask.seq,l.ask.mask,l.ask.node,l.ask.oe,l.ask.oq,l.ask.block⟩,l.say⟩
 |5=>⟨l.frm,l.to,l.id,l.answer,⟨l.ask.kind,x,l.ask.epoch,l.ask.seq,l.ask.mask,l.ask.node,l.ask.oe,l.ask.oq,l.ask.block⟩,l.say⟩
 |6=>⟨l.frm,l.to,l.id,l.answer,⟨l.ask.kind,l.ask.stripe,x,l.ask.seq,l.ask.mask,l.ask.node,l.ask.oe,l.ask.oq,l.ask.block⟩,l.say⟩
 |7=>⟨l.frm,l.to,l.id,l.answer,⟨l.ask.kind,l.ask.stripe,l.ask.epoch,x,l.ask.mask,l.ask.node,l.ask.oe,l.ask.oq,l.ask.block⟩,l.say⟩
 |8=>⟨l.frm,l.to,l.id,l.answer,⟨l.ask.kind,l.ask.stripe,l.ask.epoch,l.ask.seq,x,l.ask.node,l.ask.oe,l.ask.oq,l.ask.block⟩,l.say⟩
 |9=>⟨l.frm,l.to,l.id,l.answer,⟨l.ask.kind,l.ask.stripe,l.ask.epoch,l.ask.seq,l.ask.mask,x,l.ask.oe,l.ask.oq,l.ask.block⟩,l.say⟩
 |10=>⟨l.frm,l.to,l.id,l.answer,⟨l.ask.kind,l.ask.stripe,l.ask.epoch,l.ask.seq,l.ask.mask,l.ask.node,x,l.ask.oq,l.ask.block⟩,l.say⟩
 |11=>⟨l.frm,l.to,l.id,l.answer,⟨l.ask.kind,l.ask.stripe,l.ask.epoch,l.ask.seq,l.ask.mask,l.ask.node,l.ask.oe,x,l.ask.block⟩,l.say⟩
 |13=>⟨l.frm,l.to,l.id,l.answer,l.ask,⟨x,l.say.epoch,l.say.out,l.say.rcd⟩⟩
 |14=>⟨l.frm,l.to,l.id,l.answer,l.ask,⟨l.say.status,x,l.say.out,l.say.rcd⟩⟩
 |15=>⟨l.frm,l.to,l.id,l.answer,l.ask,⟨l.say.status,l.say.epoch,x,l.say.rcd⟩⟩
 |_=>l
def znn (o:Nat):Bool:=[0,1,2,4,5,6,7,8,9,10,11,13,14,15].contains o
theorem zfK (l:Letter) {o:Nat} (h:znn o=true) (x:Int):l.cells.set o (.int .i64 x)=(setL l o x).cells:=by
 unfold znn at h
 simp only[List.contains_eq_mem,List.mem_cons,List.not_mem_nil,or_false,decide_eq_true_eq]at h
 rcases h with rfl|rfl|rfl|rfl|rfl|rfl|rfl|rfl|rfl|rfl|rfl|rfl|rfl|rfl<;>rfl
def jl:List ByteArray->List Nat->Letter->Letter×Bool
 |_,[],l=>(l,true)
 |[],_::_,l=>(l,true)
 |t::ts,o::os,l=>if z4b t.data.toList then jl ts os (setL l o (z8O t.data.toList))else(l,false)
theorem z9U:∀(ts:List ByteArray) (os:List Nat) (l:Letter),os.all znn=true->z78 ts os l.cells=((jl ts os l).1.cells,(jl ts os l).2)
 |_,[],l,_=>by simp[z78,jl]
 |[],_::_,l,_=>by simp[z78,jl]
 |t::ts,o::os,l,h=>by
  simp only[List.all_cons,Bool.and_eq_true]at h
  unfold z78 jl
  split
  ·rw[zfK l h.1,z9U ts os _ h.2]
  ·rfl
def ju (fs:List Fld):Option Letter:=
 let ts:=fs.map (·.2)
 let l0:Letter:=⟨0,0,0,fs.length==7,AskM.nil,SayM.nil⟩
 let x1:=jl ts [0,1,2] l0
 if !(fs.length==7||fs.length==12)then none
 else if !x1.2 then none
 else if fs.length==7 then
  let x2:=jl (ts.drop 3) [13,14,15] x1.1
  let t:=ts[6]?.getD noB
  if !x2.2 then none
  else if t.toList==noB.toList then some x2.1
  else if(jc 0 t).2==0 then some ⟨x2.1.frm,x2.1.to,x2.1.id,x2.1.answer,x2.1.ask,⟨x2.1.say.status,x2.1.say.epoch,x2.1.say.out,(jc 0 t).1⟩⟩
  else none
 else
  let l1:Letter:=⟨x1.1.frm,x1.1.to,x1.1.id,x1.1.answer,⟨x1.1.ask.kind,x1.1.ask.stripe,x1.1.ask.epoch,x1.1.ask.seq,x1.1.ask.mask,x1.1.ask.node,x1.1.ask.oe,x1.1.ask.oq,ts[11]?.getD noB⟩,x1.1.say⟩
  let x2:=jl (ts.drop 3) [4,5,6,7,8,9,10,11] l1
  if x2.2 then some x2.1 else none
def zfa (o:Option Letter) (v:Value):Prop:=match o with
 |some l=>v= .tuple #[l.v,.bool true]
 |none=>∃l:Letter,v= .tuple #[l.v,.bool false]
theorem z0Y (b:Bool) (W:World):(Instr.build 114 #[(3,.bool b)]).run Tryz.prog W= .ok (.agg (Letter.mk 0 0 0 b AskM.nil SayM.nil).cells.toArray) W:=by kernel_rfl
theorem zhv {fs:List Fld} {k o:Nat} (h:k<fs.length) (ho:o=k*2+1):(zo fs)[o]?=some (.string ((fs.map (·.2))[k]?.getD noB)):=by
 subst ho
 rw[z1n h,List.getElem?_map,List.getElem?_eq_getElem h]
 rfl
theorem z93 (g n c lb pb:Nat) (fs:List Fld) (l:Letter) (hn:fs.length=n) (hkm:3<=n) (hmx:n<=100):
  zi Tryz.prog 128 #[.slice (some ⟨g,0,none⟩) n c,.slice (some ⟨pb,0,none⟩) 3 3] [zh 79 2 (.slice (some ⟨g,0,none⟩) n c) n (zo fs),zh 141 1 (.slice (some ⟨pb,0,none⟩) 3 3) 3 [z4h lb 0,z4h lb 1,z4h lb 2],z7 lb 114 l.cells]
   fun v K=>v= .bool (jl (fs.map (·.2)) [0,1,2] l).2/\K=[zh 79 2 (.slice (some ⟨g,0,none⟩) n c) n (zo fs),zh 141 1 (.slice (some ⟨pb,0,none⟩) 3 3) 3 [z4h lb 0,z4h lb 1,z4h lb 2],z7 lb 114 (jl (fs.map (·.2)) [0,1,2] l).1.cells]:=by
 have h:=z5F g n c 0 0 3 c lb pb fs [0,1,2] 114 l.cells rfl hn rfl (by omega) hmx (by intro o ho;simp only[List.mem_cons,List.not_mem_nil,or_false]at ho;have:l.cells.length=26:=rfl;omega)
 rw[List.drop_zero,z9U _ _ l rfl]at h
 exact h
theorem zfx (g c c' lb pb:Nat) (fs:List Fld) (l:Letter) (hn:fs.length=7):
  zi Tryz.prog 128 #[.slice (some ⟨g,6,none⟩) 4 c',.slice (some ⟨pb,0,none⟩) 3 3] [zh 79 2 (.slice (some ⟨g,0,none⟩) 7 c) 7 (zo fs),zh 141 1 (.slice (some ⟨pb,0,none⟩) 3 3) 3 [z4h lb 13,z4h lb 14,z4h lb 15],z7 lb 114 l.cells]
   fun v K=>v= .bool (jl ((fs.map (·.2)).drop 3) [13,14,15] l).2/\K=[zh 79 2 (.slice (some ⟨g,0,none⟩) 7 c) 7 (zo fs),zh 141 1 (.slice (some ⟨pb,0,none⟩) 3 3) 3 [z4h lb 13,z4h lb 14,z4h lb 15],z7 lb 114 (jl ((fs.map (·.2)).drop 3) [13,14,15] l).1.cells]:=by
 have h:=z5F g 7 c 3 6 3 c' lb pb fs [13,14,15] 114 l.cells rfl hn rfl (by omega) (by omega) (by intro o ho;simp only[List.mem_cons,List.not_mem_nil,or_false]at ho;have:l.cells.length=26:=rfl;omega)
 rw[List.map_drop,z9U _ _ l rfl]at h
 exact h
theorem zfy (g c c' lb pb:Nat) (fs:List Fld) (l:Letter) (hn:fs.length=12):
  zi Tryz.prog 128 #[.slice (some ⟨g,6,none⟩) 9 c',.slice (some ⟨pb,0,none⟩) 8 8] [zh 79 2 (.slice (some ⟨g,0,none⟩) 12 c) 12 (zo fs),zh 141 1 (.slice (some ⟨pb,0,none⟩) 8 8) 8 [z4h lb 4,z4h lb 5,z4h lb 6,z4h lb 7,z4h lb 8,z4h lb 9,z4h lb 10,z4h lb 11],z7 lb 114 l.cells]
   fun v K=>v= .bool (jl ((fs.map (·.2)).drop 3) [4,5,6,7,8,9,10,11] l).2/\K=[zh 79 2 (.slice (some ⟨g,0,none⟩) 12 c) 12 (zo fs),zh 141 1 (.slice (some ⟨pb,0,none⟩) 8 8) 8 [z4h lb 4,z4h lb 5,z4h lb 6,z4h lb 7,z4h lb 8,z4h lb 9,z4h lb 10,z4h lb 11],z7 lb 114 (jl ((fs.map (·.2)).drop 3) [4,5,6,7,8,9,10,11] l).1.cells]:=by
 have h:=z5F g 12 c 3 6 8 c' lb pb fs [4,5,6,7,8,9,10,11] 114 l.cells rfl hn rfl (by omega) (by omega) (by intro o ho;simp only[List.mem_cons,List.not_mem_nil,or_false]at ho;have:l.cells.length=26:=rfl;omega)
 rw[List.map_drop,z9U _ _ l rfl]at h
 exact h
theorem z8L (A:Option Addr) (n c:Nat) (fs:List Fld) (hn:fs.length=n) (h7:n≠7) (h12:n≠12):zi Tryz.prog 89 #[.slice A n c] [zh 79 2 (.slice A n c) n (zo fs)] fun v K=>zfa (ju fs) v/\K=[]:=by
 intro F0 w0 w R H
 try simp only[xNf]at H
 have e:ju fs=none:=by
  unfold ju
  have e7:(fs.length==7)=false:=by rw[hn];simpa using h7
  have e12:(fs.length==12)=false:=by rw[hn];simpa using h12
  simp[e7,e12]
 rw[e]
 have d7:((n:Int)==7)=false:=beq_eq_false_iff_ne.2 (by omega)
 have d12:((n:Int) !=12)=true:=bne_iff_ne.2 (by omega)
 have d7':(n==7)=false:=by simpa using h7
 have d12':(n==12)=false:=by simpa using h12
 clear e hn h7 h12
 go_enter Tryz.func89,Tryz.ntmps89
 go_wp2_with (first|(refine z8 (v:=.agg (Letter.mk 0 0 0 false AskM.nil SayM.nil).cells.toArray) (by rfl) (zb (t:=114) rfl ?_) ?_;(·simp only[List.map_cons,List.map_nil];exact z0Y _ _))|first|refine xLd H ?_|(refine xEf H ?_;clear H;intro b A' w H))
 refine xR2 H ?_
 exact⟨_,_,rfl,⟨⟨_,rfl⟩,rfl⟩,H.sub sba⟩
theorem zd0 (s:ByteArray):zi Tryz.prog 40 #[.int .i64 0,.string s] [] fun v K=>v= .tuple #[(jc 0 s).1.v,.int .i64 (jc 0 s).2]/\K=[]:=zm fun w=>z3k 0 s w
theorem zdo (l:Letter) (o:Nat) (x:Int):(setL l o x).answer=l.answer:=by
 unfold setL
 split<;>rfl
theorem z4O:∀(os:List Nat) (ts:List ByteArray) (l:Letter),(jl ts os l).1.answer=l.answer:=by
 intro os
 induction os with
 |nil=>intro ts l;cases ts<;>simp[jl]
 |cons o os ih=>
  intro ts l
  cases ts with
  |nil=>simp[jl]
  |cons t ts=>
   unfold jl
   split
   ·rw[ih,zdo]
   ·rfl
theorem zc0 (A:Option Addr) (c:Nat) (fs:List Fld) (hn:fs.length=12):zi Tryz.prog 89 #[.slice A 12 c] [zh 79 2 (.slice A 12 c) 12 (zo fs)] fun v K=>zfa (ju fs) v/\K=[]:=by
 intro F0 w0 w R H
 try simp only[xNf]at H
 obtain⟨g,c',hA⟩:=zz (n:=12) (v:=.slice A 12 c) H pk (by omega)
 cases hA
 have hc:=z4s H pk
 have hc3:¬c=3:=by omega
 have e7:(fs.length==7)=false:=by rw[hn];rfl
 have e12:(fs.length==12)=true:=by rw[hn];rfl
 have hT1:=fun pb lb=>z93 g 12 c lb pb fs ⟨0,0,0,false,AskM.nil,SayM.nil⟩ hn (by omega) (by omega)
 obtain⟨⟨l1,r1⟩,hx1⟩:∃x,jl (fs.map (·.2)) [0,1,2] ⟨0,0,0,false,AskM.nil,SayM.nil⟩=x:=⟨_,rfl⟩
 rw[hx1]at hT1
 simp only at hT1
 have HT1:=Lib.hid hT1
 have HTX:=Lib.hid (zhv (fs:=fs) (k:=11) (o:=23) (by omega) rfl)
 obtain⟨tx,htx⟩:=xG ((fs.map (·.2))[11]?.getD noB)
 rw[htx]at HTX
 have hl:ju fs=if !r1 then none else if(jl ((fs.map (·.2)).drop 3) [4,5,6,7,8,9,10,11] ⟨l1.frm,l1.to,l1.id,l1.answer,⟨l1.ask.kind,l1.ask.stripe,l1.ask.epoch,l1.ask.seq,l1.ask.mask,l1.ask.node,l1.ask.oe,l1.ask.oq,tx⟩,l1.say⟩).2 then some (jl ((fs.map (·.2)).drop 3) [4,5,6,7,8,9,10,11] ⟨l1.frm,l1.to,l1.id,l1.answer,⟨l1.ask.kind,l1.ask.stripe,l1.ask.epoch,l1.ask.seq,l1.ask.mask,l1.ask.node,l1.ask.oe,l1.ask.oq,tx⟩,l1.say⟩).1 else none:=by
  unfold ju
  simp only[e7,e12,hx1,htx]
  cases r1<;>simp
 have hans:l1.answer=false:=by
  have:=z4O [0,1,2] (fs.map (·.2)) ⟨0,0,0,false,AskM.nil,SayM.nil⟩
  rw[hx1]at this
  exact this
 cases r1 with
 |false=>
  have e:ju fs=none:=by rw[hl];rfl
  rw[e]
  clear e hl hx1 htx e7 e12 hn hT1 hc hans
  go_enter Tryz.func89,Tryz.ntmps89
  go_wp2_with (first|(go_at_call 128;refine xT2 (HT1.out _ _) H ?_;clear H;intro w H)|(refine zp (by rfl) (fun K' hK=>?_);refine z5o 3 H ?_;clear H;intro b3 w H;refine hK _ _ ?_;clear hK K')|(refine z8 (v:=.agg (Letter.mk 0 0 0 false AskM.nil SayM.nil).cells.toArray) (by rfl) (zb (t:=114) rfl ?_) ?_;(·simp only[List.map_cons,List.map_nil];exact z0Y _ _))|first|refine xLd H ?_|(refine xEf H ?_;clear H;intro b A' w H))
  refine xR2 H ?_
  exact⟨_,_,rfl,⟨⟨_,rfl⟩,rfl⟩,H.sub sba⟩
 |true=>
  obtain⟨l1',hl1'⟩:∃l:Letter,l=⟨l1.frm,l1.to,l1.id,l1.answer,⟨l1.ask.kind,l1.ask.stripe,l1.ask.epoch,l1.ask.seq,l1.ask.mask,l1.ask.node,l1.ask.oe,l1.ask.oq,tx⟩,l1.say⟩:=⟨_,rfl⟩
  rw[<-hl1']at hl
  have hT2:=fun c' pb lb=>zfy g c c' lb pb fs l1' hn
  obtain⟨⟨l2,r2⟩,hx2⟩:∃x,jl ((fs.map (·.2)).drop 3) [4,5,6,7,8,9,10,11] l1'=x:=⟨_,rfl⟩
  rw[hx2]at hT2 hl
  simp only at hT2 hl
  have HT2:=Lib.hid hT2
  have HE:=Lib.hid (show l1.cells.set 12 (.string tx)=l1'.cells by rw[hl1'];rfl)
  have HL:=Lib.hid hl
  have h3:l1.cells[3]?=some (.bool false):=by rw[<-hans];rfl
  have H3:=Lib.hid h3
  clear hl hx1 htx e7 e12 hn hT1 hT2 hx2 hl1' hc hans h3
  go_enter Tryz.func89,Tryz.ntmps89
  go_upto_region 7 with(first|(go_at_call 128;refine xT2 (HT1.out _ _) H ?_;clear H;intro w H)|(refine zp (by rfl) (fun K' hK=>?_);refine z5o 3 H ?_;clear H;intro b3 w H;refine hK _ _ ?_;clear hK K')|(refine z8 (v:=.agg (Letter.mk 0 0 0 false AskM.nil SayM.nil).cells.toArray) (by rfl) (zb (t:=114) rfl ?_) ?_;(·simp only[List.map_cons,List.map_nil];exact z0Y _ _))|first|refine xLd H ?_|(refine xEf H ?_;clear H;intro b A' w H))
  go_upto_region 10 with(first|(refine ld1 H (hh:=(by first|exact zn pk HTX.out|exact zc pk HTX.out|exact zn pk H3.out|exact zc pk H3.out)) ?_)|first|refine xLd H ?_|(refine xEf H ?_;clear H;intro b A' w H))
  rw[HE.out]at H
  refine xRg [28] (fun L=>[L,[]]) H ?_
  clear H;intro w H
  have HS:=H
  refine xO 0 0 HS ?_
  refine xO 1 0 HS ?_
  refine xO 2 0 HS ?_
  refine xO 3 0 HS ?_
  refine xO 4 0 HS ?_
  refine xO 5 0 HS ?_
  refine xO 6 0 HS ?_
  refine xO 7 0 HS ?_
  refine xO 8 0 HS ?_
  refine xO 9 0 HS ?_
  refine xO 10 0 HS ?_
  refine xO 11 0 HS ?_
  refine xO 12 0 HS ?_
  refine xO 13 0 HS ?_
  refine xO 14 0 HS ?_
  refine xO 15 0 HS ?_
  refine xO 16 0 HS ?_
  refine xO 17 0 HS ?_
  refine xO 18 0 HS ?_
  refine xO 19 0 HS ?_
  refine xO 20 0 HS ?_
  refine xO 21 0 HS ?_
  refine xO 22 0 HS ?_
  refine xO 23 0 HS ?_
  refine xO 24 0 HS ?_
  refine xO 25 0 HS ?_
  refine xO 26 0 HS ?_
  clear HS
  refine tk1 27 0 (fun K' hK=>?_)
  (refine z5o 8 H ?_;clear H;intro b8 w H)
  refine hK _ _ (H.sub sbn) (fun HS=>?_)
  clear hK K'
  try simp only[xPt]
  refine xC 28 1 (HT2.out _ _ _) H ?_
  clear H HS;intro w H HS
  refine xO 29 1 HS ?_
  refine xD ?_
  go_wp2_with (first|refine xLd H ?_|(refine xEf H ?_;clear H;intro b A' w H))
  refine xR2 H ?_
  refine⟨_,_,rfl,⟨?_,rfl⟩,H.sub sba⟩
  rw[HL.out]
  cases r2
  ·exact⟨_,rfl⟩
  ·rfl
end Go.Proofs.YtmfincpagnpkjaaGreat
