/- Part of the proof. -/
import Derived.ProofKit
import Derived.OpenShut
import Derived.ShutString
import Derived.ChangeOld
import Derived.SizedLaws
import Derived.SliceStrings
import Derived.Test.YtmfincpagnpkjaaGreatM33
set_option linter.all false
set_option maxRecDepth 100000
set_option maxHeartbeats 100000000
namespace Go.Proofs.YtmfincpagnpkjaaGreat
section
open Go.ChangeShapes Go.WideShapes Go.ChangeAt Go.RowKit
theorem z08 {a:Int} (h:(Lit.int .i64 a).wf=true):-9223372036854775808<=a/\a<=9223372036854775807:=by
 have h1:IntKind.i64.min= -9223372036854775808:=rfl
 have h2:IntKind.i64.max=9223372036854775807:=rfl
 simp only[Lit.wf,Bool.and_eq_true,decide_eq_true_eq]at h
 omega
section
variable {H:Type} {enc:TypeId×Value->H} {P:Program} {W:World}
end
end
end Go.Proofs.YtmfincpagnpkjaaGreat
namespace Go.Proofs.YtmfincpagnpkjaaGreat
open Go.RowKit
theorem zgR (A:Option Addr) (n c:Nat) (W:World):(Instr.build 158 #[(0,.slice A n c)]).run Tryz.prog W= .ok (.agg (.slice A n c::(AnsM.nil.cells++AnsM.nil.cells)).toArray) W:=by kernel_rfl
def z0K (k j:Nat):List LeaseM:=(List.range k).map fun i=>⟨0,0,0,if i<j then-1 else 0⟩
theorem zgh {k j:Nat} (h:j<k):(z0K k j)[j]?=some ⟨0,0,0,0⟩:=by
 unfold z0K
 rw[List.getElem?_map,List.getElem?_range h]
 simp
theorem zc2 {k j:Nat}:(z0K k j).set j ⟨0,0,0,-1⟩=z0K k (j+1):=by
 apply List.ext_getElem?
 intro m
 unfold z0K
 rw[List.getElem?_set,List.getElem?_map,List.getElem?_map]
 simp only[List.length_map,List.length_range]
 by_cases hm:m<k
 ·rw[List.getElem?_range hm]
  by_cases h:j=m
  ·subst h;simp[hm]
  ·have e:m<j↔m<j+1:=by omega
   simp[h,e]
 ·rw[List.getElem?_eq_none (by simpa using hm)]
  by_cases h:j=m
  ·subst h;simp[hm]
  ·simp[h]
theorem zc1 (k:Nat):zd (fun _:Nat=>(LeaseM.mk 0 0 0 0).cells) (List.range k)=zd LeaseM.cells (z0K k 0):=by
 simp[zd,z0K,List.flatMap_map]
theorem z8M (k j:Nat):(z0K k j).length=k:=by simp[z0K]
theorem ziL (k:Nat) (h1:1<=k) (h8:k<=8):zi Tryz.prog 45 #[.int .i64 k] [] fun v L=>∃K,v= .tuple #[.pointer (some ⟨K,0,none⟩),.int .i64 0]/\L=[ya K ⟨z0K k k,AnsM.nil,AnsM.nil⟩]:=by
 intro F0 w0 w R H
 try simp only[xNf]at H
 have d1:decide ((k:Int)<1)=false:=by simp;omega
 have d2:decide ((8:Int)<(k:Int))=false:=by simp;omega
 have d1':(k==0)=false:=by simp;omega
 go_enter Tryz.func45,Tryz.ntmps45
 go_wp2_with (first|(refine zp (by rfl) (fun K' hK=>?_);refine wmk (k:=k) (bytes:=32) (by omega) (by omega) H ?_;clear H;intro g w H;replace H:=zi1 H;rw[zc1]at H;refine hK _ _ ?_;clear hK K')|(refine z8 (v:=.agg (.slice (some ⟨g,0,none⟩) k k::(AnsM.nil.cells++AnsM.nil.cells)).toArray) (by rfl) (zb (t:=158) rfl ?_) ?_;(·simp only[List.map_cons,List.map_nil];exact zgR _ _ _ _))|first|refine xLd H ?_|(refine xEf H ?_;clear H;intro b A' w H))
 go_loopw [21] (fun v21 wr=>∃j:Nat,j<=k/\v21= .int .i64 j/\Sep F0 w0 wr (z7 b 158 (.slice (some ⟨g,0,none⟩) k k::(AnsM.nil.cells++AnsM.nil.cells))::z7 g 160 (zd LeaseM.cells (z0K k j))::R)) (fun v21 _=>k-(intOf v21).toNat)
 case atStart=>exact⟨0,Nat.zero_le _,rfl,H.sub sb⟩
 case round=>
  clear H
  obtain⟨j,hj,rfl,H⟩:=hrel
  by_cases hlt:j<k
  ·have HX:=Lib.hid (zgh hlt)
   have b0:(0:Int)<=(j:Int):=by omega
   have b1:(j:Int)<(k:Int):=by omega
   go_wp2_with (first|(refine zr (by rfl) (fun K' hK=>?_);refine jo H (ht:=(by first|exact jw (⟨0,0,0,-1⟩) pk (by first|exact HX.out) LeaseM.cells_length (by rfl) (by decide) (by rfl)|exact z0r (⟨0,0,0,-1⟩) pk (by first|exact HX.out) LeaseM.cells_length (by rfl) (by decide) (by rfl)|exact z02 (⟨0,0,0,-1⟩) pk (by first|exact HX.out) LeaseM.cells_length (by rfl) (by decide) (by rfl)|exact z01 (⟨0,0,0,-1⟩) pk (by first|exact HX.out) LeaseM.cells_length (by rfl) (by decide) (by rfl))) ?_;clear H;intro w H;refine hK _ _ ?_;clear hK K')|first|refine xLd H ?_|(refine xEf H ?_;clear H;intro b A' w H))
   go_roundw
   rw[zc2]at H
   case rel=>exact⟨j+1,by omega,by go_num,H.sub sb⟩
   case measure=>simp[intOf];omega
  ·obtain rfl:j=k:=by omega
   go_wp2_with (first|refine xLd H ?_|(refine xEf H ?_;clear H;intro b A' w H))
   refine xR2 H ?_
   exact⟨_,_,rfl,⟨_,rfl,rfl⟩,ya.mk (H.sub sba) (by rw[z8M]) (by rfl)⟩
section
def zes (v:Value) (ops:List OpM):Assn:=⟨fun F w=>∃A c,v= .slice A ops.length c/\ops.length<=c/\(ops=[]\/∃g off,A=some ⟨g,off,none⟩/\F g/\∀i u,(zd OpM.cells ops)[i]?=some u->w.cell? ⟨g,off+i,none⟩=some u),fun {F w w'} h hk=>by
 obtain⟨A,c,h1,h2,h3⟩:=h
 refine⟨A,c,h1,h2,h3.imp id ?_⟩
 rintro⟨g,off,h4,h5,h6⟩
 refine⟨g,off,h4,h5,fun i u hu=>?_⟩
 have h7:=h6 i u hu
 unfold World.cell? at h7⊢
 rw[hk g h5]
 exact h7⟩
section
variable {F0:Nat->Prop} {w0 w:World} {L L':List Assn} {v:Value} {op:OpM} {ops:List OpM} {n c:Nat} {A:Option Addr}
theorem Sep.mk_que_nil (H:Sep F0 w0 w L):Sep F0 w0 w (zes (.slice none 0 0) []::L):=Sep.conv (A:=z0w True) (fun _ _ _=>⟨none,0,rfl,Nat.le_refl _,.inl rfl⟩) (Sep.mk_pure trivial H)
theorem Sep.row_que (H:Sep F0 w0 w (zh 173 3 v n (zd OpM.cells ops)::L)) (hn:n=ops.length):Sep F0 w0 w (zes v ops::L):=by
 subst hn
 refine Sep.conv ?_ H
 rintro F w ⟨h1,h2⟩
 rcases h1.2 with⟨hv,hn⟩|⟨g,cap,cur,hv,_,hg,hc,_⟩
 ·subst hv
  rw[List.eq_nil_of_length_eq_zero hn]
  exact⟨none,0,rfl,Nat.le_refl _,.inl rfl⟩
 ·subst hv
  refine⟨_,_,rfl,hc,.inr ⟨g,0,rfl,h2 g rfl,fun i u hu=>?_⟩⟩
  have:=h1.cells (g:=g) rfl i u hu
  rwa [Addr.add_mid]at this
theorem z6L (H:Sep F0 w0 w L) (hp:Pick (zes v ops) L L'):∃A c,v= .slice A ops.length c/\ops.length<=c:=by
 obtain⟨F,⟨A,c,h1,h2,_⟩,_⟩:=(H.pick hp).say
 exact⟨A,c,h1,h2⟩
theorem zkH (H:Sep F0 w0 w L) (hp:Pick (zes v (op::ops)) L L'):∃g off c,v= .slice (some ⟨g,off,none⟩) (ops.length+1) c/\ops.length+1<=c:=by
 obtain⟨F,⟨A,c,h1,h2,h3⟩,_⟩:=(H.pick hp).say
 rcases h3 with h3|⟨g,off,rfl,_⟩
 ·cases h3
 ·exact⟨g,off,c,h1,h2⟩
theorem zgv {g off m:Nat} {ty:TypeId} (hp:Pick (zes (.slice (some ⟨g,off,none⟩) m c) (op::ops)) L L') (hn:(Tryz.prog.info? ty).map (·.size)=some op.cells.length):jm Tryz.prog ty L g off op.cells:=⟨fun F0 w0 w H=>by
 obtain⟨F,⟨A,c,h1,h2,h3⟩,_⟩:=(H.pick hp).say
 rcases h3 with h3|⟨g',off',rfl,_,h4⟩
 ·cases h3
 ·cases h1
  intro j u hu
  refine h4 j u ?_
  have hlt:=(List.getElem?_eq_some_iff.1 hu).1
  rw[show zd OpM.cells (op::ops)=op.cells++zd OpM.cells ops by simp[zd],List.getElem?_append_left hlt]
  exact hu,hn⟩
theorem zkG {g off m:Nat} (hp:Pick (zes (.slice (some ⟨g,off,none⟩) m c) (op::ops)) L L') (H:Sep F0 w0 w L):Sep F0 w0 w (zes (.slice (if c=1 then some ⟨g,off,none⟩else some ⟨g,off+3,none⟩) ops.length (c-1)) ops::L'):=by
 refine Sep.conv ?_ (H.pick hp)
 rintro F w ⟨A,c',h1,h2,h3⟩
 rcases h3 with h3|⟨g',off',rfl,h5,h4⟩
 ·cases h3
 ·cases h1
  by_cases hc:c=1
  ·refine⟨_,_,rfl,by simp at h2;omega,.inl (List.eq_nil_of_length_eq_zero (by simp at h2;omega))⟩
  rw[if_neg hc]
  refine⟨_,_,rfl,by simp at h2;omega,.inr ⟨g,off+3,rfl,h5,fun i u hu=>?_⟩⟩
  have:=h4 (3+i) u (by
   rw[show zd OpM.cells (op::ops)=op.cells++zd OpM.cells ops by simp[zd],List.getElem?_append_right (by simp[OpM.cells])]
   simpa [OpM.cells]using hu)
  rwa [<-Nat.add_assoc]at this
end
structure CtlM where
 pil:Option PilotM
 starts:Int
 queue:List OpM
 doing:Bool
 event:Int
 errs:List Int
 data:List ByteArray
 answer:ByteArray
 done:Bool
def CtlM.nil (starts:Int):CtlM:=⟨none,starts,[],false,0,[],[],noB,false⟩
structure CtlH where
 pb:Nat
 qu:Value
 er:Value
 da:Value
def znl (b:Nat):Option PilotM->Value
 |none=>.pointer none
 |some _=>.pointer (some ⟨b,0,none⟩)
def zaV (b:Nat):Option PilotM->Assn
 |none=>z0w True
 |some s=>zy b s
abbrev CtlM.cells (x:CtlM) (h:CtlH):List Value:=[znl h.pb x.pil,.int .i64 x.starts,h.qu,.bool x.doing,.int .i64 x.event,h.er,h.da,.string x.answer,.bool x.done]
abbrev zn1 (h:CtlH) (x:CtlM):List Assn:=[zaV h.pb x.pil,zes h.qu x.queue,zh 38 1 h.er x.errs.length (x.errs.map z09),zh 9 1 h.da x.data.length (x.data.map Value.string)]
def z3e (h:CtlH) (x:CtlM):Assn:=zaN (zn1 h x)
structure MacM where
 disk:List ByteArray
 up:Bool
structure MacH where
 p:Nat
 q:Nat
def znN (q:Nat):Bool->Value
 |true=>.pointer (some ⟨q,0,none⟩)
 |false=>.pointer none
def zge (k:Nat) (h:MacH):Bool->Assn
 |true=>z0g h.q h.p k
 |false=>z0w True
abbrev z8K (x:MacH×MacM):List Value:=[.pointer (some ⟨x.1.p,0,none⟩),znN x.1.q x.2.up]
theorem yi (x:MacH×MacM):(z8K x).length=2:=rfl
def z8k (k:Nat) (x:MacH×MacM):Assn:=zaN [yz x.1.p x.2.disk,zge k x.1 x.2.up]
def jj (k:Nat) (zs:List (MacH×MacM)):Assn:=zaN (zs.map (z8k k))
structure ClusM where
 N:Int
 S:Int
 time:Int
 nodes:List MacM
 keeper:KeeperM
 ctl:Nat->CtlM
 net:NetM
 hist:HistM
structure CluH where
 mv:Value
 ke:Nat
 nb:Nat
 hb:Nat
 ch:Nat->CtlH
 zs:List (MacH×MacM)
abbrev z4d:TypeId:=74
def ClusM.cells (s:ClusM) (h:CluH):List Value:=[.int .i64 s.N,.int .i64 s.S,.int .i64 s.time,h.mv,.pointer (some ⟨h.ke,0,none⟩)]++((s.ctl 0).cells (h.ch 0)++((s.ctl 1).cells (h.ch 1)++[.pointer (some ⟨h.nb,0,none⟩),.pointer (some ⟨h.hb,0,none⟩)]))
abbrev znG (h:CluH) (s:ClusM):List Assn:=[z0w (h.zs.map (·.2)=s.nodes),ya h.ke s.keeper,z13 h.nb s.net,js h.hb s.hist,zh 89 2 h.mv h.zs.length (zd z8K h.zs),jj s.S.toNat h.zs,z3e (h.ch 0) (s.ctl 0),z3e (h.ch 1) (s.ctl 1)]
def ym (c:Nat) (s:ClusM):Assn:=exA fun h=>zaN (z7 c z4d (s.cells h)::znG h s)
section
variable {F0:Nat->Prop} {w0 w:World} {L L':List Assn} {c i:Nat} {s:ClusM} {k:Nat} {zs:List (MacH×MacM)} {x y:MacH×MacM}
theorem ym.parts (hp:Pick (ym c s) L L') (H:Sep F0 w0 w L):∃(mv:Value) (ke nb hb:Nat) (ch:Nat->CtlH) (zs:List (MacH×MacM)),zs.map (·.2)=s.nodes/\Sep F0 w0 w (z7 c z4d (s.cells ⟨mv,ke,nb,hb,ch,zs⟩)::ya ke s.keeper::z13 nb s.net::js hb s.hist::zh 89 2 mv zs.length (zd z8K zs)::jj s.S.toNat zs::z3e (ch 0) (s.ctl 0)::z3e (ch 1) (s.ctl 1)::L'):=by
 obtain⟨⟨mv,ke,nb,hb,ch,zs⟩,H⟩:=(H.pick hp).ex
 have H2:=H.unbag
 have H3:=(H2.pick (.tail .head)).pure
 exact⟨mv,ke,nb,hb,ch,zs,H3.1,H3.2⟩
theorem ym.join (mv:Value) (ke nb hb:Nat) (ch:Nat->CtlH) (zs:List (MacH×MacM)) {l:List Value} {n:Nat} {K:KeeperM} {N:NetM} {T:HistM} {X0 X1:CtlM} (H:Sep F0 w0 w (z7 c z4d l::ya ke K::z13 nb N::js hb T::zh 89 2 mv n (zd z8K zs)::jj k zs::z3e (ch 0) X0::z3e (ch 1) X1::L))
  (h0:l=s.cells ⟨mv,ke,nb,hb,ch,zs⟩) (hz:zs.map (·.2)=s.nodes) (e1:K=s.keeper:=by rfl) (e2:N=s.net:=by rfl) (e3:T=s.hist:=by rfl) (e4:n=zs.length:=by rfl) (e5:k=s.S.toNat:=by rfl) (e6:X0=s.ctl 0:=by rfl) (e7:X1=s.ctl 1:=by rfl):Sep F0 w0 w (ym c s::L):=by
 subst h0 e1 e2 e3 e4 e5 e6 e7
 refine Sep.mk_ex (⟨mv,ke,nb,hb,ch,zs⟩:CluH) (Sep.bag (K:=z7 c z4d (s.cells ⟨mv,ke,nb,hb,ch,zs⟩)::znG ⟨mv,ke,nb,hb,ch,zs⟩ s) ?_)
 have H2:=Sep.mk_pure hz H
 exact H2.sub (.cons (.tail .head) (.cons .head .refl))
def upC {α:Type} (f:Nat->α) (i:Nat) (x:α):Nat->α:=fun k=>if k=i then x else f k
theorem z4M {α:Type} (f:Nat->α) (i:Nat):upC f i (f i)=f:=by
 funext k
 unfold upC
 split
 ·rename_i h;rw[h]
 ·rfl
theorem yv {α:Type} (f:Nat->α) (i:Nat) (x:α):upC f i x i=x:=if_pos rfl
theorem zjf {ch:Nat->CtlH} {f:Nat->CtlM} (hi:i<2) (H:Sep F0 w0 w (z3e (ch 0) (f 0)::z3e (ch 1) (f 1)::L)):Sep F0 w0 w (z3e (ch i) (f i)::z3e (ch (1-i)) (f (1-i))::L):=by
 rcases(show i=0\/i=1 by omega)with rfl|rfl
 ·exact H
 ·exact H.sub (.cons (.tail .head) (.cons .head .refl))
theorem zje {ch:Nat->CtlH} {f:Nat->CtlM} {h:CtlH} {x:CtlM} (hi:i<2) (H:Sep F0 w0 w (z3e h x::z3e (ch (1-i)) (f (1-i))::L)):Sep F0 w0 w (z3e (upC ch i h 0) (upC f i x 0)::z3e (upC ch i h 1) (upC f i x 1)::L):=by
 rcases(show i=0\/i=1 by omega)with rfl|rfl
 ·exact H
 ·exact H.sub (.cons (.tail .head) (.cons .head .refl))
def CX (a z o:List Value) (i:Nat) (X:List Value):List Value:=a++((if i=0 then X++o else o++X)++z)
theorem zn0 {a z o X:List Value} {j:Nat} (hi:i<2) (ha:a.length=5) (ho:o.length=9) (hX:X.length=9) (hj:j<9):(CX a z o i X)[5+i*9+j]?=X[j]?:=by
 unfold CX
 rw[List.getElem?_append_right (by omega),ha]
 rcases(show i=0\/i=1 by omega)with rfl|rfl
 ·rw[if_pos rfl,List.append_assoc,List.getElem?_append_left (by omega)]
  congr 1;omega
 ·rw[if_neg (by decide),List.append_assoc,List.getElem?_append_right (by omega),ho,List.getElem?_append_left (by omega)]
  congr 1;omega
theorem zmZ {a z o X:List Value} {v:Value} {j:Nat} (hi:i<2) (ha:a.length=5) (ho:o.length=9) (hX:X.length=9) (hj:j<9):(CX a z o i X).set (5+i*9+j) v=CX a z o i (X.set j v):=by
 unfold CX
 rw[List.set_append_right _ _ (by omega),ha]
 rcases(show i=0\/i=1 by omega)with rfl|rfl
 ·rw[if_pos rfl,if_pos rfl,List.append_assoc,List.append_assoc,List.set_append_left _ _ (by omega),show 5+0*9+j-5=j by omega]
 ·rw[if_neg (by decide),if_neg (by decide),List.append_assoc,List.append_assoc,List.set_append_right _ _ (by omega),ho,List.set_append_left _ _ (by omega),show 5+1*9+j-5-9=j by omega]
theorem zlx {a z o X:List Value} (ha:a.length=5) (ho:o.length=9) (hX:X.length=9) (hz:z.length=2):(CX a z o i X).length=25:=by
 unfold CX
 split<;>simp[ha,ho,hX,hz]
theorem znQ {a z o X:List Value} {j:Nat} (hj:j<a.length):(CX a z o i X)[j]?=a[j]?:=by
 unfold CX
 rw[List.getElem?_append_left hj]
theorem znP {a z o X:List Value} {j:Nat} (ha:a.length=5) (ho:o.length=9) (hX:X.length=9):(CX a z o i X)[23+j]?=z[j]?:=by
 unfold CX
 rw[<-List.append_assoc,List.getElem?_append_right (by split<;>simp[ha,ho,hX])]
 congr 1
 split<;>simp[ha,ho,hX]<;>omega
section
variable {a z oc X cs:List Value} {t ty:TypeId} {o j:Nat} {v:Value}
theorem z6O (hp:Pick (z7 c t (CX a z oc i X)) L L') (hi:i<2) (hv:X[j]?=some v) (hj:j<9:=by decide) (ha:a.length=5:=by rfl) (ho:oc.length=9:=by rfl) (hX:X.length=9:=by rfl):jz L c (5+i*9+j) v:=zc hp (by rw[zn0 hi ha ho hX hj];exact hv)
theorem ziS (hp:Pick (z7 c t (CX a z oc i X)) L L') (hi:i<2) (hv:X[0]?=some v) (ha:a.length=5:=by rfl) (ho:oc.length=9:=by rfl) (hX:X.length=9:=by rfl):jz L c (5+i*9) v:=z6O (j:=0) hp hi hv (by decide) ha ho hX
theorem zl3 (hp:Pick (z7 c t (CX a z oc i X)) L L') (hv:a[o]?=some v):jz L c o v:=zc hp (by rw[znQ (List.getElem?_eq_some_iff.1 hv).1];exact hv)
theorem zeT (hp:Pick (z7 c t (CX a z oc i X)) L L') (hv:z[o-23]?=some v) (ho23:23<=o:=by decide) (ha:a.length=5:=by rfl) (ho:oc.length=9:=by rfl) (hX:X.length=9:=by rfl):jz L c o v:=zc hp (by rw[show o=23+(o-23) by omega,znP ha ho hX];exact hv)
theorem zca {g0 g1:Value} {r:List Value} (hp:Pick (z7 c t (CX (g0::g1::r) z oc i X)) L L') (hn:(Tryz.prog.info? ty).map (·.size)=some (List.length [g0,g1])):jm Tryz.prog ty L c 0 [g0,g1]:=zg (P:=Tryz.prog) (ty:=ty) 2 hp rfl hn
theorem yy (hp:Pick (z7 c t (CX a z oc i X)) L L') (hi:i<2) (hj:j<9:=by decide) (ha:a.length=5:=by rfl) (ho:oc.length=9:=by rfl) (hX:X.length=9:=by rfl) (hz:z.length=2:=by rfl):z0m L c (5+i*9+j) v (z7 c t (CX a z oc i (X.set j v))::L'):=by
 rw[<-zmZ hi ha ho hX hj]
 refine z2B hp ?_
 rw[zlx ha ho hX hz]
 omega
theorem yt (hp:Pick (z7 c t (CX a z oc i X)) L L') (hi:i<2) (ha:a.length=5:=by rfl) (ho:oc.length=9:=by rfl) (hX:X.length=9:=by rfl) (hz:z.length=2:=by rfl):z0m L c (5+i*9) v (z7 c t (CX a z oc i (X.set 0 v))::L'):=yy (j:=0) hp hi (by decide) ha ho hX hz
theorem hdx (h:jz L c o v:=by first|exact hd|exact z6O pk (by assumption) (by rfl)|exact ziS pk (by assumption) (by rfl)|exact zl3 pk (by rfl)|exact zeT pk (by rfl)):jz L c o v:=h
end
theorem zly {ch:Nat->CtlH} {mv:Value} {ke nb hb:Nat} (hi:i<2):s.cells ⟨mv,ke,nb,hb,ch,zs⟩=CX [.int .i64 s.N,.int .i64 s.S,.int .i64 s.time,mv,.pointer (some ⟨ke,0,none⟩)] [.pointer (some ⟨nb,0,none⟩),.pointer (some ⟨hb,0,none⟩)] ((s.ctl (1-i)).cells (ch (1-i))) i ((s.ctl i).cells (ch i)):=by
 rcases(show i=0\/i=1 by omega)with rfl|rfl<;>rfl
theorem ym.ctl (hi:i<2) (hp:Pick (ym c s) L L') (H:Sep F0 w0 w L):∃(mv:Value) (ke nb hb:Nat) (ch:Nat->CtlH) (zs:List (MacH×MacM)),zs.map (·.2)=s.nodes/\Sep F0 w0 w (z7 c z4d (CX [.int .i64 s.N,.int .i64 s.S,.int .i64 s.time,mv,.pointer (some ⟨ke,0,none⟩)] [.pointer (some ⟨nb,0,none⟩),.pointer (some ⟨hb,0,none⟩)] ((s.ctl (1-i)).cells (ch (1-i))) i ((s.ctl i).cells (ch i)))::zaV (ch i).pb (s.ctl i).pil::zes (ch i).qu (s.ctl i).queue::zh 38 1 (ch i).er (s.ctl i).errs.length ((s.ctl i).errs.map z09)::zh 9 1 (ch i).da (s.ctl i).data.length ((s.ctl i).data.map Value.string)::z3e (ch (1-i)) (s.ctl (1-i))::ya ke s.keeper::z13 nb s.net::js hb s.hist::zh 89 2 mv zs.length (zd z8K zs)::jj s.S.toNat zs::L'):=by
 obtain⟨mv,ke,nb,hb,ch,zs,hz,H⟩:=ym.parts hp H
 refine⟨mv,ke,nb,hb,ch,zs,hz, ?_⟩
 rw[zly hi]at H
 have H2:=zjf (f:=s.ctl) hi (H.sub (K:=z3e (ch 0) (s.ctl 0)::z3e (ch 1) (s.ctl 1)::z7 c z4d _::ya ke s.keeper::z13 nb s.net::js hb s.hist::zh 89 2 mv zs.length (zd z8K zs)::jj s.S.toNat zs::L') sb)
 exact(H2.unbag).sub sb
theorem ym.ctl_join (mv:Value) (ke nb hb:Nat) (ch:Nat->CtlH) (zs:List (MacH×MacM)) (x:CtlM) (h:CtlH) {X:List Value} {ne nd n:Nat} {ve vd:List Value} {tm:Int} {K:KeeperM} {N:NetM} {T:HistM} {po:Option PilotM} {qs:List OpM} (hi:i<2)
  (H:Sep F0 w0 w (z7 c z4d (CX [.int .i64 s.N,.int .i64 s.S,.int .i64 tm,mv,.pointer (some ⟨ke,0,none⟩)] [.pointer (some ⟨nb,0,none⟩),.pointer (some ⟨hb,0,none⟩)] ((s.ctl (1-i)).cells (ch (1-i))) i X)::zaV h.pb po::zes h.qu qs::zh 38 1 h.er ne ve::zh 9 1 h.da nd vd::z3e (ch (1-i)) (s.ctl (1-i))::ya ke K::z13 nb N::js hb T::zh 89 2 mv n (zd z8K zs)::jj s.S.toNat zs::L))
  (h0:X=x.cells h) (hz:zs.map (·.2)=s.nodes) (e0:po=x.pil:=by rfl) (e1:qs=x.queue:=by rfl) (e2:ne=x.errs.length:=by rfl) (e3:ve=x.errs.map z09:=by rfl) (e4:nd=x.data.length:=by rfl) (e5:vd=x.data.map Value.string:=by rfl) (e6:n=zs.length:=by rfl):Sep F0 w0 w (ym c {s with time:=tm,keeper:=K,ctl:=upC s.ctl i x,net:=N,hist:=T}::L):=by
 subst h0 e0 e1 e2 e3 e4 e5 e6
 have H1:=H.sub (K:=zaV h.pb x.pil::zes h.qu x.queue::zh 38 1 h.er x.errs.length (x.errs.map z09)::zh 9 1 h.da x.data.length (x.data.map Value.string)::z3e (ch (1-i)) (s.ctl (1-i))::z7 c z4d (CX [.int .i64 s.N,.int .i64 s.S,.int .i64 tm,mv,.pointer (some ⟨ke,0,none⟩)] [.pointer (some ⟨nb,0,none⟩),.pointer (some ⟨hb,0,none⟩)] ((s.ctl (1-i)).cells (ch (1-i))) i (x.cells h))::ya ke K::z13 nb N::js hb T::zh 89 2 mv zs.length (zd z8K zs)::jj s.S.toNat zs::L) sb
 have H2:Sep F0 w0 w (z3e h x::z3e (ch (1-i)) (s.ctl (1-i))::_):=Sep.bag (K:=zn1 h x) H1
 have H3:=zje hi H2
 refine ym.join mv ke nb hb (upC ch i h) zs (H3.sub sb) ?_ hz
 have e:=zly (s:={s with time:=tm,keeper:=K,ctl:=upC s.ctl i x,net:=N,hist:=T}) (ch:=upC ch i h) (mv:=mv) (ke:=ke) (nb:=nb) (hb:=hb) (zs:=zs) hi
 rw[e]
 have h1:upC s.ctl i x (1-i)=s.ctl (1-i):=if_neg (by omega)
 have h2:upC ch i h (1-i)=ch (1-i):=if_neg (by omega)
 show _=CX _ _ ((upC s.ctl i x (1-i)).cells (upC ch i h (1-i))) i ((upC s.ctl i x i).cells (upC ch i h i))
 rw[h1,h2,yv,yv]
theorem jj.open' (hx:zs[i]?=some x) (H:Sep F0 w0 w (jj k zs::L)):Sep F0 w0 w (yz x.1.p x.2.disk::zge k x.1 x.2.up::jj k (zs.eraseIdx i)::L):=by
 have hpk:∀(zs:List (MacH×MacM)) (i:Nat),zs[i]?=some x->Pick (z8k k x) (zs.map (z8k k)) ((zs.eraseIdx i).map (z8k k)):=by
  intro zs
  induction zs with
  |nil=>intro i hx;simp at hx
  |cons z zs ih=>
   intro i hx
   cases i with
   |zero=>simp at hx;subst hx;exact .head
   |succ i=>exact .tail (ih i (by simpa using hx))
 have H2:=H.unbag
 have hp2:∀{A:Assn} {M M':List Assn},Pick A M M'->Pick A (M++L) (M'++L):=by
  intro A M M' h
  induction h with
  |head=>exact .head
  |tail _ ih=>exact .tail ih
 have H3:=H2.pick (hp2 (hpk zs i hx))
 have H4:Sep F0 w0 w (z8k k x::jj k (zs.eraseIdx i)::L):=by
  have H5:Sep F0 w0 w ((zs.eraseIdx i).map (z8k k)++(z8k k x::L)):=by
   refine H3.sub ?_
   have hs:∀M:List Assn,Sub (M++(z8k k x::L)) (z8k k x::(M++L)):=by
    intro M
    induction M with
    |nil=>exact .refl
    |cons B M ih=>exact .cons (.tail .head) ih
   exact hs _
  exact(Sep.bag H5).sub (.cons (.tail .head) .refl)
 exact H4.unbag
theorem jj.shut (hx:zs[i]?=some x) (H:Sep F0 w0 w (yz y.1.p y.2.disk::zge k y.1 y.2.up::jj k (zs.eraseIdx i)::L)):Sep F0 w0 w (jj k (zs.set i y)::L):=by
 have H4:Sep F0 w0 w (z8k k y::jj k (zs.eraseIdx i)::L):=Sep.bag (K:=[yz y.1.p y.2.disk,zge k y.1 y.2.up]) H
 have H5:=(H4.sub (K:=jj k (zs.eraseIdx i)::z8k k y::L) (.cons (.tail .head) (.cons .head .refl))).unbag
 have hs:∀(zs:List (MacH×MacM)) (i:Nat),zs[i]?=some x->Sub ((zs.set i y).map (z8k k)++L) ((zs.eraseIdx i).map (z8k k)++(z8k k y::L)):=by
  intro zs
  induction zs with
  |nil=>intro i hx;simp at hx
  |cons z zs ih=>
   intro i hx
   cases i with
   |zero=>
    show Sub (z8k k y::(zs.map (z8k k)++L)) (zs.map (z8k k)++(z8k k y::L))
    have:∀M:List Assn,Pick (z8k k y) (M++(z8k k y::L)) (M++L):=by
     intro M
     induction M with
     |nil=>exact .head
     |cons B M ih=>exact .tail ih
    exact .cons (this _) .refl
   |succ i=>exact .cons .head (ih i (by simpa using hx))
 exact Sep.bag (H5.sub (hs zs i hx))
end
end
abbrev CtlM.noted (x:CtlM) (p:PilotM):CtlM:={x with doing:=false,errs:=x.errs++[p.err],data:=x.data++[p.data]}
def ClusM.ended (s:ClusM) (i:Nat):ClusM:=
 match (s.ctl i).pil with
 |none=>s
 |some p=>if(s.ctl i).doing=false then s else if p.busy=true then s else {s with ctl:=upC s.ctl i ((s.ctl i).noted p),hist:=(s.hist.fin (s.ctl i).event p.err p.data).1}
theorem z9z (c i:Nat) (s:ClusM) (p:PilotM) (hi:i<2) (hp:(s.ctl i).pil=some p) (h0:0<=s.hist.given) (h1:s.hist.given<1099511627776) (he:(s.ctl i).errs.length<=1000) (hD1:(s.ctl i).data.length<=1000):
  zi Tryz.prog 117 #[.pointer (some ⟨c,0,none⟩),.pointer (some ⟨c,5+i*9,none⟩)] [ym c s] fun r K=>r= .tuple #[]/\K=[ym c (s.ended i)]:=by
 intro F0 w0 w R H
 try simp only[xNf]at H
 have hs:s.ended i=if(s.ctl i).doing=false then s else if p.busy=true then s else {s with ctl:=upC s.ctl i ((s.ctl i).noted p),hist:=(s.hist.fin (s.ctl i).event p.err p.data).1}:=by unfold ClusM.ended;rw[hp]
 obtain⟨mv,ke,nb,hb,ch,zs,hz,H⟩:=ym.ctl hi .head H
 have HZ:=Lib.hid hz
 have hup:upC s.ctl i (s.ctl i)=s.ctl:=z4M _ _
 obtain⟨x,hx⟩:=xG (s.ctl i)
 rw[hx]at hs hp he hD1 H hup
 obtain⟨xp,xs,xq,xd,xe,xr,xt,xa,xo⟩:=x
 dsimp only at hp he hD1
 subst hp
 obtain⟨⟨pb,qu,er,da⟩,hch⟩:∃x,ch i=x:=⟨_,rfl⟩
 rw[hch]at H
 obtain⟨ne,hne⟩:=xG (xr.length)
 obtain⟨nd,hnd⟩:=xG (xt.length)
 simp only[hne,hnd,zaV]at H he hD1
 obtain⟨A1,c1,rfl⟩:=zt (v:=er) H pk
 obtain⟨A2,c2,rfl⟩:=zt (v:=da) H pk
 obtain⟨oc,hoc⟩:=xG (s.ctl (1-i))
 obtain⟨och,hoch⟩:=xG (ch (1-i))
 rw[hoc,hoch]at H
 have HPO:zy pb p=zaV pb (some p):=rfl
 have HOC:=Lib.hid hoc
 have HOCH:=Lib.hid hoch
 have HX:=Lib.hid hx
 have HNE:=Lib.hid hne
 have HND:=Lib.hid hnd
 have HUP:=Lib.hid hup
 have hB:=zg9 pb p
 have hL:=zg8 pb p
 obtain⟨bz,hbz⟩:=xG (p.busy)
 rw[hbz]at hs hB
 have HB:=Lib.hid hB
 have HL:=Lib.hid hL
 have HE:=Lib.hid (ziU hb s.hist xe p.err p.data h0 h1)
 clear hz hup hx hne hnd hch hoc hoch hB hL hbz
 cases xd with
 |false=>
  rw[if_pos rfl]at hs
  rw[hs]
  clear hs
  go_enter Tryz.func117,Tryz.ntmps117
  go_wp2_with (first|refine ld1 H (hh:=hdx) ?_|refine xLd H ?_|(refine zr (by rfl) (fun K' hK=>?_);(first|refine jo H (ht:=yy pk (by assumption)) ?_|refine jo H (ht:=yt pk (by assumption)) ?_);clear H;intro w H;try dsimp only[List.set]at H;refine hK _ _ ?_;clear hK K')|(refine xEf H ?_;clear H;intro b A' w H))
  refine xRz ?_
  have H2:=ym.ctl_join (s:=s) mv ke nb hb ch zs ⟨some p,xs,xq,false,xe,xr,xt,xa,xo⟩ ⟨pb,qu,.slice A1 ne c1,.slice A2 nd c2⟩ hi (po:=some p) (by rw[HOC.out,HOCH.out,<-HPO];exact H.sub sba) rfl HZ.out (e2:=HNE.out.symm) (e4:=HND.out.symm)
  rw[HUP.out]at H2
  exact⟨_,_,rfl,⟨rfl,rfl⟩,H2.sub sba⟩
 |true=>
  dsimp only at hs
  rw[if_neg (by decide)]at hs
  cases bz with
  |true=>
   rw[if_pos rfl]at hs
   rw[hs]
   clear hs
   go_enter Tryz.func117,Tryz.ntmps117
   go_wp2_with (first|(go_at_call 163;refine xT2 (HB.out) H ?_;clear H;intro w H)|first|refine ld1 H (hh:=hdx) ?_|refine xLd H ?_|(refine zr (by rfl) (fun K' hK=>?_);(first|refine jo H (ht:=yy pk (by assumption)) ?_|refine jo H (ht:=yt pk (by assumption)) ?_);clear H;intro w H;try dsimp only[List.set]at H;refine hK _ _ ?_;clear hK K')|(refine xEf H ?_;clear H;intro b A' w H))
   refine xRz ?_
   have H2:=ym.ctl_join (s:=s) mv ke nb hb ch zs ⟨some p,xs,xq,true,xe,xr,xt,xa,xo⟩ ⟨pb,qu,.slice A1 ne c1,.slice A2 nd c2⟩ hi (po:=some p) (by rw[HOC.out,HOCH.out,<-HPO];exact H.sub sba) rfl HZ.out (e2:=HNE.out.symm) (e4:=HND.out.symm)
   rw[HUP.out]at H2
   exact⟨_,_,rfl,⟨rfl,rfl⟩,H2.sub sba⟩
  |false=>
   rw[if_neg (by decide)]at hs
   rw[hs]
   clear hs
   go_enter Tryz.func117,Tryz.ntmps117
   go_upto_region 2 with(first|(go_at_call 163;refine xT2 (HB.out) H ?_;clear H;intro w H)|(go_at_call 164;refine xT2 (HL.out) H ?_;clear H;intro w H)|first|refine ld1 H (hh:=hdx) ?_|refine xLd H ?_|(refine zr (by rfl) (fun K' hK=>?_);(first|refine jo H (ht:=yy pk (by assumption)) ?_|refine jo H (ht:=yt pk (by assumption)) ?_);clear H;intro w H;try dsimp only[List.set]at H;refine hK _ _ ?_;clear hK K')|(refine xEf H ?_;clear H;intro b A' w H))
   refine xRg [10] (fun L=>[L,[]]) H ?_
   clear H;intro w H
   have HS:=H
   refine xO 0 0 HS ?_
   refine xO 1 0 HS ?_
   refine xO 2 0 HS ?_
   refine xL 3 0 HS ?_ (hin:=(.stop (n:=11) hdx (by kernel_rfl)))
   refine xO 4 0 HS ?_
   refine xO 5 0 HS ?_
   refine xO 6 0 HS ?_
   refine xL 7 0 HS ?_ (hin:=(.stop (n:=11) hdx (by kernel_rfl)))
   refine xO 8 0 HS ?_
   refine xO 9 0 HS ?_
   refine xC 10 1 HE.out H ?_
   clear H HS;intro w H HS
   refine xD ?_
   go_wp2_with (first|refine ld1 H (hh:=hdx) ?_|refine xLd H ?_|(refine zr (by rfl) (fun K' hK=>?_);(first|refine jo H (ht:=yy pk (by assumption)) ?_|refine jo H (ht:=yt pk (by assumption)) ?_);clear H;intro w H;try dsimp only[List.set]at H;refine hK _ _ ?_;clear hK K')|(refine xEf H ?_;clear H;intro b A' w H))
   refine xRe ?_
   have H2:=ym.ctl_join (s:=s) mv ke nb hb ch zs (CtlM.noted ⟨some p,xs,xq,true,xe,xr,xt,xa,xo⟩ p) ⟨pb,qu,_,_⟩ hi (po:=some p) (by rw[HOC.out,HOCH.out,<-HPO];exact H.sub sba) rfl HZ.out (e2:=by rw[List.length_append,HNE.out];rfl) (e3:=by rw[List.map_append];rfl) (e4:=by rw[List.length_append,HND.out];rfl) (e5:=by rw[List.map_append];rfl)
   exact⟨_,_,rfl,⟨rfl,rfl⟩,H2.sub sba⟩
end Go.Proofs.YtmfincpagnpkjaaGreat
