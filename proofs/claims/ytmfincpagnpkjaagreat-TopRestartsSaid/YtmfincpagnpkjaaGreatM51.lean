/- Part of the proof. -/
import Derived.Test.YtmfincpagnpkjaaGreatM50
set_option linter.all false
set_option maxRecDepth 100000
set_option maxHeartbeats 100000000
namespace Go.Proofs.YtmfincpagnpkjaaGreat
open Go.RowKit
section
section
variable {F0:Nat->Prop} {w0 w:World} {L L':List Assn} {c n:Nat} {s:ClusM} {m:MacM} {zs:List (MacH×MacM)}
theorem zck {f:MacH×MacM->List Value} {x y:MacH×MacM}:∀{zs:List (MacH×MacM)} {n:Nat},zs[n]?=some x->f x=f y->zd f (zs.set n y)=zd f zs
 |[],n,h,_=>by simp at h
 |z::zs,0,h,e=>by
  simp at h
  subst h
  rw[List.set_cons_zero]
  show zd f ([y]++zs)=zd f ([z]++zs)
  simp[zd,e]
 |z::zs,n+1,h,e=>by
  rw[List.set_cons_succ]
  show zd f ([z]++zs.set n y)=zd f ([z]++zs)
  have ih:=zck (zs:=zs) (n:=n) (by simpa using h) e
  simp only[zd,List.flatMap_append]at ih⊢
  rw[ih]
theorem ym.mac (hm:s.nodes[n]?=some m) (hp:Pick (ym c s) L L') (H:Sep F0 w0 w L):∃(g cz nz ke nb hb:Nat) (ch:Nat->CtlH) (zs:List (MacH×MacM)) (p q:Nat),Hid (zs.map (·.2)=s.nodes/\zs[n]?=some (⟨p,q⟩,m)/\zs.length=nz)/\n<nz/\
  Sep F0 w0 w (z7 c z4d (s.cells ⟨.slice (some ⟨g,0,none⟩) nz cz,ke,nb,hb,ch,zs⟩)::zh 89 2 (.slice (some ⟨g,0,none⟩) nz cz) nz (zd z8K zs)::yz p m.disk::zge s.S.toNat ⟨p,q⟩ m.up::jj s.S.toNat (zs.eraseIdx n)::ya ke s.keeper::z13 nb s.net::js hb s.hist::z3e (ch 0) (s.ctl 0)::z3e (ch 1) (s.ctl 1)::L'):=by
 obtain⟨mv,ke,nb,hb,ch,zs,hz,H⟩:=ym.parts hp H
 obtain⟨⟨p,q⟩,hx⟩:=zlA hz hm
 have hlt:=(List.getElem?_eq_some_iff.1 hx).1
 obtain⟨g1,c1,hA⟩:=zz (n:=zs.length) (v:=mv) H pk (by omega)
 subst hA
 have H2:=jj.open' hx (H.sub (K:=jj s.S.toNat zs::z7 c z4d _::zh 89 2 (.slice (some ⟨g1,0,none⟩) zs.length c1) zs.length (zd z8K zs)::ya ke s.keeper::z13 nb s.net::js hb s.hist::z3e (ch 0) (s.ctl 0)::z3e (ch 1) (s.ctl 1)::L') sb)
 exact⟨g1,c1,zs.length,ke,nb,hb,ch,zs,p,q,Lib.hid ⟨hz,hx,rfl⟩,hlt,H2.sub sb⟩
theorem ym.mac_join (g cz nz ke nb hb:Nat) (ch:Nat->CtlH) (p q:Nat) {d:List ByteArray} {tm:Int} {K:KeeperM} {N:NetM} {T:HistM} (hz:Hid (zs.map (·.2)=s.nodes/\zs[n]?=some (⟨p,q⟩,m)/\zs.length=nz))
  (H:Sep F0 w0 w (z7 c z4d (ClusM.cells {s with time:=tm} ⟨.slice (some ⟨g,0,none⟩) nz cz,ke,nb,hb,ch,zs⟩)::zh 89 2 (.slice (some ⟨g,0,none⟩) nz cz) nz (zd z8K zs)::yz p d::zge s.S.toNat ⟨p,q⟩ m.up::jj s.S.toNat (zs.eraseIdx n)::ya ke K::z13 nb N::js hb T::z3e (ch 0) (s.ctl 0)::z3e (ch 1) (s.ctl 1)::L)):
  Sep F0 w0 w (ym c {s with time:=tm,nodes:=s.nodes.set n ⟨d,m.up⟩,keeper:=K,net:=N,hist:=T}::L):=by
 obtain⟨h1,h2,h3⟩:=hz.out
 have H2:=jj.shut (y:=(⟨p,q⟩,⟨d,m.up⟩)) h2 (H.sub (K:=yz p d::zge s.S.toNat ⟨p,q⟩ m.up::jj s.S.toNat (zs.eraseIdx n)::z7 c z4d _::zh 89 2 (.slice (some ⟨g,0,none⟩) nz cz) nz (zd z8K zs)::ya ke K::z13 nb N::js hb T::z3e (ch 0) (s.ctl 0)::z3e (ch 1) (s.ctl 1)::L) sb)
 rw[<-zck (f:=z8K) (y:=(⟨p,q⟩,⟨d,m.up⟩)) h2 rfl]at H2
 exact ym.join (.slice (some ⟨g,0,none⟩) nz cz) ke nb hb ch (zs.set n (⟨p,q⟩,⟨d,m.up⟩)) (H2.sub sb) (by rfl) (zh8 n (⟨p,q⟩,⟨d,m.up⟩) h1) (e4:=by rw[List.length_set,h3])
end
def zmw (s:ClusM) (n:Nat):Bool:=match s.nodes[n]? with
 |some m=>m.up
 |none=>false
theorem zlD (c n:Nat) (s:ClusM) (hl:(s.nodes.length:Int)=s.N):zi Tryz.prog 64 #[.pointer (some ⟨c,0,none⟩),.int .i64 n] [ym c s] fun r K=>r= .bool (zmw s n)/\K=[ym c s]:=by
 intro F0 w0 w R H
 try simp only[xNf]at H
 have hI:=z2Q c s n
 have h0:decide ((0:Int)<=n)=true:=decide_eq_true (by omega)
 rw[h0,Bool.true_and]at hI
 cases hm:s.nodes[n]? with
 |none=>
  have hlt:decide ((n:Int)<s.N)=false:=by
   have:=List.getElem?_eq_none_iff.1 hm
   exact decide_eq_false (by omega)
  rw[hlt]at hI
  have HI:=Lib.hid hI
  have hu:zmw s n=false:=by unfold zmw;rw[hm]
  rw[hu]
  clear hI hlt h0 hm hl hu
  go_enter Tryz.func64,Tryz.ntmps64
  go_wp2_with (first|(go_at_call 28;refine xT2 (HI.out) H ?_;clear H;intro w H)|first|refine xLd H ?_|(refine xEf H ?_;clear H;intro b A' w H))
  refine xR1 H ?_
  exact xF H
 |some m=>
  have hlt:decide ((n:Int)<s.N)=true:=by
   have:=(List.getElem?_eq_some_iff.1 hm).1
   exact decide_eq_true (by omega)
  rw[hlt]at hI
  have HI:=Lib.hid hI
  have hu:zmw s n=m.up:=by unfold zmw;rw[hm]
  rw[hu]
  obtain⟨d,up⟩:=m
  have HM:=Lib.hid hm
  have hset:=Lib.hid (show s.nodes.set n ⟨d,up⟩=s.nodes from by
   obtain⟨h1,h2⟩:=List.getElem?_eq_some_iff.1 hm
   rw[<-h2,List.set_getElem_self])
  clear hI hlt h0 hm hl hu
  go_enter Tryz.func64,Tryz.ntmps64
  cases up with
  |true=>
   go_wp2_with (first
    |(go_at_call 28;revert H;refine zi.use HI.out pks ?_;rintro _ _ w ⟨rfl,rfl⟩ H;try simp only[xNf]at H;obtain⟨g,cz,nz,ke,nb,hb,ch,zs,p,q,HZ,hnz,H⟩:=ym.mac HM.out .head H;have hnz2:(n:Int)<nz:=by omega)
    |(refine ld1 H (v:=.pointer (some ⟨q,0,none⟩)) (hh:=yr pk (HZ.out).2.1 yi (by rfl) (by rfl)) ?_)
    |first|refine xLd H ?_|(refine xEf H ?_;clear H;intro b A' w H))
   refine xR1 H ?_
   have H2:=ym.mac_join (d:=d) g cz nz ke nb hb ch p q HZ (H.sub sba)
   rw[hset.out]at H2
   exact⟨_,_,rfl,⟨rfl,rfl⟩,H2.sub sba⟩
  |false=>
   go_wp2_with (first
    |(go_at_call 28;revert H;refine zi.use HI.out pks ?_;rintro _ _ w ⟨rfl,rfl⟩ H;try simp only[xNf]at H;obtain⟨g,cz,nz,ke,nb,hb,ch,zs,p,q,HZ,hnz,H⟩:=ym.mac HM.out .head H;have hnz2:(n:Int)<nz:=by omega)
    |(refine ld1 H (v:=.pointer none) (hh:=yr pk (HZ.out).2.1 yi (by rfl) (by rfl)) ?_)
    |first|refine xLd H ?_|(refine xEf H ?_;clear H;intro b A' w H))
   refine xR1 H ?_
   have H2:=ym.mac_join (d:=d) g cz nz ke nb hb ch p q HZ (H.sub sba)
   rw[hset.out]at H2
   exact⟨_,_,rfl,⟨rfl,rfl⟩,H2.sub sba⟩
end
def z1b (y:SayM):Prop:=y.rcd.block.size<=9223372036854775807/\y.rcd.staged.size<=9223372036854775807
theorem z1b.nil:z1b SayM.nil:=by unfold z1b;decide
theorem z1b.of {y:SayM} (h:y.rcd=Rec.nil):z1b y:=by unfold z1b;rw[h];decide
theorem zbn {l:Letter} (h:z03 l=true):z4H l/\z39 l.to=true:=by
 unfold z03 at h
 simp only[Bool.and_eq_true,decide_eq_true_eq]at h
 obtain⟨_,h2,_,_,h5⟩:=h
 refine⟨?_,h2⟩
 split at h5
 ·simp only[Bool.and_eq_true]at h5
  have h6:=h5.2
  unfold z14 at h6
  simp only[Bool.and_eq_true]at h6
  have h7:=z6b h6.2.2.2.2.2.2
  exact⟨by omega,by omega⟩
 ·simp only[Bool.and_eq_true]at h5
  exact z4H.nil (SayM.same_iff.1 h5.1)
theorem zcf {x:ByteArray} {l:Letter} (h:zh6 x=some l):z03 l=true:=by
 unfold zh6 at h
 split at h
 ·cases h
 ·split at h
  ·split at h
   ·cases h
   ·split at h
    ·rename_i hp
     cases h
     unfold zeH at hp
     split at hp
     ·rename_i h1
      simp only[Bool.and_eq_true]at h1
      exact h1.1.1
     ·cases hp
    ·cases h
  ·cases h
def OkS (B:Nat) (x:Rec×SayM):Prop:=x.2.rcd.block.size<=B/\x.2.rcd.staged.size<=B
theorem OkS.ite {B:Nat} {c:Prop} [Decidable c] {x y:Rec×SayM} (hx:OkS B x) (hy:OkS B y):OkS B (if c then x else y):=by
 split
 ·exact hx
 ·exact hy
theorem zht {r:Rec} {q:AskM} {B:Nat} (h1:r.block.size<=B) (h2:r.staged.size<=B) (h3:q.block.size<=B):OkS B (zb7 r q):=by
 have h0:noB.size<=B:=by simp[noB,ByteArray.size]
 have h4:Rec.nil.block.size<=B:=h0
 have h5:Rec.nil.staged.size<=B:=h0
 unfold zb7 zco zmH zlM z4V z8c z7h
 repeat' (first|exact OkS.ite (by assumption) (by assumption)|apply OkS.ite)
 all_goals exact⟨by assumption,by assumption⟩
theorem zh0 {r:Rec} {q:AskM} {B:Nat} (h1:r.block.size<=B) (h2:r.staged.size<=B) (h3:q.block.size<=B):OkS B (z3N r q):=by
 unfold z3N
 split
 ·exact zht h1 h2 h3
 ·exact⟨Nat.zero_le _,Nat.zero_le _⟩
theorem z1b.small {y:SayM} (h:y.rcd.block.size<=16/\y.rcd.staged.size<=16):z1b y:=⟨by have:=h.1;omega,by have:=h.2;omega⟩
theorem zfN (k:Nat) (d:List ByteArray) (q:AskM):z1b (z2i k d q).2.1:=by
 unfold z2i
 split
 ·exact z1b.of rfl
 ·rename_i h
  have hq:yb q=true:=by
   cases hq:yb q
   ·exact absurd (.inl hq) h
   ·rfl
  have h1:=z4t d q.stripe.toNat
  have h2:OkS 16 (z3N (z2j d q.stripe.toNat) q):=zh0 h1.1 h1.2 (z6c hq)
  dsimp only
  split
  ·exact z1b.small h2
  ·split
   ·exact z1b.small h2
   ·exact z1b.nil
theorem zfO (k:Nat) (d:List ByteArray) (q:AskM):(z2i k d q).1.length=d.length:=by
 unfold z2i
 split
 ·rfl
 ·dsimp only
  split
  ·rfl
  ·split<;>exact z7i _ _ _
def KOk (s:KeeperM):Prop:=z1b s.a0.say/\z1b s.a1.say
theorem zeq (ls:List LeaseM) (now frm:Int) (q:AskM):z1b (z2f ls now frm q).2:=by
 unfold z2f
 split
 ·exact z1b.of rfl
 ·split
  ·exact z1b.of rfl
  ·dsimp only
   split
   ·exact z1b.of rfl
   ·exact z1b.of rfl
theorem KOk.act {s:KeeperM} (h:KOk s) (now frm id:Int) (q:AskM):KOk (s.act now frm id q).1/\z1b (s.act now frm id q).2.1:=by
 unfold KeeperM.act
 split
 ·exact⟨h,z1b.nil⟩
 ·split
  ·exact⟨h,z1b.nil⟩
  ·split
   ·have h1:=zeq s.leases (zv now) frm q
    dsimp only
    refine⟨?_,h1⟩
    unfold KeeperM.setLast
    split
    ·exact⟨h1,h.2⟩
    ·exact⟨h.1,h1⟩
   ·refine⟨h, ?_⟩
    unfold KeeperM.last
    split
    ·exact h.1
    ·exact h.2
structure Moved (i k:Nat) (s t:ClusM):Prop where
 N:t.N=s.N
 S:t.S=s.S
 time:t.time=s.time
 nodes:t.nodes=s.nodes
 keeper:t.keeper=s.keeper
 net:t.net=s.net
 oth:∀j,j≠i->t.ctl j=s.ctl j
 g0:s.hist.given<=t.hist.given
 g1:t.hist.given<=s.hist.given+k
 ev:s.hist.evs.length<=200->t.hist.evs.length<=200
theorem Moved.refl (i k:Nat) (s:ClusM):Moved i k s s:=⟨rfl,rfl,rfl,rfl,rfl,rfl,fun _ _=>rfl,Int.le_refl _,by omega,id⟩
theorem Moved.trans {i k l:Nat} {s t u:ClusM} (h1:Moved i k s t) (h2:Moved i l t u):Moved i (k+l) s u:=
 ⟨h2.N.trans h1.N,h2.S.trans h1.S,h2.time.trans h1.time,h2.nodes.trans h1.nodes,h2.keeper.trans h1.keeper,h2.net.trans h1.net,fun j hj=>(h2.oth j hj).trans (h1.oth j hj),Int.le_trans h1.g0 h2.g0,by have:=h1.g1;have:=h2.g1;omega,fun h=>h2.ev (h1.ev h)⟩
theorem Moved.less {i k l:Nat} {s t:ClusM} (h:Moved i k s t) (hk:k<=l):Moved i l s t:=⟨h.N,h.S,h.time,h.nodes,h.keeper,h.net,h.oth,h.g0,by have:=h.g1;omega,h.ev⟩
theorem z2g {α:Type} (f:Nat->α) {i j:Nat} (x:α) (h:j≠i):upC f i x j=f j:=if_neg h
theorem HistM.fin_evs (h:HistM) (n e:Int) (d:ByteArray) (hl:h.evs.length<=200):(h.fin n e d).1.evs.length<=200:=by
 unfold HistM.fin
 split
 ·exact hl
 ·split
  ·show(h.evs.set _ _).length<=200
   rw[List.length_set]
   exact hl
  ·exact hl
theorem HistM.begin_evs (h:HistM) (n:Int) (op:OpM) (hl:h.evs.length<=200):(h.begin n op).1.evs.length<=200:=by
 unfold HistM.begin
 split
 ·exact hl
 ·show(h.evs++[_]).length<=200
  rw[List.length_append]
  simp only[List.length_cons,List.length_nil]
  omega
theorem z89 (s:ClusM) (i:Nat):Moved i 1 s (s.ended i):=by
 unfold ClusM.ended
 split
 ·exact Moved.refl _ _ _
 ·split
  ·exact Moved.refl _ _ _
  ·split
   ·exact Moved.refl _ _ _
   ·exact⟨rfl,rfl,rfl,rfl,rfl,rfl,fun j hj=>z2g _ _ hj,(HistM.fin_given ..).1,(HistM.fin_given ..).2,HistM.fin_evs _ _ _ _⟩
theorem z9X (s:ClusM) (i:Nat) (p:PilotM) (op:OpM) (rest:List OpM):Moved i 2 s (s.startOp i p op rest):=by
 have h1:Moved i 1 s {s with hist:=(s.hist.begin i op).1,ctl:=upC s.ctl i {s.ctl i with queue:=rest,event:=(s.hist.begin i op).2,doing:=true,pil:=some (p.submit s.time op)}}:=
  ⟨rfl,rfl,rfl,rfl,rfl,rfl,fun j hj=>z2g _ _ hj,(HistM.begin_given ..).1,(HistM.begin_given ..).2,HistM.begin_evs _ _ _⟩
 exact h1.trans (z89 _ i)
theorem z6o (i:Nat):∀(n:Nat) (s:ClusM),Moved i (2*n) s (ClusM.goLoop i n s)
 |0,s=>Moved.refl _ _ _
 |n+1,s=>by
  rw[ClusM.goLoop]
  split
  ·exact Moved.refl _ _ _
  ·split
   ·exact((z9X s i _ _ _).trans (z6o i n _)).less (by omega)
   ·exact Moved.refl _ _ _
theorem zfn (s:ClusM) (i:Nat):Moved i 0 s (s.told i):=by
 unfold ClusM.told
 split
 ·exact⟨rfl,rfl,rfl,rfl,rfl,rfl,fun j hj=>z2g _ _ hj,Int.le_refl _,by show s.hist.given<=s.hist.given+((0:Nat):Int);omega,id⟩
 ·exact Moved.refl _ _ _
theorem z5N (s:ClusM) (i:Nat):Moved i (1+2*((s.ended i).ctl i).queue.length) s (s.goOn i):=by
 have h:=((z89 s i).trans (z6o i ((s.ended i).ctl i).queue.length (s.ended i))).trans (zfn _ i)
 exact h
theorem GInv.told {i m:Nat} {s:ClusM} {p:PilotM} (h:GInv i m s p):GInv i m (s.told i) p/\((s.told i).ctl i).queue=(s.ctl i).queue:=by
 unfold ClusM.told
 split
 ·rename_i hc
  refine⟨⟨?_,h.inv, ?_, ?_,h.h0,h.h1, ?_, ?_, ?_⟩, ?_⟩
  ·show(upC s.ctl i _ i).pil=_
   rw[yv]
   exact h.pil
  ·show(upC s.ctl i _ i).doing=false->_
   rw[yv]
   exact h.idle
  ·show ∀o∈(upC s.ctl i _ i).queue,OpOk s.N s.S o
   rw[yv]
   exact h.ops
  ·show(upC s.ctl i {s.ctl i with answer:=z1j (s.ctl i).errs (s.ctl i).data,done:=true} i).errs.length+(upC s.ctl i {s.ctl i with answer:=z1j (s.ctl i).errs (s.ctl i).data,done:=true} i).queue.length+(if(upC s.ctl i {s.ctl i with answer:=z1j (s.ctl i).errs (s.ctl i).data,done:=true} i).doing=true then 1 else 0)<=1000
   rw[yv]
   exact h.er
  ·show(upC s.ctl i {s.ctl i with answer:=z1j (s.ctl i).errs (s.ctl i).data,done:=true} i).data.length=(upC s.ctl i {s.ctl i with answer:=z1j (s.ctl i).errs (s.ctl i).data,done:=true} i).errs.length
   rw[yv]
   exact h.da
  ·show ∀d∈(upC s.ctl i {s.ctl i with answer:=z1j (s.ctl i).errs (s.ctl i).data,done:=true} i).data,d.size<=16
   rw[yv]
   exact h.ds
  ·show(upC s.ctl i _ i).queue=_
   rw[yv]
 ·exact⟨h,rfl⟩
theorem GInv.goLoop {i m:Nat}:∀(n:Nat) {s:ClusM} {p:PilotM},GInv i (m+130*n) s p->∃q,GInv i m (ClusM.goLoop i n s) q/\((ClusM.goLoop i n s).ctl i).queue.length<=(s.ctl i).queue.length
 |0,s,p,h=>⟨p,h,Nat.le_refl _⟩
 |n+1,s,p,h=>by
  rw[ClusM.goLoop]
  split
  ·exact⟨p,h.less (by omega),Nat.le_refl _⟩
  ·rename_i hd
   split
   ·rename_i op rest q hq hp
    have e:p=q:=Option.some.inj (h.pil.symm.trans hp)
    subst e
    have h1:=GInv.start (m:=m+130*n) (h.less (by omega)) (by simpa using hd) hq
    obtain⟨q,h2,h3⟩:=GInv.goLoop n h1.1
    refine⟨q,h2,Nat.le_trans h3 ?_⟩
    rw[h1.2,hq]
    simp
   ·exact⟨p,h.less (by omega),Nat.le_refl _⟩
theorem GInv.goOn {i m:Nat} {s:ClusM} {p:PilotM} (h:GInv i (m+130*(s.ctl i).queue.length+1) s p):∃q,GInv i m (s.goOn i) q/\((s.goOn i).ctl i).queue.length<=(s.ctl i).queue.length/\Moved i (1+2*(s.ctl i).queue.length) s (s.goOn i):=by
 have h1:=h.ended h.hid
 have hm:=z5N s i
 rw[h1.2]at hm
 obtain⟨q,h2,h3⟩:=GInv.goLoop (m:=m) ((s.ended i).ctl i).queue.length (s:=s.ended i) (p:=p) (by rw[h1.2];exact h1.1)
 have h4:=h2.told
 refine⟨q,h4.1, ?_,hm⟩
 show((ClusM.told (ClusM.goLoop i ((s.ended i).ctl i).queue.length (s.ended i)) i).ctl i).queue.length<=_
 rw[h4.2]
 rw[h1.2]at h3
 rw[h1.2]
 exact h3
structure CInv (B:Nat) (s:ClusM):Prop where
 right:yn s.N s.S=true
 nN:(s.nodes.length:Int)=s.N
 up:∀m∈s.nodes,m.disk.length=s.S.toNat/\m.up=true
 net:z2Z s.net
 kp:KOk s.keeper
 g:∀i,i<2->∃p,GInv i B s p
 q:∀i,i<2->(s.ctl i).queue.length<=100
 ev:s.hist.evs.length<=200
theorem CInv.less {B C:Nat} {s:ClusM} (h:CInv B s) (hc:C<=B):CInv C s:=⟨h.right,h.nN,h.up,h.net,h.kp,fun i hi=>by
 obtain⟨p,hp⟩:=h.g i hi
 exact⟨p,hp.less hc⟩,h.q,h.ev⟩
theorem GInv.other {i j m k:Nat} {s t:ClusM} {p:PilotM} (h:GInv j (m+k) s p) (hm:Moved i k s t) (hj:j≠i):GInv j m t p:=by
 have e:=hm.oth j hj
 refine⟨by rw[e];exact h.pil,by rw[hm.N,hm.S];exact h.inv.less (by omega),by rw[e];exact h.idle,by rw[e,hm.N,hm.S];exact h.ops,by have:=h.h0;have:=hm.g0;omega,by have:=h.h1;have:=hm.g1;omega,by rw[e];exact h.er,by rw[e];exact h.da,by rw[e];exact h.ds⟩
theorem CInv.net' {B:Nat} {s:ClusM} (h:CInv B s) {n:NetM} (hn:z2Z n):CInv B {s with net:=n}:=⟨h.right,h.nN,h.up,hn,h.kp,fun i hi=>by
 obtain⟨p,hp⟩:=h.g i hi
 exact⟨p,⟨hp.pil,hp.inv,hp.idle,hp.ops,hp.h0,hp.h1,hp.er,hp.da,hp.ds⟩⟩,h.q,h.ev⟩
theorem CInv.pass {B:Nat} {s:ClusM} (h:CInv B s) (n:Int):CInv B (s.pass n):=⟨h.right,h.nN,h.up,h.net,h.kp,fun i hi=>by
 obtain⟨p,hp⟩:=h.g i hi
 exact⟨p,⟨hp.pil,hp.inv,hp.idle,hp.ops,hp.h0,hp.h1,hp.er,hp.da,hp.ds⟩⟩,h.q,h.ev⟩
theorem CInv.goOn {B i:Nat} {s:ClusM} (h:CInv (B+201) s) (hi:i<2) {t:ClusM} {q:PilotM} (hN:t.N=s.N) (hS:t.S=s.S) (hno:t.nodes=s.nodes) (hk:t.keeper=s.keeper) (ho:∀j,j≠i->t.ctl j=s.ctl j) (hh:t.hist=s.hist) (hn:z2Z t.net) (hq:(t.ctl i).queue.length<=100) (hg:GInv i (B+13001) t q):CInv B (t.goOn i):=by
 have hgl:GInv i (B+130*(t.ctl i).queue.length+1) t q:=hg.less (by omega)
 obtain⟨p,h1,h2,h3⟩:=GInv.goOn hgl
 refine⟨by rw[h3.N,h3.S,hN,hS];exact h.right,by rw[h3.nodes,h3.N,hno,hN];exact h.nN,by rw[h3.nodes,h3.S,hno,hS];exact h.up,by rw[h3.net];exact hn,by rw[h3.keeper,hk];exact h.kp,fun j hj=>?_,fun j hj=>?_,h3.ev (by rw[hh];exact h.ev)⟩
 ·by_cases e:j=i
  ·subst e
   exact⟨p,h1⟩
  ·obtain⟨p2,h4⟩:=h.g j hj
   have hm:Moved i 0 s {s with ctl:=t.ctl}:=⟨rfl,rfl,rfl,rfl,rfl,rfl,ho,Int.le_refl _,by show s.hist.given<=s.hist.given+((0:Nat):Int);omega,id⟩
   have h5:=GInv.other (m:=B+201) h4 hm e
   refine⟨p2,GInv.other (i:=i) (k:=201) (s:=t) ⟨?_, ?_, ?_, ?_, ?_, ?_, ?_, ?_, ?_⟩ (h3.less (by omega)) e⟩
   ·exact h5.pil
   ·rw[hN,hS];exact h5.inv
   ·exact h5.idle
   ·rw[hN,hS];exact h5.ops
   ·rw[hh];exact h5.h0
   ·rw[hh];exact h5.h1
   ·exact h5.er
   ·exact h5.da
   ·exact h5.ds
 ·by_cases e:j=i
  ·subst e
   omega
  ·rw[h3.oth j e,ho j e]
   exact h.q j hj
theorem CInv.step {B i:Nat} {s:ClusM} (h:CInv (B+13300) s) (hi:i<2):CInv B (s.step i):=by
 obtain⟨p,hp⟩:=h.g i hi
 have e:s.step i=ClusM.goOn ((s.setP i (p.step s.time).1).sends (p.step s.time).2) i:=by unfold ClusM.step;rw[hp.pil]
 rw[e]
 refine(h.less (C:=B+201) (by omega)).goOn hi rfl rfl rfl rfl (fun j hj=>z2g _ _ hj) rfl (h.net.puts) ?_ (GInv.stepP (m:=B+13001) (hp.less (by omega)))
 show(upC s.ctl i _ i).queue.length<=100
 rw[yv]
 exact h.q i hi
theorem CInv.receive {B i:Nat} {s:ClusM} (h:CInv (B+13300) s) (hi:i<2) (l:Letter):CInv B (s.receive i l):=by
 obtain⟨p,hp⟩:=h.g i hi
 have e:s.receive i l=ClusM.goOn ((s.setP i (p.receive s.time l).1).sends (p.receive s.time l).2) i:=by unfold ClusM.receive;rw[hp.pil]
 rw[e]
 refine(h.less (C:=B+201) (by omega)).goOn hi rfl rfl rfl rfl (fun j hj=>z2g _ _ hj) rfl (h.net.puts) ?_ (GInv.receiveP (m:=B+13001) (hp.less (by omega)) l)
 show(upC s.ctl i _ i).queue.length<=100
 rw[yv]
 exact h.q i hi
def ClusM.handle (s:ClusM) (l:Letter):ClusM:=
 if 200<=l.to then s.receive (l.to-200).toNat l
 else if l.answer=true then s
 else if l.to=100 then ClusM.back {s with keeper:=(s.keeper.act s.time l.frm l.id l.ask).1} l (s.keeper.act s.time l.frm l.id l.ask).2.1 (s.keeper.act s.time l.frm l.id l.ask).2.2
 else match s.nodes[l.to.toNat]? with
  |none=>s
  |some m=>ClusM.back {s with nodes:=s.nodes.set l.to.toNat ⟨(z2i s.S.toNat m.disk l.ask).1,m.up⟩} l (z2i s.S.toNat m.disk l.ask).2.1 (z2i s.S.toNat m.disk l.ask).2.2
def ClusM.deliver (s:ClusM) (r:Int):ClusM:=
 match (s.net.take r).2 with
 |none=>{s with net:=(s.net.take r).1}
 |some x=>match zh6 x with
  |none=>{s with net:=(s.net.take r).1}
  |some l=>ClusM.handle {s with net:=(s.net.take r).1} l
theorem CInv.back {B:Nat} {s:ClusM} (h:CInv B s) (l:Letter) (y:SayM) (ok:Bool):CInv B (s.back l y ok):=by
 unfold ClusM.back
 split
 ·exact h.net' h.net.puts
 ·exact h
theorem CInv.keep {B:Nat} {s:ClusM} (h:CInv B s) {k:KeeperM} (hk:KOk k):CInv B {s with keeper:=k}:=⟨h.right,h.nN,h.up,h.net,hk,fun i hi=>by
 obtain⟨p,hp⟩:=h.g i hi
 exact⟨p,⟨hp.pil,hp.inv,hp.idle,hp.ops,hp.h0,hp.h1,hp.er,hp.da,hp.ds⟩⟩,h.q,h.ev⟩
theorem CInv.node {B n:Nat} {s:ClusM} (h:CInv B s) {m:MacM} (hm:m.disk.length=s.S.toNat/\m.up=true):CInv B {s with nodes:=s.nodes.set n m}:=⟨h.right,by rw[List.length_set];exact h.nN,fun x hx=>by
 rcases List.mem_or_eq_of_mem_set hx with hx|rfl
 ·exact h.up x hx
 ·exact hm,h.net,h.kp,fun i hi=>by
 obtain⟨p,hp⟩:=h.g i hi
 exact⟨p,⟨hp.pil,hp.inv,hp.idle,hp.ops,hp.h0,hp.h1,hp.er,hp.da,hp.ds⟩⟩,h.q,h.ev⟩
theorem z7F {n:Int} (h:z39 n=true) (h2:200<=n):(n-200).toNat<2:=by
 unfold z39 at h
 simp only[Bool.or_eq_true,Bool.and_eq_true,decide_eq_true_eq,beq_iff_eq]at h
 omega
theorem CInv.handle {B:Nat} {s:ClusM} (h:CInv (B+13300) s) {l:Letter} (hl:z03 l=true):CInv B (s.handle l):=by
 unfold ClusM.handle
 split
 ·rename_i h2
  exact h.receive (z7F (zbn hl).2 h2) l
 ·split
  ·exact h.less (by omega)
  ·split
   ·exact((h.less (C:=B) (by omega)).keep (h.kp.act _ _ _ _).1).back _ _ _
   ·split
    ·exact h.less (by omega)
    ·rename_i m hm
     have hu:=h.up m (List.mem_of_getElem? hm)
     exact(CInv.node (m:=⟨(z2i s.S.toNat m.disk l.ask).1,m.up⟩) (h.less (C:=B) (by omega)) ⟨(zfO ..).trans hu.1,hu.2⟩).back _ _ _
theorem CInv.deliver {B:Nat} {s:ClusM} (h:CInv (B+13300) s) (r:Int):CInv B (s.deliver r):=by
 have hn:=(h.net.take r).1
 unfold ClusM.deliver
 split
 ·exact(h.less (by omega)).net' hn
 ·split
  ·exact(h.less (by omega)).net' hn
  ·rename_i l hg
   exact(h.net' hn).handle (zcf hg)
def ClusM.delivers:Nat->ClusM->ClusM
 |0,s=>s
 |n+1,s=>ClusM.delivers n (s.deliver 0)
theorem CInv.delivers {B:Nat}:∀(n:Nat) {s:ClusM},CInv (B+13300*n) s->CInv B (ClusM.delivers n s)
 |0,_,h=>h
 |n+1,s,h=>CInv.delivers n (CInv.deliver (B:=B+13300*n) (h.less (by omega)) 0)
def ClusM.round (s:ClusM):ClusM:=ClusM.step (ClusM.step (ClusM.delivers (s.pass 1).net.all.toNat (s.pass 1)) 0) 1
theorem CInv.round {B:Nat} {s:ClusM} (h:CInv (B+877800) s):CInv B s.round:=by
 have h6:=h.net.all64
 have h1:=h.pass 1
 have h2:CInv (B+26600) (ClusM.delivers (s.pass 1).net.all.toNat (s.pass 1)):=CInv.delivers _ (h1.less (by
  have e:(s.pass 1).net.all=s.net.all:=rfl
  rw[e]
  omega))
 exact CInv.step (CInv.step (B:=B+13300) (h2.less (by omega)) (by decide)) (by decide)
section
section
variable {F0:Nat->Prop} {w0 w:World} {L L':List Assn} {c nb o:Nat} {cs:List Value} {v:Value}
theorem ziR (hp:Pick (z7 c z4d cs) L L') (hn:cs[23]?=some (.pointer (some ⟨nb,0,none⟩))):jz L c 23 (.pointer (some ⟨nb,0,none⟩)):=zc hp hn
end
theorem zfP (c nb:Nat) (cs:List Value) (net:NetM) (ls:List Letter) (n:Nat) (v:Value) (hcs:cs[23]?=some (.pointer (some ⟨nb,0,none⟩))) (hn:ls.length=n) (hmax:n<=4000000000) (hN:z2Z net) (hl:∀l∈ls,z4H l):zi Tryz.prog 61 #[.pointer (some ⟨c,0,none⟩),v] [z7 c z4d cs,z13 nb net,zh 114 26 v n (zd Letter.cells ls)] fun r K=>r= .tuple #[]/\K=[z7 c z4d cs,z13 nb (net.puts ls),zh 114 26 v n (zd Letter.cells ls)]:=by
 intro F0 w0 w R H
 try simp only[xNf]at H
 obtain⟨A1,c1,rfl⟩:=zt (v:=v) H pk
 have HN:=Lib.hid hn
 have HI:=Lib.hid hN
 have HL:=Lib.hid hl
 have HCS:=Lib.hid hcs
 clear hn hN hl hcs
 go_enter Tryz.func61,Tryz.ntmps61
 go_wp2_with (first|refine xLd H ?_|(refine xEf H ?_;clear H;intro b A' w H))
 go_loopw [10] (fun v10 wr=>∃k:Nat,k<=n/\v10= .int .i64 k/\Sep F0 w0 wr (z7 c z4d cs::z13 nb (net.puts (ls.take k))::zh 114 26 (.slice A1 n c1) n (zd Letter.cells ls)::R)) (fun v10 _=>n-(intOf v10).toNat)
 case atStart=>
  refine⟨0,Nat.zero_le _,rfl, ?_⟩
  show Sep F0 w0 _ (z7 c z4d cs::z13 nb net::_)
  exact H
 case round=>
  clear H
  obtain⟨k,hk,rfl,H⟩:=hrel
  by_cases hlt:k<n
  ·obtain⟨l,hx⟩:∃x,ls[k]?=some x:=⟨_,List.getElem?_eq_getElem (by rw[HN.out];exact hlt)⟩
   have hok:=HL.out l (List.mem_of_getElem? hx)
   have hnx:=zbv (s:=net) hx
   have hI2:z2Z (net.puts (ls.take k)):=HI.out.puts
   have hP:=z7R l hok.1 hok.2
   have hpz:= @zbw l
   obtain⟨t,ht⟩:=xG (net.puts (ls.take k))
   obtain⟨t2,ht2⟩:=xG (net.puts (ls.take (k+1)))
   rw[ht,ht2]at hnx
   rw[ht]at H hI2
   obtain⟨g1,c1',hA⟩:=zz (n:=n) (v:=.slice A1 n c1) H pk (by omega)
   cases hA
   have HX:=Lib.hid hx
   have HT2:=Lib.hid ht2
   unfold NetM.put at hnx
   cases hput:zeH l with
   |none=>
    rw[hput]at hP hnx
    rw[show zlu none= .tuple #[.string noB,.int .i64 120]from rfl]at hP
    have HP:=Lib.hid hP
    have HNX:=Lib.hid hnx
    clear hP hnx hok hI2 hpz ht ht2 hput hx
    go_wp2_with (first|(refine ldr H (hh:=(by first|exact yd pk (by first|exact HX.out) Letter.cells_length (by rfl) (ze (by rfl))|exact yq pk (by first|exact HX.out) Letter.cells_length (by rfl) (ze (by rfl)))) ?_)|(go_at_call 90;refine xT2 (HP.out) H ?_;clear H;intro w H)|first|refine xLd H ?_|(refine xEf H ?_;clear H;intro b A' w H))
    go_roundw
    case rel=>
     refine⟨k+1,by omega,by go_num, ?_⟩
     rw[HT2.out,HNX.out]
     exact H.sub sb
    case measure=>simp[intOf];omega
   |some x=>
    rw[hput]at hP hnx
    rw[show zlu (some x)= .tuple #[.string x,.int .i64 0]from rfl]at hP
    have hS:=z9m nb t x hI2.all0 hI2.size (by have:=hpz hput;omega)
    have HP:=Lib.hid hP
    have HNX:=Lib.hid hnx
    have HS:=Lib.hid hS
    clear hP hnx hok hI2 hpz ht ht2 hput hx hS
    go_wp2_with (first|(refine ldr H (hh:=(by first|exact yd pk (by first|exact HX.out) Letter.cells_length (by rfl) (ze (by rfl))|exact yq pk (by first|exact HX.out) Letter.cells_length (by rfl) (ze (by rfl)))) ?_)|(go_at_call 90;refine xT2 (HP.out) H ?_;clear H;intro w H)|(refine ld1 H (hh:=ziR pk HCS.out) ?_)|(go_at_call 33;refine xT2 (HS.out) H ?_;clear H;intro w H)|first|refine xLd H ?_|(refine xEf H ?_;clear H;intro b A' w H))
    go_roundw
    case rel=>
     refine⟨k+1,by omega,by go_num, ?_⟩
     rw[HT2.out,HNX.out]
     exact H.sub sb
    case measure=>simp[intOf];omega
  ·obtain rfl:k=n:=by omega
   go_wp2
   refine xRe ?_
   have e:ls.take k=ls:=by rw[<-HN.out,List.take_length]
   rw[e]at H
   exact xF H
abbrev NetM.backN (net:NetM) (l:Letter) (y:SayM) (ok:Bool):NetM:=if ok=true then net.puts [zbq l y]else net
theorem zaP (s:ClusM) (l:Letter) (y:SayM) (ok:Bool):s.back l y ok={s with net:=s.net.backN l y ok}:=by
 cases ok<;>rfl
theorem z9I (c nb bc bl:Nat) (cs:List Value) (tc:TypeId) (net:NetM) (l:Letter) (y:SayM) (ok:Bool) (hcs:cs[23]?=some (.pointer (some ⟨nb,0,none⟩))) (hN:z2Z net) (hy:z1b y):
  zi Tryz.prog 60 (#[y.v,.bool ok]++#[.pointer (some ⟨bc,0,none⟩),.pointer (some ⟨bl,0,none⟩)]) [z7 c z4d cs,z13 nb net,z7 bc tc [.pointer (some ⟨c,0,none⟩)],z7 bl 114 l.cells] fun r K=>r= .tuple #[]/\K=[z7 c z4d cs,z13 nb (net.backN l y ok),z7 bc tc [.pointer (some ⟨c,0,none⟩)],z7 bl 114 l.cells]:=by
 intro F0 w0 w R H
 try simp only[xNf]at H
 unfold NetM.backN
 cases ok with
 |false=>
  rw[if_neg (by decide)]
  go_enter Tryz.func60,Tryz.ntmps60
  go_wp2_with (first|refine xLd H ?_|(refine xEf H ?_;clear H;intro b A' w H))
  refine xRe ?_
  exact xF H
 |true=>
  rw[if_pos rfl]
  have hS:=fun b=>zfP c nb cs net [zbq l y] 1 (.slice (some ⟨b,0,none⟩) 1 1) hcs rfl (by decide) hN (fun x hx=>by simp at hx;subst hx;exact hy)
  have HS:=Lib.hid hS
  have HB:=Lib.hid (zel l y)
  clear hS hN hy hcs
  obtain⟨lf,lt,li,la,lq,ly⟩:=l
  obtain⟨z,hz⟩:=xG (zbq ⟨lf,lt,li,la,lq,ly⟩ y)
  rw[hz]at HS HB⊢
  clear hz
  go_enter Tryz.func60,Tryz.ntmps60
  go_upto_region 1 with(first|refine xLd H ?_|(refine xEf H ?_;clear H;intro b A' w H))
  go_wp2_with (first
   |(go_at_call 61;replace H:=z5j (n:=1) (size:=26) H rfl (by decide);rw[show z.cells=zd Letter.cells [z] by simp[zd]]at H;revert H;refine zi.use (HS.out _) pks ?_;rintro _ _ w ⟨rfl,rfl⟩ H;try simp only[xNf]at H)
   |(refine z8 (v:=z.v) (by rfl) (zb (t:=114) rfl ?_) ?_;(·simp only[List.map_cons,List.map_nil];exact HB.out _))
   |first|refine xLd H ?_|(refine xEf H ?_;clear H;intro b A' w H))
  refine xRe ?_
  exact xF H
end
end Go.Proofs.YtmfincpagnpkjaaGreat
