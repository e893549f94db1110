/- Part of the proof. -/
import Derived.Test.YtmfincpagnpkjaaGreatM44
set_option linter.all false
set_option maxRecDepth 100000
set_option maxHeartbeats 100000000
namespace Go.Proofs.YtmfincpagnpkjaaGreat
open Go.RowKit
section
section
variable {N S:Int} {n m:Nat} {s s':PilotM}
theorem PInv.less (h:PInv N S n s) (hm:m<=n):PInv N S m s:=⟨h.ok.less hm,h.right,h.st,h.col0,h.col1,h.kind,h.kn,h.rl,h.rd,h.wr,h.rc,h.up,h.opn,h.nx,h.fe,h.pu,h.dst,h.ds,h.ak,h.gN,h.gS⟩
theorem PInv.drop (h:PInv N S n s) (hN:s'.N=s.N:=by rfl) (hS:s'.S=s.S:=by rfl) (hl:s'.calls.last=s.calls.last:=by rfl) (ho:s'.calls.opn=[]:=by rfl) (ha:s'.asked=s.asked:=by rfl) (hd:s'.data=s.data:=by rfl) (w1:s'.work.stripe=s.work.stripe:=by rfl) (w2:s'.work.column=s.work.column:=by rfl) (w3:s'.work.op=s.work.op:=by rfl)
  (w4:s'.work.known=s.work.known:=by rfl) (w5:s'.work.records=s.work.records:=by rfl) (w6:s'.work.reads=s.work.reads:=by rfl) (w7:s'.work.writes=s.work.writes:=by rfl) (w8:s'.work.upd=s.work.upd:=by rfl)
  (fe:s'.work.next=some .fence->(s.work.known.length:Int)=s.N:=by exact fun h=>(by cases h)) (pu:s'.work.next=some .update->∃u,s.work.upd=some u:=by exact fun h=>(by cases h)):PInv N S n s':=by
 obtain⟨o,r,st,c0,c1,k,kn,rl,rd,wr,rc,up,op,nx,fe0,pu0,dq,ds,ak,gN,gS⟩:=h
 refine⟨⟨?_, ?_, ?_, ?_⟩, ?_, ?_, ?_, ?_, ?_, ?_, ?_, ?_, ?_, ?_, ?_, ?_, ?_, ?_, ?_, ?_, ?_, ?_, ?_, ?_⟩
 ·rw[hl];exact o.last
 ·rw[ha];exact o.few
 ·rw[w1];exact o.st0
 ·rw[w1];exact o.st8
 ·rw[hN,hS];exact r
 ·rw[w1,hS];exact st
 ·rw[w2];exact c0
 ·rw[w2,hN];exact c1
 ·rw[w3];exact k
 ·rw[w4];exact kn
 ·rw[w5,w4];exact rl
 ·rw[w6];exact rd
 ·rw[w7];exact wr
 ·rw[w6];exact rc
 ·rw[w8];exact up
 ·rw[ho];exact Nat.zero_le _
 ·rw[ho];exact fun h=>absurd rfl h
 ·rw[w4,hN];exact fe
 ·rw[w8];exact pu
 ·rw[ho];exact fun o ho=>absurd ho (List.not_mem_nil)
 ·rw[hd];exact ds
 ·rw[ha];exact ak
 ·rw[hN];exact gN
 ·rw[hS];exact gS
theorem PInv.keep (h:PInv N S n s) (hN:s'.N=s.N:=by rfl) (hS:s'.S=s.S:=by rfl) (hc:s'.calls=s.calls:=by rfl) (ha:s'.asked=s.asked:=by rfl) (hd:s'.data=s.data:=by rfl) (w0:s'.work.next=s.work.next:=by rfl) (w1:s'.work.stripe=s.work.stripe:=by rfl) (w2:s'.work.column=s.work.column:=by rfl) (w3:s'.work.op=s.work.op:=by rfl)
  (w4:s'.work.known=s.work.known:=by rfl) (w5:s'.work.records=s.work.records:=by rfl) (w6:s'.work.reads=s.work.reads:=by rfl) (w7:s'.work.writes=s.work.writes:=by rfl) (w8:s'.work.upd=s.work.upd:=by rfl):PInv N S n s':=by
 obtain⟨o,r,st,c0,c1,k,kn,rl,rd,wr,rc,up,op,nx,fe0,pu0,dq,ds,ak,gN,gS⟩:=h
 refine⟨⟨?_, ?_, ?_, ?_⟩, ?_, ?_, ?_, ?_, ?_, ?_, ?_, ?_, ?_, ?_, ?_, ?_, ?_, ?_, ?_, ?_, ?_, ?_, ?_, ?_⟩
 ·rw[hc];exact o.last
 ·rw[ha];exact o.few
 ·rw[w1];exact o.st0
 ·rw[w1];exact o.st8
 ·rw[hN,hS];exact r
 ·rw[w1,hS];exact st
 ·rw[w2];exact c0
 ·rw[w2,hN];exact c1
 ·rw[w3];exact k
 ·rw[w4];exact kn
 ·rw[w5,w4];exact rl
 ·rw[w6];exact rd
 ·rw[w7];exact wr
 ·rw[w6];exact rc
 ·rw[w8];exact up
 ·rw[hc];exact op
 ·rw[hc,w0];exact nx
 ·rw[w0,w4,hN];exact fe0
 ·rw[w0,w8];exact pu0
 ·rw[hc,w0,hN];exact dq
 ·rw[hd];exact ds
 ·rw[ha];exact ak
 ·rw[hN];exact gN
 ·rw[hS];exact gS
theorem CallsM.ask_opn (c:CallsM) (now dst:Int) (q:AskM):(c.ask now dst q).1.opn=c.opn\/((c.ask now dst q).1.opn=c.opn++[⟨dst,c.last+1,q,zv now,zv now⟩]/\c.opn.length<8/\0<=dst):=by
 unfold CallsM.ask
 split
 ·exact .inl rfl
 ·rename_i h
  exact .inr ⟨rfl,by omega,by omega⟩
theorem zjx (s:PilotM) (now dst:Int) (q:AskM):(s.ask now dst q).calls=(s.calls.ask now dst {q with stripe:=s.work.stripe}).1:=by
 unfold PilotM.ask
 split<;>rfl
theorem zn3 {s:PilotM} {now dst:Int} {q:AskM} (h:∀l∈s.asked,l.say=SayM.nil):∀l∈(s.ask now dst q).asked,l.say=SayM.nil:=by
 have key:(s.askR now dst q).2.1.say=SayM.nil:=by
  unfold PilotM.askR CallsM.ask
  split<;>rfl
 unfold PilotM.ask
 split
 ·intro l hl
  rcases List.mem_append.1 hl with hl|hl
  ·exact h l hl
  ·simp at hl
   subst hl
   exact key
 ·exact h
theorem PInv.ask (h:PInv N S (n+1) s) (now dst:Int) (q:AskM) (hx:s.work.next≠none) (hd:s.work.next=some .fence\/s.work.next=some .read->dst<s.N):PInv N S n (s.ask now dst q):=by
 obtain⟨e1,e2,e3,e4,e5⟩:=s.ask_same now dst q
 have hc:=s.calls.ask_opn now dst {q with stripe:=s.work.stripe}
 rw[<-zjx]at hc
 refine⟨h.ok.ask now dst q,by rw[e2,e3];exact h.right,by rw[e1,e3];exact h.st,by rw[e1];exact h.col0,by rw[e1,e2];exact h.col1,by rw[e1];exact h.kind,by rw[e1];exact h.kn,by rw[e1];exact h.rl,by rw[e1];exact h.rd,by rw[e1];exact h.wr,by rw[e1];exact h.rc,by rw[e1];exact h.up, ?_,fun _=>by rw[e1];exact hx,by rw[e1,e2];exact h.fe,by rw[e1];exact h.pu, ?_,by unfold PilotM.ask;split<;>exact h.ds,zn3 h.ak,by rw[e2];exact h.gN,by rw[e3];exact h.gS⟩
 ·rcases hc with hc|⟨hc,h1,h2⟩
  ·rw[hc];exact h.opn
  ·rw[hc,List.length_append];simp;omega
 ·rw[e1,e2]
  intro o ho hn
  rcases hc with hc|⟨hc,h1,h2⟩
  ·rw[hc]at ho;exact h.dst o ho hn
  ·rw[hc]at ho
   rcases List.mem_append.1 ho with ho|ho
   ·exact h.dst o ho hn
   ·simp at ho
    subst ho
    exact⟨h2,hd hn⟩
theorem PInv.nilW (h:PInv N S n s) (hd:s'.data.size<=16) (hw:s'.work=WorkM.nil) (hN:s'.N=s.N:=by rfl) (hS:s'.S=s.S:=by rfl) (hl:s'.calls.last=s.calls.last:=by rfl) (ho:s'.calls.opn=[]:=by rfl) (ha:s'.asked=s.asked:=by rfl):PInv N S n s':=by
 obtain⟨r1,r2,r3,r4⟩:=yc.1 h.right
 refine⟨⟨by rw[hl];exact h.ok.last,by rw[ha];exact h.ok.few,by rw[hw];exact Int.le_refl _,by rw[hw];decide⟩,by rw[hN,hS];exact h.right,by rw[hw,hS];show(0:Int)<s.S;omega,by rw[hw];exact Int.le_refl _,by rw[hw,hN];show(0:Int)<s.N-1;omega,by rw[hw];decide,by rw[hw];decide,by rw[hw];rfl,by rw[hw];decide,by rw[hw];decide,by rw[hw];exact fun c hc=>absurd hc (List.not_mem_nil),by rw[hw];exact fun u hu=>(by cases hu),by rw[ho];exact Nat.zero_le _,by rw[ho];exact fun h=>absurd rfl h,by rw[hw];exact fun h=>(by cases h),by rw[hw];exact fun h=>(by cases h),by rw[ho];exact fun o ho=>absurd ho (List.not_mem_nil),hd,by rw[ha];exact h.ak,by rw[hN];exact h.gN,by rw[hS];exact h.gS⟩
theorem PInv.fin (h:PInv N S n s) (e:Int) (d:ByteArray) (hd:d.size<=16:=by decide):PInv N S n (s.fin e d):=h.nilW hd rfl
theorem PInv.dropL (h:PInv N S n s):PInv N S n s.dropL:=h.keep
theorem PInv.fail (h:PInv N S n s):PInv N S n s.fail:=by
 unfold PilotM.fail
 split<;>exact h.dropL.fin _ _
theorem PInv.enterLease (h:PInv N S (n+1) s) (now:Int):PInv N S n (s.enterLease now):=PInv.ask (s:=s.leaseS now) (PInv.drop h) _ _ _ (fun h=>(by cases h)) (fun h=>by rcases h with h|h<;>exact(by cases h))
theorem PInv.enterOut (h:PInv N S (n+1) s) (now node:Int):PInv N S n (s.enterOut now node):=PInv.ask (s:=s.outS now) (PInv.drop h) _ _ _ (fun h=>(by cases h)) (fun h=>by rcases h with h|h<;>exact(by cases h))
theorem PInv.lost (h:PInv N S (n+1) s) (now:Int):PInv N S n (s.lost now):=by
 unfold PilotM.lost
 split
 ·exact(h.dropL.fin _ _).less (by omega)
 ·exact h.dropL.enterLease now
theorem PInv.gone (h:PInv N S (n+1) s) (now node:Int):PInv N S n (s.gone now node):=by
 unfold PilotM.gone
 split
 ·exact h.enterOut now node
 ·split
  ·exact(h.fin _ _).less (by omega)
  ·exact h.fail.less (by omega)
theorem PInv.refuse (h:PInv N S (n+1) s) (now node:Int) (y:SayM) (need:Bool):PInv N S n (s.refuse now node y need):=by
 unfold PilotM.refuse
 split
 ·split
  ·exact h.lost now
  ·split
   ·exact h.gone now node
   ·exact h.fail.less (by omega)
 ·exact h.less (by omega)
theorem z86 (s:PilotM) (now:Int):∀j:Nat,(s.fenceTo now j).N=s.N
 |0=>rfl
 |j+1=>by
  rw[PilotM.fenceTo]
  split
  ·rw[((s.fenceTo now j).ask_same _ _ _).2.1,z86 s now j]
  ·exact z86 s now j
theorem PInv.fenceTo {N S:Int} {s:PilotM} (now:Int) (hx:s.work.next=some .fence):∀k n:Nat,(k:Int)<=s.N->PInv N S (n+k) s->PInv N S n (s.fenceTo now k)
 |0,_,_,h=>h
 |k+1,n,hk,h=>by
  have hw:=s.fence_same now k
  rw[PilotM.fenceTo]
  split
  ·exact(PInv.fenceTo now hx k (n+1) (by omega) (h.less (by omega))).ask _ _ _ (by rw[hw,hx];exact fun h=>(by cases h)) (fun _=>by rw[z86];omega)
  ·exact PInv.fenceTo now hx k n (by omega) (h.less (by omega))
theorem PInv.enterFence (h:PInv N S (n+6) s) (now:Int):PInv N S n (s.enterFence now):=by
 obtain⟨r1,r2,r3,r4⟩:=yc.1 h.right
 have hk:s.N.toNat<=6:=by omega
 refine PInv.fenceTo (s:=s.fenceS) now rfl s.N.toNat n (by show(s.N.toNat:Int)<=s.N;omega) (PInv.less (n:=n+6) ?_ (by omega))
 refine⟨⟨h.ok.last,h.ok.few,h.ok.st0,h.ok.st8⟩,h.right,h.st,h.col0,h.col1,h.kind, ?_, ?_,h.rd,h.wr,h.rc,h.up,Nat.zero_le _,fun h=>absurd rfl h,fun _=>?_,fun h=>(by cases h),fun o ho=>absurd ho (List.not_mem_nil),h.ds,h.ak,h.gN,h.gS⟩
 ·show(List.replicate s.N.toNat false).length<=6
  rw[List.length_replicate];omega
 ·show(List.replicate s.N.toNat Rec.nil).length=(List.replicate s.N.toNat false).length
  rw[List.length_replicate,List.length_replicate]
 ·show((List.replicate s.N.toNat false).length:Int)=s.N
  rw[List.length_replicate];omega
theorem PInv.granted (h:PInv N S n s) (e o:Int):PInv N S n (s.granted e o):=h.keep
theorem PInv.onLease (h:PInv N S (n+6) s) (now:Int) (y:SayM):PInv N S n (s.onLease now y):=by
 unfold PilotM.onLease
 split
 ·exact(h.granted _ _).enterFence now
 ·split
  ·exact h.fail.less (by omega)
  ·exact h.less (by omega)
theorem PInv.onOut (h:PInv N S (n+6) s) (now:Int) (y:SayM):PInv N S n (s.onOut now y):=by
 unfold PilotM.onOut
 split
 ·exact(h.granted _ _).enterFence now
 ·exact(h.dropL.enterLease now).less (by omega)
theorem PInv.fold {α:Type} {step:PilotM->α->PilotM} {P:PilotM->Prop} (hst:∀n s x,PInv N S (n+1) s->P s->PInv N S n (step s x)/\P (step s x)) {l:List α} (hP:P s):∀k n,PInv N S (n+k) s->PInv N S n (j4 step s l k)/\P (j4 step s l k)
 |0,_,h=>⟨h,hP⟩
 |k+1,n,h=>by
  rw[j4]
  split
  ·obtain⟨h1,h2⟩:=PInv.fold hst (l:=l) hP k (n+1) (by rw[show n+1+k=n+(k+1) by omega];exact h)
   exact hst _ _ _ h1 h2
  ·exact PInv.fold hst (l:=l) hP k n (h.less (by omega))
theorem zkO {N S t c:Int} (h:yn N S=true):z3t N S t c<N:=by
 have:=(yc.1 h).1
 unfold z3t
 split
 ·exact Int.emod_lt_of_pos _ (by omega)
 ·omega
theorem PInv.askStep (now:Int) (x:Int×AskM) (h:PInv N S (n+1) s) (hx:s.work.next≠none):PInv N S n (askStep now s x)/\(Go.Proofs.YtmfincpagnpkjaaGreat.askStep now s x).work=s.work:=by
 refine⟨PInv.ask h _ _ _ hx (fun _=>zkO h.right),(s.ask_same _ _ _).1⟩
theorem PInv.foldAsk (now:Int) (l:List (Int×AskM)) (hx:s.work.next≠none) (k n:Nat) (h:PInv N S (n+k) s):PInv N S n (j4 (Go.Proofs.YtmfincpagnpkjaaGreat.askStep now) s l k)/\(j4 (Go.Proofs.YtmfincpagnpkjaaGreat.askStep now) s l k).work.next≠none:=
 PInv.fold (P:=fun t=>t.work.next≠none) (fun n s x h1 h2=>by
  have h3:=PInv.askStep now x h1 h2
  exact⟨h3.1,by rw[h3.2];exact h2⟩) hx k n h
end
end
section
section
variable {N S:Int} {n m:Nat} {s s':PilotM}
theorem PInv.refuse2 (h:PInv N S (n+1) s) (now node:Int) (y:SayM):PInv N S n (if(y.status==2)=true then s.lost now else if(y.status==1||y.status==5)=true then s.gone now node else s.fail):=by
 split
 ·exact h.lost now
 ·split
  ·exact h.gone now node
  ·exact h.fail.less (by omega)
theorem PInv.setUpd (h:PInv N S n s) {u u2:UpdM} (hu:s.work.upd=some u) (h2:u2.parts.length<=64):PInv N S n {s with work:={s.work with upd:=some u2}}:=
 ⟨⟨h.ok.last,h.ok.few,h.ok.st0,h.ok.st8⟩,h.right,h.st,h.col0,h.col1,h.kind,h.kn,h.rl,h.rd,h.wr,h.rc,fun v hv=>by cases hv;exact h2,h.opn,h.nx,h.fe,fun _=>⟨_,rfl⟩,h.dst,h.ds,h.ak,h.gN,h.gS⟩
theorem PInv.enterUpdate (h:PInv N S (n+64) s) (now:Int) (u:UpdM) (hu:u.parts.length<=64):PInv N S n (s.enterUpdate now u):=by
 have hl:u.asks.length<=64:=Nat.le_trans (zf7 u) hu
 refine(PInv.foldAsk (s:=s.updS u) now u.asks (fun h=>(by cases h)) u.asks.length n (PInv.less (n:=n+64) ?_ (by omega))).1
 exact⟨⟨h.ok.last,h.ok.few,h.ok.st0,h.ok.st8⟩,h.right,h.st,h.col0,h.col1,h.kind,h.kn,h.rl,h.rd,h.wr,h.rc,fun v hv=>by cases hv;exact hu,Nat.zero_le _,fun h=>absurd rfl h,fun h=>(by cases h),fun _=>⟨_,rfl⟩,fun o ho=>absurd ho (List.not_mem_nil),h.ds,h.ak,h.gN,h.gS⟩
theorem PInv.enterRead (h:PInv N S (n+128) s) (now:Int) (bs:List Int) (hb:bs.length<=64):PInv N S n (s.enterRead now bs):=by
 have hr:=h.rd
 have h1:=PInv.foldAsk (s:=s.enter (some .read)) now (z00 2 s.work.epoch s.work.reads) (fun h=>(by cases h)) s.work.reads.length (n+bs.length) (PInv.less (n:=n+128) (PInv.drop h) (by omega))
 exact(PInv.foldAsk now (z00 3 s.work.epoch bs) h1.2 bs.length n h1.1).1
theorem PInv.newUpd (h:PInv N S n s) (u:UpdM) (hu:u.parts.length<=64):PInv N S n {s with work:={s.work with upd:=some u}}:=
 ⟨⟨h.ok.last,h.ok.few,h.ok.st0,h.ok.st8⟩,h.right,h.st,h.col0,h.col1,h.kind,h.kn,h.rl,h.rd,h.wr,h.rc,fun v hv=>by cases hv;exact hu,h.opn,h.nx,h.fe,fun _=>⟨_,rfl⟩,h.dst,h.ds,h.ak,h.gN,h.gS⟩
theorem zeR (s:PilotM) (h:s.work.writes.length<=64):s.newU.parts.length<=64:=by
 have:=z9j s.work.writes s.made
 show(z6i s.work.writes s.made).length<=64
 omega
theorem PInv.makeBlocks (h:PInv N S (n+64) s) (now:Int):PInv N S n (s.makeBlocks now):=by
 unfold PilotM.makeBlocks
 split
 ·exact(h.less (m:=n+1) (by omega)).lost now
 ·have h1:PInv N S (n+64) (s.numbered s.work.stripe.toNat (wrap64 ((s.leases s.work.stripe.toNat).seq+1))):=h.keep
  obtain⟨t,ht⟩:∃x,s.numbered s.work.stripe.toNat (wrap64 ((s.leases s.work.stripe.toNat).seq+1))=x:=⟨_,rfl⟩
  rw[ht]at h1⊢
  unfold PilotM.updated
  split
  ·exact PInv.enterUpdate (h1.newUpd _ (zeR t h1.wr)) now t.newU (zeR t h1.wr)
  ·exact(h1.fail).less (by omega)
theorem z4Y {N:Nat} {c:Int}:∀x∈ji N c,0<=x/\x<(N:Int):=by
 intro x hx
 unfold ji at hx
 simp only[List.mem_map,List.mem_filter,List.mem_range]at hx
 obtain⟨⟨a,h1,rfl⟩,_⟩:=hx
 omega
theorem zcn {N:Nat} {c o:Int} (h6:N<=6) (c0:0<=c) (c1:c<(N:Int)-1):∀x∈z0c N c o,0<=x/\x<6:=by
 intro x hx
 unfold z0c at hx
 split at hx
 ·have:=z4Y x hx
  omega
 ·simp at hx
  omega
theorem zfk {N:Nat} {c o:Int} (h3:3<=N) (h6:N<=6) (c0:0<=c) (c1:c<(N:Int)-1):∀x∈z6X N c o,0<=x/\x<6:=by
 intro x hx
 unfold z6X at hx
 split at hx
 ·cases hx
 ·split at hx
  ·have:=z4Y x hx
   omega
  ·simp at hx
   omega
theorem PInv.reading (h:PInv N S n s):PInv N S n s.reading:=by
 obtain⟨r1,r2,r3,r4⟩:=yc.1 h.right
 have h0:=h.col0
 have h1:=h.col1
 exact⟨⟨h.ok.last,h.ok.few,h.ok.st0,h.ok.st8⟩,h.right,h.st,h.col0,h.col1,h.kind,h.kn,h.rl,(z5Q (by omega)).1,h.wr,zcn (by omega) h0 (by omega),h.up,h.opn,h.nx,h.fe,h.pu,h.dst,h.ds,h.ak,h.gN,h.gS⟩
theorem PInv.writing (h:PInv N S n s):PInv N S n s.writing:=by
 obtain⟨r1,r2,r3,r4⟩:=yc.1 h.right
 have h0:=h.col0
 have h1:=h.col1
 exact⟨⟨h.ok.last,h.ok.few,h.ok.st0,h.ok.st8⟩,h.right,h.st,h.col0,h.col1,h.kind,h.kn,h.rl,(z9O (by omega) (by omega)).1,(z9O (by omega) (by omega)).2,zfk (by omega) (by omega) h0 (by omega),h.up,h.opn,h.nx,h.fe,h.pu,h.dst,h.ds,h.ak,h.gN,h.gS⟩
theorem PInv.doWork (h:PInv N S (n+128) s) (now:Int):PInv N S n (s.doWork now):=by
 obtain⟨r1,r2,r3,r4⟩:=yc.1 h.right
 unfold PilotM.doWork
 split
 ·exact h.reading.enterRead now _ (z5Q (by omega)).2
 ·split
  ·exact(h.writing.less (by omega)).makeBlocks now
  ·exact h.writing.enterRead now [] (by decide)
theorem PInv.readyS (h:PInv N S n s) (i:Nat):PInv N S n (s.readyS i):=PInv.drop h
theorem PInv.ready (h:PInv N S (n+128) s) (now:Int):PInv N S n (s.ready now):=by
 have h1:=h.readyS s.work.stripe.toNat
 unfold PilotM.ready
 obtain⟨t,ht⟩:∃x,s.readyS s.work.stripe.toNat=x:=⟨_,rfl⟩
 rw[ht]at h1⊢
 unfold PilotM.readied
 split
 ·split
  ·exact(h1.fin _ _).less (by omega)
  ·split
   ·exact(h1.fin _ _).less (by omega)
   ·split
    ·exact(h1.fin _ _).less (by omega)
    ·exact PInv.doWork (s:=t.sure) h1.keep now
 ·exact h1.doWork now
theorem PInv.onSettle (h:PInv N S (n+128) s) (now node:Int) (y:SayM):PInv N S n (s.onSettle now node y):=by
 unfold PilotM.onSettle
 split
 ·exact(h.less (m:=n+1) (by omega)).refuse2 now node y
 ·split
  ·exact h.ready now
  ·exact h.less (by omega)
theorem PInv.setStep (now:Int) (x:Int×AskM) (h:PInv N S (n+1) s) (hx:s.work.next≠none):PInv N S n (setStep now s x)/\(Go.Proofs.YtmfincpagnpkjaaGreat.setStep now s x).work.next≠none:=by
 have h1:=PInv.askStep now x h hx
 unfold Go.Proofs.YtmfincpagnpkjaaGreat.setStep
 split
 ·exact⟨h1.1.keep,by show(Go.Proofs.YtmfincpagnpkjaaGreat.askStep now s x).work.next≠none;rw[h1.2];exact hx⟩
 ·exact⟨h1.1,by rw[h1.2];exact hx⟩
theorem PInv.settleS (h:PInv N S n s):PInv N S n s.settleS:=PInv.drop h
theorem PInv.enterSettle (h:PInv N S (n+128) s) (now:Int):PInv N S n (s.enterSettle now):=by
 unfold PilotM.enterSettle
 split
 ·exact h.settleS.ready now
 ·have hl:s.setL.length<=6:=by
   unfold PilotM.setL
   rw[List.length_map]
   exact Nat.le_trans (zbN _ _) h.kn
  exact(PInv.fold (P:=fun t=>t.work.next≠none) (fun n s x h1 h2=>PInv.setStep now x h1 h2) (s:=s.settleS) (fun h=>(by cases h)) s.setL.length n ((h.settleS).less (by omega))).1
theorem PInv.fenced (h:PInv N S n s) (c:Nat) (r:Rec):PInv N S n (s.fenced c r):=
 ⟨⟨h.ok.last,h.ok.few,h.ok.st0,h.ok.st8⟩,h.right,h.st,h.col0,h.col1,h.kind,by show(s.work.known.set c true).length<=6;rw[List.length_set];exact h.kn,by show(s.work.records.set c r).length=(s.work.known.set c true).length;rw[List.length_set,List.length_set];exact h.rl,h.rd,h.wr,h.rc,h.up,h.opn,h.nx,fun hf=>by show((s.work.known.set c true).length:Int)=s.N;rw[List.length_set];exact h.fe hf,h.pu,h.dst,h.ds,h.ak,h.gN,h.gS⟩
theorem PInv.onFence (h:PInv N S (n+128) s) (now node:Int) (y:SayM):PInv N S n (s.onFence now node y):=by
 unfold PilotM.onFence
 split
 ·exact(h.less (m:=n+1) (by omega)).refuse2 now node y
 ·split
  ·exact(h.fenced _ _).enterSettle now
  ·exact(h.fenced _ _).less (by omega)
theorem PInv.took (h:PInv N S (n+1) s) (now node:Int) (q:AskM) (y:SayM):PInv N S n (s.took now node q y):=by
 unfold PilotM.took
 split
 ·exact h.refuse2 now node y
 ·split
  ·exact(PInv.keep h).less (by omega)
  ·exact h.less (by omega)
theorem ziX {N:Nat} {c o:Int} {R:List ByteArray}:(zl6 N c o R).1.size<=16:=by
 unfold zl6
 split
 ·rename_i h
  have h2:=(z4F h).2
  show(zlt c o R).size<=16
  unfold zlt
  split
  ·rw[zhB h2];exact Nat.le_refl _
  ·cases R with
   |nil=>decide
   |cons a l=>
    show a.size<=16
    rw[h2 a (List.mem_cons_self ..)]
    exact Nat.le_refl _
 ·decide
theorem PInv.onRead (h:PInv N S (n+128) s) (now node:Int) (q:AskM) (y:SayM):PInv N S n (s.onRead now node q y):=by
 have h1:=PInv.took (n:=n+127) h now node q y
 unfold PilotM.onRead
 split
 ·obtain⟨t,ht⟩:∃x,s.took now node q y=x:=⟨_,rfl⟩
  rw[ht]at h1⊢
  unfold PilotM.readOn
  split
  ·exact(h1.less (by omega)).makeBlocks now
  ·exact(h1.fin _ _ (ziX)).less (by omega)
 ·exact h1.less (by omega)
theorem PInv.saidS (h:PInv N S n s) (u:UpdM) (hu:s.work.upd=some u) (node:Int) (q:AskM) (y:SayM):PInv N S n (s.saidS u node q y):=h.setUpd hu (by rw[za5];exact h.up u hu)
theorem PInv.onUpdate (h:PInv N S (n+128) s) (u:UpdM) (hu:s.work.upd=some u) (now node:Int) (q:AskM) (y:SayM):PInv N S n (s.onUpdate u now node q y):=by
 have h1:=h.saidS u hu node q y
 unfold PilotM.onUpdate
 split
 ·exact(h.less (m:=n+1) (by omega)).refuse2 now node y
 ·split
  ·exact h1.less (by omega)
  ·split
   ·exact PInv.enterUpdate (h1.less (by omega)) now _ (by rw[za5];exact h.up u hu)
   ·split
    ·exact(h1.fin _ _).less (by omega)
    ·exact h1.less (by omega)
theorem PInv.react (h:PInv N S (n+128) s) (now node:Int) (q:AskM) (y:SayM):PInv N S n (s.react now node q y):=by
 unfold PilotM.react
 split
 ·exact h.less (by omega)
 ·exact(h.less (m:=n+6) (by omega)).onLease now y
 ·exact(h.less (m:=n+6) (by omega)).onOut now y
 ·exact h.onFence now node y
 ·exact h.onSettle now node y
 ·exact h.onRead now node q y
 ·split
  ·exact h.less (by omega)
  ·rename_i u hu
   exact h.onUpdate u hu now node q y
theorem PInv.sent (h:PInv N S n s) (hm:m<=1000000000):PInv N S m {s with asked:=[]}:=
 ⟨⟨h.ok.last,by show 0+m<=1000000000;omega,h.ok.st0,h.ok.st8⟩,h.right,h.st,h.col0,h.col1,h.kind,h.kn,h.rl,h.rd,h.wr,h.rc,h.up,h.opn,h.nx,h.fe,h.pu,h.dst,h.ds,fun l hl=>absurd hl (List.not_mem_nil),h.gN,h.gS⟩
theorem PInv.receive (h:PInv N S (n+128) s) (now:Int) (l:Letter):PInv N S n (s.receive now l).1:=by
 unfold PilotM.receive
 split
 ·exact h.less (by omega)
 ·split
  ·exact h.less (by omega)
  ·split
   ·exact h.less (by omega)
   ·rename_i h3
    obtain⟨j,o,ho,hod,hca⟩:=z4G (by simpa using h3:(s.calls.answer l).2.2=true)
    have hti:PInv N S (n+128) {s with calls:=(s.calls.answer l).1}:=by
     rw[hca]
     exact⟨⟨h.ok.last,h.ok.few,h.ok.st0,h.ok.st8⟩,h.right,h.st,h.col0,h.col1,h.kind,h.kn,h.rl,h.rd,h.wr,h.rc,h.up,Nat.le_trans (List.length_eraseIdx_le _ _) h.opn,fun _=>h.nx (List.ne_nil_of_mem (List.mem_of_getElem? ho)),h.fe,h.pu,fun o' ho'=>h.dst o' (List.mem_of_mem_eraseIdx ho'),h.ds,h.ak,h.gN,h.gS⟩
    have hr:=hti.react (zv now) l.frm (s.calls.answer l).2.1 l.say
    exact hr.sent (by have:=hr.ok.few;omega)
abbrev PilotM.begin0 (s:PilotM) (op:OpM):PilotM:={s.begin op with calls:=s.calls.drop}
theorem PInv.begin (h:PInv N S n s) (op:OpM) (ho:OpOk s.N s.S op):PInv N S n (s.begin0 op):=by
 obtain⟨r1,r2,r3,r4⟩:=yc.1 h.right
 obtain⟨g1,g2,g3,g4⟩:=zbQ h.right ho.has
 exact⟨⟨h.ok.last,h.ok.few,g1,by show z0s s.N s.S op.at_<8;omega⟩,h.right,g2,g3,g4,by rcases ho.kind with h|h<;>(show op.kind≠3;omega),Nat.zero_le _,rfl,Nat.zero_le _,Nat.zero_le _,fun c hc=>absurd hc (List.not_mem_nil),fun u hu=>(by cases hu),Nat.zero_le _,fun h=>absurd rfl h,fun h=>(by cases h),fun h=>(by cases h),fun o h'=>absurd h' (List.not_mem_nil),h.ds,h.ak,h.gN,h.gS⟩
theorem zea (s:PilotM) (now:Int):PilotM.doWork {s with calls:=s.calls.drop} now=s.doWork now:=rfl
theorem zgi (s:PilotM) (now:Int):PilotM.enterLease {s with calls:=s.calls.drop} now=s.enterLease now:=rfl
theorem zdf (s:PilotM) (now:Int) (op:OpM):s.submit now op=(s.begin0 op).started (zv now) (s.leases (z0s s.N s.S op.at_).toNat):=by
 unfold PilotM.submit PilotM.started
 split
 ·exact(zea ((s.begin op).leased _) _).symm
 ·exact(zgi (s.begin op).dropL _).symm
theorem PInv.submit (h:PInv N S (n+128) s) (now:Int) (op:OpM) (ho:OpOk s.N s.S op):PInv N S n (s.submit now op):=by
 have h1:=h.begin op ho
 rw[zdf]
 obtain⟨t,ht⟩:∃x,s.begin0 op=x:=⟨_,rfl⟩
 rw[ht]at h1⊢
 unfold PilotM.started
 split
 ·exact PInv.doWork (s:=t.leased _) h1.keep _
 ·exact(h1.dropL.less (m:=n+1) (by omega)).enterLease _
end
end
theorem zfA {k:Nat} {f:Fld} {l:List Fld} {r:List UInt8} (h:okF f=true) (hr:jx k r=some l):jx (k+1) (zlq f++r)=some (f::l):=by
 obtain⟨h1,h2,h3⟩:=z2c.1 h
 have e:zlq f++r=UInt8.ofNat f.1.toNat::UInt8.ofNat (f.2.size % 256)::UInt8.ofNat (f.2.size/256)::(f.2.data.toList++r):=by simp[zlq,z3J]
 have hn:(UInt8.ofNat (f.2.size % 256)).toNat+256*(UInt8.ofNat (f.2.size/256)).toNat=f.2.size:=by rw[z0o (by omega),z0o (by omega)];omega
 have ht:(UInt8.ofNat f.1.toNat).toNat=f.1.toNat:=z0o (by omega)
 have h0:¬UInt8.ofNat f.1.toNat=0:=by
  intro h0
  rw[h0]at ht
  have:(0:UInt8).toNat=0:=rfl
  omega
 have hlen:f.2.data.toList.length=f.2.size:=zf _
 rw[e,jx,hn,if_neg (by
  rintro(h'|h'|h')
  ·exact h0 h'
  ·omega
  ·rw[List.length_append,hlen]at h';omega),ht,<-hlen,List.drop_left,List.take_left,hr]
 simp only[Option.map_some,z3v]
 rw[Int.toNat_of_nonneg (by omega)]
theorem z7c {k:Nat} {l:List Fld} (h:z2w l) (hk:l.length<=k):jx k (z5b l)=some l:=by
 induction l generalizing k with
 |nil=>exact z7b k
 |cons f l ih=>
  obtain⟨k,rfl⟩:∃j,k=j+1:=⟨k-1,by simp at hk;omega⟩
  exact zfA (h f (by simp)) (ih (fun g hg=>h g (by simp[hg])) (by simpa using hk))
theorem zdd {k:Nat} {s:List UInt8} {l:List Fld} (h:jx k s=some l):z5b l=s/\z2w l/\l.length<=k:=by
 induction k generalizing s l with
 |zero=>
  cases s with
  |nil=>rw[z7b]at h;injection h with h;subst h;exact⟨rfl,by intro f hf;simp at hf,by simp⟩
  |cons a s=>rw[z91 (by simp)]at h;cases h
 |succ k ih=>
  by_cases h3:s.length<3
  ·by_cases h0:0<s.length
   ·rw[z7a h0 h3]at h;cases h
   ·obtain rfl:s=[]:=List.eq_nil_of_length_eq_zero (by omega)
    rw[z7b]at h;injection h with h;subst h
    exact⟨rfl,by intro f hf;simp at hf,by simp⟩
  ·match s,h3 with
   |t::a::b::r,_=>
    rw[jx]at h
    by_cases hc:t=0\/400<a.toNat+256*b.toNat\/r.length<a.toNat+256*b.toNat
    ·rw[if_pos hc]at h;cases h
    ·rw[if_neg hc]at h
     obtain⟨l',h1,h2⟩:=Option.map_eq_some_iff.1 h
     obtain⟨g1,g2,g3⟩:=ih h1
     subst h2
     have ht:t.toNat≠0:=fun h0=>hc (Or.inl (UInt8.toNat_inj.1 (by rw[h0];rfl)))
     have htl:=t.toNat_lt
     have hsz:(ByteArray.mk (r.take (a.toNat+256*b.toNat)).toArray).size=a.toNat+256*b.toNat:=by
      rw[z1w,List.length_take]
      omega
     have ha:=a.toNat_lt
     have hb:=b.toNat_lt
     refine⟨?_, ?_,by simp only[List.length_cons];omega⟩
     ·rw[z5b,g1]
      simp only[zlq,z3J,hsz,Int.toNat_natCast,UInt8.ofNat_toNat]
      rw[show(a.toNat+256*b.toNat) % 256=a.toNat by omega,show(a.toNat+256*b.toNat) /256=b.toNat by omega,UInt8.ofNat_toNat,UInt8.ofNat_toNat]
      simp
     ·intro f hf
      rcases List.mem_cons.1 hf with rfl|hf
      ·exact z2c.2 ⟨show(1:Int)<=(t.toNat:Int) by omega,show(t.toNat:Int)<=255 by omega,by rw[hsz];omega⟩
      ·exact g2 f hf
theorem zm2 {a b:List Fld} (ha:z2w a) (hb:z2w b) (h1:a.length<=64) (h2:b.length<=64) (h:z5b a=z5b b):a=b:=by
 have e:=z7c ha h1
 rw[h,z7c hb h2]at e
 injection e with e
 exact e.symm
theorem znq (L:List Fld) (A:Option Addr) (c:Nat) (s:ByteArray) (w:World) (hs:s=⟨(z5b L).toArray⟩) (hL:L.length<=64) (hok:z2w L) (hr:Rd w w.heap.size A (zo L)):
  Calls Tryz.prog 131 #[.slice A L.length c] w fun e w'=>e= .returned (.tuple #[.string s,.int .i64 0])/\Below w.heap.size w w':=by
 have h:=zc4 L A L.length c w hr rfl
 have hk:=z1E.2 ⟨hL,hok⟩
 unfold z6m z7W at h
 rw[if_pos hk,if_pos hk,<-hs]at h
 exact h
theorem zkr (n:Int) (w:World) (h:z1d n=true):
  Calls Tryz.prog 69 #[.int .i64 n] w fun e w'=>e= .returned (.tuple #[.string ⟨(z6z n).toArray⟩,.int .i64 0])/\Below w.heap.size w w':=by
 obtain⟨h1,h2⟩:=z0J.1 h
 obtain⟨N,hN⟩:∃N:Nat,(N:Int)=n+1:=⟨(n+1).toNat,by omega⟩
 have hT:z6z n=z6k N:=by unfold z6z;rw[if_pos h,show(n+1).toNat=N by omega]
 have hL:(z6k N).length<=6:=by rw[<-hT];exact z6M n
 have HL:=Lib.hid hL
 have hN2:N<=1099511627777:=by omega
 rw[hT]
 have HN:=Lib.hid hN
 clear h hT hL
 have d1:decide (n< -1)=false:=decide_eq_false (by omega)
 have d2:decide (1099511627776<n)=false:=decide_eq_false (by omega)
 obtain⟨i8,hi8,hz8,hs8,hb8⟩:=info_parts z6Z
 go_enter Tryz.func69,Tryz.ntmps69
 go_wp2
 go_loopw [4,5] (fun v i wr=>∃(m:Nat) (l:List UInt8),m<=1099511627777/\i= .int .i64 m/\l++z6k m=z6k N/\wr.ownsRow w.heap.size 5 1 v l.length (zx l)/\Below w.heap.size w wr) (fun _ i _=>(intOf i).toNat)
 case atStart=>exact⟨N,[],hN2,by rw[HN.out],rfl,World.ownsRow_nil _ _ _ _,Below.refl _ _⟩
 case round=>
  obtain⟨m,l,hm,rfl,hl,hown,hb⟩:=hrel
  by_cases h0:0<m
  ·have hm0:(0:Int)<m:=by omega
   obtain⟨hl2,hl3⟩:=zeO hl HL.out h0
   have HL2:=Lib.hid hl2
   have HO:=Lib.hid hown
   clear hl hl2 hown
   have hbsz:=hb.size
   go_wp2_with (at_builtin;refine wpList_append_own _ rfl (.tmp 18) (.tmp 22) 101 rfl w.heap.size 5 i8 _ 1 1 Tryz.underlying101 hi8 hz8 hs8 hb8 rfl (by decide) _ l.length (zx l) rfl (HO.out.alloc _) ⟨wr.heap.size,0,none⟩ 1 1 [.int .u8 ((m:Int) % 256)] rfl rfl (zay _ _ _) (by simp[Value.oneCell']) (by unfold maxLen;omega) (by omega) (by simp;omega) ?_;rintro v3 w3 hown3 hgrow3-;have HO3:=Lib.hid hown3;have HG3:=Lib.hid hgrow3;clear hown3 hgrow3)
   go_roundw
   case rel=>exact⟨m/256,l++[UInt8.ofNat (m % 256)],by omega,by go_num,HL2.out,by rw[List.length_append];exact num_cell HO3.out,(hb.alloc hbsz _).grown HG3.out (by simp;omega) (fun j hj=>by have:=(HO.out.lt j hj).1;omega)⟩
   case measure=>simp[intOf];omega
  ·obtain rfl:m=0:=by omega
   have hcv:=z1y (P:=Tryz.prog) Tryz.underlying101 Tryz.underlying5 Tryz.underlying9 hown rfl
   rw[zio hl]at hcv
   clear hl hown
   go_wp2
   go_ret2
   exact⟨rfl,hb⟩
theorem ziI {l:List Fld} {k:Nat} {acc x:ByteArray} {t:Int} (h:k<l.length) (ha:acc=⟨(z5b (l.take k)).toArray⟩) (ht:t=l[k].1) (hx:x=l[k].2):acc++⟨(z3J t x.size).toArray⟩++x=⟨(z5b (l.take (k+1))).toArray⟩:=by
 rw[<-z3v (acc++⟨(z3J t x.size).toArray⟩++x)]
 have:(acc++(⟨(z3J t x.size).toArray⟩:ByteArray)++x).data.toList=acc.data.toList++z3J t x.size++x.data.toList:=by simp
 rw[this,ha,z71,ht,hx,<-zc6 h]
theorem zko (t:Int) (n:Nat) (h1:1<=t) (h2:t<=255) (h3:n<=400) (W:World):(convert 101 9 (.slice (some ⟨W.heap.size,0,none⟩) 3 3)).run Tryz.prog ((W.alloc (.cells #[.int .u8 t,.int .u8 ((n:Int) % 256),.int .u8 ((n:Int) /256)] 5)).drew)= .ok (.string ⟨(z3J t n).toArray⟩) ((W.alloc (.cells #[.int .u8 t,.int .u8 ((n:Int) % 256),.int .u8 ((n:Int) /256)] 5)).drew):=by
 refine yw (P:=Tryz.prog) Tryz.underlying101 Tryz.underlying5 Tryz.underlying9 (l:=z3J t n) ?_ 3 3 rfl
 intro j b hb
 have hj:(zx (z3J t n))[j]?=some (.int .u8 (b.toNat:Int)):=by simp only[zx,List.getElem?_map,hb,Option.map_some]
 rw[z9t h1 h2 h3]at hj
 constructor
 ·exact(World.cell?_alloc_mark W _ _ (0,0) j).trans (by simpa using hj)
 ·exact(World.frozen?_alloc_mark W _ _ 0 0 j).trans (by simp)
theorem zks (l:List Fld) (A:Option Addr) (n c:Nat) (w:World) (hr:Rd w w.heap.size A (zo l)) (hln:l.length=n) (hn:n<=64):
  Calls Tryz.prog 36 #[.slice A n c] w fun e w'=>e= .returned (.tuple #[.string ⟨(z6m l).toArray⟩,.int .i64 (z7W l)])/\Below w.heap.size w w':=by
 have HR:=Lib.hid hr
 have HN:=Lib.hid hln
 clear hr hln
 go_enter Tryz.func36,Tryz.ntmps36
 go_wp2
 go_loopw [4,5] (fun v i wr=>∃(k:Nat) (acc:ByteArray),k<=n/\i= .int .i64 k/\v= .string acc/\z2w (l.take k)/\acc=⟨(z5b (l.take k)).toArray⟩/\Below w.heap.size w wr) (fun _ i _=>n-(intOf i).toNat)
 case atStart=>exact⟨0,⟨#[]⟩,Nat.zero_le _,rfl,rfl,by intro f hf;simp at hf,rfl,Below.refl _ _⟩
 case round=>
  obtain⟨k,acc,hk,rfl,rfl,hall,hacc,hb⟩:=hrel
  have hasz:acc.size<=25792:=by
   have h1:=z7V hall
   rw[List.length_take]at h1
   rw[hacc,z1w]
   omega
  have HALL:=Lib.hid hall
  have HACC:=Lib.hid hacc
  clear hall hacc
  by_cases hlt:k<n
  ·have hkl:k<l.length:=by rw[HN.out];exact hlt
   obtain⟨b,off,rfl,hbB,hc0⟩:=(HR.out.below hb).at_ (z6p hkl)
   have hc1:=(HR.out.below hb).cell_ (z1n hkl)
   rw[<-Nat.add_assoc]at hc1
   obtain⟨t,ht⟩:∃t,t=l[k].1:=⟨_,rfl⟩
   obtain⟨s,hs⟩:∃s,s=l[k].2:=⟨_,rfl⟩
   rw[<-ht]at hc0
   rw[<-hs]at hc1
   have HT:=Lib.hid ht
   have HS:=Lib.hid hs
   clear ht hs
   have hbsz:=hb.size
   have hkn:(k:Int)<(n:Int):=by omega
   by_cases hok:1<=t/\t<=255/\s.size<=400
   ·obtain⟨t1,t2,t3⟩:=hok
    have hcv:=zko t s.size t1 t2 t3 wr
    have hw1:IntKind.u8.wrap t=t:=by show t % 256=t;omega
    have hw2:(s.size:Int).tmod 256=(s.size:Int) % 256:=Int.tmod_eq_emod_of_nonneg (by omega)
    have hw3:IntKind.u8.wrap ((s.size:Int) % 256)=(s.size:Int) % 256:=by show(s.size:Int) % 256 % 256=(s.size:Int) % 256;omega
    have hw4:(s.size:Int).tdiv 256=(s.size:Int) /256:=Int.tdiv_eq_ediv_of_nonneg (by omega)
    have hw5:IntKind.u8.wrap ((s.size:Int) /256)=(s.size:Int) /256:=by show(s.size:Int) /256 % 256=(s.size:Int) /256;omega
    have hw6:IntKind.i64.wrap ((s.size:Int) /256)=(s.size:Int) /256:=IntWalk.i64_in _ (by omega)
    have hs0:(⟨(z3J t s.size).toArray⟩:ByteArray).size=3:=z1w _
    have hs1:(acc++(⟨(z3J t s.size).toArray⟩:ByteArray)).size<=25795:=by rw[ByteArray.size_append,hs0];omega
    go_wp2
    have hc2:((wr.alloc (.cells #[.int .u8 t,.int .u8 ((s.size:Int) % 256),.int .u8 ((s.size:Int) /256)] 5)).drew).cell? ⟨b,off+k*2+1,none⟩=some (.string s):=(World.cell?_alloc_lt wr _ ⟨b,off+k*2+1,none⟩ (show b<wr.heap.size by omega)).trans hc1
    go_region
    go_wp2_with fail
    go_roundw
    case rel=>
     exact⟨k+1,acc++⟨(z3J t s.size).toArray⟩++s,by omega,by go_num,rfl,z9J hkl HALL.out (z2c.2 ⟨by rw[<-HT.out];exact t1,by rw[<-HT.out];exact t2,by rw[<-HS.out];exact t3⟩),ziI hkl HACC.out HT.out HS.out,(hb.alloc hbsz _).drew⟩
    case measure=>simp[intOf];omega
   ·have hbad:=ziH hkl (fun h=>hok (by rw[HT.out,HS.out];exact z2c.1 h))
    have HB:=Lib.hid hbad
    clear hbad
    rcases(show t<1\/(1<=t/\255<t)\/(1<=t/\t<=255/\400<s.size) by omega)with g|⟨g1,g⟩|⟨g1,g2,g⟩
    all_goals
     clear hok
     go_wp2
     go_ret2
     exact⟨by rw[HB.out.1,HB.out.2];rfl,hb⟩
  ·have hkn:k=n:=by omega
   subst hkn
   have htk:l.take k=l:=List.take_of_length_le (by rw[HN.out];exact Nat.le_refl _)
   have hok:z6C l=true:=z1E.2 ⟨by rw[HN.out];exact hn,by rw[<-htk];exact HALL.out⟩
   have hT:(⟨(z6m l).toArray⟩:ByteArray)=acc:=by unfold z6m;rw[if_pos hok,HACC.out,htk]
   have hE:z7W l=0:=by unfold z7W;rw[if_pos hok]
   have HTT:=Lib.hid hT
   have HE:=Lib.hid hE
   clear htk hok hT hE
   go_wp2
   go_ret2
   exact⟨by rw[HE.out,HTT.out];rfl,hb⟩
theorem zi3 (l:List Fld) (A:Option Addr) (n c:Nat) (w:World) (hln:l.length=n) (hn:64<n):
  Calls Tryz.prog 36 #[.slice A n c] w fun e w'=>e= .returned (.tuple #[.string ⟨(z6m l).toArray⟩,.int .i64 (z7W l)])/\Below w.heap.size w w':=by
 have h3:¬z6C l=true:=fun h'=>by have:=(z1E.1 h').1;omega
 have hT:z6m l=[]:=by unfold z6m;rw[if_neg h3]
 have hE:z7W l=30:=by unfold z7W;rw[if_neg h3]
 rw[hT,hE]
 clear h3 hT hE
 go_enter Tryz.func36,Tryz.ntmps36
 go_wp2
 go_ret2
 exact⟨rfl,Below.refl _ _⟩
theorem zfX (l:List Fld) (A:Option Addr) (n c:Nat) (w:World) (hr:Rd w w.heap.size A (zo l)) (hln:l.length=n):
  Calls Tryz.prog 36 #[.slice A n c] w fun e w'=>e= .returned (.tuple #[.string ⟨(z6m l).toArray⟩,.int .i64 (z7W l)])/\Below w.heap.size w w':=by
 by_cases hn:n<=64
 ·exact zks l A n c w hr hln hn
 ·exact zi3 l A n c w hln (by omega)
end Go.Proofs.YtmfincpagnpkjaaGreat
