/- Part of the proof. -/
import Derived.Test.YtmfincpagnpkjaaGreatM32
set_option linter.all false
set_option maxRecDepth 100000
set_option maxHeartbeats 100000000
namespace Go.Proofs.YtmfincpagnpkjaaGreat
open Go.RowKit
section
theorem z4l:(Tryz.prog.info? 170).bind (·.zero)=some (.agg (List.toArray [.bool false,.int .i64 0,.int .i64 0,.int .i64 0,.int .i64 0])):=by kernel_rfl
structure PLease where
 has:Bool
 epoch:Int
 out:Int
 seq:Int
 since:Int
def PLease.nil:PLease:=⟨false,0,0,0,0⟩
abbrev PLease.cells (x:PLease):List Value:=[.bool x.has,.int .i64 x.epoch,.int .i64 x.out,.int .i64 x.seq,.int .i64 x.since]
inductive PPh where
 |lease|out|fence|settle|read|update
structure WorkM where
 op:OpM
 stripe:Int
 column:Int
 next:Option PPh
 leasing:Bool
 entered:Int
 epoch:Int
 out:Int
 doubt:Bool
 te:Int
 ts:Int
 known:List Bool
 records:List Rec
 settled:Bool
 reads:List Int
 writes:List Int
 blocks:Nat->ByteArray
 upd:Option UpdM
def WorkM.nil:WorkM:=⟨⟨0,0,noB⟩,0,0,none,false,0,0,0,false,0,0,[],[],false,[],[],fun _=>noB,none⟩
structure PilotM where
 N:Int
 S:Int
 calls:CallsM
 leases:Nat->PLease
 busy:Bool
 work:WorkM
 asked:List Letter
 err:Int
 data:ByteArray
 ended:Int
structure PilotH where
 bc:Nat
 kn:Value
 re:Value
 rd:Value
 wr:Value
 up:Nat
 as_:Value
def phF:PPh->FuncId
 | .lease=>158
 | .out=>200
 | .fence=>238
 | .settle=>274
 | .read=>244
 | .update=>270
def zix (p:Nat):Option PPh->Value
 |none=>Value.nilFunc
 |some x=>.func (.func (phF x)) #[.pointer (some ⟨p,0,none⟩)] #[]
def zjV (u:Nat):Option UpdM->Value
 |none=>.pointer none
 |some _=>.pointer (some ⟨u,0,none⟩)
def zaT (u:Nat):Option UpdM->Assn
 |none=>z0w True
 |some x=>z3g u x
abbrev WorkM.cells (x:WorkM) (p:Nat) (h:PilotH):List Value:=
 [.int .i64 x.op.kind,.int .i64 x.op.at_,.string x.op.data,.int .i64 x.stripe,.int .i64 x.column,zix p x.next,.bool x.leasing,.int .i64 x.entered,.int .i64 x.epoch,.int .i64 x.out,.bool x.doubt,.int .i64 x.te,.int .i64 x.ts,h.kn,h.re,.bool x.settled,h.rd,h.wr,
  .string (x.blocks 0),.string (x.blocks 1),.string (x.blocks 2),.string (x.blocks 3),.string (x.blocks 4),.string (x.blocks 5),zjV h.up x.upd]
def PilotM.cells (s:PilotM) (p:Nat) (h:PilotH):List Value:=
 [.int .i64 s.N,.int .i64 s.S,.pointer (some ⟨h.bc,0,none⟩)]++((s.leases 0).cells++((s.leases 1).cells++((s.leases 2).cells++((s.leases 3).cells++((s.leases 4).cells++((s.leases 5).cells++((s.leases 6).cells++((s.leases 7).cells++
  (.bool s.busy::(s.work.cells p h++[h.as_,.int .i64 s.err,.string s.data,.int .i64 s.ended]))))))))))
structure PilotR where
 calls:CallsM
 known:List Bool
 records:List Rec
 reads:List Int
 writes:List Int
 upd:Option UpdM
 asked:List Letter
def PilotM.rest (s:PilotM):PilotR:=⟨s.calls,s.work.known,s.work.records,s.work.reads,s.work.writes,s.work.upd,s.asked⟩
abbrev zn8 (h:PilotH) (r:PilotR):List Assn:=
 [yk h.bc r.calls,zh 4 1 h.kn r.known.length (r.known.map Value.bool),zh 54 10 h.re r.records.length (zd Rec.cells r.records),zh 3 1 h.rd r.reads.length (r.reads.map z09),zh 3 1 h.wr r.writes.length (r.writes.map z09),zaT h.up r.upd,zh 114 26 h.as_ r.asked.length (zd Letter.cells r.asked)]
abbrev z4I:TypeId:=183
def zy (p:Nat) (s:PilotM):Assn:=exA fun h=>zaN (z7 p z4I (s.cells p h)::zn8 h s.rest)
section
variable {F0:Nat->Prop} {w0 w:World} {L L':List Assn} {p o n:Nat} {s s':PilotM} {v:Value} {cs:List Value} {ty:TypeId}
theorem zy.open' (hp:Pick (zy p s) L L') (H:Sep F0 w0 w L):∃h,Sep F0 w0 w (z7 p z4I (s.cells p h)::(zn8 h s.rest++L')):=by
 obtain⟨h,H⟩:=(H.pick hp).ex
 exact⟨h,H.unbag⟩
theorem zy.mk (h:PilotH) {l:List Value} {r:PilotR} (H:Sep F0 w0 w (z7 p z4I l::(zn8 h r++L))) (h1:l=s.cells p h) (h2:r=s.rest):Sep F0 w0 w (zy p s::L):=by
 subst h1 h2
 exact Sep.mk_ex h (Sep.bag H)
theorem zjj (s:PilotM) (p:Nat) (h:PilotH):(s.cells p h).length=73:=rfl
theorem zj (hp:Pick (zy p s) L L') (hv:∀h,(s.cells p h)[o]?=some v):jz L p o v:=fun F0 w0 w H=>by
 obtain⟨h,H⟩:=zy.open' hp H
 exact H.cell .head (hv h)
theorem z2p (n:Nat) (hp:Pick (zy p s) L L') (hv:∀h,((s.cells p h).drop o).take n=cs) (hn:(Tryz.prog.info? ty).map (·.size)=some cs.length):jm Tryz.prog ty L p o cs:=⟨fun F0 w0 w H=>by
 obtain⟨h,H⟩:=zy.open' hp H
 exact(zg (P:=Tryz.prog) (ty:=ty) n .head (hv h) hn).1 F0 w0 w H,hn⟩
theorem j7 (s':PilotM) (hp:Pick (zy p s) L L') (hl:o<73) (hs:∀h,(s.cells p h).set o v=s'.cells p h) (hr:s.rest=s'.rest):z0m L p o v (zy p s'::L'):=fun F0 w0 w H=>by
 obtain⟨h,H⟩:=zy.open' hp H
 have t:=z2B (v:=v) .head (show o<(s.cells p h).length from hl) F0 w0 w H
 exact⟨t.1,zy.mk h t.2 (hs h) hr⟩
theorem z90 (s':PilotM) (hp:Pick (zy p s) L L') (hl:o+cs.length<=73) (hs:∀h,setFrom (s.cells p h) o cs=s'.cells p h) (hr:s.rest=s'.rest):z1Z L p o cs (zy p s'::L'):=fun F0 w0 w H=>by
 obtain⟨h,H⟩:=zy.open' hp H
 have t:=jt (cs:=cs) .head (show o+cs.length<=(s.cells p h).length from hl) F0 w0 w H
 exact⟨t.1,zy.mk h t.2 (hs h) hr⟩
def upL (l:Nat->PLease) (i:Nat) (x:PLease):Nat->PLease:=fun k=>if k=i then x else l k
theorem zdP {i:Nat} (h:PilotH) (hi:i<8):((s.cells p h).drop (3+i*5)).take 5=(s.leases i).cells:=by
 rcases(show i=0\/i=1\/i=2\/i=3\/i=4\/i=5\/i=6\/i=7 by omega)with rfl|rfl|rfl|rfl|rfl|rfl|rfl|rfl<;>rfl
theorem ziF {i:Nat} (h:PilotH) (x:PLease) (hi:i<8):setFrom (s.cells p h) (3+i*5) x.cells=PilotM.cells {s with leases:=upL s.leases i x} p h:=by
 rcases(show i=0\/i=1\/i=2\/i=3\/i=4\/i=5\/i=6\/i=7 by omega)with rfl|rfl|rfl|rfl|rfl|rfl|rfl|rfl<;>rfl
theorem zc9 {i:Nat} (hp:Pick (zy p s) L L') (hi:i<8) (ho:o=3+i*5) (hn:(Tryz.prog.info? ty).map (·.size)=some (s.leases i).cells.length):jm Tryz.prog ty L p o (s.leases i).cells:=by
 subst ho
 exact z2p 5 hp (fun h=>zdP h hi) hn
theorem j8 {i:Nat} (x:PLease) (hp:Pick (zy p s) L L') (hi:i<8) (ho:o=3+i*5) (hc:cs=x.cells):z1Z L p o cs (zy p {s with leases:=upL s.leases i x}::L'):=by
 subst ho hc
 exact z90 _ hp (show 3+i*5+5<=73 by omega) (fun h=>ziF h x hi) rfl
def PilotH.bare (h:PilotH):PilotH:={h with kn:=.slice none 0 0,re:=.slice none 0 0,rd:=.slice none 0 0,wr:=.slice none 0 0}
def h00:PilotH:=⟨0,.slice none 0 0,.slice none 0 0,.slice none 0 0,.slice none 0 0,0,.slice none 0 0⟩
theorem za1 (s:PilotM) (p:Nat) (h:PilotH) (x:WorkM) (h5:x.upd=none):setFrom (s.cells p h) 44 (x.cells p h00)=PilotM.cells {s with work:=x} p h.bare:=by
 obtain⟨op,st,co,nx,le,en,ep,ou,db,te,ts,kn,rc,se,rd,wr,bl,up⟩:=x
 dsimp only at h5
 subst h5
 kernel_rfl
theorem z2C (x:WorkM) (hp:Pick (zy p s) L L') (hc:cs=x.cells p h00) (h1:x.known=[]) (h2:x.records=[]) (h3:x.reads=[]) (h4:x.writes=[]) (h5:x.upd=none):z1Z L p 44 cs (zy p {s with work:=x}::L'):=fun F0 w0 w H=>by
 obtain⟨h,H⟩:=zy.open' hp H
 subst hc
 have t:=jt (cs:=x.cells p h00) .head (show 44+25<=(s.cells p h).length by rw[zjj];decide) F0 w0 w H
 refine⟨t.1, ?_⟩
 have t2:=Sep.mk_pure trivial (Sep.mk_row_nil (e:=4) (size:=1) (Sep.mk_row_nil (e:=54) (size:=10) (Sep.mk_row_nil (e:=3) (size:=1) (Sep.mk_row_nil (e:=3) (size:=1) t.2))))
 refine zy.mk h.bare (l:=setFrom (s.cells p h) 44 (x.cells p h00)) (r:=⟨s.calls,[],[],[],[],none,s.asked⟩) ?_ (za1 s p h x h5) ?_
 ·simp only[zn8,PilotM.rest,List.cons_append,List.nil_append]at t2
  have t3:=t2.sub (K:=z7 p z4I (setFrom (s.cells p h) 44 (x.cells p h00))::yk h.bc s.calls::zh 4 1 (.slice none 0 0) 0 []::zh 54 10 (.slice none 0 0) 0 []::zh 3 1 (.slice none 0 0) 0 []::zh 3 1 (.slice none 0 0) 0 []::z0w True::zh 114 26 h.as_ s.asked.length (zd Letter.cells s.asked)::L') sb
  exact t3
 ·unfold PilotM.rest
  rw[h1,h2,h3,h4,h5]
theorem zy.parts (hp:Pick (zy p s) L L') (H:Sep F0 w0 w L):∃bc kn re rd wr up as_,Sep F0 w0 w (z7 p z4I (s.cells p ⟨bc,kn,re,rd,wr,up,as_⟩)::yk bc s.calls::zh 4 1 kn s.work.known.length (s.work.known.map Value.bool)::zh 54 10 re s.work.records.length (zd Rec.cells s.work.records)::zh 3 1 rd s.work.reads.length (s.work.reads.map z09)::zh 3 1 wr s.work.writes.length (s.work.writes.map z09)::zaT up s.work.upd::zh 114 26 as_ s.asked.length (zd Letter.cells s.asked)::L'):=by
 obtain⟨⟨bc,kn,re,rd,wr,up,as_⟩,H⟩:=zy.open' hp H
 exact⟨bc,kn,re,rd,wr,up,as_,H⟩
theorem zy.join (bc:Nat) (kn re rd wr:Value) (up:Nat) (as_:Value) {l x1 x2 x3 x4 x5:List Value} {n1 n2 n3 n4 n5:Nat} {c:CallsM} {u:Option UpdM} (H:Sep F0 w0 w (z7 p z4I l::yk bc c::zh 4 1 kn n1 x1::zh 54 10 re n2 x2::zh 3 1 rd n3 x3::zh 3 1 wr n4 x4::zaT up u::zh 114 26 as_ n5 x5::L))
  (h0:l=s.cells p ⟨bc,kn,re,rd,wr,up,as_⟩) (hc:c=s.calls:=by rfl) (hu:u=s.work.upd:=by rfl) (e1:n1=s.work.known.length:=by rfl) (y1:x1=s.work.known.map Value.bool:=by rfl) (e2:n2=s.work.records.length:=by rfl) (y2:x2=zd Rec.cells s.work.records:=by rfl)
  (e3:n3=s.work.reads.length:=by rfl) (y3:x3=s.work.reads.map z09:=by rfl) (e4:n4=s.work.writes.length:=by rfl) (y4:x4=s.work.writes.map z09:=by rfl) (e5:n5=s.asked.length:=by rfl) (y5:x5=zd Letter.cells s.asked:=by rfl):Sep F0 w0 w (zy p s::L):=by
 subst h0 hc hu e1 y1 e2 y2 e3 y3 e4 y4 e5 y5
 exact zy.mk ⟨bc,kn,re,rd,wr,up,as_⟩ H rfl rfl
def z5m (p:Nat) (s:PilotM) (rd:Value):Assn:=exA fun h:PilotH=>zaN [z7 p z4I (s.cells p {h with rd:=rd}),yk h.bc s.calls,zh 4 1 h.kn s.work.known.length (s.work.known.map Value.bool),zh 54 10 h.re s.work.records.length (zd Rec.cells s.work.records),zh 3 1 h.wr s.work.writes.length (s.work.writes.map z09),zaT h.up s.work.upd,zh 114 26 h.as_ s.asked.length (zd Letter.cells s.asked)]
theorem z5m.parts {rd:Value} (hp:Pick (z5m p s rd) L L') (H:Sep F0 w0 w L):∃bc kn re wr up as_,Sep F0 w0 w (z7 p z4I (s.cells p ⟨bc,kn,re,rd,wr,up,as_⟩)::yk bc s.calls::zh 4 1 kn s.work.known.length (s.work.known.map Value.bool)::zh 54 10 re s.work.records.length (zd Rec.cells s.work.records)::zh 3 1 wr s.work.writes.length (s.work.writes.map z09)::zaT up s.work.upd::zh 114 26 as_ s.asked.length (zd Letter.cells s.asked)::L'):=by
 obtain⟨⟨bc,kn,re,rd',wr,up,as_⟩,H⟩:=(H.pick hp).ex
 exact⟨bc,kn,re,wr,up,as_,H.unbag⟩
theorem z5m.join (bc:Nat) (kn re rd wr:Value) (up:Nat) (as_:Value) {l x1 x2 x4 x5:List Value} {n1 n2 n4 n5:Nat} {c:CallsM} {u:Option UpdM} (H:Sep F0 w0 w (z7 p z4I l::yk bc c::zh 4 1 kn n1 x1::zh 54 10 re n2 x2::zh 3 1 wr n4 x4::zaT up u::zh 114 26 as_ n5 x5::L))
  (h0:l=s.cells p ⟨bc,kn,re,rd,wr,up,as_⟩) (hc:c=s.calls:=by rfl) (hu:u=s.work.upd:=by rfl) (e1:n1=s.work.known.length:=by rfl) (y1:x1=s.work.known.map Value.bool:=by rfl) (e2:n2=s.work.records.length:=by rfl) (y2:x2=zd Rec.cells s.work.records:=by rfl)
  (e4:n4=s.work.writes.length:=by rfl) (y4:x4=s.work.writes.map z09:=by rfl) (e5:n5=s.asked.length:=by rfl) (y5:x5=zd Letter.cells s.asked:=by rfl):Sep F0 w0 w (z5m p s rd::L):=by
 subst h0 hc hu e1 y1 e2 y2 e4 y4 e5 y5
 exact Sep.mk_ex (⟨bc,kn,re,rd,wr,up,as_⟩:PilotH) (Sep.bag (K:=[_,_,_,_,_,_,_]) H)
theorem zy.toX (hp:Pick (zy p s) L L') (H:Sep F0 w0 w L):∃rd,Sep F0 w0 w (z5m p s rd::zh 3 1 rd s.work.reads.length (s.work.reads.map z09)::L'):=by
 obtain⟨bc,kn,re,rd,wr,up,as_,H⟩:=zy.parts hp H
 exact⟨rd,z5m.join bc kn re rd wr up as_ (H.sub (K:=_::_::_::_::_::_::_::_::_) sb) rfl⟩
theorem z5m.toA {rd:Value} {n3:Nat} {x3:List Value} (H:Sep F0 w0 w (z5m p s rd::zh 3 1 rd n3 x3::L)) (e3:n3=s.work.reads.length:=by rfl) (y3:x3=s.work.reads.map z09:=by rfl):Sep F0 w0 w (zy p s::L):=by
 obtain⟨bc,kn,re,wr,up,as_,H⟩:=z5m.parts .head H
 exact zy.join bc kn re rd wr up as_ (H.sub sb) rfl (e3:=e3) (y3:=y3)
theorem zhu {P:Program} {f:FuncId} {args:Array Value} {Q:Value->Prop} (h:∀rd,zi P f args [z5m p s rd] fun v K=>Q v/\K=[z5m p s' rd]) (hr:s.work.reads=s'.work.reads):zi P f args [zy p s] fun v K=>Q v/\K=[zy p s']:=by
 intro F0 w0 w R H
 obtain⟨rd,H⟩:=zy.toX .head H
 revert H
 refine zi.use (h rd) pks ?_
 rintro v _ w ⟨hq,rfl⟩ H
 exact⟨_,_,rfl,⟨hq,rfl⟩,z5m.toA H (by rw[hr]) (by rw[hr])⟩
theorem z9q {rd:Value} (hp:Pick (z5m p s rd) L L') (hv:∀h,(s.cells p h)[o]?=some v):jz L p o v:=fun F0 w0 w H=>by
 obtain⟨bc,kn,re,wr,up,as_,H⟩:=z5m.parts hp H
 exact H.cell .head (hv _)
theorem zdX {rd:Value} (hp:Pick (z5m p s rd) L L') (hn:(Tryz.prog.info? ty).map (·.size)=some (List.length [Value.int .i64 s.N,Value.int .i64 s.S])):jm Tryz.prog ty L p 0 [.int .i64 s.N,.int .i64 s.S]:=⟨fun F0 w0 w H=>by
 obtain⟨bc,kn,re,wr,up,as_,H⟩:=z5m.parts hp H
 exact(zg (P:=Tryz.prog) (ty:=ty) (cs:=[.int .i64 s.N,.int .i64 s.S]) 2 .head rfl hn).1 F0 w0 w H,hn⟩
theorem z5K (hp:Pick (zy p s) L L') (hn:(Tryz.prog.info? ty).map (·.size)=some (List.length [Value.int .i64 s.N,Value.int .i64 s.S])):jm Tryz.prog ty L p 0 [.int .i64 s.N,.int .i64 s.S]:=z2p 2 hp (fun _=>rfl) hn
theorem z9r (hp:Pick (zy p s) L L') (hn:(Tryz.prog.info? ty).map (·.size)=some (List.length [Value.int .i64 s.work.te,Value.int .i64 s.work.ts])):jm Tryz.prog ty L p 55 [.int .i64 s.work.te,.int .i64 s.work.ts]:=z2p 2 hp (fun _=>rfl) hn
theorem hdp (h:jz L p o v:=by first|exact hd|exact zj pk (fun _=>by rfl)|exact z9q pk (fun _=>by rfl)):jz L p o v:=h
theorem zmT (h:jm Tryz.prog ty L p o cs:=by first|exact hdV|exact z5K pk (ze (by rfl))|exact z9r pk (ze (by rfl))|exact zdX pk (ze (by rfl))):jm Tryz.prog ty L p o cs:=h
end
section
variable {ops:Array Oper} {rest:List Oper} {op:Oper} {a:Act} {w w0:World} {F0:Nat->Prop} {Q:Exit->Act->World->Prop} {L:List Assn} {b o:Nat} {ty:TypeId} {x:Operand} {v:Value} {cs:List Value}
theorem ldp (H:Sep F0 w0 w L) (h:wpList Tryz.prog ops Q rest (a.put op.dst v) w) (ho:op.op= .load ty x:=by exact rfl) (hu:(z4w.testBit ty&&ty.blt 400)=true:=by rfl) (hw:Region.wanted op (yielded ops a.tmps)=true:=by rfl) (hx:a.eval x= .pointer (some ⟨b,o,none⟩):=by exact rfl) (hh:jz L b o v:=by exact zj pk (fun _=>by rfl)):wpList Tryz.prog ops Q (op::rest) a w:=z4K hw ho hx H hh (z4Z hu) h
theorem zc3 (H:Sep F0 w0 w L) (h:wpList Tryz.prog ops Q rest (a.put op.dst (.agg cs.toArray)) w) (ho:op.op= .load ty x:=by exact rfl) (hu:(szT ty !=0)=true:=by rfl) (hw:Region.wanted op (yielded ops a.tmps)=true:=by rfl) (hx:a.eval x= .pointer (some ⟨b,o,none⟩):=by exact rfl) (hh:jm Tryz.prog ty L b o cs:=by first|exact z5K pk (ze (by rfl))|exact z9r pk (ze (by rfl))):wpList Tryz.prog ops Q (op::rest) a w:=j6 hw ho hx H hh (z0p hu) h
end
end
theorem z9D (c:Nat) (s:CallsM):zi Tryz.prog 201 #[.pointer (some ⟨c,0,none⟩)] [yk c s] fun r K=>r= .tuple #[]/\K=[yk c s.drop]:=by
 intro F0 w0 w R H
 try simp only[xNf]at H
 obtain⟨v,H⟩:=yk.open' H
 revert H
 refine zi.use (zjc c _ _ v) pks ?_
 rintro _ _ w ⟨rfl,rfl⟩ H
 try simp only[xNf]at H
 replace H:=Sep.mk_row_nil (e:=278) (size:=13) H
 have H2:=H.sub (K:=z7 c 231 [.int .i64 s.frm,.int .i64 s.last,.slice none 0 0]::zh 278 13 (.slice none 0 0) 0 []::R) sb
 exact⟨_,_,rfl,⟨rfl,rfl⟩,yk.mk (s:=s.drop) H2 rfl rfl⟩
abbrev PilotM.enter (s:PilotM) (nx:Option PPh):PilotM:={s with calls:=s.calls.drop,work:={s.work with next:=nx,leasing:=false}}
theorem jh (p:Nat) (s:PilotM) (nx:Option PPh):zi Tryz.prog 157 #[.pointer (some ⟨p,0,none⟩),zix p nx] [zy p s] fun r K=>r= .tuple #[]/\K=[zy p (s.enter nx)]:=by
 intro F0 w0 w R H
 try simp only[xNf]at H
 have h1:(zix p nx).oneCell'=true:=by cases nx<;>rfl
 obtain⟨bc,kn,re,rd,wr,up,as_,H⟩:=zy.parts .head H
 obtain⟨x,hx⟩:=xG (zix p nx)
 rw[hx]at h1⊢
 try simp only[xNf]at H
 go_enter Tryz.func157,Tryz.ntmps157
 go_wp2_with (first|(go_at_call 201;refine xT2 (z9D _ _) H ?_;clear H;intro w H)|(refine j1 (by rfl) (by rfl) (fun K' hK=>?_);refine jo H (h1:=h1) ?_;clear H;intro w H;refine hK _ _ ?_;clear hK K')|first|refine xLd H ?_|(refine xEf H ?_;clear H;intro b A' w H))
 refine xRe ?_
 refine⟨_,_,rfl,⟨rfl,rfl⟩,zy.join bc kn re rd wr up as_ (H.sub sba) ?_⟩
 subst hx
 kernel_rfl
theorem z7D (p:Nat) (s:PilotM) (c:Int) (rd:Value):zi Tryz.prog 241 #[.pointer (some ⟨p,0,none⟩),.int .i64 c] [z5m p s rd] fun r K=>r= .int .i64 (z3t s.N s.S s.work.stripe c)/\K=[z5m p s rd]:=by
 intro F0 w0 w R H
 try simp only[xNf]at H
 go_enter Tryz.func241,Tryz.ntmps241
 go_upto_region 1 with(first|refine xLd H ?_|(refine xEf H ?_;clear H;intro b A' w H))
 refine xRg [] (fun L=>[L]) H ?_
 clear H;intro w H
 have HS:=H
 refine xO 0 0 HS ?_
 refine xO 1 0 HS ?_
 refine xO 2 0 HS ?_
 refine xV 3 0 HS ?_ (hin:=(.last zmT))
 refine xO 4 0 HS ?_
 refine xO 5 0 HS ?_
 refine xO 6 0 HS ?_
 refine xO 7 0 HS ?_
 refine xL 8 0 HS ?_ (hin:=(.last hdp))
 refine xO 9 0 HS ?_
 refine xC 10 0 (zdN s.N s.S s.work.stripe c) H ?_
 clear H HS;intro w H HS
 refine xO 11 0 HS ?_
 refine xD ?_
 go_wp2
 refine xR1 H ?_
 exact xF H
theorem z5y (p:Nat) (s:PilotM) (c:Int):zi Tryz.prog 241 #[.pointer (some ⟨p,0,none⟩),.int .i64 c] [zy p s] fun r K=>r= .int .i64 (z3t s.N s.S s.work.stripe c)/\K=[zy p s]:=zhu (fun rd=>z7D p s c rd) rfl
theorem z17 (p:Nat) (s:PilotM) (c:Int):zi Tryz.prog 205 #[.pointer (some ⟨p,0,none⟩),.int .i64 c] [zy p s] fun r K=>r= .int .i64 (z4c s.N s.S s.work.stripe c)/\K=[zy p s]:=by
 intro F0 w0 w R H
 try simp only[xNf]at H
 go_enter Tryz.func205,Tryz.ntmps205
 go_upto_region 1 with(first|refine xLd H ?_|(refine xEf H ?_;clear H;intro b A' w H))
 refine xRg [] (fun L=>[L]) H ?_
 clear H;intro w H
 have HS:=H
 refine xO 0 0 HS ?_
 refine xO 1 0 HS ?_
 refine xO 2 0 HS ?_
 refine xV 3 0 HS ?_ (hin:=(.last zmT))
 refine xO 4 0 HS ?_
 refine xO 5 0 HS ?_
 refine xO 6 0 HS ?_
 refine xO 7 0 HS ?_
 refine xL 8 0 HS ?_ (hin:=(.last hdp))
 refine xO 9 0 HS ?_
 refine xC 10 0 (z9C s.N s.S s.work.stripe c) H ?_
 clear H HS;intro w H HS
 refine xO 11 0 HS ?_
 refine xD ?_
 go_wp2
 refine xR1 H ?_
 exact xF H
abbrev PilotM.fin (s:PilotM) (e:Int) (d:ByteArray):PilotM:={s with calls:=s.calls.drop,busy:=false,work:=WorkM.nil,err:=e,data:=d,ended:=wrap64 (s.ended+1)}
theorem zek (W:World):(Instr.build 181 #[]).run Tryz.prog W= .ok (.agg (WorkM.nil.cells 0 h00).toArray) W:=by kernel_rfl
theorem z1A (p:Nat) (s:PilotM) (e:Int) (d:ByteArray):zi Tryz.prog 155 #[.pointer (some ⟨p,0,none⟩),.int .i64 e,.string d] [zy p s] fun r K=>r= .tuple #[]/\K=[zy p (s.fin e d)]:=by
 intro F0 w0 w R H
 try simp only[xNf]at H
 obtain⟨bc,kn,re,rd,wr,up,as_,H⟩:=zy.parts .head H
 go_enter Tryz.func155,Tryz.ntmps155
 go_wp2_with (first
  |(go_at_call 201;revert H;refine zi.use (z9D _ _) pks ?_;rintro _ _ w ⟨rfl,rfl⟩ H;try simp only[xNf]at H;replace H:=zy.join (s:={s with calls:=s.calls.drop}) bc kn re rd wr up as_ (H.sub sba) (by kernel_rfl))
  |(refine z8 (v:=.agg (WorkM.nil.cells 0 h00).toArray) (by rfl) (zb (t:=181) rfl ?_) ?_;(·simp only[List.map_cons,List.map_nil];exact zek _))
  |(refine zr (by rfl) (fun K' hK=>?_);refine jo H (ht:=j7 ({s with calls:=s.calls.drop,busy:=false}) pk ltk (fun h=>by rfl) (by rfl)) ?_;clear H;intro w H;refine hK _ _ ?_;clear hK K')
  |(refine zr (by rfl) (fun K' hK=>?_);refine z6S H (ht:=z2C WorkM.nil pk rfl rfl rfl rfl rfl rfl) ?_;clear H;intro w H;refine hK _ _ ?_;clear hK K')
  |(refine zr (by rfl) (fun K' hK=>?_);refine jo H (ht:=j7 ({s with calls:=s.calls.drop,busy:=false,work:=WorkM.nil,err:=e}) pk ltk (fun h=>by rfl) (by rfl)) ?_;clear H;intro w H;refine hK _ _ ?_;clear hK K')
  |(refine zr (by rfl) (fun K' hK=>?_);refine jo H (ht:=j7 ({s with calls:=s.calls.drop,busy:=false,work:=WorkM.nil,err:=e,data:=d}) pk ltk (fun h=>by rfl) (by rfl)) ?_;clear H;intro w H;refine hK _ _ ?_;clear hK K')
  |(refine zr (by rfl) (fun K' hK=>?_);refine jo H (ht:=j7 ({s with calls:=s.calls.drop,busy:=false,work:=WorkM.nil,err:=e,data:=d,ended:=wrap64 (s.ended+1)}) pk ltk (fun h=>by rfl) (by rfl)) ?_;clear H;intro w H;refine hK _ _ ?_;clear hK K')
  |(refine ldp H (v:=.int .i64 s.ended) ?_)
  |first|refine xLd H ?_|(refine xEf H ?_;clear H;intro b A' w H))
 refine xRe ?_
 exact xF H
theorem zg9 (p:Nat) (s:PilotM):zi Tryz.prog 163 #[.pointer (some ⟨p,0,none⟩)] [zy p s] fun r K=>r= .bool s.busy/\K=[zy p s]:=by
 intro F0 w0 w R H
 try simp only[xNf]at H
 go_enter Tryz.func163,Tryz.ntmps163
 go_wp2_with (first|refine ldp H ?_|refine zc3 H ?_|refine xLd H ?_|(refine xEf H ?_;clear H;intro b A' w H))
 refine xR1 H ?_
 exact xF H
theorem zg8 (p:Nat) (s:PilotM):zi Tryz.prog 164 #[.pointer (some ⟨p,0,none⟩)] [zy p s] fun r K=>r= .tuple #[.int .i64 s.err,.string s.data,.int .i64 s.ended]/\K=[zy p s]:=by
 intro F0 w0 w R H
 try simp only[xNf]at H
 go_enter Tryz.func164,Tryz.ntmps164
 go_upto_region 1 with(first|refine xLd H ?_|(refine xEf H ?_;clear H;intro b A' w H))
 refine xRg [] (fun L=>[L]) H ?_
 clear H;intro w H
 have HS:=H
 refine xO 0 0 HS ?_
 refine xO 1 0 HS ?_
 refine xO 2 0 HS ?_
 refine xL 3 0 HS ?_ (hin:=(.last hdp))
 refine xO 4 0 HS ?_
 refine xO 5 0 HS ?_
 refine xO 6 0 HS ?_
 refine xL 7 0 HS ?_ (hin:=(.last hdp))
 refine xO 8 0 HS ?_
 refine xO 9 0 HS ?_
 refine xO 10 0 HS ?_
 refine xL 11 0 HS ?_ (hin:=(.last hdp))
 refine xO 12 0 HS ?_
 refine xO 13 0 HS ?_
 refine xO 14 0 HS ?_
 refine xD ?_
 go_wp2
 (try simp only[Exit.inBlock,Exit.then]);refine bodyPost_ret (z2J rfl (by first|exact rsc H|exact rfl) (by first|exact rsc H|exact rfl) (by first|exact rsc H|exact rfl)) rfl ?_
 exact xF H
theorem zg2 (p:Nat) (s:PilotM):zi Tryz.prog 115 #[.pointer (some ⟨p,0,none⟩)] [zy p s] fun r K=>K=[zh 114 26 r s.asked.length (zd Letter.cells s.asked),zy p {s with asked:=[]}]:=by
 intro F0 w0 w R H
 try simp only[xNf]at H
 obtain⟨bc,kn,re,rd,wr,up,as_,H⟩:=zy.parts .head H
 go_enter Tryz.func115,Tryz.ntmps115
 go_wp2_with (first|refine xLd H ?_|(refine xEf H ?_;clear H;intro b A' w H))
 refine xR1 H ?_
 replace H:=Sep.mk_row_nil (e:=114) (size:=26) H
 have H2:Sep F0 w0 w (zy p {s with asked:=[]}::zh 114 26 as_ s.asked.length (zd Letter.cells s.asked)::R):=zy.join bc kn re rd wr up (.slice none 0 0) (H.sub sba) (by kernel_rfl)
 exact⟨as_,_,rfl,rfl,H2.sub sba⟩
def PilotM.askR (s:PilotM) (now dst:Int) (q:AskM):CallsM×Letter×Bool:=s.calls.ask now dst {q with stripe:=s.work.stripe}
def PilotM.ask (s:PilotM) (now dst:Int) (q:AskM):PilotM:=
 if(s.askR now dst q).2.2=true then {s with calls:=(s.askR now dst q).1,asked:=s.asked++[(s.askR now dst q).2.1]}else {s with calls:=(s.askR now dst q).1}
theorem z9g (p:Nat) (s:PilotM) (now dst:Int) (q:AskM) (rd:Value) (h0:0<=s.calls.last) (hmax:s.asked.length<=1000000000):zi Tryz.prog 159 #[.pointer (some ⟨p,0,none⟩),.int .i64 now,.int .i64 dst,q.v] [z5m p s rd] fun r K=>r= .tuple #[]/\K=[z5m p (s.ask now dst q) rd]:=by
 intro F0 w0 w R H
 try simp only[xNf]at H
 obtain⟨bc,kn,re,wr,up,as_,H⟩:=z5m.parts .head H
 have HC:=Lib.hid (zlk bc s.calls now dst {q with stripe:=s.work.stripe} h0)
 obtain⟨⟨cs2,l2,ok⟩,hr⟩:∃r,s.askR now dst q=r:=⟨_,rfl⟩
 have hr2:s.calls.ask now dst {q with stripe:=s.work.stripe}=(cs2,l2,ok):=hr
 rw[hr2]at HC
 have hq:(AskM.cells q).set 1 (.int .i64 s.work.stripe)=AskM.cells {q with stripe:=s.work.stripe}:=rfl
 have hu:s.ask now dst q=if ok=true then {s with calls:=cs2,asked:=s.asked++[l2]}else {s with calls:=cs2}:=by unfold PilotM.ask;rw[hr]
 rw[hu]
 clear hu hr hr2
 obtain⟨ka,hka⟩:=xG (s.asked.length)
 rw[hka]at H hmax
 have HKA:=Lib.hid hka
 clear hka
 obtain⟨A6,c6,rfl⟩:=zt (v:=as_) H pk
 go_enter Tryz.func159,Tryz.ntmps159
 go_upto_region 2 with(first|refine xLd H ?_|(refine xEf H ?_;clear H;intro b A' w H))
 rw[hq]at H
 refine xRg [7,12] (fun L=>[L,[],[]]) H ?_
 clear H;intro w H
 have HS:=H
 refine xO 0 0 HS ?_
 refine xO 1 0 HS ?_
 refine xO 2 0 HS ?_
 refine xL 3 0 HS ?_ (hin:=(.stop (n:=14) hd (by kernel_rfl)))
 refine xO 4 0 HS ?_
 refine xO 5 0 HS ?_
 refine xV 6 0 HS ?_ (hin:=(.stop (n:=14) hdV (by kernel_rfl)))
 clear HS
 refine tk2 7 11 1 0 (fun K' hK=>?_) (fun K' hK=>?_)
 go_simp;revert H;refine zi.use HC.out pks ?_;rintro _ _ w ⟨rfl,rfl⟩ H;try simp only[xNf]at H
 refine hK _ _ (H.sub sbn) (fun HS=>?_)
 clear hK K'
 try simp only[xPt]
 refine xO 8 1 HS ?_
 refine xO 9 1 HS ?_
 refine xO 10 1 HS ?_
 refine xM 11 1 H ?_
 clear H HS;intro b _ w H HS
 refine xM 12 2 H ?_
 clear H HS;intro _ _ w H HS
 refine xO 13 2 HS ?_
 refine xD ?_
 rotate_left
 (refine wEf H ?_;clear H;intro b _ w H)
 refine hK _ _ (H.sub sbn) (fun HS=>?_)
 clear hK K'
 try simp only[xPt]
 refine xC 7 1 HC.out H ?_
 clear H HS;intro w H HS
 refine xO 8 1 HS ?_
 refine xO 9 1 HS ?_
 refine xO 10 1 HS ?_
 refine xM 12 2 H ?_
 clear H HS;intro _ _ w H HS
 refine xO 13 2 HS ?_
 refine xD ?_
 rotate_left
 all_goals
  clear HC
  cases ok with
  |false=>
   go_wp2
   refine xRe ?_
   exact⟨_,_,rfl,⟨rfl,rfl⟩,z5m.join bc kn re rd wr up _ (H.sub sba) (by kernel_rfl) (e5:=HKA.out.symm)⟩
  |true=>
   go_upto_region 4 with(first|refine xLd H ?_|(refine xEf H ?_;clear H;intro b A' w H))
   refine xRg [7,10] (fun L=>[L,[],[]]) H ?_
   clear H;intro w H
   have HS:=H
   refine xO 0 0 HS ?_
   refine xO 1 0 HS ?_
   refine xO 2 0 HS ?_
   refine xO 3 0 HS ?_
   refine xL 4 0 HS ?_ (hin:=(.stop (n:=11) hd (by kernel_rfl)))
   refine xV 5 0 HS ?_ (hin:=(.stop (n:=11) hdV (by kernel_rfl)))
   refine xM 6 0 H ?_
   clear H HS;intro b _ w H HS
   refine xM 7 1 H ?_
   clear H HS;intro k' A' w H HS
   refine xO 8 1 HS ?_
   refine xO 9 1 HS ?_
   refine xM 10 2 H ?_
   clear H HS;intro _ _ w H HS
   refine xD ?_
   all_goals
    go_wp2
    refine xRe ?_
    refine⟨_,_,rfl,⟨rfl,rfl⟩,z5m.join bc kn re rd wr up _ (H.sub sba) (by kernel_rfl) (e5:=by rw[List.length_append,HKA.out];rfl) (y5:=?_)⟩
    exact(z0a _ _).symm
theorem PilotM.ask_same (s:PilotM) (now dst:Int) (q:AskM):(s.ask now dst q).work=s.work/\(s.ask now dst q).N=s.N/\(s.ask now dst q).S=s.S/\(s.ask now dst q).leases=s.leases/\(s.ask now dst q).busy=s.busy:=by
 unfold PilotM.ask
 split<;>exact⟨rfl,rfl,rfl,rfl,rfl⟩
theorem z2l (p:Nat) (s:PilotM) (now dst:Int) (q:AskM) (h0:0<=s.calls.last) (hmax:s.asked.length<=1000000000):zi Tryz.prog 159 #[.pointer (some ⟨p,0,none⟩),.int .i64 now,.int .i64 dst,q.v] [zy p s] fun r K=>r= .tuple #[]/\K=[zy p (s.ask now dst q)]:=
 zhu (fun rd=>z9g p s now dst q rd h0 hmax) (by rw[(s.ask_same now dst q).1])
end Go.Proofs.YtmfincpagnpkjaaGreat
