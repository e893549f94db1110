/- Part of the proof of one statement: what the program's functions compute. -/
import Derived.Test.YtmfincpagnpkjaaGreatM05
set_option linter.all false
set_option maxRecDepth 100000
set_option maxHeartbeats 100000000
namespace Go.Proofs.YtmfincpagnpkjaaGreat
open Go.RowKit
section
def zh (e:TypeId) (size:Nat) (v:Value) (n:Nat) (xs:List Value):Assn:=⟨fun F w=>w.ownsRow 0 e size v n xs/\∀g,v.ownBlock=some g->F g,fun {F w w'} h hk=>by
 refine⟨⟨h.1.1, ?_⟩,h.2⟩
 rcases h.1.2 with h2|⟨g,cap,cur,hv,hb,hh,r⟩
 ·exact .inl h2
 ·exact .inr ⟨g,cap,cur,hv,hb,(hk g (h.2 g (by rw[hv];rfl))).trans hh,r⟩⟩
def jz (L:List Assn) (b o:Nat) (v:Value):Prop:=∀(F0:Nat->Prop) (w0 w:World),Sep F0 w0 w L->w.cell? ⟨b,o,none⟩=some v
def z6t (L:List Assn) (b o:Nat) (cs:List Value):Prop:=∀(F0:Nat->Prop) (w0 w:World),Sep F0 w0 w L->w.rangeAt b o cs
def jm (P:Program) (ty:TypeId) (L:List Assn) (b o:Nat) (cs:List Value):Prop:=z6t L b o cs/\(P.info? ty).map (·.size)=some cs.length
def z0m (L:List Assn) (b o:Nat) (v:Value) (K:List Assn):Prop:=∀(F0:Nat->Prop) (w0 w:World),Sep F0 w0 w L->((w.cell? ⟨b,o,none⟩).isSome=true/\w.frozen? ⟨b,o,none⟩=false)/\Sep F0 w0 (w.setCell ⟨b,o,none⟩ v) K
def z1Z (L:List Assn) (b o:Nat) (cs:List Value) (K:List Assn):Prop:=∀(F0:Nat->Prop) (w0 w:World),Sep F0 w0 w L->w.there b o cs.length/\Sep F0 w0 (w.setCells b o cs) K
section
variable {P:Program} {ops:Array Oper} {rest:List Oper} {op:Oper} {a:Act} {w w' w0:World} {F0:Nat->Prop} {Q:Exit->Act->World->Prop} {K':Act->World->Prop} {L L' L1 L2 K:List Assn} {b o n c g m size bytes:Nat} {t ty e:TypeId} {l cs xs news:List Value} {x y s:Operand} {u v z:Value}
theorem zc (hp:Pick (z7 b t l) L L') (hv:l[o]?=some v):jz L b o v:=fun _ _ _ H=>H.cell hp hv
theorem zeG (hb:w.heap[b]?=some (.cells l.toArray t (0,0))) (hcs:(l.drop o).take n=cs):w.rangeAt b o cs:=fun j u hu=>by
 subst hcs
 rw[List.getElem?_take]at hu
 split at hu
 ·unfold World.cell?
  rw[hb]
  simpa using hu
 ·cases hu
theorem z1X (n:Nat) (hp:Pick (z7 b t l) L L') (hcs:(l.drop o).take n=cs):z6t L b o cs:=fun _ _ _ H=>zeG (H.heap hp) hcs
theorem z7Y (hp:Pick (z7 b t cs) L L'):z6t L b 0 cs:=z1X cs.length hp (by simp)
theorem z0y (hp:Pick (z7 b t cs) L L') (hn:(P.info? ty).map (·.size)=some cs.length):jm P ty L b 0 cs:=⟨z1X cs.length hp (by simp),hn⟩
theorem zg (n:Nat) (hp:Pick (z7 b t l) L L') (hcs:(l.drop o).take n=cs) (hn:(P.info? ty).map (·.size)=some cs.length):jm P ty L b o cs:=⟨z1X n hp hcs,hn⟩
theorem z2B (hp:Pick (z7 b t l) L L') (hl:o<l.length):z0m L b o v (z7 b t (l.set o v)::L'):=fun _ _ _ H=>⟨⟨by rw[H.cell hp (List.getElem?_eq_getElem hl)];rfl,H.free hp⟩,H.set hp⟩
theorem jt (hp:Pick (z7 b t l) L L') (hl:o+cs.length<=l.length):z1Z L b o cs (z7 b t (setFrom l o cs)::L'):=fun _ _ _ H=>
 ⟨fun j hj=>⟨by rw[H.cell hp (List.getElem?_eq_getElem (show o+j<l.length by omega))];rfl,H.free hp⟩,H.setFrom hp cs o⟩
theorem zbd (hp:Pick (z7 b t l) L L') (hl:cs.length=l.length):z1Z L b 0 cs (z7 b t cs::L'):=fun _ _ _ H=>by
 have h:=jt (o:=0) (cs:=cs) hp (by omega) _ _ _ H
 rw[zbg hl]at h
 exact h
theorem Sep.row (H:Sep F0 w0 w L) (hp:Pick (zh e size v n xs) L L'):w.ownsRow 0 e size v n xs:=by
 obtain⟨F,⟨h,_⟩,_⟩:=(H.pick hp).say
 exact h
theorem zt (H:Sep F0 w0 w L) (hp:Pick (zh e size v n xs) L L'):∃A k,v= .slice A n k:=by
 rcases(H.row hp).2 with⟨rfl,rfl⟩|⟨g,cap,cur,rfl,_⟩
 ·exact⟨_,_,rfl⟩
 ·exact⟨_,_,rfl⟩
theorem zz (H:Sep F0 w0 w L) (hp:Pick (zh e size v n xs) L L') (h:0<n):∃g k,v= .slice (some ⟨g,0,none⟩) n k:=by
 rcases(H.row hp).2 with⟨rfl,rfl⟩|⟨g,cap,cur,rfl,_⟩
 ·omega
 ·exact⟨_,_,rfl⟩
theorem zn (hp:Pick (zh e size (.slice (some ⟨g,0,none⟩) n c) n xs) L L') (hv:xs[o]?=some v):jz L g o v:=fun _ _ _ H=>by
 have:=(H.row hp).cells (g:=g) rfl o v hv
 rwa [Addr.add_mid,Nat.zero_add]at this
theorem z1s (n':Nat) (hp:Pick (zh e size (.slice (some ⟨g,0,none⟩) n c) n xs) L L') (hcs:(xs.drop o).take n'=cs):z6t L g o cs:=fun _ _ _ H j u hu=>by
 subst hcs
 rw[List.getElem?_take]at hu
 split at hu
 ·rw[List.getElem?_drop]at hu
  have:=(H.row hp).cells (g:=g) rfl (o+j) u hu
  rwa [Addr.add_mid,Nat.zero_add]at this
 ·cases hu
theorem z2h (hp:Pick (zh e size (.slice (some ⟨g,0,none⟩) n c) n xs) L L') (hl:o<xs.length):z0m L g o v (zh e size (.slice (some ⟨g,0,none⟩) n c) n (xs.set o v)::L'):=fun F0 w0 w H=>by
 have hrow:=H.row hp
 have hc:w.cell? ⟨g,o,none⟩=some xs[o]:=by
  have:=hrow.cells (g:=g) rfl o _ (List.getElem?_eq_getElem hl)
  rwa [Addr.add_mid,Nat.zero_add]at this
 have hf:w.frozen? ⟨g,o,none⟩=false:=by
  rcases hrow.2 with⟨h,_⟩|⟨g',cap,cur,hv,_,hh,_⟩
  ·cases h
  ·cases hv
   unfold World.frozen?
   rw[hh]
   rfl
 refine⟨⟨by rw[hc];rfl,hf⟩, ?_⟩
 refine Sep.turn (K:=[zh e size (.slice (some ⟨g,0,none⟩) n c) n (xs.set o v)]) (H.pick hp) rfl rfl rfl (by simp[World.setCell]) ?_
 rintro F ⟨h1,h2⟩ hF
 have hFg:=h2 g rfl
 refine⟨F,⟨F,fun _=>False,fun _ h=>h,fun _ h=>h.elim,fun _ _ h=>h,⟨⟨by rw[List.length_set];exact h1.1, ?_⟩,h2⟩,trivial⟩,fun k hk=>⟨by simpa [World.setCell]using hF k hk,.inl hk⟩,fun k _ hk=>Below.heap_setCell w _ _ k (by rintro rfl;exact hk hFg)⟩
 rcases h1.2 with⟨h,_⟩|⟨g',cap,cur,hv,hb,hh,h3,h4,h5,h6⟩
 ·cases h
 ·cases hv
  refine .inr ⟨g,c,cur.setIfInBounds o v,rfl,hb, ?_,h3,h4,by simpa using h5, ?_⟩
  ·have:=(Ob.set (own:=fun _=>0) (κ:=0) (w:=w) (b:=g) (t:=e) (l:=cur.toList) ⟨by simpa using hh,rfl⟩ o v).1
   rw[this,<-Array.toList_setIfInBounds,Array.toArray_toList]
  ·rw[Array.toList_setIfInBounds,List.take_set,h6]
theorem z0V (n':Nat) (hp:Pick (zh e size (.slice (some ⟨g,0,none⟩) n c) n xs) L L') (hcs:(xs.drop o).take n'=cs) (hn:(P.info? ty).map (·.size)=some cs.length):jm P ty L g o cs:=⟨z1s n' hp hcs,hn⟩
theorem z5S (ho:op.op= .load ty x) (hx:a.eval x= .pointer (some ⟨b,o,none⟩)) (hu:(P.underlying ty).map TypeDesc.isRow=some false) (hc:w.cell? ⟨b,o,none⟩=some v):(execOp a.eval op).run P w= .ok (.value v) w:=by
 cases hq:P.underlying ty with
 |none=>simp[hq]at hu
 |some d=>
  have hr:d.isRow=false:=by simpa [hq]using hu
  have hagg:(isAgg ty).run P w= .ok false w:=by
   unfold isAgg
   rw[Sem.run_bind,run_underlying hq w]
   cases d<;>simp_all
  unfold execOp
  simp[ho,hx,Instr.loadAt,Instr.sureAddr,loadVar,hagg,hc]
theorem z5R (ho:op.op= .load ty x) (hx:a.eval x= .pointer (some ⟨b,o,none⟩)) (hc:w.rangeAt b o cs) (hu:(P.underlying ty).map TypeDesc.isRow=some true) (hi:(P.info? ty).map (·.size)=some cs.length):(execOp a.eval op).run P w= .ok (.value (.agg cs.toArray)) w:=by
 cases hq:P.underlying ty with
 |none=>simp[hq]at hu
 |some d=>exact zjb ho hx hc hq (by simpa [hq]using hu) hi
theorem ze9 (ho:op.op= .store ty x y) (hx:a.eval x= .pointer (some ⟨b,o,none⟩)) (hy:a.eval y=v) (h1:v.oneCell'=true) (hi:(P.info? ty).map (·.size)=some 1) (hc:(w.cell? ⟨b,o,none⟩).isSome=true) (hf:w.frozen? ⟨b,o,none⟩=false):
  (execOp a.eval op).run P w= .ok .skip (w.setCell ⟨b,o,none⟩ v):=by
 subst hy
 cases hq:P.info? ty with
 |none=>simp[hq]at hi
 |some i=>
  have hs:i.size=1:=by simpa [hq]using hi
  obtain⟨u,hu⟩:=Option.isSome_iff_exists.1 hc
  have hcells:(a.eval y).cells=#[a.eval y]:=by
   revert h1
   cases a.eval y<;>simp[Value.oneCell',Value.cells]
  have hst:(store ⟨b,o,none⟩ (a.eval y)).run P w= .ok () (w.setCell ⟨b,o,none⟩ (a.eval y)):=by
   revert h1
   cases a.eval y<;>simp[Value.oneCell',store,Sem.run,hu,hf]
  unfold execOp
  simp[ho,hx,Instr.storeAt,Instr.sureAddr,storeVar,hcells,sizeOf,typeInfo,hq,hs,storeCells,Addr.add,hst]
theorem z9y (ho:op.op= .alloc ty) (hz:(P.info? ty).bind (·.zero)=some z):(execOp a.eval op).run P w= .ok (.value (.pointer (some ⟨w.heap.size,0,none⟩))) (w.alloc (.cells z.cells ty)):=by
 cases hq:P.info? ty with
 |none=>simp[hq]at hz
 |some i=>
  have hz:i.zero=some z:=by simpa [hq]using hz
  unfold execOp
  simp[ho,Instr.alloc,newVar,newRow,zeroValue,typeInfo,hq,hz]
theorem zeZ (ho:op.op= .box ty y) (hy:a.eval y=v):(execOp a.eval op).run P w= .ok (.value (.pointer (some ⟨w.heap.size,0,none⟩))) (w.alloc (.cells v.cells ty)):=by
 unfold execOp
 simp[ho,hy,Instr.box,newVar,newRow]
theorem zb {ps:List (Nat×Operand)} (ho:op.op= .build t ps.toArray) (hb:(Instr.build t (ps.map fun p=>(p.1,a.eval p.2)).toArray).run P w= .ok v w):(execOp a.eval op).run P w= .ok (.value v) w:=by
 unfold execOp
 simp only[ho,List.map_toArray]
 simp only[Sem.run_bind,hb,Result.andThen_ok,Sem.run_pure]
theorem jp (hy:(execOp a.eval op).run P w= .ok (.value v) w') (h:K' (a.put op.dst v) w'):op.wp P a w K' Q:=by
 unfold Oper.wp
 rw[hy]
 exact h
theorem z3i (hy:(execOp a.eval op).run P w= .ok .skip w') (h:K' (a.put op.dst undef) w'):op.wp P a w K' Q:=by
 unfold Oper.wp
 rw[hy]
 exact h
theorem zfh (ho:op.op= .store ty x y) (hx:a.eval x= .pointer (some ⟨b,o,none⟩)) (hy:a.eval y=v) (ht:z0m L b o v K) (h1:v.oneCell'=true) (hi:(P.info? ty).map (·.size)=some 1)
  (h:∀w',Sep F0 w0 w' K->K' (a.put op.dst undef) w'):Sep F0 w0 w L->op.wp P a w K' Q:=fun H=>
 z3i (ze9 ho hx hy h1 hi (ht _ _ _ H).1.1 (ht _ _ _ H).1.2) (h _ (ht _ _ _ H).2)
theorem z4m (ho:op.op= .store ty x y) (hx:a.eval x= .pointer (some ⟨b,o,none⟩)) (hy:a.eval y= .agg cs.toArray) (ht:z1Z L b o cs K) (h1:cs.all (·.oneCell')=true) (hi:(P.info? ty).map (·.size)=some cs.length)
  (h:∀w',Sep F0 w0 w' K->K' (a.put op.dst undef) w'):Sep F0 w0 w L->op.wp P a w K' Q:=fun H=>by
 refine z3i (w':=w.setCells b o cs) ?_ (h _ (ht _ _ _ H).2)
 have hr:=run_storeAt_mid (P:=P) w b o ty cs.toArray (by simpa using(ht _ _ _ H).1) (by simpa using hi) (by rw[<-Array.all_toList];exact h1)
 unfold execOp
 simp[ho,hx,hy,hr]
theorem z2A (ho:op.op= .alloc ty) (hz:(P.info? ty).bind (·.zero)=some (.agg cs.toArray))
  (h:∀b w',Sep F0 w0 w' (z7 b ty cs::L)->K' (a.put op.dst (.pointer (some ⟨b,0,none⟩))) w'):Sep F0 w0 w L->op.wp P a w K' Q:=fun H=>
 jp (z9y ho hz) (h _ _ (by have:=H.newC (Value.agg cs.toArray).cells ty;simpa [Value.cells]using this))
theorem zhl (ho:op.op= .box ty y) (hy:a.eval y= .agg cs.toArray)
  (h:∀b w',Sep F0 w0 w' (z7 b ty cs::L)->K' (a.put op.dst (.pointer (some ⟨b,0,none⟩))) w'):Sep F0 w0 w L->op.wp P a w K' Q:=fun H=>
 jp (zeZ ho hy) (h _ _ (by have:=H.newC (Value.agg cs.toArray).cells ty;simpa [Value.cells]using this))
theorem zfi (ho:op.op= .alloc ty) (hz:(P.info? ty).bind (·.zero)=some z) (hl:z.cells.toList=l)
  (h:∀b w',Sep F0 w0 w' (z7 b ty l::L)->K' (a.put op.dst (.pointer (some ⟨b,0,none⟩))) w'):Sep F0 w0 w L->op.wp P a w K' Q:=fun H=>by
 subst hl
 exact jp (z9y ho hz) (h _ _ (H.newC _ _))
theorem zjR (ho:op.op= .box ty y) (hy:a.eval y=v) (hl:v.cells.toList=l)
  (h:∀b w',Sep F0 w0 w' (z7 b ty l::L)->K' (a.put op.dst (.pointer (some ⟨b,0,none⟩))) w'):Sep F0 w0 w L->op.wp P a w K' Q:=fun H=>by
 subst hl
 exact jp (zeZ ho hy) (h _ _ (H.newC _ _))
theorem zlc {place:Nat->Option (Nat×Nat)} {c0:Array Value} (hp:place 0=some (0,size)) (hc:c0.size=size) (hs:v.cells.size=size):Instr.fill place c0 [(0,v)]=some v.cells:=by
 have key:∀(vs:List Value) (k:Nat) (c:Array Value),(vs.zipIdx k).foldl (fun cs (x:Value×Nat)=>cs.setIfInBounds (0+x.2) x.1) c=zlo c k vs:=by
  intro vs
  induction vs with
  |nil=>intro k c;rfl
  |cons u vs ih=>intro k c;rw[List.zipIdx_cons,List.foldl_cons,ih,zlo,Nat.zero_add]
 unfold Instr.fill
 simp only[hp]
 rw[if_neg (by rw[hs,hc];simp)]
 unfold Instr.fill
 have h2:v.cells.zipIdx.foldl (fun cs (x:Value×Nat)=>cs.setIfInBounds (0+x.2) x.1) c0=v.cells:=by
  rw[<-Array.foldl_toList,Array.toList_zipIdx,key,zia (by rw[Array.length_toList,hs,hc])]
 exact congrArg some h2
theorem z87 (ho:op.op= .buildSlice t 1 #[(0,x)]) (hx:a.eval x=v) (ht:P.underlying t=some (.slice e)) (hz:(P.info? e).bind (·.zero)=some z) (hi:(P.info? e).map (·.size)=some size) (h0:0<size) (h24:size<=2^24) (hs:v.cells.size=size):
  (execOp a.eval op).run P w= .ok (.value (.slice (some ⟨w.heap.size,0,none⟩) 1 1)) (w.alloc (.cells v.cells e)):=by
 cases hq:P.info? e with
 |none=>simp[hq]at hz
 |some i=>
  have hz:i.zero=some z:=by simpa [hq]using hz
  have hsz:i.size=size:=by simpa [hq]using hi
  have hf:Instr.fill (fun j=>some (j*size,size)) ((Array.range (1*size)).map (z.cells[·% z.cells.size]!)) [(0,v)]=some v.cells:=zlc (by simp) (by simp) hs
  unfold execOp
  simp only[Nat.one_mul]at hf
  have h24':¬16777216<size:=by omega
  have h00:¬size=0:=by omega
  simp[ho,hx,Instr.buildSlice,run_underlying ht,sizeOf,typeInfo,zeroValue,hq,hz,hsz,h24',h00,hf,newRow]
theorem zb0 (ho:op.op= .buildSlice t 1 #[(0,x)]) (hx:a.eval x= .agg cs.toArray) (ht:P.underlying t=some (.slice e)) (hz:(P.info? e).bind (·.zero)=some z) (hi:(P.info? e).map (·.size)=some cs.length) (h0:0<cs.length) (h24:cs.length<=2^24)
  (h:∀b w',Sep F0 w0 w' (z7 b e cs::L)->K' (a.put op.dst (.slice (some ⟨b,0,none⟩) 1 1)) w'):Sep F0 w0 w L->op.wp P a w K' Q:=fun H=>
 jp (z87 ho hx ht hz hi h0 h24 (by simp[Value.cells])) (h _ _ (by have:=H.newC (Value.agg cs.toArray).cells e;simpa [Value.cells]using this))
theorem zcV (ho:op.op= .buildSlice t 1 #[(0,x)]) (hx:a.eval x=v) (ht:P.underlying t=some (.slice e)) (hz:(P.info? e).bind (·.zero)=some z) (hi:(P.info? e).map (·.size)=some size) (h0:0<size) (h24:size<=2^24) (hs:v.cells.size=size) (hl:v.cells.toList=l)
  (h:∀b w',Sep F0 w0 w' (z7 b e l::L)->K' (a.put op.dst (.slice (some ⟨b,0,none⟩) 1 1)) w'):Sep F0 w0 w L->op.wp P a w K' Q:=fun H=>by
 subst hl
 exact jp (z87 ho hx ht hz hi h0 h24 hs) (h _ _ (H.newC _ _))
theorem zf8 (ht:P.underlying t=some (.slice e)) (hz:(P.info? e).bind (·.zero)=some z) (hi:(P.info? e).map (fun i=>(i.size,i.bytes))=some (size,bytes)) (hzs:z.cells.size=size) (h0:0<size)
  (hp:Pick (zh e size v n xs) L L') (hl:news.length=m*size) (hr:z6t L' g 0 news) (h1:∀u∈news,u.oneCell'=true) (h63:n+m<=maxLen) (hby:(n+m)*bytes<=140737488355328) (H:Sep F0 w0 w L):
  ∃v' w',(Builtin.append_ #[t,t] ty #[v,.slice (some ⟨g,0,none⟩) m c]).run P w= .ok v' w'/\(v'= .slice none 0 0↔v= .slice none 0 0/\m=0)/\Sep F0 w0 w' (zh e size v' (n+m) (xs++news)::L'):=by
 cases hq:P.info? e with
 |none=>simp[hq]at hz
 |some i=>
  have hz:i.zero=some z:=by simpa [hq]using hz
  have hi:i.size=size/\i.bytes=bytes:=by simpa [hq]using hi
  have hown:=H.row hp
  have hH:=H.pick hp
  have hnews:∀j u,news[j]?=some u->w.cell? ((⟨g,0,none⟩:Addr).add j)=some u:=fun j u hu=>by
   rw[Addr.add_mid]
   exact hr _ _ _ (hH.sub (.skip .refl)) j u hu
  obtain⟨v',w',hrun,h2,h3,h4⟩:=run_append_own (P:=P) w 0 t ty e i z size bytes ht hq hz hi.1 hi.2 hzs h0 v n xs hown ⟨g,0,none⟩ m c news hl hnews h1 h63 hby (Nat.zero_le _)
  have h5:∀k,v'.ownBlock=some k->v.ownBlock=some k\/w.heap.size<=k:=by
   intro k hk
   rcases hown.2 with⟨rfl,rfl⟩|⟨gg,cap,cur,rfl,hbg,hg,hnc,hcm,hcs,htake⟩
   ·obtain⟨v2,w2,hrun2,k2,_,_⟩:=run_append_own (P:=P) w w.heap.size t ty e i z size bytes ht hq hz hi.1 hi.2 hzs h0 (.slice none 0 0) 0 xs ⟨hown.1,.inl ⟨rfl,rfl⟩⟩ ⟨g,0,none⟩ m c news hl hnews h1 h63 hby (Nat.le_refl _)
    rw[hrun]at hrun2
    cases hrun2
    exact .inr (k2.lt k hk).1
   ·by_cases hroom:n+m<=cap
    ·have hr2:=run_append_room (P:=P) w t ty e i ht hq gg n cap cur hg ⟨g,0,none⟩ m c news (by rw[hi.1];exact hl) hnews h1 hroom (by rw[hi.1,hl,hcs,<-Nat.add_mul];exact Nat.mul_le_mul_right _ hroom)
     rw[hrun]at hr2
     cases hr2
     exact .inl hk
    ·have hsm:n+m<=9223372036854775807:=by simp only[maxLen]at h63;omega
     have hr2:=run_append_grow (P:=P) w t ty e i z ht hq hz ⟨gg,0,none⟩ n cap xs (by rw[hi.1];exact hown.1) (hown.cells (g:=gg) rfl) ⟨g,0,none⟩ m c news (by rw[hi.1];exact hl) hnews (by omega) (by omega) (by rw[hi.2];exact growslice_fits (by omega) hby)
     rw[hrun]at hr2
     cases hr2
     simp only[Value.ownBlock,Option.some.injEq]at hk
     exact .inr (by omega)
  refine⟨v',w',hrun,h4, ?_⟩
  refine Sep.turn (K:=[zh e size v' (n+m) (xs++news)]) hH h3.os h3.tape h3.output h3.size ?_
  rintro F ⟨k1,k2⟩ hF
  have hlt:=h2.lt
  refine⟨fun k=>v'.ownBlock=some k,⟨fun k=>v'.ownBlock=some k,fun _=>False,fun _ h=>h,fun _ h=>h.elim,fun _ _ h=>h,⟨h2,fun _ h=>h⟩,trivial⟩,fun k hk=>⟨(hlt k hk).2,(h5 k hk).imp (k2 k) id⟩,fun k hk hFk=>h3.block k hk (fun e=>hFk (k2 k e.symm))⟩
theorem zcW {A:Option Addr} {cp:Nat} (ho:op.op= .call {callee:=.builtin .append,args:=#[s,x],argTypes:=#[t,t]}) (ht:P.underlying t=some (.slice e)) (hz:(P.info? e).bind (·.zero)=some z) (hi:(P.info? e).map (fun i=>(i.size,i.bytes))=some (size,bytes)) (hzs:z.cells.size=size) (h0:0<size)
  (hs:a.eval s= .slice A n cp) (hx:a.eval x= .slice (some ⟨g,0,none⟩) m c) (hp:Pick (zh e size (.slice A n cp) n xs) L L') (hr:z6t L' g 0 news) (hl:news.length=m*size) (h1:news.all (·.oneCell')=true) (h63:n+m<=maxLen) (hby:(n+m)*bytes<=140737488355328)
  (h:∀A' k' w',Sep F0 w0 w' (zh e size (.slice A' (n+m) k') (n+m) (xs++news)::L')->K' (a.put op.dst (.slice A' (n+m) k')) w'):Sep F0 w0 w L->op.wp P a w K' Q:=fun H=>by
 obtain⟨v',w',hrun,_,H'⟩:=zf8 (P:=P) (ty:=op.type) (c:=c) ht hz hi hzs h0 hp hl hr (List.all_eq_true.1 h1) h63 hby H
 obtain⟨A',k',rfl⟩:=zt H' .head
 refine jp (v:=.slice A' (n+m) k') (w':=w') ?_ (h A' k' w' H')
 unfold execOp
 simp[ho,resolve,invoke,builtin,hs,hx,hrun]
theorem zr (hw:Region.wanted op (yielded ops a.tmps)=true) (h:∀K':Act->World->Prop,(∀a w,wpList P ops Q rest a w->K' a w)->op.wp P a w K' Q):wpList P ops Q (op::rest) a w:=
 wpList_step fun K hK=>by
  rw[if_pos hw]
  exact h K hK
theorem z8 (hw:Region.wanted op (yielded ops a.tmps)=true) (hy:(execOp a.eval op).run P w= .ok (.value v) w') (h:wpList P ops Q rest (a.put op.dst v) w'):wpList P ops Q (op::rest) a w:=
 zr hw fun _ hK=>jp hy (hK _ _ h)
theorem z4K (hw:Region.wanted op (yielded ops a.tmps)=true) (ho:op.op= .load ty x) (hx:a.eval x= .pointer (some ⟨b,o,none⟩)) (H:Sep F0 w0 w L) (hh:jz L b o v)
  (hu:(P.underlying ty).map TypeDesc.isRow=some false) (h:wpList P ops Q rest (a.put op.dst v) w):wpList P ops Q (op::rest) a w:=
 z8 hw (z5S ho hx hu (hh _ _ _ H)) h
theorem j6 (hw:Region.wanted op (yielded ops a.tmps)=true) (ho:op.op= .load ty x) (hx:a.eval x= .pointer (some ⟨b,o,none⟩)) (H:Sep F0 w0 w L) (hh:jm P ty L b o cs)
  (hu:(P.underlying ty).map TypeDesc.isRow=some true) (h:wpList P ops Q rest (a.put op.dst (.agg cs.toArray)) w):wpList P ops Q (op::rest) a w:=
 z8 hw (z5R ho hx (hh.1 _ _ _ H) hu hh.2) h
def Res (P:Program) (w:World) (tmps:Array Value):ResultVar->Value->Prop
 | .tmp t,v=>tmps.getD t undef=v
 | .cell c ty,v=>∃b o,tmps.getD c undef= .pointer (some ⟨b,o,none⟩)/\(loadVar ty ⟨b,o,none⟩).run P w= .ok v w
theorem Res.form {tmps:Array Value}:∀{r:ResultVar} {v:Value},Res P w tmps r v->(∃t,r= .tmp t/\tmps[t]?.getD undef=v)\/∃c ty b o,r= .cell c ty/\tmps[c]?.getD undef= .pointer (some ⟨b,o,none⟩)/\(loadVar ty ⟨b,o,none⟩).run P w= .ok v w
 | .tmp t,_,h=>.inl ⟨t,rfl,by rw[<-Array.getD_eq_getD_getElem?];exact h⟩
 | .cell c ty,_,⟨b,o,h1,h2⟩=>.inr ⟨c,ty,b,o,rfl,by rw[<-Array.getD_eq_getD_getElem?];exact h1,h2⟩
theorem zi5 {c:Tmp} {tmps:Array Value} (hc:tmps.getD c undef= .pointer (some ⟨b,0,none⟩)) (H:Sep F0 w0 w L) (hp:Pick (z7 b t cs) L L') (hi:(P.info? ty).map (·.size)=some cs.length) (hu:(P.underlying ty).map TypeDesc.isRow=some true):Res P w tmps (.cell c ty) (.agg cs.toArray):=by
 cases hq:P.underlying ty with
 |none=>simp[hq]at hu
 |some d=>exact⟨b,0,hc,run_loadVar_mid w b 0 ty cs d (zeG (H.heap hp) (n:=cs.length) (by simp)) hq (by simpa [hq]using hu) hi⟩
theorem zag {fn:Func} {tmps:Array Value} {r:ResultVar} (h:fn.results=#[r]) (hr:Res P w tmps r v):(results fn tmps).run P w= .ok v w:=by
 rcases hr.form with⟨t,rfl,h1⟩|⟨c,ty,b,o,rfl,h1,h2⟩<;>simp[results,asAddr, *]
theorem z4U {fn:Func} {tmps:Array Value} {r s:ResultVar} {u:Value} (h:fn.results=#[r,s]) (hr:Res P w tmps r v) (hs:Res P w tmps s u):(results fn tmps).run P w= .ok (.tuple #[v,u]) w:=by
 rcases hr.form with⟨t,rfl,h1⟩|⟨c,ty,b,o,rfl,h1,h2⟩<;>rcases hs.form with⟨t',rfl,k1⟩|⟨c',ty',b',o',rfl,k1,k2⟩<;>simp[results,asAddr, *]
theorem z2J {fn:Func} {tmps:Array Value} {r s q:ResultVar} {u z:Value} (h:fn.results=#[r,s,q]) (hr:Res P w tmps r v) (hs:Res P w tmps s u) (hq:Res P w tmps q z):(results fn tmps).run P w= .ok (.tuple #[v,u,z]) w:=by
 rcases hr.form with⟨t,rfl,h1⟩|⟨c,ty,b,o,rfl,h1,h2⟩<;>rcases hs.form with⟨t',rfl,k1⟩|⟨c',ty',b',o',rfl,k1,k2⟩<;>rcases hq.form with⟨t'',rfl,l1⟩|⟨c'',ty'',b'',o'',rfl,l1,l2⟩<;>simp[results,asAddr, *]
end
end
end Go.Proofs.YtmfincpagnpkjaaGreat
