/- Part of the proof of one statement: what the program's functions compute. -/
import Derived.Deep.RegionHeld3
import Derived.RangeFuncRecord
import Derived.Test.YtmfincpagnpkjaaGreatM00
set_option linter.all false
set_option maxRecDepth 100000
set_option maxHeartbeats 100000000
namespace Go.Proofs.YtmfincpagnpkjaaGreat
section
def z5A:List Oper->Nat->Option Oper
 |[],_=>none
 |o::_,0=>some o
 |_::l,n+1=>z5A l n
theorem zii:∀(l:List Oper) (i:Nat),z5A l i=l[i]?
 |[],_=>rfl
 |_::_,0=>rfl
 |_::l,n+1=>by rw[List.getElem?_cons_succ];exact zii l n
theorem z2O {ops:Array Oper} {i:Nat} {o:Oper} (h:z5A ops.toList i=some o):ops[i]?=some o:=by
 rw[zii]at h
 rw[<-h,Array.getElem?_toList]
variable {P:Program} {ops:Array Oper} {Q:Exit->Act->World->Prop} {md:Region.Mode} {S:World->Prop}
theorem zq (i:Nat) {oi:Oper} {v:Value} {fuel:Nat} {listed:Array Bool} {a:Act} {w:World} (hi:z5A ops.toList i=some oi)
  (hs:Region.noSelect ops=true) (hf:Region.free md ops listed i=true) (hr:(Region.ready md ops listed).contains i=true)
  (hQ:∀c a w,Q (.panic c) (a.put oi.dst v) w->Q (.panic c) a w) (hw:Region.wanted oi (yielded ops a.tmps)=true)
  (hy:∀w,S w->(execOp a.eval oi).run P w= .ok (.value v) w) (hS:S w)
  (h:wpAnyH P md ops Q S fuel (listed.setIfInBounds i true) (a.put oi.dst v) w):wpAnyH P md ops Q S (fuel+1) listed a w:=
 wpAnyH_take (z2O hi) hs hf hr hQ (Or.inl ⟨hw,hy⟩) hS h
theorem jf (i:Nat) {oi:Oper} {fuel:Nat} {listed:Array Bool} {a:Act} {w:World} (hi:z5A ops.toList i=some oi) (hr:Region.ready md ops listed=[i])
  (hw:Region.wanted oi (yielded ops a.tmps)=true)
  (h:∀K':Act->World->Prop,Shut (∀a w,S w->(S w->wpAnyH P md ops Q S fuel (listed.setIfInBounds i true) a w)->K' a w)->Oper.wp P oi a w K' Q):wpAnyH P md ops Q S (fuel+1) listed a w:=
 wpAnyH_ready hr (by simp) (AllReadyH.cons (z2O hi) (fun K hK=>by rw[if_pos hw];exact h K hK) AllReadyH.nil)
end
end Go.Proofs.YtmfincpagnpkjaaGreat
namespace Go.Proofs.YtmfincpagnpkjaaGreat
open Go.RowKit
theorem zjb {P:Program} {op:Oper} {a:Act} {w:World} {ty:TypeId} {x:Operand} {b o:Nat} {cs:List Value} {d:TypeDesc} (ho:op.op= .load ty x) (hx:a.eval x= .pointer (some ⟨b,o,none⟩)) (hc:w.rangeAt b o cs)
  (hu:P.underlying ty=some d) (hd:d.isRow=true) (hi:(P.info? ty).map (·.size)=some cs.length):(execOp a.eval op).run P w= .ok (.value (.agg cs.toArray)) w:=by
 unfold execOp
 simp only[ho,hx,Instr.loadAt,Instr.sureAddr,Sem.run_bind,Sem.run_pure,Result.andThen_ok,run_loadVar_mid w b o ty cs d hc hu hd hi]
section
def Ob (w:World) (own:Nat->Nat) (κ b:Nat) (t:TypeId) (l:List Value):Prop:=w.heap[b]?=some (.cells l.toArray t (0,0))/\own b=κ
structure Mod (own:Nat->Nat) (C:Nat->Prop) (w w':World):Prop where
 os:w'.os=w.os
 tape:w'.tape=w.tape
 output:w'.output=w.output
 size:w.heap.size<=w'.heap.size
 block:∀k,k<w.heap.size->¬C (own k)->w'.heap[k]?=w.heap[k]?
def Ext (w:World) (own own':Nat->Nat):Prop:=∀k,k<w.heap.size->own' k=own k
def zcO (κ:Nat) (w:World) (own:Nat->Nat) (w':World):Prop:=∀k,k<w.heap.size->own k=κ->w'.heap[k]?=w.heap[k]?
def paint (own:Nat->Nat) (w:World) (κ:Nat):Nat->Nat:=fun k=>if k<w.heap.size then own k else κ
section
variable {w w' w'':World} {own own' own'':Nat->Nat} {κ κ' b:Nat} {t:TypeId} {l:List Value} {C D:Nat->Prop}
theorem Ob.lt (h:Ob w own κ b t l):b<w.heap.size:=(Array.getElem?_eq_some_iff.1 h.1).1
theorem Ob.cell (h:Ob w own κ b t l) (j:Nat) (u:Value) (hu:l[j]?=some u):w.cell? ⟨b,j,none⟩=some u:=by
 unfold World.cell?
 rw[h.1]
 simpa using hu
theorem Ob.free (h:Ob w own κ b t l) (j:Nat):w.frozen? ⟨b,j,none⟩=false:=by
 unfold World.frozen?
 rw[h.1]
 simp
theorem Ob.set (h:Ob w own κ b t l) (j:Nat) (v:Value):Ob (w.setCell ⟨b,j,none⟩ v) own κ b t (l.set j v):=by
 refine⟨?_,h.2⟩
 obtain⟨hlt,hk⟩:=Array.getElem?_eq_some_iff.1 h.1
 show(w.heap.modify b _)[b]?=_
 rw[Array.getElem?_eq_getElem (by rw[Array.size_modify];exact hlt),Array.getElem_modify_self,hk]
 simp
theorem Ob.far (h:Ob w own κ b t l) (p:Addr) (v:Value) (hne:b≠p.block):Ob (w.setCell p v) own κ b t l:=⟨(Below.heap_setCell w p v b hne).trans h.1,h.2⟩
theorem Ob.alloc (h:Ob w own κ b t l) (o:Obj):Ob (w.alloc o) own κ b t l:=⟨(Below.heap_alloc w o b h.lt).trans h.1,h.2⟩
theorem Ob.drew (h:Ob w own κ b t l):Ob w.drew own κ b t l:=h
theorem Ob.same (h:Ob w own κ b t l) (hs:zcO κ w own w') (he:Ext w own own'):Ob w' own' κ b t l:=⟨(hs b h.lt h.2).trans h.1,(he b h.lt).trans h.2⟩
theorem Ob.below (h:Ob w own κ b t l) (hb:Below w.heap.size w w'):Ob w' own κ b t l:=⟨(hb.block b h.lt).trans h.1,h.2⟩
theorem Ob.new (w:World) (own:Nat->Nat) (t:TypeId) (l:List Value):Ob (w.alloc (.cells l.toArray t)) (paint own w κ) κ w.heap.size t l:=
 ⟨by show(w.heap.push _)[w.heap.size]?=_;simp,by simp[paint]⟩
theorem Ext.refl (w:World) (own:Nat->Nat):Ext w own own:=fun _ _=>rfl
theorem Ext.trans (h:Ext w own own') (k:Ext w' own' own'') (hs:w.heap.size<=w'.heap.size):Ext w own own'':=fun j hj=>(k j (by omega)).trans (h j hj)
theorem Ext.paint (w:World) (own:Nat->Nat) (κ:Nat):Ext w own (paint own w κ):=fun k hk=>by simp[Go.Proofs.YtmfincpagnpkjaaGreat.paint,hk]
theorem Mod.refl (own:Nat->Nat) (C:Nat->Prop) (w:World):Mod own C w w:=⟨rfl,rfl,rfl,Nat.le_refl _,fun _ _ _=>rfl⟩
theorem Mod.trans (h:Mod own C w w') (k:Mod own' C w' w'') (he:Ext w own own'):Mod own C w w'':=
 ⟨k.os.trans h.os,k.tape.trans h.tape,k.output.trans h.output,Nat.le_trans h.size k.size,fun j hj hC=>(k.block j (Nat.lt_of_lt_of_le hj h.size) (by rw[he j hj];exact hC)).trans (h.block j hj hC)⟩
theorem Mod.mono (h:Mod own C w w') (hCD:∀k,C k->D k):Mod own D w w':=⟨h.os,h.tape,h.output,h.size,fun j hj hD=>h.block j hj (fun hC=>hD (hCD _ hC))⟩
theorem Mod.same (h:Mod own C w w') (hC:¬C κ):zcO κ w own w':=fun k hk he=>h.block k hk (by rw[he];exact hC)
theorem Mod.ofBelow (h:Below w.heap.size w w'):Mod own C w w':=⟨h.os,h.tape,h.output,h.size,fun k hk _=>h.block k hk⟩
theorem Mod.setCell (h:Mod own C w w') (p:Addr) (v:Value) (hp:p.block<w.heap.size->C (own p.block)):Mod own C w (w'.setCell p v):=
 ⟨h.os,h.tape,h.output,Nat.le_trans h.size (by simp[World.setCell]),fun k hk hC=>(Below.heap_setCell w' p v k (by rintro rfl;exact hC (hp hk))).trans (h.block k hk hC)⟩
theorem Mod.alloc (h:Mod own C w w') (o:Obj):Mod own C w (w'.alloc o):=
 ⟨h.os,h.tape,h.output,Nat.le_trans h.size (by simp),fun k hk hC=>(Below.heap_alloc w' o k (Nat.lt_of_lt_of_le hk h.size)).trans (h.block k hk hC)⟩
theorem Mod.drew (h:Mod own C w w'):Mod own C w w'.drew:=⟨h.os,h.tape,h.output,h.size,h.block⟩
theorem Mod.below (h:Mod own C w w') (k:Below w'.heap.size w' w''):Mod own C w w'':=
 ⟨k.os.trans h.os,k.tape.trans h.tape,k.output.trans h.output,Nat.le_trans h.size k.size,fun j hj hC=>(k.block j (Nat.lt_of_lt_of_le hj h.size)).trans (h.block j hj hC)⟩
theorem Mod.grown {row:Option Nat} (h:Mod own C w w') (hg:w'.grownBy w'' row) (hr:∀k,row=some k->k<w.heap.size->C (own k)):Mod own C w w'':=
 ⟨hg.os.trans h.os,hg.tape.trans h.tape,hg.output.trans h.output,Nat.le_trans h.size hg.size,fun j hj hC=>(hg.block j (Nat.lt_of_lt_of_le hj h.size) (fun e=>hC (hr j e.symm hj))).trans (h.block j hj hC)⟩
end
def zjE (w:World) (own:Nat->Nat) (κ:Nat) (e:TypeId) (size:Nat) (v:Value) (n:Nat) (xs:List Value):Prop:=
 w.ownsRow 0 e size v n xs/\∀g,v.ownBlock=some g->own g=κ
section
variable {w w':World} {own own':Nat->Nat} {κ size n:Nat} {e:TypeId} {v:Value} {xs:List Value}
theorem zjE.nil (w:World) (own:Nat->Nat) (κ:Nat) (e:TypeId) (size:Nat):zjE w own κ e size (.slice none 0 0) 0 []:=⟨World.ownsRow_nil _ _ _ _,fun g h=>by cases h⟩
theorem zjE.same (h:zjE w own κ e size v n xs) (hs:zcO κ w own w') (he:Ext w own own'):zjE w' own' κ e size v n xs:=by
 refine⟨⟨h.1.1, ?_⟩,fun g hg=>(he g (h.1.lt g hg).2).trans (h.2 g hg)⟩
 rcases h.1.2 with h2|⟨g,cap,cur,hv,hb,hh,r⟩
 ·exact .inl h2
 ·have hlt:=(Array.getElem?_eq_some_iff.1 hh).1
  exact .inr ⟨g,cap,cur,hv,hb,(hs g hlt (h.2 g (by rw[hv];rfl))).trans hh,r⟩
theorem zjE.below (h:zjE w own κ e size v n xs) (hb:Below w.heap.size w w'):zjE w' own κ e size v n xs:=h.same (fun k hk _=>hb.block k hk) (Ext.refl _ _)
theorem zjE.far (h:zjE w own κ e size v n xs) (p:Addr) (u:Value) (hne:own p.block≠κ):zjE (w.setCell p u) own κ e size v n xs:=
 h.same (fun k _ hk=>Below.heap_setCell w p u k (by rintro rfl;exact hne hk)) (Ext.refl _ _)
end
end
section
structure Assn where
 holds:(Nat->Prop)->World->Prop
 loc:∀{F:Nat->Prop} {w w':World},holds F w->(∀k,F k->w'.heap[k]?=w.heap[k]?)->holds F w'
def z4J (b:Nat) (o:Obj):Assn:=⟨fun F w=>F b/\w.heap[b]?=some o,fun h hk=>⟨h.1,(hk _ h.1).trans h.2⟩⟩
def z7 (b:Nat) (t:TypeId) (l:List Value):Assn:=⟨fun F w=>F b/\w.heap[b]?=some (.cells l.toArray t (0,0)),fun h hk=>⟨h.1,(hk _ h.1).trans h.2⟩⟩
def z0w (p:Prop):Assn:=⟨fun _ _=>p,fun h _=>h⟩
def exA {α:Type} (f:α->Assn):Assn:=⟨fun F w=>∃x,(f x).holds F w,fun⟨x,h⟩ hk=>⟨x,(f x).loc h hk⟩⟩
def z3h:List Assn->(Nat->Prop)->World->Prop
 |[],_,_=>True
 |A::L,F,w=>∃F1 F2:Nat->Prop,(∀k,F1 k->F k)/\(∀k,F2 k->F k)/\(∀k,F1 k->¬F2 k)/\A.holds F1 w/\z3h L F2 w
theorem z3h.loc:∀{L:List Assn} {F:Nat->Prop} {w w':World},z3h L F w->(∀k,F k->w'.heap[k]?=w.heap[k]?)->z3h L F w'
 |[],_,_,_,_,_=>trivial
 |A::_,_,_,_,⟨F1,F2,h1,h2,h3,h4,h5⟩,hk=>⟨F1,F2,h1,h2,h3,A.loc h4 (fun k h=>hk k (h1 k h)),z3h.loc h5 (fun k h=>hk k (h2 k h))⟩
def zaN (L:List Assn):Assn:=⟨z3h L,z3h.loc⟩
inductive Pick:Assn->List Assn->List Assn->Prop
 |head {A:Assn} {L:List Assn}:Pick A (A::L) L
 |tail {A B:Assn} {L L':List Assn} (h:Pick A L L'):Pick A (B::L) (B::L')
inductive PickAll:List Assn->List Assn->List Assn->Prop
 |nil {L:List Assn}:PickAll [] L L
 |cons {A:Assn} {K L L' R:List Assn} (h:Pick A L L') (hs:PickAll K L' R):PickAll (A::K) L R
inductive Sub:List Assn->List Assn->Prop
 |nil {L:List Assn}:Sub [] L
 |refl {L:List Assn}:Sub L L
 |skip {A:Assn} {K L:List Assn} (h:Sub K L):Sub K (A::L)
 |cons {A:Assn} {K L L':List Assn} (h:Pick A L L') (hs:Sub K L'):Sub (A::K) L
section
variable {A B:Assn} {K L L' R:List Assn} {F F' F1 F2:Nat->Prop} {w w':World}
theorem z3h.mono:∀{L:List Assn} {F F':Nat->Prop},z3h L F w->(∀k,F k->F' k)->z3h L F' w
 |[],_,_,_,_=>trivial
 |_::_,_,_,⟨F1,F2,h1,h2,h3,h4,h5⟩,hm=>⟨F1,F2,fun k h=>hm k (h1 k h),fun k h=>hm k (h2 k h),h3,h4,h5⟩
theorem z3h.pick (hp:Pick A L L'):∀{F:Nat->Prop},z3h L F w->z3h (A::L') F w:=by
 induction hp with
 |head=>exact fun h=>h
 |tail _ ih=>
  rintro F ⟨F1,F2,h1,h2,h3,h4,h5⟩
  obtain⟨G1,G2,g1,g2,g3,g4,g5⟩:=ih h5
  refine⟨G1,fun k=>F1 k\/G2 k,fun k h=>h2 k (g1 k h),fun k h=>h.elim (h1 k) (fun h=>h2 k (g2 k h)),fun k h=>?_,g4,F1,G2,fun k=>.inl,fun k=>.inr,fun k h h'=>h3 k h (g2 k h'),h4,g5⟩
  rintro(h'|h')
  ·exact h3 k h' (g1 k h)
  ·exact g3 k h h'
theorem z3h.sub (hs:Sub K L):∀{F:Nat->Prop},z3h L F w->z3h K F w:=by
 induction hs with
 |nil=>exact fun _=>trivial
 |refl=>exact fun h=>h
 |skip _ ih=>
  rintro F ⟨F1,F2,h1,h2,h3,h4,h5⟩
  exact(ih h5).mono h2
 |cons hp _ ih=>
  intro F h
  obtain⟨F1,F2,h1,h2,h3,h4,h5⟩:=z3h.pick hp h
  exact⟨F1,F2,h1,h2,h3,h4,ih h5⟩
theorem z3h.append:∀{L:List Assn} {F1 F:Nat->Prop},z3h L F1 w->z3h R F2 w->(∀k,F1 k->¬F2 k)->(∀k,F1 k->F k)->(∀k,F2 k->F k)->z3h (L++R) F w
 |[],_,_,_,h,_,_,h2=>h.mono h2
 |_::_,_,_,⟨G1,G2,g1,g2,g3,g4,g5⟩,h,h3,h1,h2=>by
  refine⟨G1,fun k=>G2 k\/F2 k,fun k h=>h1 k (g1 k h),fun k h=>h.elim (fun h=>h1 k (g2 k h)) (h2 k),fun k h=>?_,g4,z3h.append g5 h (fun k h=>h3 k (g2 k h)) (fun k h=>Or.inl h) (fun k h=>Or.inr h)⟩
  rintro(h'|h')
  ·exact g3 k h h'
  ·exact h3 k (g1 k h) h'
theorem z3h.parts:∀{L:List Assn} {F:Nat->Prop},z3h (L++R) F w->∃F1 F2:Nat->Prop,(∀k,F1 k->F k)/\(∀k,F2 k->F k)/\(∀k,F1 k->¬F2 k)/\z3h L F1 w/\z3h R F2 w
 |[],F,h=>⟨fun _=>False,F,fun _ h=>h.elim,fun _ h=>h,fun _ h=>h.elim,trivial,h⟩
 |_::_,_,⟨G1,G2,g1,g2,g3,g4,g5⟩=>by
  obtain⟨F1,F2,h1,h2,h3,h4,h5⟩:=z3h.parts g5
  refine⟨fun k=>G1 k\/F1 k,F2,fun k h=>h.elim (g1 k) (fun h=>g2 k (h1 k h)),fun k h=>g2 k (h2 k h), ?_,⟨G1,F1,fun k=>.inl,fun k=>.inr,fun k h h'=>g3 k h (h1 k h'),g4,h4⟩,h5⟩
  rintro k (h|h) h'
  ·exact g3 k h (h2 k h')
  ·exact h3 k h h'
end
structure Sep (F0:Nat->Prop) (w0 w:World) (L:List Assn):Prop where
 parts:∃F,z3h L F w/\∀k,F k->k<w.heap.size/\(F0 k\/w0.heap.size<=k)
 os:w.os=w0.os
 tape:w.tape=w0.tape
 output:w.output=w0.output
 size:w0.heap.size<=w.heap.size
 block:∀k,k<w0.heap.size->¬F0 k->w.heap[k]?=w0.heap[k]?
section
variable {F0:Nat->Prop} {w0 w w':World} {A B:Assn} {K L L' R:List Assn} {b j n size:Nat} {t e:TypeId} {l xs:List Value} {v u:Value} {o:Obj}
theorem Sep.start {F:Nat->Prop} (h:z3h L F w) (hF:∀k,F k->k<w.heap.size):Sep F w w L:=⟨⟨F,h,fun k hk=>⟨hF k hk,.inl hk⟩⟩,rfl,rfl,rfl,Nat.le_refl _,fun _ _ _=>rfl⟩
theorem Sep.sub (hs:Sub K L) (h:Sep F0 w0 w L):Sep F0 w0 w K:=⟨let⟨F,h1,h2⟩:=h.parts;⟨F,h1.sub hs,h2⟩,h.os,h.tape,h.output,h.size,h.block⟩
theorem Sep.pick (hp:Pick A L L') (h:Sep F0 w0 w L):Sep F0 w0 w (A::L'):=⟨let⟨F,h1,h2⟩:=h.parts;⟨F,h1.pick hp,h2⟩,h.os,h.tape,h.output,h.size,h.block⟩
theorem PickAll.sub (hp:PickAll K L R):Sub (K++R) L:=by
 induction hp with
 |nil=>exact .refl
 |cons h _ ih=>exact .cons h ih
theorem Sep.unbag (h:Sep F0 w0 w (zaN K::L)):Sep F0 w0 w (K++L):=by
 obtain⟨F,⟨F1,F2,h1,h2,h3,h4,h5⟩,h6⟩:=h.parts
 exact⟨⟨F,z3h.append h4 h5 h3 h1 h2,h6⟩,h.os,h.tape,h.output,h.size,h.block⟩
theorem Sep.bag (h:Sep F0 w0 w (K++L)):Sep F0 w0 w (zaN K::L):=by
 obtain⟨F,h1,h6⟩:=h.parts
 exact⟨⟨F,z3h.parts h1,h6⟩,h.os,h.tape,h.output,h.size,h.block⟩
theorem Sep.ex {α:Type} {f:α->Assn} (h:Sep F0 w0 w (exA f::L)):∃x,Sep F0 w0 w (f x::L):=by
 obtain⟨F,⟨F1,F2,h1,h2,h3,⟨x,h4⟩,h5⟩,h6⟩:=h.parts
 exact⟨x,⟨F,⟨F1,F2,h1,h2,h3,h4,h5⟩,h6⟩,h.os,h.tape,h.output,h.size,h.block⟩
theorem Sep.mk_ex {α:Type} {f:α->Assn} (x:α) (h:Sep F0 w0 w (f x::L)):Sep F0 w0 w (exA f::L):=by
 obtain⟨F,⟨F1,F2,h1,h2,h3,h4,h5⟩,h6⟩:=h.parts
 exact⟨⟨F,⟨F1,F2,h1,h2,h3,⟨x,h4⟩,h5⟩,h6⟩,h.os,h.tape,h.output,h.size,h.block⟩
theorem Sep.pure {p:Prop} (h:Sep F0 w0 w (z0w p::L)):p/\Sep F0 w0 w L:=by
 obtain⟨F,⟨F1,F2,h1,h2,h3,h4,h5⟩,h6⟩:=h.parts
 exact⟨h4,⟨F,h5.mono h2,h6⟩,h.os,h.tape,h.output,h.size,h.block⟩
theorem Sep.mk_pure {p:Prop} (hp:p) (h:Sep F0 w0 w L):Sep F0 w0 w (z0w p::L):=by
 obtain⟨F,h5,h6⟩:=h.parts
 exact⟨⟨F,⟨fun _=>False,F,fun _ h=>h.elim,fun _ h=>h,fun _ h=>h.elim,hp,h5⟩,h6⟩,h.os,h.tape,h.output,h.size,h.block⟩
theorem Sep.conv (hAB:∀F w,A.holds F w->B.holds F w) (h:Sep F0 w0 w (A::L)):Sep F0 w0 w (B::L):=by
 obtain⟨F,⟨F1,F2,h1,h2,h3,h4,h5⟩,h6⟩:=h.parts
 exact⟨⟨F,⟨F1,F2,h1,h2,h3,hAB _ _ h4,h5⟩,h6⟩,h.os,h.tape,h.output,h.size,h.block⟩
theorem Sep.say (h:Sep F0 w0 w (A::L)):∃F,A.holds F w/\∀k,F k->k<w.heap.size:=by
 obtain⟨F,⟨F1,F2,h1,h2,h3,h4,h5⟩,h6⟩:=h.parts
 exact⟨F1,h4,fun k hk=>(h6 k (h1 k hk)).1⟩
theorem Sep.cell (h:Sep F0 w0 w L) (hp:Pick (z7 b t l) L L') (hv:l[j]?=some v):w.cell? ⟨b,j,none⟩=some v:=by
 obtain⟨F,⟨_,h4⟩,_⟩:=(h.pick hp).say
 unfold World.cell?
 rw[h4]
 simpa using hv
theorem Sep.free (h:Sep F0 w0 w L) (hp:Pick (z7 b t l) L L'):w.frozen? ⟨b,j,none⟩=false:=by
 obtain⟨F,⟨_,h4⟩,_⟩:=(h.pick hp).say
 unfold World.frozen?
 rw[h4]
 simp
theorem Sep.heap (h:Sep F0 w0 w L) (hp:Pick (z7 b t l) L L'):w.heap[b]?=some (.cells l.toArray t (0,0)):=by
 obtain⟨F,⟨_,h4⟩,_⟩:=(h.pick hp).say
 exact h4
theorem Sep.heapO (h:Sep F0 w0 w L) (hp:Pick (z4J b o) L L'):w.heap[b]?=some o:=by
 obtain⟨F,⟨_,h4⟩,_⟩:=(h.pick hp).say
 exact h4
theorem Sep.turn (h:Sep F0 w0 w (A::L)) (hos:w'.os=w.os) (htape:w'.tape=w.tape) (hout:w'.output=w.output) (hsz:w.heap.size<=w'.heap.size)
  (hT:∀F:Nat->Prop,A.holds F w->(∀k,F k->k<w.heap.size)->∃F':Nat->Prop,z3h K F' w'/\(∀k,F' k->k<w'.heap.size/\(F k\/w.heap.size<=k))/\∀k,k<w.heap.size->¬F k->w'.heap[k]?=w.heap[k]?):
  Sep F0 w0 w' (K++L):=by
 obtain⟨F,⟨F1,F2,h1,h2,h3,h4,h5⟩,h6⟩:=h.parts
 obtain⟨F',g1,g2,g3⟩:=hT F1 h4 (fun k hk=>(h6 k (h1 k hk)).1)
 refine⟨⟨fun k=>F' k\/F2 k,z3h.append g1 (h5.loc (fun k hk=>g3 k (h6 k (h2 k hk)).1 (fun h'=>h3 k h' hk))) ?_ (fun k=>.inl) (fun k=>.inr), ?_⟩,hos.trans h.os,htape.trans h.tape,hout.trans h.output,Nat.le_trans h.size hsz, ?_⟩
 ·intro k hk hk'
  rcases(g2 k hk).2 with h'|h'
  ·exact h3 k h' hk'
  ·have:=(h6 k (h2 k hk')).1;omega
 ·rintro k (hk|hk)
  ·refine⟨(g2 k hk).1, ?_⟩
   rcases(g2 k hk).2 with h'|h'
   ·exact(h6 k (h1 k h')).2
   ·exact .inr (Nat.le_trans h.size h')
  ·exact⟨Nat.lt_of_lt_of_le (h6 k (h2 k hk)).1 hsz,(h6 k (h2 k hk)).2⟩
 ·intro k hk hk'
  rw[g3 k (Nat.lt_of_lt_of_le hk h.size) (fun h'=>?_),h.block k hk hk']
  rcases(h6 k (h1 k h')).2 with h''|h''
  ·exact hk' h''
  ·omega
theorem Sep.set (hp:Pick (z7 b t l) L L') (h:Sep F0 w0 w L):Sep F0 w0 (w.setCell ⟨b,j,none⟩ v) (z7 b t (l.set j v)::L'):=by
 refine Sep.turn (K:=[z7 b t (l.set j v)]) (h.pick hp) rfl rfl rfl (by simp[World.setCell]) ?_
 rintro F ⟨h1,h2⟩ hF
 refine⟨F,⟨F,fun _=>False,fun _ h=>h,fun _ h=>h.elim,fun _ _ h=>h,⟨h1, ?_⟩,trivial⟩,fun k hk=>⟨by simpa [World.setCell]using hF k hk,.inl hk⟩,fun k _ hk=>Below.heap_setCell w _ _ k (by rintro rfl;exact hk h1)⟩
 exact(Ob.set (own:=fun _=>0) (κ:=0) ⟨h2,rfl⟩ j v).1
def setFrom (l:List Value):Nat->List Value->List Value
 |_,[]=>l
 |o,v::vs=>setFrom (l.set o v) (o+1) vs
theorem zbg {l vs:List Value} (h:vs.length=l.length):setFrom l 0 vs=vs:=by
 have key:∀(vs pre l:List Value),vs.length=l.length->setFrom (pre++l) pre.length vs=pre++vs:=by
  intro vs
  induction vs with
  |nil=>intro pre l h;rw[List.eq_nil_of_length_eq_zero (h.symm:l.length=0)];rfl
  |cons v vs ih=>
   intro pre l h
   cases l with
   |nil=>simp at h
   |cons x l=>
    rw[setFrom,List.set_append_right _ _ (Nat.le_refl _),Nat.sub_self,List.set_cons_zero]
    have:=ih (pre++[v]) l (by simpa using h)
    simpa using this
 simpa using key vs [] l h
theorem Sep.setFrom (hp:Pick (z7 b t l) L L') (h:Sep F0 w0 w L):∀(vs:List Value) (o:Nat),Sep F0 w0 (w.setCells b o vs) (z7 b t (Go.Proofs.YtmfincpagnpkjaaGreat.setFrom l o vs)::L'):=by
 intro vs
 replace h:=h.pick hp
 clear hp
 induction vs generalizing l w with
 |nil=>exact fun o=>h
 |cons v vs ih=>exact fun o=>ih (w:=w.setCell ⟨b,o,none⟩ v) (l:=l.set o v) (Sep.set .head h) (o+1)
theorem Sep.new (h:Sep F0 w0 w L) (o:Obj):Sep F0 w0 (w.alloc o) (z4J w.heap.size o::L):=by
 refine Sep.turn (A:=z0w True) (K:=[z4J w.heap.size o]) (Sep.mk_pure trivial h) rfl rfl rfl (by simp) ?_
 rintro F-hF
 refine⟨fun k=>k=w.heap.size,⟨fun k=>k=w.heap.size,fun _=>False,fun _ h=>h,fun _ h=>h.elim,fun _ _ h=>h,⟨rfl, ?_⟩,trivial⟩,fun k hk=>⟨by subst hk;simp,.inr (by omega)⟩,fun k hk _=>Below.heap_alloc w o k hk⟩
 show(w.heap.push _)[w.heap.size]?=_
 simp
theorem Sep.newC (h:Sep F0 w0 w L) (c:Array Value) (t:TypeId):Sep F0 w0 (w.alloc (.cells c t)) (z7 w.heap.size t c.toList::L):=by
 refine Sep.conv ?_ (h.new (.cells c t))
 rintro F w ⟨h1,h2⟩
 exact⟨h1,by simpa using h2⟩
theorem Sep.put (hp:Pick (z4J b o) L L') (h:Sep F0 w0 w L) (o':Obj):Sep F0 w0 (w.putObj b o') (z4J b o'::L'):=by
 refine Sep.turn (K:=[z4J b o']) (h.pick hp) rfl rfl rfl (by simp) ?_
 rintro F ⟨h1,h2⟩ hF
 refine⟨F,⟨F,fun _=>False,fun _ h=>h,fun _ h=>h.elim,fun _ _ h=>h,⟨h1, ?_⟩,trivial⟩,fun k hk=>⟨by simpa using hF k hk,.inl hk⟩,fun k _ hk=>World.putObj_heap_other (by rintro rfl;exact hk h1)⟩
 have hlt:=(Array.getElem?_eq_some_iff.1 h2).1
 show(w.heap.setIfInBounds b o')[b]?=_
 rw[Array.getElem?_setIfInBounds_self_of_lt hlt]
theorem Sep.drew (h:Sep F0 w0 w L):Sep F0 w0 w.drew L:=⟨let⟨F,h1,h2⟩:=h.parts;⟨F,h1.loc (fun _ _=>rfl),h2⟩,h.os,h.tape,h.output,h.size,h.block⟩
theorem Sep.drewN (h:Sep F0 w0 w L) (n:Nat):Sep F0 w0 (w.drewN n) L:=⟨let⟨F,h1,h2⟩:=h.parts;⟨F,h1.loc (fun _ _=>rfl),h2⟩,h.os,h.tape,h.output,h.size,h.block⟩
theorem Sep.below (h:Sep F0 w0 w L) (hb:Below w.heap.size w w'):Sep F0 w0 w' L:=by
 refine Sep.turn (A:=z0w True) (K:=[]) (Sep.mk_pure trivial h) hb.os hb.tape hb.output hb.size ?_
 exact fun F _ hF=>⟨fun _=>False,trivial,fun _ h=>h.elim,fun k hk _=>hb.block k hk⟩
end
def zlm (Q:Value->List Assn->Prop) (F0:Nat->Prop) (w0:World) (R:List Assn) (e:Ending) (w':World):Prop:=∃v L,e= .returned v/\Q v L/\Sep F0 w0 w' (L++R)
def zi (P:Program) (f:FuncId) (args:Array Value) (pre:List Assn) (Q:Value->List Assn->Prop):Prop:=
 ∀(F0:Nat->Prop) (w0 w:World) (R:List Assn),Sep F0 w0 w (pre++R)->Calls P f args w (zlm Q F0 w0 R)
section
variable {P:Program} {f:FuncId} {args:Array Value} {pre L R:List Assn} {Q:Value->List Assn->Prop} {F0:Nat->Prop} {w0 w:World}
theorem zi.use (h:zi P f args pre Q) (hs:PickAll pre L R) {C:Ending->World->Prop} (hC:∀v K w',Q v K->Sep F0 w0 w' (K++R)->C (.returned v) w'):Sep F0 w0 w L->Calls P f args w C:=fun hw=>
 (h F0 w0 w R (hw.sub hs.sub)).mono fun e w' h'=>by
  obtain⟨v,K,rfl,h1,h2⟩:=h'
  exact hC v K w' h1 h2
theorem zm {v:Value} (h:∀w,Calls P f args w fun e w'=>e= .returned v/\Below w.heap.size w w'):zi P f args [] fun r K=>r=v/\K=[]:=fun F0 w0 w R hw=>
 (h w).mono fun e w' h'=>by
  obtain⟨rfl,hb⟩:=h'
  exact⟨v,[],rfl,⟨rfl,rfl⟩,hw.below hb⟩
theorem zb8 {v:Value} (h:∀w,Calls P f args w fun e w'=>e= .returned v/\w=w'):zi P f args [] fun r K=>r=v/\K=[]:=fun F0 w0 w R hw=>
 (h w).mono fun e w' h'=>by
  obtain⟨rfl,rfl⟩:=h'
  exact⟨v,[],rfl,⟨rfl,rfl⟩,hw⟩
end
end
end Go.Proofs.YtmfincpagnpkjaaGreat
