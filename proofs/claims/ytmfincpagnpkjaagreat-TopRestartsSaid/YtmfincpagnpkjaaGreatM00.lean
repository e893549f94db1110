/- Part of the proof of one statement: what the program's functions compute. -/
import Derived.WalkKit
import Derived.Handy
import Derived.WalkLawsBesides
import Derived.WalkSpells
import Derived.Lib.Hide
import Derived.Lib.AppendStr
import Derived.Laws.CopyOwn
import Derived.Maps.AppendAt
import Derived.Deep.MidRow
set_option linter.all false
set_option maxRecDepth 100000
set_option maxHeartbeats 100000000
namespace Go.Proofs.YtmfincpagnpkjaaGreat
open Go.RowKit
section
theorem xPt:(∀(a:Act) (i:Tmp) (v:Value),a.put (some i) v={a with tmps:=a.tmps.setIfInBounds i v})/\(∀(a:Act) (v:Value),a.put none v=a)/\(∀(l:List Value) (i:Nat) (v:Value),l.toArray.setIfInBounds i v=(l.set i v).toArray)/\(∀(x y:Value) (l:List Value),(x::l).set 0 y=y::l)/\(∀(x y:Value) (l:List Value) (n:Nat),(x::l).set (n+1) y=x::l.set n y):=
 ⟨fun _ _ _=>rfl,fun _ _=>rfl,fun l i v=>by simp,fun _ _ _=>rfl,fun _ _ _ _=>rfl⟩
def Rd (w:World) (B:Nat) (A:Option Addr) (xs:List Value):Prop:=
 xs=[]\/∃b off,A=some ⟨b,off,none⟩/\b<B/\∀i u,xs[i]?=some u->w.cell? ⟨b,off+i,none⟩=some u
section
variable {w w':World} {B B':Nat} {A:Option Addr} {xs:List Value}
theorem Rd.nil (w:World) (B:Nat) (A:Option Addr):Rd w B A []:=.inl rfl
theorem Rd.at_ (h:Rd w B A xs) {k:Nat} {u:Value} (hu:xs[k]?=some u):∃b off,A=some ⟨b,off,none⟩/\b<B/\w.cell? ⟨b,off+k,none⟩=some u:=by
 rcases h with rfl|⟨b,off,hA,hb,hc⟩
 ·simp at hu
 ·exact⟨b,off,hA,hb,hc k u hu⟩
theorem Rd.keep (h:Rd w B A xs) (hk:∀p:Addr,p.block<B->w'.cell? p=w.cell? p):Rd w' B A xs:=by
 rcases h with h|⟨b,off,hA,hb,hc⟩
 ·exact .inl h
 ·exact .inr ⟨b,off,hA,hb,fun i u hu=>(hk _ hb).trans (hc i u hu)⟩
theorem Rd.below (h:Rd w B A xs) (hb:Below B w w'):Rd w' B A xs:=h.keep fun _ hp=>hb.cell hp
theorem Rd.drew (h:Rd w B A xs):Rd w.drew B A xs:=h
theorem Rd.alloc (h:Rd w B A xs) (hB:B<=w.heap.size) (o:Obj):Rd (w.alloc o) B A xs:=h.keep fun p hp=>World.cell?_alloc_lt w o p (by omega)
theorem Rd.cut (h:Rd w B A xs) (k n:Nat):Rd w B (A.map (·.add k)) ((xs.take n).drop k):=by
 rcases h with h|⟨b,off,hA,hb,hc⟩
 ·left;simp[h]
 ·right
  refine⟨b,off+k,by subst hA;simp[Addr.add_lit],hb,fun i u hu=>?_⟩
  rw[List.getElem?_drop,List.getElem?_take]at hu
  split at hu
  ·rw[Nat.add_assoc];exact hc _ _ hu
  ·cases hu
theorem Rd.tail (h:Rd w B A xs) (k cap:Nat) (hc:cap=k->xs.length<=k):Rd w B (if cap=k then A else A.map (·.add k)) (xs.drop k):=by
 by_cases hk:cap=k
 ·left;exact List.drop_eq_nil_of_le (hc hk)
 ·rw[if_neg hk]
  have:=h.cut k xs.length
  rwa [List.take_length]at this
theorem Rd.of_own {base:Nat} {e:TypeId} {size n c:Nat} (h:w.ownsRow base e size (.slice A n c) n xs):Rd w w.heap.size A xs:=by
 rcases h.2 with⟨h',hn⟩|⟨g,cap,cur,hv,_,hg,_⟩
 ·left
  have:=h.1
  rw[hn,Nat.zero_mul]at this
  exact List.eq_nil_of_length_eq_zero this
 ·right
  injection hv with hA _ _
  subst hA
  refine⟨g,0,rfl,(Array.getElem?_eq_some_iff.1 hg).1,fun i u hu=>?_⟩
  have:=h.cells (g:=g) rfl i u hu
  rwa [Addr.add_lit]at this
theorem Rd.new (w:World) (cs:Array Value) (t:TypeId) (fr:Nat×Nat):Rd (w.alloc (.cells cs t fr)) (w.heap.size+1) (some ⟨w.heap.size,0,none⟩) cs.toList:=by
 right
 refine⟨w.heap.size,0,rfl,by omega,fun i u hu=>?_⟩
 rw[World.cell?_alloc_mark,Nat.zero_add]
 simpa using hu
end
def z1g (w:World) (g:Nat) (l:List UInt8):Prop:=
 ∀j b,l[j]?=some b->w.cell? ⟨g,j,none⟩=some (.int .u8 (b.toNat:Int))/\w.frozen? ⟨g,j,none⟩=false
section
variable {w:World} {g:Nat} {l:List UInt8}
theorem z1g.ofString (w:World) (s:ByteArray) (cap:Nat) (t:TypeId):
  z1g (w.alloc (.cells (bytesRow s cap) t ((bytesRow s cap).size,(bytesRow s cap).size+1))) w.heap.size s.data.toList:=by
 intro j b hb
 have hj:j<s.data.size:=by
  have:=(List.getElem?_eq_some_iff.1 hb).1
  simpa using this
 have hbe:s.data[j]=b:=by
  rw[List.getElem?_eq_getElem (by simpa using hj)]at hb
  simpa using hb
 constructor
 ·rw[World.cell?_alloc_mark,bytesRow_at s cap j hj,hbe]
 ·rw[World.frozen?_alloc_mark]
  have:(bytesRow s cap).size=s.data.size+(cap-s.size):=by simp[bytesRow]
  simp only[Bool.and_eq_false_iff,decide_eq_false_iff_not]
  left
  omega
theorem z1g.drew (h:z1g w g l):z1g w.drew g l:=h
theorem z1g.set_ (h:z1g w g l) (m:Nat) (b:UInt8) (v:Int) (hv:v=b.toNat):z1g (w.setCell ⟨g,m,none⟩ (.int .u8 v)) g (l.set m b):=by
 subst hv
 intro j x hx
 rw[List.getElem?_set]at hx
 rw[World.frozen?_setCell]
 by_cases hj:m=j
 ·subst hj
  rw[if_pos rfl]at hx
  split at hx
  ·rename_i hlt
   obtain rfl:=Option.some.inj hx
   have h0:=h m l[m] (List.getElem?_eq_getElem hlt)
   exact⟨World.cell?_setCell_same w _ _ h0.1,h0.2⟩
  ·cases hx
 ·rw[if_neg hj]at hx
  have h0:=h j x hx
  exact⟨(World.cell?_setCell_other w _ _ _ (by intro e;injection e with _ e1;exact hj e1)).trans h0.1,h0.2⟩
theorem yw {P:Program} {src dst e:TypeId} (hs:P.underlying src=some (.slice e)) (he:P.underlying e=some (.int .u8)) (hd:P.underlying dst=some .string)
  (h:z1g w g l) (n cap:Nat) (hn:l.length=n):(convert src dst (.slice (some ⟨g,0,none⟩) n cap)).run P w= .ok (.string ⟨l.toArray⟩) w:=by
 subst hn
 refine run_convert_bytes_back w src dst e ⟨g,0,none⟩ cap l hs he hd (fun j hj=>?_)
 rw[Addr.add_lit,Nat.zero_add]
 exact(h j l[j] (List.getElem?_eq_getElem hj)).1
end
theorem zf (s:ByteArray):s.data.toList.length=s.size:=by cases s;simp[ByteArray.size]
theorem z1w (l:List UInt8):(ByteArray.mk l.toArray).size=l.length:=by simp[ByteArray.size]
theorem z71 (l:List UInt8):(ByteArray.mk l.toArray).data.toList=l:=by simp
theorem z3v (s:ByteArray):ByteArray.mk s.data.toList.toArray=s:=by cases s;simp
def zx (l:List UInt8):List Value:=l.map fun b=>Value.int .u8 (b.toNat:Int)
theorem ye (l:List UInt8):(zx l).length=l.length:=by simp[zx]
theorem z1t (l:List UInt8):∀u∈zx l,u.oneCell'=true:=by
 intro u hu
 obtain⟨_,_,rfl⟩:=List.mem_map.1 hu
 rfl
theorem zdh (s:ByteArray):Lib.strCells s=zx s.data.toList:=rfl
theorem z1g.of_own {w:World} {base:Nat} {e:TypeId} {g n c:Nat} {l:List UInt8} (h:w.ownsRow base e 1 (.slice (some ⟨g,0,none⟩) n c) n (zx l)):z1g w g l:=by
 intro j b hb
 refine⟨?_,h.frozenAt j⟩
 have hj:j<l.length:=(List.getElem?_eq_some_iff.1 hb).1
 have hl:=h.1
 rw[ye]at hl
 rw[h.cellAt j (by omega)]
 simp[zx,hb]
theorem z1S {P:Program} {w:World} (size m:Nat) (s:ByteArray):(Builtin.firstCells size m (.string s)).run P w= .ok (zx (s.data.toList.take m)).toArray w:=by
 simp only[Builtin.firstCells,Sem.run_pure,zx]
 congr 1
 apply Array.ext'
 simp
theorem z6U {P:Program} {w:World} {ops:Array Oper} {rest:List Oper} {o:Oper} {a:Act} {Q:Exit->Act->World->Prop} (hgd:o.guard=none) (d s:Operand) (dT sT:TypeId)
  (ho:o.op= .call {callee:=.builtin .copy,args:=#[d,s],argTypes:=#[dT,sT]}) (elem:TypeId) (hu:P.underlying dT=some (.slice elem)) (hsz:(P.info? elem).map (·.size)=some 1)
  (g n c:Nat) (hd:a.eval d= .slice (some ⟨g,0,none⟩) n c) (str:ByteArray) (hs:a.eval s= .string str) (base:Nat) (l:List UInt8)
  (hown:w.ownsRow base elem 1 (.slice (some ⟨g,0,none⟩) n c) n (zx l))
  (h:∀w',w'.ownsRow base elem 1 (.slice (some ⟨g,0,none⟩) n c) n (zx (str.data.toList.take n++l.drop str.size))->w.grownBy w' (some g)->wpList P ops Q rest (a.put o.dst (goInt (Nat.min str.size n))) w'):
  wpList P ops Q (o::rest) a w:=by
 refine wpList_plain hgd fun K hK=>?_
 have hl:=hown.1
 rw[ye,Nat.mul_one]at hl
 rcases hown.2 with⟨h',_⟩|⟨g',cap',cur,h',hb,hg,hnc,hcm,hcs,htake⟩
 ·simp at h'
 simp only[Value.slice.injEq,Option.some.injEq,Addr.mk.injEq,and_true,true_and]at h'
 obtain⟨rfl,rfl⟩:=h'
 obtain⟨i,hi,hi1⟩:=Option.map_eq_some_iff.1 hsz
 have hm:(zx (str.data.toList.take (Nat.min str.size n))).length=Nat.min str.size n:=by
  rw[ye,List.length_take,zf]
  have:Nat.min str.size n<=str.size:=Nat.min_le_left _ _
  omega
 have hmn:Nat.min str.size n<=n:=Nat.min_le_right _ _
 have hst:=run_storeCells_at P g 0 elem (zx (str.data.toList.take (Nat.min str.size n))) 0 cur w hg (by omega) (z1t _)
 have hrun:(Builtin.copy_ #[dT,sT] o.type #[.slice (some ⟨g,0,none⟩) n c,.string str]).run P w= .ok (goInt (Nat.min str.size n))
   (w.setRow g (cur.toList.take (0+0)++zx (str.data.toList.take (Nat.min str.size n))++cur.toList.drop (0+0+(zx (str.data.toList.take (Nat.min str.size n))).length)).toArray):=by
  simp only[Builtin.copy_]
  simp[run_underlying hu,Builtin.lenOf,z1S,sizeOf,typeInfo,hi]
  simp at hst
  simp[hst]
 unfold Oper.wp
 simp[execOp,ho,resolve,invoke,builtin,hd,hs,hrun,Result.andThen]
 have e1:str.data.toList.take n=str.data.toList.take (Nat.min str.size n):=by
  rcases Nat.le_total str.size n with h1|h1
  ·rw[List.take_of_length_le (by rw[zf];exact h1),List.take_of_length_le (by rw[zf,show Nat.min str.size n=str.size from Nat.min_eq_left h1];exact Nat.le_refl _)]
  ·rw[show Nat.min str.size n=n from Nat.min_eq_right h1]
 have e2:l.drop str.size=l.drop (Nat.min str.size n):=by
  rcases Nat.le_total str.size n with h1|h1
  ·rw[show Nat.min str.size n=str.size from Nat.min_eq_left h1]
  ·rw[List.drop_of_length_le (by omega),List.drop_of_length_le (by rw[show Nat.min str.size n=n from Nat.min_eq_right h1];omega)]
 generalize Nat.min str.size n=m at*
 have e3:(str.data.toList.take m).length=m:=by rw[<-ye];exact hm
 refine hK _ _ (h _ ⟨?_,.inr ⟨g,c,_,rfl,hb,setRow_heap w g cur _ elem _ hg,hnc,hcm, ?_, ?_⟩⟩ ⟨rfl,rfl,rfl,by simp,fun k _ hk=>setRow_other w g k _ (fun e=>hk (by simp[e]))⟩)
 ·rw[ye,e1,e2,List.length_append,e3,List.length_drop];omega
 ·simp only[List.size_toArray,List.length_append,List.length_drop,Array.length_toList];omega
 ·rw[hm,Nat.mul_one,List.toList_toArray,List.take_append,hm,List.take_of_length_le (by omega),e1,e2]
  rw[Nat.mul_one]at htake
  rw[show(List.take (n-m) (List.drop m cur.toList))=List.drop m (List.take n cur.toList) by rw[List.drop_take],htake]
  simp[zx]
theorem zmO (n:Nat):(madeCells (Value.int .u8 0).cells (n*1)).toList=zx (List.replicate n 0):=by
 rw[Nat.mul_one]
 show(madeCells #[Value.int .u8 0] n).toList=_
 rw[toList_madeCells_one]
 simp[zx]
section
variable {w w1 w2:World} {base:Nat} {e:TypeId} {size n:Nat} {v:Value} {xs:List Value}
theorem zbI (h:w.ownsRow base e size v n xs) (g1:w.grownBy w1 none) (g2:w1.grownBy w2 (some w.heap.size)):w2.ownsRow base e size v n xs:=by
 have h1:=h.kept g1 (by cases hv:v.ownBlock<;>simp)
 refine h1.kept g2 (.inr fun e=>?_)
 have:=(h.lt _ e).2
 omega
theorem z0j {B:Nat} (h:w.ownsRow base e size v n xs) (hb:Below B w w1) (hB:w.heap.size<=B):w1.ownsRow base e size v n xs:=by
 refine⟨h.1, ?_⟩
 rcases h.2 with h2|⟨g,cap,cur,hv,hg,hh,r⟩
 ·exact .inl h2
 ·have:=(Array.getElem?_eq_some_iff.1 hh).1
  exact .inr ⟨g,cap,cur,hv,hg,(hb.block g (by omega)).trans hh,r⟩
theorem z3a (h:w.grownBy w1 none):Below w.heap.size w w1:=⟨h.os,h.tape,h.output,h.size,fun k hk=>h.block k hk (by simp)⟩
theorem z80 {B:Nat} {row:Nat} (h:w.grownBy w1 (some row)) (hB:B<=row) (hw:B<=w.heap.size):Below B w w1:=
 ⟨h.os,h.tape,h.output,h.size,fun k hk=>h.block k (by omega) (by simp;omega)⟩
theorem z0I (h:w.ownsRow base e size v n xs):∃A c,v= .slice A n c/\n<=c/\c<=maxLen:=by
 rcases h.2 with⟨rfl,rfl⟩|⟨g,cap,cur,hv,_,_,hnc,hcm,_⟩
 ·exact⟨_,_,rfl,Nat.le_refl _,Nat.zero_le _⟩
 ·exact⟨_,_,hv,hnc,hcm⟩
theorem z4X (h:w.ownsRow base e size v n xs) (h0:0<n):∃g c,v= .slice (some ⟨g,0,none⟩) n c/\base<=g/\g<w.heap.size/\n<=c/\c<=maxLen:=by
 rcases h.2 with⟨_,h1⟩|⟨g,cap,cur,hv,hb,hg,hnc,hcm,_⟩
 ·omega
 ·exact⟨g,cap,hv,hb,(Array.getElem?_eq_some_iff.1 hg).1,hnc,hcm⟩
theorem zay (w:World) (u:Value) (t:TypeId):∀(j:Nat) (x:Value),[u][j]?=some x->(w.alloc (.cells #[u] t)).cell? ((⟨w.heap.size,0,none⟩:Addr).add j)=some x:=by
 intro j x hx
 have:=(Rd.new w #[u] t (0,0))
 rcases this with h|⟨b,off,hA,_,hc⟩
 ·simp at h
 ·injection hA with hA
  injection hA with h1 h2 h3
  subst h1 h2
  have h:=hc j x (by simpa using hx)
  rw[Addr.add_lit]
  exact h
theorem zbP (s:ByteArray):∀u∈[Value.string s],u.oneCell'=true:=by
 intro u hu
 rw[List.mem_singleton.1 hu]
 rfl
end
section
variable {P:Program}
theorem run_append_nothing (w:World) (base:Nat) (t ty e:TypeId) (i:TypeInfo) (size:Nat) (ht:P.underlying t=some (.slice e)) (hi:P.info? e=some i)
  (v:Value) (n:Nat) (xs:List Value) (hown:w.ownsRow base e size v n xs) (c:Nat):(Builtin.append_ #[t,t] ty #[v,.slice none 0 c]).run P w= .ok v w:=by
 rcases hown.2 with⟨rfl,rfl⟩|⟨g,cap,cur,rfl,_,_,hnc,_⟩<;>simp[*,Builtin.append_,run_underlying ht,sizeOf,typeInfo,Builtin.lenOf,Builtin.firstCells,storeCells]
theorem zaa (w:World) (t ty:TypeId) (base:Nat) (e:TypeId) (i:TypeInfo) (z:Value) (size bytes:Nat) (ht:P.underlying t=some (.slice e)) (hi:P.info? e=some i) (hz:i.zero=some z)
  (hsize:i.size=size) (hby:i.bytes=bytes) (hzs:z.cells.size=size) (hsz:0<size)
  (v:Value) (n:Nat) (xs:List Value) (hown:w.ownsRow base e size v n xs)
  (B:Nat) (A:Option Addr) (m c:Nat) (news:List Value) (hr:Rd w B A news) (hl:news.length=m*size) (h1:∀u∈news,u.oneCell'=true)
  (h63:n+m<=maxLen) (hbytes:(n+m)*bytes<=140737488355328) (hbase:base<=w.heap.size):
  ∃v' w',(Builtin.append_ #[t,t] ty #[v,.slice A m c]).run P w= .ok v' w'/\w'.ownsRow base e size v' (n+m) (xs++news)/\w.grownBy w' v.ownBlock:=by
 rcases A with _|ad
 ·have hn:news=[]:=by
   rcases hr with h|⟨_,_,h,_⟩
   ·exact h
   ·cases h
  subst hn
  have hm:m=0:=by
   rcases Nat.eq_zero_or_pos m with h0|h0
   ·exact h0
   ·have:=Nat.mul_pos h0 hsz
    simp at hl
    omega
  subst hm
  exact⟨v,w,run_append_nothing (P:=P) w base t ty e i size ht hi v n xs hown c,by simpa using hown,World.grownBy.refl w _⟩
 ·obtain⟨v',w',h2,h3,h4,_⟩:=run_append_own (P:=P) w base t ty e i z size bytes ht hi hz hsize hby hzs hsz v n xs hown ad m c news hl (by
   intro j u hu
   obtain⟨b,off,hA,_,hc⟩:=hr.at_ hu
   injection hA with hA
   subst hA
   rw[Addr.add_lit]
   exact hc) h1 h63 hbytes hbase
  exact⟨v',w',h2,h3,h4⟩
theorem z65 {w:World} {o:Oper} {a:Act} {K:Act->World->Prop} {Q:Exit->Act->World->Prop} (s x:Operand) (t:TypeId)
  (ho:o.op= .call {callee:=.builtin .append,args:=#[s,x],argTypes:=#[t,t]})
  (base:Nat) (e:TypeId) (i:TypeInfo) (z:Value) (size bytes:Nat) (ht:P.underlying t=some (.slice e)) (hi:P.info? e=some i) (hz:i.zero=some z)
  (hsize:i.size=size) (hby:i.bytes=bytes) (hzs:z.cells.size=size) (hsz:0<size)
  (v:Value) (n:Nat) (xs:List Value) (hs:a.eval s=v) (hown:w.ownsRow base e size v n xs)
  (B:Nat) (A:Option Addr) (m c:Nat) (news:List Value) (hx:a.eval x= .slice A m c) (hr:Rd w B A news) (hl:news.length=m*size) (h1:∀u∈news,u.oneCell'=true)
  (h63:n+m<=maxLen) (hbytes:(n+m)*bytes<=140737488355328) (hbase:base<=w.heap.size)
  (h:∀v' w',w'.ownsRow base e size v' (n+m) (xs++news)->w.grownBy w' v.ownBlock->K (a.put o.dst v') w'):o.wp P a w K Q:=by
 obtain⟨v',w',hrun,h2,h3⟩:=zaa (P:=P) w t o.type base e i z size bytes ht hi hz hsize hby hzs hsz v n xs hown B A m c news hr hl h1 h63 hbytes hbase
 unfold Oper.wp execOp
 simp only[ho,resolve,invoke,builtin,Sem.run_bind,Sem.run_pure,Result.andThen_ok,List.map_toArray,List.map_cons,List.map_nil,hs,hx,hrun]
 exact h v' w' h2 h3
theorem z0n {w:World} {ops:Array Oper} {rest:List Oper} {o:Oper} {a:Act} {Q:Exit->Act->World->Prop} (hgd:o.guard=none) (s x:Operand) (t:TypeId)
  (ho:o.op= .call {callee:=.builtin .append,args:=#[s,x],argTypes:=#[t,t]})
  (base:Nat) (e:TypeId) (i:TypeInfo) (z:Value) (size bytes:Nat) (ht:P.underlying t=some (.slice e)) (hi:P.info? e=some i) (hz:i.zero=some z)
  (hsize:i.size=size) (hby:i.bytes=bytes) (hzs:z.cells.size=size) (hsz:0<size)
  (v:Value) (n:Nat) (xs:List Value) (hs:a.eval s=v) (hown:w.ownsRow base e size v n xs)
  (B:Nat) (A:Option Addr) (m c:Nat) (news:List Value) (hx:a.eval x= .slice A m c) (hr:Rd w B A news) (hl:news.length=m*size) (h1:∀u∈news,u.oneCell'=true)
  (h63:n+m<=maxLen) (hbytes:(n+m)*bytes<=140737488355328) (hbase:base<=w.heap.size)
  (h:∀v' w',w'.ownsRow base e size v' (n+m) (xs++news)->w.grownBy w' v.ownBlock->wpList P ops Q rest (a.put o.dst v') w'):wpList P ops Q (o::rest) a w:=
 wpList_plain hgd fun _ hK=>z65 s x t ho base e i z size bytes ht hi hz hsize hby hzs hsz v n xs hs hown B A m c news hx hr hl h1 h63 hbytes hbase fun v' w' h2 h3=>hK _ _ (h v' w' h2 h3)
theorem z4e {w:World} {ops:Array Oper} {o:Oper} {a:Act} {K:Act->World->Prop} {Q:Exit->Act->World->Prop} {E:Prop} (hgd:o.guard=none) (s x:Operand) (t:TypeId)
  (ho:o.op= .call {callee:=.builtin .append,args:=#[s,x],argTypes:=#[t,t]})
  (base:Nat) (e:TypeId) (i:TypeInfo) (z:Value) (size bytes:Nat) (ht:P.underlying t=some (.slice e)) (hi:P.info? e=some i) (hz:i.zero=some z)
  (hsize:i.size=size) (hby:i.bytes=bytes) (hzs:z.cells.size=size) (hsz:0<size)
  (v:Value) (n:Nat) (xs:List Value) (hs:a.eval s=v) (hown:w.ownsRow base e size v n xs)
  (B:Nat) (A:Option Addr) (m c:Nat) (news:List Value) (hx:a.eval x= .slice A m c) (hr:Rd w B A news) (hl:news.length=m*size) (h1:∀u∈news,u.oneCell'=true)
  (h63:n+m<=maxLen) (hbytes:(n+m)*bytes<=140737488355328) (hbase:base<=w.heap.size)
  (h:∀v' w',w'.ownsRow base e size v' (n+m) (xs++news)->w.grownBy w' v.ownBlock->K (a.put o.dst v') w'):
  if Region.wanted o (yielded ops a.tmps)=true then Oper.wp P o a w K Q else E:=by
 have hw:Region.wanted o (yielded ops a.tmps)=true:=by simp[Region.wanted,hgd]
 rw[if_pos hw]
 exact z65 s x t ho base e i z size bytes ht hi hz hsize hby hzs hsz v n xs hs hown B A m c news hx hr hl h1 h63 hbytes hbase h
end
theorem z2Y {B:Nat} {a w:World} (h:Below B a w) (n:Nat):Below B a (w.drewN n):=⟨h.os,h.tape,h.output,h.size,h.block⟩
theorem zw {w a b:World} (h:Below w.heap.size w a) (k:Below a.heap.size a b):Below w.heap.size w b:=h.trans (k.mono h.size)
theorem za {w a:World} (h:Below w.heap.size w a) (o:Obj):Below w.heap.size w (a.alloc o):=h.alloc h.size o
section
variable {w:World} {B g off:Nat} {xs:List Value}
theorem Rd.cell_ (h:Rd w B (some ⟨g,off,none⟩) xs) {k:Nat} {u:Value} (hu:xs[k]?=some u):w.cell? ⟨g,off+k,none⟩=some u:=by
 obtain⟨b,o,hA,_,hc⟩:=h.at_ hu
 injection hA with hA
 injection hA with h1 h2 _
 subst h1 h2
 exact hc
end
def Dis (v u:Value):Prop:=∀k,v.ownBlock=some k->u.ownBlock≠some k
theorem Dis.symm {v u:Value} (h:Dis v u):Dis u v:=fun k hk hv=>h k hv hk
theorem Dis.nil (u:Value):Dis (.slice none 0 0) u:=by intro k hk;cases hk
section
variable {w w':World} {base base':Nat} {e e':TypeId} {size size' n k:Nat} {v v' u:Value} {xs ys:List Value}
theorem Dis.kept (h:Dis v u) (hu:w.ownsRow base e size u k ys) (hg:w.grownBy w' v.ownBlock):w'.ownsRow base e size u k ys:=by
 refine hu.kept hg ?_
 cases hb:u.ownBlock with
 |none=>exact .inl rfl
 |some b=>exact .inr fun hv=>h b hv.symm hb
end
end
theorem znu {W w1:World} (hb:Below W.heap.size W w1):(∀b o,b<W.heap.size->w1.cell? ⟨b,o,none⟩=W.cell? ⟨b,o,none⟩)/\(∀b o,b<W.heap.size->w1.frozen? ⟨b,o,none⟩=W.frozen? ⟨b,o,none⟩):=
 ⟨fun b o h=>hb.cell (p:=⟨b,o,none⟩) h,fun b o h=>hb.frozen (p:=⟨b,o,none⟩) h⟩
theorem z1g.alloc {w:World} {g:Nat} {l:List UInt8} (h:z1g w g l) (hg:g<w.heap.size) (o:Obj):z1g (w.alloc o) g l:=fun j b hb=>
 ⟨(World.cell?_alloc_lt w o _ hg).trans (h j b hb).1,(World.frozen?_of_block (w:=w) (a:=⟨g,j,none⟩) (Below.heap_alloc w o g hg)).trans (h j b hb).2⟩
theorem z1g.below {w w':World} {g B:Nat} {l:List UInt8} (h:z1g w g l) (hb:Below B w w') (hg:g<B):z1g w' g l:=fun j b hj=>
 ⟨(hb.cell (p:=⟨g,j,none⟩) hg).trans (h j b hj).1,(hb.frozen (p:=⟨g,j,none⟩) hg).trans (h j b hj).2⟩
section
def grw (w:World) (xs:List Obj) (d:Nat):World:={w with heap:=w.heap++xs.toArray,drawn:=d}
section
variable {w w':World} {xs ys:List Obj} {d e B n i:Nat} {v:Value} {o:Obj}
theorem zk (h:Below w.heap.size w w'):∃xs d,w'=grw w xs d:=by
 refine⟨(w'.heap.extract w.heap.size w'.heap.size).toList,w'.drawn, ?_⟩
 obtain⟨h1,h2,h3,h4,h5⟩:=h
 cases w'
 cases w
 simp only[grw]at*
 subst h1 h2 h3
 congr 1
 apply Array.ext_getElem?
 intro k
 rw[Array.getElem?_append]
 split
 ·rename_i hk
  exact h5 k hk
 ·rename_i hk
  rw[Array.toArray_toList,Array.getElem?_extract]
  split
  ·congr 1
   omega
  ·rename_i hk2
   rw[Array.getElem?_eq_none]
   omega
theorem z2E:(grw w xs d).heap.size=w.heap.size+xs.length:=by simp[grw]
theorem zaE (h:n<w.heap.size):(grw w xs d).heap[n]?=w.heap[n]?:=by simp[grw,Array.getElem?_append,h]
theorem z2u (h:n<w.heap.size):(grw w xs d).cell? ⟨n,i,none⟩=w.cell? ⟨n,i,none⟩:=World.cell?_of_block (a:=⟨n,i,none⟩) (zaE h)
theorem z0W (h:n<w.heap.size):(grw w xs d).frozen? ⟨n,i,none⟩=w.frozen? ⟨n,i,none⟩:=World.frozen?_of_block (a:=⟨n,i,none⟩) (zaE h)
theorem z0S (h:n<w.heap.size):(grw w xs d).setCell ⟨n,i,none⟩ v=grw (w.setCell ⟨n,i,none⟩ v) xs d:=by
 unfold World.setCell grw
 congr 1
 apply Array.ext_getElem?
 intro k
 simp only[Array.getElem?_modify,Array.getElem?_append,Array.size_modify]
 by_cases hk:n=k
 ·subst hk
  simp[h]
 ·simp[hk]
theorem z44:grw w.drew xs d=grw w xs d:=rfl
theorem z48:(grw w xs d).drew=grw w xs (d+1):=rfl
theorem z5M:grw (grw w xs d) ys e=grw w (xs++ys) e:=by simp[grw]
theorem zjt (h:Below B w w') (hB:B<=w'.heap.size):Below B w (grw w' xs d):=⟨h.os,h.tape,h.output,Nat.le_trans h.size (by rw[z2E];omega),fun k hk=>(zaE (by omega)).trans (h.block k hk)⟩
theorem j5 (h:Below w.heap.size w w'):Below w.heap.size w (grw w' xs d):=zjt h h.size
end
section
variable {a b:Nat} {xs:List Obj}
theorem z5I (h:a<b):a<b+xs.length:=by omega
theorem z43 (h:a<b):a<b+xs.length+1:=by omega
theorem z42 (h:a<b):a<b+xs.length+1+1:=by omega
theorem z41:a<a+1+xs.length:=by omega
theorem z3C:a<a+1+xs.length+1:=by omega
theorem z40:a<a+1+1+xs.length:=by omega
theorem z3B:a<a+1+1+xs.length+1:=by omega
theorem z2o:a<a+1+1:=by omega
theorem z3Z:a<a+1+1+1+xs.length:=by omega
theorem z3A:a<a+1+1+1+xs.length+1:=by omega
theorem z2n:a<a+1+1+1:=by omega
theorem z5a:a<a+1+1+1+1+xs.length:=by omega
theorem z3z:a<a+1+1+1+1+xs.length+1:=by omega
theorem z3F:a<a+1+1+1+1:=by omega
theorem z59:a<a+1+1+1+1+1+xs.length:=by omega
theorem z3y:a<a+1+1+1+1+1+xs.length+1:=by omega
theorem z3E:a<a+1+1+1+1+1:=by omega
theorem z58:a<a+1+1+1+1+1+1+xs.length:=by omega
theorem z3x:a<a+1+1+1+1+1+1+xs.length+1:=by omega
theorem z3D:a<a+1+1+1+1+1+1:=by omega
theorem z7P (h:a<b):(a=b+xs.length)=False:=by simp;omega
theorem z56 (h:a<b):(b+xs.length=a)=False:=by simp;omega
theorem z55 (h:a<b):(a=b+xs.length+1)=False:=by simp;omega
theorem z3u (h:a<b):(b+xs.length+1=a)=False:=by simp;omega
end
end
section
theorem zmP {a b c:Nat} (h:a<b):a<b+c:=by omega
theorem zmM {a b c:Nat} (h:a<b):(a=b+c)=False:=by simp;omega
theorem zlZ {a b c:Nat} (h:a<b):(b+c=a)=False:=by simp;omega
section
variable {w:World} {b o n:Nat} {l:List Value} {c:Array Value} {t:TypeId}
theorem zi2 (w:World) (l:List Value) (t:TypeId):(w.alloc (.cells l.toArray t)).rangeAt w.heap.size 0 l:=fun j v hv=>by
 rw[Nat.zero_add,World.cell?_alloc_mark]
 simpa using hv
def zlo (c:Array Value):Nat->List Value->Array Value
 |_,[]=>c
 |o,v::vs=>zlo (c.setIfInBounds o v) (o+1) vs
theorem zbx:∀(vs:List Value) (o:Nat) (c:Array Value),(zlo c o vs).size=c.size
 |[],_,_=>rfl
 |v::vs,o,c=>by rw[zlo,zbx vs];simp
theorem zib:∀(vs:List Value) (o:Nat) (c:Array Value) (k:Nat),k<c.size->(zlo c o vs)[k]?=if o<=k/\k<o+vs.length then vs[k-o]? else c[k]?
 |[],o,c,k,_=>by
  rw[if_neg (by rw[List.length_nil];omega)]
  rfl
 |v::vs,o,c,k,h=>by
  rw[zlo,zib vs _ _ _ (by simpa using h)]
  by_cases h1:k=o
  ·subst h1
   rw[if_neg (by omega),if_pos (by simp),Nat.sub_self,Array.getElem?_setIfInBounds_self_of_lt h]
   rfl
  ·by_cases h2:o+1<=k/\k<o+1+vs.length
   ·rw[if_pos h2,if_pos (by rw[List.length_cons];omega),show k-o=(k-(o+1))+1 by omega,List.getElem?_cons_succ]
   ·rw[if_neg h2,if_neg (by rw[List.length_cons];omega),Array.getElem?_setIfInBounds_ne (Ne.symm h1)]
theorem zia {vs:List Value} {c:Array Value} (h:vs.length=c.size):zlo c 0 vs=vs.toArray:=by
 apply Array.ext_getElem?
 intro k
 by_cases hk:k<c.size
 ·rw[zib _ _ _ _ hk,if_pos (by omega)]
  simp
 ·rw[Array.getElem?_eq_none (by rw[zbx];omega),Array.getElem?_eq_none (by simp;omega)]
end
end
end Go.Proofs.YtmfincpagnpkjaaGreat
