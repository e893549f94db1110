/- Part of the proof. -/
import Derived.Test.YtmfincpagnpkjaaGreatM12
import Derived.Test.YtmfincpagnpkjaaGreatM13
set_option linter.all false
set_option maxRecDepth 100000
set_option maxHeartbeats 100000000
namespace Go.Proofs.YtmfincpagnpkjaaGreat
section
open Go.RowKit Go.Shelf
attribute [local go_sem] Oper.semAt_some
def zkN (s:List UInt8) (k:Nat):Int:=((s.getD (3+3*k) 0).toNat:Int)+256*(s.getD (3+3*k+1) 0).toNat+65536*(s.getD (3+3*k+2) 0).toNat
def zlj (b m:UInt8):Bool:=(b&&& m) !=0
def zeJ (s:ByteArray):Rec:=
 let l:=s.data.toList
 let u:=zlj (l.getD 2 0) 1
 let o:=zlj (l.getD 2 0) 2
 ⟨u,zkN l 0,zkN l 1,zkN l 2,if u then s.extract 19 35 else noB,o,zkN l 3,zkN l 4,((l.getD 18 0).toNat:Int),if o then s.extract 35 51 else noB⟩
def z1f:ByteArray:=⟨(List.replicate 64 0).toArray⟩
def jc (stripe:Int) (s:ByteArray):Rec×Int:=
 if ¬(0<=stripe/\stripe<8/\s.size=64)then(Rec.nil,80)
 else if s=z1f then(Rec.nil,0)
 else if z1B stripe (zeJ s)/\z2N stripe (zeJ s)=s then(zeJ s,0)
 else(Rec.nil,80)
def zdG (stripe:Int) (r:Rec):ByteArray:=if z1B stripe r then z2N stripe r else noB
def z4v (stripe:Int) (r:Rec):Int:=if z1B stripe r then 0 else 80
theorem zeK (stripe:Int) (r:Rec):z8H stripe r= .tuple #[.string (zdG stripe r),.int .i64 (z4v stripe r)]:=by
 unfold z8H zdG z4v
 split<;>rfl
def z0R (stripe:Int) (s:ByteArray):Value:=.tuple #[(jc stripe s).1.v,.int .i64 (jc stripe s).2]
def AtF (W:World) (b:Nat) (l:List Value):Prop:=∀j u,l[j]?=some u->W.cell? ⟨b,j,none⟩=some u/\W.frozen? ⟨b,j,none⟩=false
theorem AtF.box (w:World) (l:List Value) (t:TypeId):AtF (w.alloc (.cells l.toArray t)) w.heap.size l:=fun j u hu=>by
 refine⟨(World.cell?_alloc_mark w l.toArray t (0,0) j).trans (by simpa using hu), ?_⟩
 rw[World.frozen?_alloc_mark]
 simp
theorem AtF.drew {W:World} {b:Nat} {l:List Value} (h:AtF W b l):AtF W.drew b l:=h
theorem AtF.kept {A B:World} {row:Option Nat} {b:Nat} {l:List Value} (h:AtF A b l) (hg:A.grownBy B row) (hr:∀r,row=some r->∃o,A.heap[r]?=some o/\o.isCells=false):AtF B b l:=fun j u hu=>⟨cell_kept (h j u hu).1 hg hr,(frozen_kept (h j u hu).1 hg hr).trans (h j u hu).2⟩
theorem AtF.set {W:World} {b:Nat} {l:List Value} (h:AtF W b l) (k:Nat) (v:Value):AtF (W.setCell ⟨b,k,none⟩ v) b (l.set k v):=fun j u hu=>by
 rw[World.frozen?_setCell]
 rw[List.getElem?_set]at hu
 by_cases e:k=j
 ·subst e
  rw[if_pos rfl]at hu
  split at hu
  ·rename_i hl
   cases hu
   have h0:=h k l[k] (List.getElem?_eq_getElem hl)
   exact⟨World.cell?_setCell_same W _ _ h0.1,h0.2⟩
  ·cases hu
 ·rw[if_neg e]at hu
  exact⟨(World.cell?_setCell_other W _ _ _ (by intro h;injection h with _ h3;exact e h3)).trans (h j u hu).1,(h j u hu).2⟩
theorem AtF.below {W W':World} {b B:Nat} {l:List Value} (h:AtF W b l) (hb:Below B W W') (hlt:b<B):AtF W' b l:=fun j u hu=>
 ⟨(hb.cell (p:=⟨b,j,none⟩) hlt).trans (h j u hu).1,(hb.frozen (p:=⟨b,j,none⟩) hlt).trans (h j u hu).2⟩
theorem AtF.box0 {w:World} {g:Nat} (l:List Value) (t:TypeId) (hg:g=w.heap.size):AtF (w.alloc (.cells l.toArray t)).drew g l:=by
 subst hg
 exact(AtF.box w l t).drew
theorem AtF.far {W:World} {b:Nat} {l:List Value} (h:AtF W b l) (p:Addr) (v:Value) (hne:p.block≠b):AtF (W.setCell p v) b l:=fun j u hu=>
 ⟨(World.cell?_setCell_far W p ⟨b,j,none⟩ v hne).trans (h j u hu).1,by rw[World.frozen?_setCell];exact(h j u hu).2⟩
theorem AtF.alloc {W:World} {b:Nat} {l:List Value} (h:AtF W b l) (hb:b<W.heap.size) (o:Obj):AtF (W.alloc o) b l:=fun j u hu=>
 ⟨(World.cell?_alloc_lt W o _ hb).trans (h j u hu).1,(World.frozen?_of_block (w:=W) (a:=⟨b,j,none⟩) (Below.heap_alloc W o b hb)).trans (h j u hu).2⟩
theorem AtF.at_ {W:World} {b:Nat} {l:List Value} (h:AtF W b l):At W b l:=fun j u hu=>(h j u hu).1
def R0 (s:ByteArray) (u o:Bool):List Value:=[.bool u,.int .i64 0,.int .i64 0,.int .i64 0,.string ⟨#[]⟩,.bool o,.int .i64 0,.int .i64 0,.int .i64 ((s.data.toList.getD 18 0).toNat:Int),.string ⟨#[]⟩]
def z5P (t:List UInt8):List Value->Nat->List Off->List Value
 |l,_,[]=>l
 |l,k,x::xs=>z5P t (l.set x.1 (.int .i64 (zkN t k))) (k+1) xs
theorem z9w (t:List UInt8) (x:Off):∀(xs:List Off) (l:List Value) (k:Nat),z5P t l k (xs++[x])=(z5P t l k xs).set x.1 (.int .i64 (zkN t (k+xs.length)))
 |[],l,k=>rfl
 |y::xs,l,k=>by
  rw[List.cons_append,z5P,z9w t x xs,List.length_cons,z5P]
  congr 3
  omega
theorem z6q (t:List UInt8):∀(xs:List Off) (l:List Value) (k:Nat),(z5P t l k xs).length=l.length
 |[],_,_=>rfl
 |x::xs,l,k=>by rw[z5P,z6q t xs,List.length_set]
theorem koD {A B:World} {D:Nat} {o:Obj} (h:KeepsOthers A B) (hc:o.isCells=false) (hk:A.heap[D]?=some o):B.heap[D]?=some o:=h.same D _ hk hc
theorem yj (tm:Array Value) (b:Nat) (r:Rec) (W:World) (v5:Value) (h4:tm[4]?.getD undef= .pointer (some ⟨b,0,none⟩)) (h5:tm[5]?.getD undef=v5) (h:At W b r.cells):(results Tryz.f40 tm).run Tryz.prog W= .ok (.tuple #[r.v,v5]) W:=by
 have r0:=h 0 _ rfl
 have r1:=h 1 _ rfl
 have r2:=h 2 _ rfl
 have r3:=h 3 _ rfl
 have r4:=h 4 _ rfl
 have r5:=h 5 _ rfl
 have r6:=h 6 _ rfl
 have r7:=h 7 _ rfl
 have r8:=h 8 _ rfl
 have r9:=h 9 _ rfl
 simp[results,Tryz.results40,go_sem,h4,h5,r0,r1,r2,r3,r4,r5,r6,r7,r8,r9]
 rfl
theorem zkK (a b c:UInt8):bits .or .i64 (bits .or .i64 (wrap64 (a.toNat:Int)) (wrap64 (wrap64 (b.toNat:Int)*256))) (wrap64 (wrap64 (c.toNat:Int)*65536))=(a.toNat:Int)+256*b.toNat+65536*c.toNat:=by
 have ha:=a.toNat_lt
 have hb:=b.toNat_lt
 have hc:=c.toNat_lt
 rw[zlp a b]
 have e1:wrap64 (wrap64 (c.toNat:Int)*65536)=((c.toNat*65536:Nat):Int):=by
  rw[IntWalk.wrap64_in (c.toNat:Int) (by omega),IntWalk.wrap64_in _ (by omega)]
  omega
 rw[e1,z5J _ _ (by omega) (by omega)]
 have e2:(a.toNat+256*b.toNat)|||(c.toNat<<<(8*2))=(a.toNat+256*b.toNat)+256^2*c.toNat:=zdI (by omega)
 have e3:c.toNat<<<(8*2)=c.toNat*65536:=by rw[Nat.shiftLeft_eq]
 rw[e3]at e2
 rw[e2]
 omega
theorem znj (x y:UInt8):bits .and .u8 (x.toNat:Int) (y.toNat:Int)=((x&&& y).toNat:Int):=by
 rw[u8_and_nat _ _ x.toNat_lt y.toNat_lt,UInt8.toNat_and]
theorem zf5 {x y:UInt8} (h:x=y) (m:UInt8):zlj x m=(bits .and .u8 (y.toNat:Int) (m.toNat:Int) !=0):=by
 subst h
 rw[znj]
 unfold zlj
 rw[Bool.eq_iff_iff]
 simp[<-UInt8.toNat_inj]
theorem z2q {s:ByteArray} {k:Nat} (h:k<s.size):s.data.toList.getD k 0=s[k]:=by
 rw[List.getD,List.getElem?_eq_getElem (by rw[zf];exact h)];rfl
theorem z63 {B k:Nat} {w W:World} {v0 v1 v2 v3 v4 v5 v6 v7 v8 v9:Value} (h:Below B w W) (hk:B<=k):Below B w ((((((((((W.setCell ⟨k,0,none⟩ v0).setCell ⟨k,1,none⟩ v1).setCell ⟨k,2,none⟩ v2).setCell ⟨k,3,none⟩ v3).setCell ⟨k,4,none⟩ v4).setCell ⟨k,5,none⟩ v5).setCell ⟨k,6,none⟩ v6).setCell ⟨k,7,none⟩ v7).setCell ⟨k,8,none⟩ v8).setCell ⟨k,9,none⟩ v9):=((((((((((h.setCell (p:=⟨k,0,none⟩) hk _).setCell (p:=⟨k,1,none⟩) hk _).setCell (p:=⟨k,2,none⟩) hk _).setCell (p:=⟨k,3,none⟩) hk _).setCell (p:=⟨k,4,none⟩) hk _).setCell (p:=⟨k,5,none⟩) hk _).setCell (p:=⟨k,6,none⟩) hk _).setCell (p:=⟨k,7,none⟩) hk _).setCell (p:=⟨k,8,none⟩) hk _).setCell (p:=⟨k,9,none⟩) hk _)
theorem zh4 (W:World) (k:Nat) (v0 v1 v2 v3 v4 v5 v6 v7 v8 v9:Value):KeepsOthers W ((((((((((W.setCell ⟨k,0,none⟩ v0).setCell ⟨k,1,none⟩ v1).setCell ⟨k,2,none⟩ v2).setCell ⟨k,3,none⟩ v3).setCell ⟨k,4,none⟩ v4).setCell ⟨k,5,none⟩ v5).setCell ⟨k,6,none⟩ v6).setCell ⟨k,7,none⟩ v7).setCell ⟨k,8,none⟩ v8).setCell ⟨k,9,none⟩ v9):=z05 (z05 (z05 (z05 (z05 (z05 (z05 (z05 (z05 (z05 (KeepsOthers.refl W) _ _) _ _) _ _) _ _) _ _) _ _) _ _) _ _) _ _) _ _
theorem zh7 {k:Nat} {W:World} {v0 v1 v2 v3 v4 v5 v6 v7 v8 v9:Value} {l:List Value} (h:AtF W k l):AtF ((((((((((W.setCell ⟨k,0,none⟩ v0).setCell ⟨k,1,none⟩ v1).setCell ⟨k,2,none⟩ v2).setCell ⟨k,3,none⟩ v3).setCell ⟨k,4,none⟩ v4).setCell ⟨k,5,none⟩ v5).setCell ⟨k,6,none⟩ v6).setCell ⟨k,7,none⟩ v7).setCell ⟨k,8,none⟩ v8).setCell ⟨k,9,none⟩ v9) k ((((((((((l.set 0 v0).set 1 v1).set 2 v2).set 3 v3).set 4 v4).set 5 v5).set 6 v6).set 7 v7).set 8 v8).set 9 v9):=((((((((((h.set 0 _).set 1 _).set 2 _).set 3 _).set 4 _).set 5 _).set 6 _).set 7 _).set 8 _).set 9 _)
theorem zhp (stripe:Int) (s:ByteArray) (n:Nat) (w:World) (hn:4<=n) (s1:0<=stripe) (s2:stripe<8) (hs:s.size=64) (hz:s≠z1f)
  (hrep:∀w,Calls Tryz.prog 74 #[.string ⟨#[0]⟩,.int .i64 64] w fun e w'=>e= .returned (.string z1f)/\Below w.heap.size w w'):
  CallsIn Fence.wide n Tryz.prog 40 #[.int .i64 stripe,.string s] w
   fun e w'=>e= .returned (z0R stripe s)/\Below w.heap.size w w':=by
 have h1:1<=n:=by omega
 have hF:∀k,Fence.wide.fn k:=fun _=>trivial
 have hro:Fence.wide.round=none:=rfl
 have hs1:((s.size:Int) !=64)=false:=by rw[hs];rfl
 have hz1:(s.toList==z1f.toList)=false:=by rw[beq_eq_false_iff_ne];exact fun h=>hz (z0N h)
 have HS:=Lib.hid hs
 have HREP:=Lib.hid hrep
 clear hs hz hrep
 refine callsIn_of_wp_marks Tryz.func40 rfl (hF _) ?_ hro
 simp only[Tryz.ntmps40,List.size_toArray,List.length_cons,List.length_nil,Nat.reduceAdd,Nat.reduceSub,Array.replicate_succ,Array.replicate_zero,List.push_toArray,List.append_toArray,List.nil_append,List.cons_append]
 gi_wp2
 refine wpIn_wide.2 ?_
 refine wp_region_noPanic ?_
 refine wp_region_held_drew (S:=fun W'=>W'.cell? ⟨w.heap.size,0,none⟩=some (.string s)/\Below w.heap.size w W') (by kernel_rfl) (by exact⟨(World.cell?_alloc_lt (w.alloc (.cells #[.string s] 9)) _ ⟨w.heap.size,0,none⟩ (by simp)).trans (World.cell?_alloc_mark w _ _ _ 0),(za (za (Below.refl _ _) _) _).drew⟩) (fun hHeld=>?_)
 refine zq 0 (v:=?av0) rfl (by kernel_rfl) (by kernel_rfl) (by kernel_rfl) (fun _ _ _ h=>h) (by rfl) ?ay0 (by assumption) ?ar0
 case ay0=>(intro w hSw;have ct:=hSw.1;go_simp);with_reducible rfl
 simp only[xPt]
 refine jf 1 rfl (by kernel_rfl) (by rfl) (fun K hK=>?_)
 go_simp;refine(HREP.out _).mono ?_;rintro e w1 ⟨rfl,hb1⟩;dsimp only
 refine hK.out _ _ ?ahs1 (fun hHeld=>?ars1)
 case ahs1=>exact⟨(hb1.cell (p:=⟨w.heap.size,0,none⟩) (by simp;omega)).trans hHeld.1,zw hHeld.2 hb1⟩
 clear hK K
 try simp only[xPt]
 refine zq 2 (v:=?av2) rfl (by kernel_rfl) (by kernel_rfl) (by kernel_rfl) (fun _ _ _ h=>h) (by rfl) ?ay2 (by assumption) ?ar2
 case ay2=>(intro w hSw;have ct:=hSw.1;go_simp);with_reducible rfl
 simp only[xPt]
 refine wpAnyH_done (by kernel_rfl) ?_ _
 refine NoPanic.normal ?_
 obtain⟨ct,hbel⟩:=hHeld
 have hlt:w.heap.size<w1.heap.size:=Nat.lt_of_lt_of_le (by simp;omega) hb1.size
 have k2:2<s.size:=by rw[HS.out];omega
 have k18:18<s.size:=by rw[HS.out];omega
 have j2:(2:Int)<(s.size:Int):=by omega
 have j18:(18:Int)<(s.size:Int):=by omega
 have w18:wrap64 (s[18].toNat:Int)=(s[18].toNat:Int):=IntWalk.wrap64_in _ (by have:=s[18].toNat_lt;omega)
 have w18':IntKind.i64.wrap (s[18].toNat:Int)=(s[18].toNat:Int):=IntWalk.i64_in _ (by have:=s[18].toNat_lt;omega)
 obtain⟨u,hu⟩:∃u:Bool,(bits .and .u8 (s[2].toNat:Int) 1 !=0)=u:=⟨_,rfl⟩
 obtain⟨o,ho⟩:∃o:Bool,(bits .and .u8 (s[2].toNat:Int) 2 !=0)=o:=⟨_,rfl⟩
 gi_wp2
 refine wpIn_wide.2 ?_
 refine wp_region_noPanic ?_
 refine wp_region_held_drew (S:=fun W'=>W'.cell? ⟨w.heap.size,0,none⟩=some (.string s)) (by kernel_rfl) (by exact ct) (fun hHeld=>?_)
 refine zq 0 (v:=?bv0) rfl (by kernel_rfl) (by kernel_rfl) (by kernel_rfl) (fun _ _ _ h=>h) (by rfl) ?by0 (by assumption) ?br0
 case by0=>(intro w hSw;skip;go_simp);with_reducible rfl
 simp only[xPt]
 refine zq 1 (v:=?bv1) rfl (by kernel_rfl) (by kernel_rfl) (by kernel_rfl) (fun _ _ _ h=>h) (by rfl) ?by1 (by assumption) ?br1
 case by1=>(intro w hSw;skip;go_simp);with_reducible rfl
 simp only[xPt]
 refine zq 2 (v:=?bv2) rfl (by kernel_rfl) (by kernel_rfl) (by kernel_rfl) (fun _ _ _ h=>h) (by rfl) ?by2 (by assumption) ?br2
 case by2=>(intro w hSw;skip;go_simp);with_reducible rfl
 simp only[xPt]
 refine zq 3 (v:=?bv3) rfl (by kernel_rfl) (by kernel_rfl) (by kernel_rfl) (fun _ _ _ h=>h) (by rfl) ?by3 (by assumption) ?br3
 case by3=>(intro w hSw;skip;go_simp);with_reducible rfl
 simp only[xPt]
 refine zq 4 (v:=?bv4) rfl (by kernel_rfl) (by kernel_rfl) (by kernel_rfl) (fun _ _ _ h=>h) (by rfl) ?by4 (by assumption) ?br4
 case by4=>(intro w hSw;skip;go_simp);with_reducible rfl
 simp only[xPt]
 refine zq 5 (v:=?bv5) rfl (by kernel_rfl) (by kernel_rfl) (by kernel_rfl) (fun _ _ _ h=>h) (by rfl) ?by5 (by assumption) ?br5
 case by5=>(intro w hSw;skip;go_simp);with_reducible rfl
 simp only[xPt]
 refine zq 6 (v:=?bv6) rfl (by kernel_rfl) (by kernel_rfl) (by kernel_rfl) (fun _ _ _ h=>h) (by rfl) ?by6 (by assumption) ?br6
 case by6=>(intro w hSw;skip;go_simp);with_reducible rfl
 simp only[xPt]
 refine zq 7 (v:=?bv7) rfl (by kernel_rfl) (by kernel_rfl) (by kernel_rfl) (fun _ _ _ h=>h) (by rfl) ?by7 (by assumption) ?br7
 case by7=>(intro w hSw;skip;go_simp);with_reducible rfl
 simp only[xPt]
 refine zq 8 (v:=?bv8) rfl (by kernel_rfl) (by kernel_rfl) (by kernel_rfl) (fun _ _ _ h=>h) (by rfl) ?by8 (by assumption) ?br8
 case by8=>(intro w hSw;skip;go_simp);with_reducible rfl
 simp only[xPt]
 refine zq 9 (v:=?bv9) rfl (by kernel_rfl) (by kernel_rfl) (by kernel_rfl) (fun _ _ _ h=>h) (by rfl) ?by9 (by assumption) ?br9
 case by9=>(intro w hSw;skip;go_simp);with_reducible rfl
 simp only[xPt]
 refine zq 10 (v:=?bv10) rfl (by kernel_rfl) (by kernel_rfl) (by kernel_rfl) (fun _ _ _ h=>h) (by rfl) ?by10 (by assumption) ?br10
 case by10=>(intro w hSw;skip;go_simp);with_reducible rfl
 simp only[xPt]
 refine zq 11 (v:=?bv11) rfl (by kernel_rfl) (by kernel_rfl) (by kernel_rfl) (fun _ _ _ h=>h) (by rfl) ?by11 (by assumption) ?br11
 case by11=>(intro w hSw;skip;go_simp);with_reducible rfl
 simp only[xPt]
 refine jf 12 rfl (by kernel_rfl) (by rfl) (fun K hK=>?_)
 go_simp
 refine hK.out _ _ ?bhs12 (fun hHeld=>?brs12)
 case bhs12=>exact(World.cell?_alloc_lt _ _ _ hlt).trans ct
 clear hK K
 try simp only[xPt]
 refine jf 13 rfl (by kernel_rfl) (by rfl) (fun K hK=>?_)
 go_simp
 refine hK.out _ _ ?bhs13 (fun hHeld=>?brs13)
 case bhs13=>exact(World.cell?_alloc_lt _ _ _ hlt).trans ct
 clear hK K
 try simp only[xPt]
 refine wpAnyH_done (by kernel_rfl) ?_ _
 refine NoPanic.normal ?_
 have HZ1:=Lib.hid hz1
 clear hz1 hs1
 have hg18:(s.data.toList.getD 18 0)=s[18]:=z2q k18
 have hrow0:AtF (w1.alloc (.cells (R0 s u o).toArray 54)) w1.heap.size (R0 s u o):=AtF.box _ _ _
 rw[R0,hg18]at hrow0
 have HROW0:=Lib.hid hrow0
 have HG18:=Lib.hid hg18
 have HU:=Lib.hid hu
 have HO:=Lib.hid ho
 have hlt1:w.heap.size+1<w1.heap.size:=Nat.lt_of_lt_of_le (by simp) hb1.size
 have HRES:Hid (AtF w1 (w.heap.size+1) Rec.nil.cells):=Lib.hid (AtF.below (B:=w.heap.size+2) (AtF.box0 Rec.nil.cells 54 (by simp)) (hb1.mono (by simp)) (by omega))
 have HBX:Hid (Below w.heap.size w w1):=Lib.hid hbel
 clear hrow0 hg18 hu ho hb1 hbel w18 w18'
 gi_wp2_with (gi_at_call 75;refine(z2P _ _ Fence.wide (n-1) (hF _) hro).mono ?_;rintro e w' ⟨rfl,rfl⟩)
 refine zbt hro h1 (gf:=106) (lb:=#[.pointer (some ⟨w1.heap.size+1+1,0,none⟩)]) rfl (hF _) (enters_of Tryz.func106 (by kernel_rfl) rfl)
  (e:=fun x:Off=>.pointer (some ⟨w1.heap.size,x.1,none⟩)) (z5C Fence.wide (n-1) (hF _) hro (by omega) (w1.heap.size+1+1) w1.heap.size _ (World.cell?_alloc_at _ _ _ _ (by simp)) (by simp)) z4y (fun W l o o' _ h hc _=>z4z W l o o' h hc) (Below.refl _ _) (by simp)
  (fun pre W=>(W.cell? ⟨w.heap.size,0,none⟩=some (.string s)/\W.cell? ⟨w1.heap.size+1,0,none⟩=some (.int .i64 (3+3*pre.length:Nat))/\W.frozen? ⟨w1.heap.size+1,0,none⟩=false
    /\AtF W w1.heap.size (z5P s.data.toList (R0 s u o) 0 pre)/\pre.length<=5/\AtF W (w.heap.size+1) Rec.nil.cells)/\Below w.heap.size w W)
  (fun _ _ _=>False)
  (OwnFrom.and (Own.from (fun s A B row hs hg hr=>⟨cell_kept hs.1 hg hr,cell_kept hs.2.1 hg hr,(frozen_kept hs.2.1 hg hr).trans hs.2.2.1,hs.2.2.2.1.kept hg hr,hs.2.2.2.2.1,hs.2.2.2.2.2.kept hg hr⟩) _) (ownFrom_below (Nat.le_refl _) (by simp;omega)))
  (fun _ _ _ _ _ h _ _=>h)
  ?init ?body ?done ?stop
 case init=>
  refine⟨⟨?i1,by simp[go_sem],by simp[go_sem], ?i2,by simp, ?i4⟩, ?i3⟩
  case i4=>exact AtF.drew<|AtF.alloc (AtF.alloc (AtF.alloc HRES.out hlt1 _) (by simp<;>omega) _) (by simp<;>omega) _
  case i1=>exact(World.cell?_alloc_lt _ _ _ (by simp;omega)).trans ((World.cell?_alloc_lt _ _ _ (by simp;omega)).trans ((World.cell?_alloc_lt _ _ _ hlt).trans ct))
  case i2=>
   rw[z5P,R0,HG18.out]
   exact AtF.drew (AtF.alloc (AtF.alloc HROW0.out (by simp) _) (by simp<;>omega) _)
  case i3=>exact(za (za (za HBX.out _) _) _).drew
 case body=>
  rintro l pre ⟨x,hx⟩ W ⟨⟨hcs,hca,hfa,hrow,hlen,hres⟩,hbw⟩ hlt5
  have hl10:(z5P s.data.toList (R0 s u o) 0 pre).length=10:=z6q _ _ _ _
  have hx10:x<10:=by
   simp only[z2d,List.mem_cons,List.not_mem_nil,or_false]at hx
   omega
  obtain⟨a,ha⟩:∃a,a=3+3*pre.length:=⟨_,rfl⟩
  rw[<-ha]at hca
  have hsz:=HS.out
  have ha64:a+2<64:=by omega
  have ha0:a<s.size:=by omega
  have ha1:a+1<s.size:=by omega
  have ha2:a+2<s.size:=by omega
  obtain⟨y,k1,k2⟩:∃y,W.cell? ⟨w1.heap.size,x,none⟩=some y/\W.frozen? ⟨w1.heap.size,x,none⟩=false:=⟨_,hrow x _ (List.getElem?_eq_getElem (by omega))⟩
  obtain⟨v,hv⟩:∃v,v=zkN s.data.toList pre.length:=⟨_,rfl⟩
  have hor:bits .or .i64 (bits .or .i64 (wrap64 (s[a].toNat:Int)) (wrap64 (wrap64 (s[a+1].toNat:Int)*256))) (wrap64 (wrap64 (s[a+2].toNat:Int)*65536))=v:=by
   rw[hv,zkN,<-ha,z2q ha0,z2q ha1,z2q ha2]
   exact zkK _ _ _
  have HRESW:=Lib.hid hres
  have HROW:=Lib.hid hrow
  have HV:=Lib.hid hv
  have HA:=Lib.hid ha
  clear hrow hv ha hl10 hsz hres
  have i0:(0:Int)<=(a:Int):=by omega
  have i1:(a:Int)<(s.size:Int):=by omega
  have i2:(a:Int)+1<(s.size:Int):=by omega
  have i3:(a:Int)+2<(s.size:Int):=by omega
  have i4:IntKind.i64.wrap ((a:Int)+1)=(a:Int)+1:=IntWalk.i64_in _ (by omega)
  have i5:IntKind.i64.wrap ((a:Int)+2)=(a:Int)+2:=IntWalk.i64_in _ (by omega)
  have i6:((a:Int)+1).toNat=a+1:=by omega
  have i7:((a:Int)+2).toNat=a+2:=by omega
  have i8:(0:Int)<=(a:Int)+1:=by omega
  have i9:(0:Int)<=(a:Int)+2:=by omega
  dsimp only
  gi_wp2
  refine z30 (S:=fun W'=>W'.cell? ⟨w.heap.size,0,none⟩=some (.string s)/\W'.cell? ⟨w1.heap.size+1,0,none⟩=some (.int .i64 a)) (by kernel_rfl) (by kernel_rfl) (fun⟨_,_,h⟩=>h) (by exact⟨hcs,hca⟩) (fun hHeld=>?_)
  refine zq 0 (v:=?cv0) rfl (by kernel_rfl) (by kernel_rfl) (by kernel_rfl) (fun _ _ _ h=>h) (by rfl) ?cy0 (by assumption) ?cr0
  case cy0=>(intro w hSw;have ct1:=hSw.1;have ct2:=hSw.2;go_simp);with_reducible rfl
  simp only[xPt]
  refine zq 1 (v:=?cv1) rfl (by kernel_rfl) (by kernel_rfl) (by kernel_rfl) (fun _ _ _ h=>h) (by rfl) ?cy1 (by assumption) ?cr1
  case cy1=>(intro w hSw;have ct1:=hSw.1;have ct2:=hSw.2;go_simp);with_reducible rfl
  simp only[xPt]
  refine zq 2 (v:=?cv2) rfl (by kernel_rfl) (by kernel_rfl) (by kernel_rfl) (fun _ _ _ h=>h) (by rfl) ?cy2 (by assumption) ?cr2
  case cy2=>(intro w hSw;have ct1:=hSw.1;have ct2:=hSw.2;go_simp);with_reducible rfl
  simp only[xPt]
  refine zq 3 (v:=?cv3) rfl (by kernel_rfl) (by kernel_rfl) (by kernel_rfl) (fun _ _ _ h=>h) (by rfl) ?cy3 (by assumption) ?cr3
  case cy3=>(intro w hSw;have ct1:=hSw.1;have ct2:=hSw.2;go_simp);with_reducible rfl
  simp only[xPt]
  refine zq 4 (v:=?cv4) rfl (by kernel_rfl) (by kernel_rfl) (by kernel_rfl) (fun _ _ _ h=>h) (by rfl) ?cy4 (by assumption) ?cr4
  case cy4=>(intro w hSw;have ct1:=hSw.1;have ct2:=hSw.2;go_simp);with_reducible rfl
  simp only[xPt]
  refine zq 5 (v:=?cv5) rfl (by kernel_rfl) (by kernel_rfl) (by kernel_rfl) (fun _ _ _ h=>h) (by rfl) ?cy5 (by assumption) ?cr5
  case cy5=>(intro w hSw;have ct1:=hSw.1;have ct2:=hSw.2;go_simp);with_reducible rfl
  simp only[xPt]
  refine zq 6 (v:=?cv6) rfl (by kernel_rfl) (by kernel_rfl) (by kernel_rfl) (fun _ _ _ h=>h) (by rfl) ?cy6 (by assumption) ?cr6
  case cy6=>(intro w hSw;have ct1:=hSw.1;have ct2:=hSw.2;go_simp);with_reducible rfl
  simp only[xPt]
  refine zq 7 (v:=?cv7) rfl (by kernel_rfl) (by kernel_rfl) (by kernel_rfl) (fun _ _ _ h=>h) (by rfl) ?cy7 (by assumption) ?cr7
  case cy7=>(intro w hSw;have ct1:=hSw.1;have ct2:=hSw.2;go_simp);with_reducible rfl
  simp only[xPt]
  refine zq 8 (v:=?cv8) rfl (by kernel_rfl) (by kernel_rfl) (by kernel_rfl) (fun _ _ _ h=>h) (by rfl) ?cy8 (by assumption) ?cr8
  case cy8=>(intro w hSw;have ct1:=hSw.1;have ct2:=hSw.2;go_simp);with_reducible rfl
  simp only[xPt]
  refine zq 9 (v:=?cv9) rfl (by kernel_rfl) (by kernel_rfl) (by kernel_rfl) (fun _ _ _ h=>h) (by rfl) ?cy9 (by assumption) ?cr9
  case cy9=>(intro w hSw;have ct1:=hSw.1;have ct2:=hSw.2;go_simp);with_reducible rfl
  simp only[xPt]
  refine zq 10 (v:=?cv10) rfl (by kernel_rfl) (by kernel_rfl) (by kernel_rfl) (fun _ _ _ h=>h) (by rfl) ?cy10 (by assumption) ?cr10
  case cy10=>(intro w hSw;have ct1:=hSw.1;have ct2:=hSw.2;go_simp);with_reducible rfl
  simp only[xPt]
  refine zq 11 (v:=?cv11) rfl (by kernel_rfl) (by kernel_rfl) (by kernel_rfl) (fun _ _ _ h=>h) (by rfl) ?cy11 (by assumption) ?cr11
  case cy11=>(intro w hSw;have ct1:=hSw.1;have ct2:=hSw.2;go_simp);with_reducible rfl
  simp only[xPt]
  refine zq 12 (v:=?cv12) rfl (by kernel_rfl) (by kernel_rfl) (by kernel_rfl) (fun _ _ _ h=>h) (by rfl) ?cy12 (by assumption) ?cr12
  case cy12=>(intro w hSw;have ct1:=hSw.1;have ct2:=hSw.2;go_simp);with_reducible rfl
  simp only[xPt]
  refine zq 13 (v:=?cv13) rfl (by kernel_rfl) (by kernel_rfl) (by kernel_rfl) (fun _ _ _ h=>h) (by rfl) ?cy13 (by assumption) ?cr13
  case cy13=>(intro w hSw;have ct1:=hSw.1;have ct2:=hSw.2;go_simp);with_reducible rfl
  simp only[xPt]
  refine zq 14 (v:=?cv14) rfl (by kernel_rfl) (by kernel_rfl) (by kernel_rfl) (fun _ _ _ h=>h) (by rfl) ?cy14 (by assumption) ?cr14
  case cy14=>(intro w hSw;have ct1:=hSw.1;have ct2:=hSw.2;go_simp);with_reducible rfl
  simp only[xPt]
  refine zq 15 (v:=?cv15) rfl (by kernel_rfl) (by kernel_rfl) (by kernel_rfl) (fun _ _ _ h=>h) (by rfl) ?cy15 (by assumption) ?cr15
  case cy15=>(intro w hSw;have ct1:=hSw.1;have ct2:=hSw.2;go_simp);with_reducible rfl
  simp only[xPt]
  refine zq 16 (v:=?cv16) rfl (by kernel_rfl) (by kernel_rfl) (by kernel_rfl) (fun _ _ _ h=>h) (by rfl) ?cy16 (by assumption) ?cr16
  case cy16=>(intro w hSw;have ct1:=hSw.1;have ct2:=hSw.2;go_simp);with_reducible rfl
  simp only[xPt]
  refine zq 17 (v:=?cv17) rfl (by kernel_rfl) (by kernel_rfl) (by kernel_rfl) (fun _ _ _ h=>h) (by rfl) ?cy17 (by assumption) ?cr17
  case cy17=>(intro w hSw;have ct1:=hSw.1;have ct2:=hSw.2;go_simp);with_reducible rfl
  simp only[xPt]
  refine zq 18 (v:=?cv18) rfl (by kernel_rfl) (by kernel_rfl) (by kernel_rfl) (fun _ _ _ h=>h) (by rfl) ?cy18 (by assumption) ?cr18
  case cy18=>(intro w hSw;have ct1:=hSw.1;have ct2:=hSw.2;go_simp);with_reducible rfl
  simp only[xPt]
  refine zq 19 (v:=?cv19) rfl (by kernel_rfl) (by kernel_rfl) (by kernel_rfl) (fun _ _ _ h=>h) (by rfl) ?cy19 (by assumption) ?cr19
  case cy19=>(intro w hSw;have ct1:=hSw.1;have ct2:=hSw.2;go_simp);with_reducible rfl
  simp only[xPt]
  refine jf 20 rfl (by kernel_rfl) (by rfl) (fun K hK=>?_)
  go_simp
  refine hK.out _ _ ?chs20 (fun hHeld=>?crs20)
  case chs20=>exact⟨(World.cell?_setCell_far _ _ _ _ (by simp<;>omega)).trans hHeld.1,(World.cell?_setCell_far _ _ _ _ (by simp<;>omega)).trans hHeld.2⟩
  clear hK K
  try simp only[xPt]
  refine wpAnyH_done (by kernel_rfl) ?_ _
  have hpn:z5P s.data.toList (R0 s u o) 0 (pre++[⟨x,hx⟩])=(z5P s.data.toList (R0 s u o) 0 pre).set x (.int .i64 v):=by
   rw[z9w,Nat.zero_add,HV.out]
  have HPN:=Lib.hid hpn
  clear hpn hHeld
  gi_wp2
  have hne1:w1.heap.size≠w1.heap.size+1:=by omega
  have hne2:w1.heap.size≠w1.heap.size+1+1:=by omega
  have hne3:w1.heap.size+1≠w1.heap.size+1+1:=by omega
  have hne4:w1.heap.size≠w.heap.size:=by omega
  have hne5:w1.heap.size+1≠w.heap.size:=by omega
  have h3:=(z4k (b:=w1.heap.size+1) (A:=W) (fun v h=>h) ⟨w1.heap.size,x,none⟩ (.int .i64 v) hne1) _ hca
  refine⟨ziK (z05 (z05 (KeepsOthers.refl _) _ _) _ _),ziN (z4k (z4k (fun v h=>h) _ _ hne2) _ _ hne3),⟨?k3, ?k4, ?k5, ?k6, ?k7, ?k9⟩, ?k8⟩
  case k9=>exact AtF.drew ((HRESW.out.far ⟨w1.heap.size,x,none⟩ _ (by simp;omega)).far ⟨w1.heap.size+1,0,none⟩ _ (by simp;omega))
  case k3=>exact(World.cell?_setCell_far _ ⟨w1.heap.size+1,0,none⟩ ⟨w.heap.size,0,none⟩ _ hne5).trans ((World.cell?_setCell_far _ ⟨w1.heap.size,x,none⟩ ⟨w.heap.size,0,none⟩ _ hne4).trans hcs)
  case k4=>
   refine(World.cell?_setCell_same _ _ _ h3).trans ?_
   rw[HA.out,List.length_append,List.length_singleton]
   congr 2
  case k5=>
   rw[World.frozen?_drew,World.frozen?_setCell,World.frozen?_setCell]
   exact hfa
  case k6=>
   rw[HPN.out]
   exact AtF.drew ((HROW.out.set x (.int .i64 v)).far ⟨w1.heap.size+1,0,none⟩ _ hne1.symm)
  case k7=>rw[List.length_append,List.length_singleton];omega
  case k8=>exact((hbw.setCell (p:=⟨w1.heap.size,x,none⟩) (by simp;omega) _).setCell (p:=⟨w1.heap.size+1,0,none⟩) (by simp;omega) _).drew
 case done=>
  rintro D xs W hD rfl ⟨⟨hcs,hca,hfa,hrow,hlen,hres⟩,hbw⟩ hK
  have hD2:w.heap.size<=D:=by simp at hD;omega
  obtain⟨P,hP⟩:∃P,P=zeJ s:=⟨_,rfl⟩
  have hPu:P.used=u:=by rw[hP,<-HU.out];exact zf5 (z2q k2) 1
  have hPo:P.opn=o:=by rw[hP,<-HO.out];exact zf5 (z2q k2) 2
  have hfill:z5P s.data.toList (R0 s u o) 0 [o1,o2,o3,o6,o7]=[.bool u,.int .i64 P.fence,.int .i64 P.de,.int .i64 P.ds,.string ⟨#[]⟩,.bool o,.int .i64 P.ie,.int .i64 P.iq,.int .i64 P.mask,.string ⟨#[]⟩]:=by
   rw[hP];rfl
  rw[hfill]at hrow
  have f0:=(hrow 0 _ rfl).1
  have f5:=(hrow 5 _ rfl).1
  have c1:=(hrow 1 _ rfl).1
  have c2:=(hrow 2 _ rfl).1
  have c3:=(hrow 3 _ rfl).1
  have c4:=(hrow 4 _ rfl).1
  have c6:=(hrow 6 _ rfl).1
  have c7:=(hrow 7 _ rfl).1
  have c8:=(hrow 8 _ rfl).1
  have c9:=(hrow 9 _ rfl).1
  have g4:=(hrow 4 _ rfl).2
  have g9:=(hrow 9 _ rfl).2
  have hPb:P.block=if u then s.extract 19 35 else noB:=by rw[<-hPu,hP];rfl
  have hPs:P.staged=if o then s.extract 35 51 else noB:=by rw[<-hPo,hP];rfl
  have hsz:=HS.out
  have hb:P.block.size<=9223372036854775807:=by
   rw[hPb]
   split
   ·rw[ByteArray.size_extract];omega
   ·exact Nat.zero_le _
  have hs:P.staged.size<=9223372036854775807:=by
   rw[hPs]
   split
   ·rw[ByteArray.size_extract];omega
   ·exact Nat.zero_le _
  have j19:(35:Int)<=(s.size:Int):=by omega
  have j35:(51:Int)<=(s.size:Int):=by omega
  have HSZ:Hid (w1.heap.size<W.heap.size):=Lib.hid (by
   have h:=f0
   unfold World.cell? at h
   split at h
   ·rename_i hh;exact(Array.getElem?_eq_some_iff.1 hh).1
   ·cases h)
  have HPP:=Lib.hid hP
  have HPU:=Lib.hid hPu
  have HPO:=Lib.hid hPo
  have HPB:=Lib.hid hPb
  have HPS:=Lib.hid hPs
  have HRESW:=Lib.hid hres
  have HROW:=Lib.hid hrow
  clear hsz hrow hres hfill hP hPu hPo hPb hPs hca hfa hlen
  obtain⟨pb,hpb⟩:∃pb,pb=zdG stripe P:=⟨_,rfl⟩
  obtain⟨pe,hpe⟩:∃pe,pe=z4v stripe P:=⟨_,rfl⟩
  have hcase:((pe !=0)=true/\z0R stripe s= .tuple #[Rec.nil.v,.int .i64 80])\/((pe !=0)=false/\(pb.toList==s.toList)=false/\z0R stripe s= .tuple #[Rec.nil.v,.int .i64 80])
    \/((pe !=0)=false/\(pb.toList==s.toList)=true/\z0R stripe s= .tuple #[P.v,.int .i64 0]):=by
   have hun:jc stripe s=if z1B stripe P/\z2N stripe P=s then(P,0)else(Rec.nil,80):=by
    have hz2:s≠z1f:=by
     rintro hzz
     have h:=HZ1.out
     rw[hzz]at h
     simp at h
    unfold jc
    rw[if_neg (by simp;exact⟨s1,s2,HS.out⟩),if_neg hz2,<-HPP.out]
   by_cases hok:z1B stripe P=true
   ·have h0:pe=0:=by rw[hpe];unfold z4v;rw[if_pos hok]
    have h1:pb=z2N stripe P:=by rw[hpb];unfold zdG;rw[if_pos hok]
    by_cases he:z2N stripe P=s
    ·refine .inr (.inr ⟨by rw[h0];rfl,by rw[h1,he];simp, ?_⟩)
     unfold z0R
     rw[hun,if_pos ⟨hok,he⟩]
    ·refine .inr (.inl ⟨by rw[h0];rfl,by rw[h1,beq_eq_false_iff_ne];exact fun h=>he (z0N h), ?_⟩)
     unfold z0R
     rw[hun,if_neg (fun h=>he h.2)]
   ·have h0:pe=80:=by rw[hpe];unfold z4v;rw[if_neg hok]
    refine .inl ⟨by rw[h0];rfl, ?_⟩
    unfold z0R
    rw[hun,if_neg (fun h=>hok h.1)]
  have HPBE:Hid (z8H stripe P= .tuple #[.string pb,.int .i64 pe]):=Lib.hid (by rw[zeK,hpb,hpe])
  have HCASE:=Lib.hid hcase
  clear hpb hpe hcase
  cases u<;>cases o
  ·have hPv:P.v= .agg #[.bool false,.int .i64 P.fence,.int .i64 P.de,.int .i64 P.ds,.string ⟨#[]⟩,.bool false,.int .i64 P.ie,.int .i64 P.iq,.int .i64 P.mask,.string ⟨#[]⟩]:=by
    rw[Rec.v,Rec.cells,HPU.out,HPO.out,HPB.out,HPS.out];rfl
   have hpk:∀W',Calls Tryz.prog 76 #[.int .i64 stripe,.agg #[.bool false,.int .i64 P.fence,.int .i64 P.de,.int .i64 P.ds,.string ⟨#[]⟩,.bool false,.int .i64 P.ie,.int .i64 P.iq,.int .i64 P.mask,.string ⟨#[]⟩]] W' fun e w'=>e= .returned (.tuple #[.string pb,.int .i64 pe])/\Below W'.heap.size W' w':=fun W'=>by
    have h:=z1r stripe P W' hb hs
    rw[hPv,HPBE.out]at h
    exact h
   have HCS:=Lib.hid (show W.cell? ⟨w.heap.size,0,none⟩=some (.string s)from hcs)
   have HRS:=Lib.hid HRESW.out
   have HBS:=Lib.hid hbw
   have HKS:=Lib.hid (show KeepsOthers W W from by repeat (first|exact KeepsOthers.refl _|refine z05 ?_ _ _))
   have HPK:=Lib.hid hpk
   have HPV:=Lib.hid hPv
   clear hPv hpk
   gi_upto_region 16 with(gi_at_call 76;refine(callsIn_wide.2 (HPK.out _)).mono ?_;rintro e w2 ⟨rfl,hb2⟩)
   have hD3:D<W.heap.size:=(Array.getElem?_eq_some_iff.1 hK).1
   have hsw:w.heap.size+1<W.heap.size:=Nat.lt_of_lt_of_le (by omega) HSZ.out
   have hsw1:w1.heap.size<W.heap.size:=HSZ.out
   have hK2:w2.heap[D]?=some (.deferred (some [])):=(hb2.block D (by simpa using hD3)).trans (HKS.out.same D _ hK rfl)
   have hres2:=HRS.out.below hb2 (by simpa using hsw)
   have hrec2:=(HROW.out.below hb2 (by simpa using hsw1)).at_
   have hcs2:w2.cell? ⟨w.heap.size,0,none⟩=some (.string s):=(hb2.cell (p:=⟨w.heap.size,0,none⟩) (by simp;omega)).trans HCS.out
   have HB2:=Lib.hid (zw HBS.out hb2)
   have HK2:=Lib.hid hK2
   clear f0 f5 c1 c2 c3 c4 c6 c7 c8 c9 g4 g9 hK2 hb2
   have e0:=(hres2 0 _ rfl).1
   have q0:=(hres2 0 _ rfl).2
   have r0:=hrec2 0 _ rfl
   have e1:=(hres2 1 _ rfl).1
   have q1:=(hres2 1 _ rfl).2
   have r1:=hrec2 1 _ rfl
   have e2:=(hres2 2 _ rfl).1
   have q2:=(hres2 2 _ rfl).2
   have r2:=hrec2 2 _ rfl
   have e3:=(hres2 3 _ rfl).1
   have q3:=(hres2 3 _ rfl).2
   have r3:=hrec2 3 _ rfl
   have e4:=(hres2 4 _ rfl).1
   have q4:=(hres2 4 _ rfl).2
   have r4:=hrec2 4 _ rfl
   have e5:=(hres2 5 _ rfl).1
   have q5:=(hres2 5 _ rfl).2
   have r5:=hrec2 5 _ rfl
   have e6:=(hres2 6 _ rfl).1
   have q6:=(hres2 6 _ rfl).2
   have r6:=hrec2 6 _ rfl
   have e7:=(hres2 7 _ rfl).1
   have q7:=(hres2 7 _ rfl).2
   have r7:=hrec2 7 _ rfl
   have e8:=(hres2 8 _ rfl).1
   have q8:=(hres2 8 _ rfl).2
   have r8:=hrec2 8 _ rfl
   have e9:=(hres2 9 _ rfl).1
   have q9:=(hres2 9 _ rfl).2
   have r9:=hrec2 9 _ rfl
   have HRES2:=Lib.hid hres2
   clear hres2 hrec2
   rcases HCASE.out with⟨t1,hv⟩|⟨t1,t2,hv⟩|⟨t1,t2,hv⟩
   ·have HV:=Lib.hid hv
    clear hv
    gi_wp2
    have hko:KeepsOthers w2 _:=zh4 w2 (w.heap.size+1) (.bool false) (.int .i64 0) (.int .i64 0) (.int .i64 0) (.string ⟨#[]⟩) (.bool false) (.int .i64 0) (.int .i64 0) (.int .i64 0) (.string ⟨#[]⟩)
    have hK5:=koD hko rfl HK2.out
    refine⟨by simp,.inl ⟨_,_,rfl,run_takeDeferred hK5, ?_⟩⟩
    refine⟨_,yj _ (w.heap.size+1) Rec.nil _ (.int .i64 80) rfl rfl ?_,by rw[HV.out], ?_⟩
    ·exact(AtF.kept (b:=w.heap.size+1) (l:=(Rec.nil).cells) (by exact(zh7 HRES2.out)) (grownBy_putObj' _ D (.deferred none)) (fun r e=>by cases e;exact⟨_,hK5,rfl⟩)).at_
    ·exact(z63 HB2.out (by simp)).trans (belowK_b (w:=w) (Nat.le_refl _) _ D _ _ hD2 hK5 rfl rfl)
   ·have HV:=Lib.hid hv
    clear hv
    gi_wp2
    have hko:KeepsOthers w2 _:=zh4 w2 (w.heap.size+1) (.bool false) (.int .i64 0) (.int .i64 0) (.int .i64 0) (.string ⟨#[]⟩) (.bool false) (.int .i64 0) (.int .i64 0) (.int .i64 0) (.string ⟨#[]⟩)
    have hK5:=koD hko rfl HK2.out
    refine⟨by simp,.inl ⟨_,_,rfl,run_takeDeferred hK5, ?_⟩⟩
    refine⟨_,yj _ (w.heap.size+1) Rec.nil _ (.int .i64 80) rfl rfl ?_,by rw[HV.out], ?_⟩
    ·exact(AtF.kept (b:=w.heap.size+1) (l:=(Rec.nil).cells) (by exact(zh7 HRES2.out)) (grownBy_putObj' _ D (.deferred none)) (fun r e=>by cases e;exact⟨_,hK5,rfl⟩)).at_
    ·exact(z63 HB2.out (by simp)).trans (belowK_b (w:=w) (Nat.le_refl _) _ D _ _ hD2 hK5 rfl rfl)
   ·have HV:=Lib.hid hv
    clear hv
    gi_wp2
    have hko:KeepsOthers w2 _:=zh4 w2 (w.heap.size+1) (.bool false) (.int .i64 P.fence) (.int .i64 P.de) (.int .i64 P.ds) (.string ⟨#[]⟩) (.bool false) (.int .i64 P.ie) (.int .i64 P.iq) (.int .i64 P.mask) (.string ⟨#[]⟩)
    have hK5:=koD hko rfl HK2.out
    refine⟨by simp,.inl ⟨_,_,rfl,run_takeDeferred hK5, ?_⟩⟩
    refine⟨_,yj _ (w.heap.size+1) P _ (.int .i64 0) rfl rfl ?_,by rw[HV.out], ?_⟩
    ·exact(AtF.kept (b:=w.heap.size+1) (l:=(P).cells) (by rw[Rec.cells,HPU.out,HPO.out,HPB.out,HPS.out];exact(zh7 HRES2.out)) (grownBy_putObj' _ D (.deferred none)) (fun r e=>by cases e;exact⟨_,hK5,rfl⟩)).at_
    ·exact(z63 HB2.out (by simp)).trans (belowK_b (w:=w) (Nat.le_refl _) _ D _ _ hD2 hK5 rfl rfl)
  ·have hPv:P.v= .agg #[.bool false,.int .i64 P.fence,.int .i64 P.de,.int .i64 P.ds,.string ⟨#[]⟩,.bool true,.int .i64 P.ie,.int .i64 P.iq,.int .i64 P.mask,.string (s.extract 35 51)]:=by
    rw[Rec.v,Rec.cells,HPU.out,HPO.out,HPB.out,HPS.out];rfl
   have hpk:∀W',Calls Tryz.prog 76 #[.int .i64 stripe,.agg #[.bool false,.int .i64 P.fence,.int .i64 P.de,.int .i64 P.ds,.string ⟨#[]⟩,.bool true,.int .i64 P.ie,.int .i64 P.iq,.int .i64 P.mask,.string (s.extract 35 51)]] W' fun e w'=>e= .returned (.tuple #[.string pb,.int .i64 pe])/\Below W'.heap.size W' w':=fun W'=>by
    have h:=z1r stripe P W' hb hs
    rw[hPv,HPBE.out]at h
    exact h
   have HCS:=Lib.hid (show(W.setCell ⟨w1.heap.size,9,none⟩ (.string (s.extract 35 51))).cell? ⟨w.heap.size,0,none⟩=some (.string s)from((World.cell?_setCell_far _ _ _ _ (by simp;omega)).trans hcs))
   have HRS:=Lib.hid (HRESW.out.far ⟨w1.heap.size,9,none⟩ (.string (s.extract 35 51)) (by simp;omega))
   have HBS:=Lib.hid (hbw.setCell (p:=⟨w1.heap.size,9,none⟩) (by simp;omega) (.string (s.extract 35 51)))
   have HKS:=Lib.hid (show KeepsOthers W (W.setCell ⟨w1.heap.size,9,none⟩ (.string (s.extract 35 51)))from by repeat (first|exact KeepsOthers.refl _|refine z05 ?_ _ _))
   have HPK:=Lib.hid hpk
   have HPV:=Lib.hid hPv
   clear hPv hpk
   gi_upto_region 16 with(gi_at_call 76;refine(callsIn_wide.2 (HPK.out _)).mono ?_;rintro e w2 ⟨rfl,hb2⟩)
   have hD3:D<W.heap.size:=(Array.getElem?_eq_some_iff.1 hK).1
   have hsw:w.heap.size+1<W.heap.size:=Nat.lt_of_lt_of_le (by omega) HSZ.out
   have hsw1:w1.heap.size<W.heap.size:=HSZ.out
   have hK2:w2.heap[D]?=some (.deferred (some [])):=(hb2.block D (by simpa using hD3)).trans (HKS.out.same D _ hK rfl)
   have hres2:=HRS.out.below hb2 (by simpa using hsw)
   have hrec2:=((HROW.out.set 9 (.string (s.extract 35 51))).below hb2 (by simpa using hsw1)).at_
   have hcs2:w2.cell? ⟨w.heap.size,0,none⟩=some (.string s):=(hb2.cell (p:=⟨w.heap.size,0,none⟩) (by simp;omega)).trans HCS.out
   have HB2:=Lib.hid (zw HBS.out hb2)
   have HK2:=Lib.hid hK2
   clear f0 f5 c1 c2 c3 c4 c6 c7 c8 c9 g4 g9 hK2 hb2
   have e0:=(hres2 0 _ rfl).1
   have q0:=(hres2 0 _ rfl).2
   have r0:=hrec2 0 _ rfl
   have e1:=(hres2 1 _ rfl).1
   have q1:=(hres2 1 _ rfl).2
   have r1:=hrec2 1 _ rfl
   have e2:=(hres2 2 _ rfl).1
   have q2:=(hres2 2 _ rfl).2
   have r2:=hrec2 2 _ rfl
   have e3:=(hres2 3 _ rfl).1
   have q3:=(hres2 3 _ rfl).2
   have r3:=hrec2 3 _ rfl
   have e4:=(hres2 4 _ rfl).1
   have q4:=(hres2 4 _ rfl).2
   have r4:=hrec2 4 _ rfl
   have e5:=(hres2 5 _ rfl).1
   have q5:=(hres2 5 _ rfl).2
   have r5:=hrec2 5 _ rfl
   have e6:=(hres2 6 _ rfl).1
   have q6:=(hres2 6 _ rfl).2
   have r6:=hrec2 6 _ rfl
   have e7:=(hres2 7 _ rfl).1
   have q7:=(hres2 7 _ rfl).2
   have r7:=hrec2 7 _ rfl
   have e8:=(hres2 8 _ rfl).1
   have q8:=(hres2 8 _ rfl).2
   have r8:=hrec2 8 _ rfl
   have e9:=(hres2 9 _ rfl).1
   have q9:=(hres2 9 _ rfl).2
   have r9:=hrec2 9 _ rfl
   have HRES2:=Lib.hid hres2
   clear hres2 hrec2
   rcases HCASE.out with⟨t1,hv⟩|⟨t1,t2,hv⟩|⟨t1,t2,hv⟩
   ·have HV:=Lib.hid hv
    clear hv
    gi_wp2
    have hko:KeepsOthers w2 _:=zh4 w2 (w.heap.size+1) (.bool false) (.int .i64 0) (.int .i64 0) (.int .i64 0) (.string ⟨#[]⟩) (.bool false) (.int .i64 0) (.int .i64 0) (.int .i64 0) (.string ⟨#[]⟩)
    have hK5:=koD hko rfl HK2.out
    refine⟨by simp,.inl ⟨_,_,rfl,run_takeDeferred hK5, ?_⟩⟩
    refine⟨_,yj _ (w.heap.size+1) Rec.nil _ (.int .i64 80) rfl rfl ?_,by rw[HV.out], ?_⟩
    ·exact(AtF.kept (b:=w.heap.size+1) (l:=(Rec.nil).cells) (by exact(zh7 HRES2.out)) (grownBy_putObj' _ D (.deferred none)) (fun r e=>by cases e;exact⟨_,hK5,rfl⟩)).at_
    ·exact(z63 HB2.out (by simp)).trans (belowK_b (w:=w) (Nat.le_refl _) _ D _ _ hD2 hK5 rfl rfl)
   ·have HV:=Lib.hid hv
    clear hv
    gi_wp2
    have hko:KeepsOthers w2 _:=zh4 w2 (w.heap.size+1) (.bool false) (.int .i64 0) (.int .i64 0) (.int .i64 0) (.string ⟨#[]⟩) (.bool false) (.int .i64 0) (.int .i64 0) (.int .i64 0) (.string ⟨#[]⟩)
    have hK5:=koD hko rfl HK2.out
    refine⟨by simp,.inl ⟨_,_,rfl,run_takeDeferred hK5, ?_⟩⟩
    refine⟨_,yj _ (w.heap.size+1) Rec.nil _ (.int .i64 80) rfl rfl ?_,by rw[HV.out], ?_⟩
    ·exact(AtF.kept (b:=w.heap.size+1) (l:=(Rec.nil).cells) (by exact(zh7 HRES2.out)) (grownBy_putObj' _ D (.deferred none)) (fun r e=>by cases e;exact⟨_,hK5,rfl⟩)).at_
    ·exact(z63 HB2.out (by simp)).trans (belowK_b (w:=w) (Nat.le_refl _) _ D _ _ hD2 hK5 rfl rfl)
   ·have HV:=Lib.hid hv
    clear hv
    gi_wp2
    have hko:KeepsOthers w2 _:=zh4 w2 (w.heap.size+1) (.bool false) (.int .i64 P.fence) (.int .i64 P.de) (.int .i64 P.ds) (.string ⟨#[]⟩) (.bool true) (.int .i64 P.ie) (.int .i64 P.iq) (.int .i64 P.mask) (.string (s.extract 35 51))
    have hK5:=koD hko rfl HK2.out
    refine⟨by simp,.inl ⟨_,_,rfl,run_takeDeferred hK5, ?_⟩⟩
    refine⟨_,yj _ (w.heap.size+1) P _ (.int .i64 0) rfl rfl ?_,by rw[HV.out], ?_⟩
    ·exact(AtF.kept (b:=w.heap.size+1) (l:=(P).cells) (by rw[Rec.cells,HPU.out,HPO.out,HPB.out,HPS.out];exact(zh7 HRES2.out)) (grownBy_putObj' _ D (.deferred none)) (fun r e=>by cases e;exact⟨_,hK5,rfl⟩)).at_
    ·exact(z63 HB2.out (by simp)).trans (belowK_b (w:=w) (Nat.le_refl _) _ D _ _ hD2 hK5 rfl rfl)
  ·have hPv:P.v= .agg #[.bool true,.int .i64 P.fence,.int .i64 P.de,.int .i64 P.ds,.string (s.extract 19 35),.bool false,.int .i64 P.ie,.int .i64 P.iq,.int .i64 P.mask,.string ⟨#[]⟩]:=by
    rw[Rec.v,Rec.cells,HPU.out,HPO.out,HPB.out,HPS.out];rfl
   have hpk:∀W',Calls Tryz.prog 76 #[.int .i64 stripe,.agg #[.bool true,.int .i64 P.fence,.int .i64 P.de,.int .i64 P.ds,.string (s.extract 19 35),.bool false,.int .i64 P.ie,.int .i64 P.iq,.int .i64 P.mask,.string ⟨#[]⟩]] W' fun e w'=>e= .returned (.tuple #[.string pb,.int .i64 pe])/\Below W'.heap.size W' w':=fun W'=>by
    have h:=z1r stripe P W' hb hs
    rw[hPv,HPBE.out]at h
    exact h
   have HCS:=Lib.hid (show(W.setCell ⟨w1.heap.size,4,none⟩ (.string (s.extract 19 35))).cell? ⟨w.heap.size,0,none⟩=some (.string s)from((World.cell?_setCell_far _ _ _ _ (by simp;omega)).trans hcs))
   have HRS:=Lib.hid (HRESW.out.far ⟨w1.heap.size,4,none⟩ (.string (s.extract 19 35)) (by simp;omega))
   have HBS:=Lib.hid (hbw.setCell (p:=⟨w1.heap.size,4,none⟩) (by simp;omega) (.string (s.extract 19 35)))
   have HKS:=Lib.hid (show KeepsOthers W (W.setCell ⟨w1.heap.size,4,none⟩ (.string (s.extract 19 35)))from by repeat (first|exact KeepsOthers.refl _|refine z05 ?_ _ _))
   have HPK:=Lib.hid hpk
   have HPV:=Lib.hid hPv
   clear hPv hpk
   gi_upto_region 16 with(gi_at_call 76;refine(callsIn_wide.2 (HPK.out _)).mono ?_;rintro e w2 ⟨rfl,hb2⟩)
   have hD3:D<W.heap.size:=(Array.getElem?_eq_some_iff.1 hK).1
   have hsw:w.heap.size+1<W.heap.size:=Nat.lt_of_lt_of_le (by omega) HSZ.out
   have hsw1:w1.heap.size<W.heap.size:=HSZ.out
   have hK2:w2.heap[D]?=some (.deferred (some [])):=(hb2.block D (by simpa using hD3)).trans (HKS.out.same D _ hK rfl)
   have hres2:=HRS.out.below hb2 (by simpa using hsw)
   have hrec2:=((HROW.out.set 4 (.string (s.extract 19 35))).below hb2 (by simpa using hsw1)).at_
   have hcs2:w2.cell? ⟨w.heap.size,0,none⟩=some (.string s):=(hb2.cell (p:=⟨w.heap.size,0,none⟩) (by simp;omega)).trans HCS.out
   have HB2:=Lib.hid (zw HBS.out hb2)
   have HK2:=Lib.hid hK2
   clear f0 f5 c1 c2 c3 c4 c6 c7 c8 c9 g4 g9 hK2 hb2
   have e0:=(hres2 0 _ rfl).1
   have q0:=(hres2 0 _ rfl).2
   have r0:=hrec2 0 _ rfl
   have e1:=(hres2 1 _ rfl).1
   have q1:=(hres2 1 _ rfl).2
   have r1:=hrec2 1 _ rfl
   have e2:=(hres2 2 _ rfl).1
   have q2:=(hres2 2 _ rfl).2
   have r2:=hrec2 2 _ rfl
   have e3:=(hres2 3 _ rfl).1
   have q3:=(hres2 3 _ rfl).2
   have r3:=hrec2 3 _ rfl
   have e4:=(hres2 4 _ rfl).1
   have q4:=(hres2 4 _ rfl).2
   have r4:=hrec2 4 _ rfl
   have e5:=(hres2 5 _ rfl).1
   have q5:=(hres2 5 _ rfl).2
   have r5:=hrec2 5 _ rfl
   have e6:=(hres2 6 _ rfl).1
   have q6:=(hres2 6 _ rfl).2
   have r6:=hrec2 6 _ rfl
   have e7:=(hres2 7 _ rfl).1
   have q7:=(hres2 7 _ rfl).2
   have r7:=hrec2 7 _ rfl
   have e8:=(hres2 8 _ rfl).1
   have q8:=(hres2 8 _ rfl).2
   have r8:=hrec2 8 _ rfl
   have e9:=(hres2 9 _ rfl).1
   have q9:=(hres2 9 _ rfl).2
   have r9:=hrec2 9 _ rfl
   have HRES2:=Lib.hid hres2
   clear hres2 hrec2
   rcases HCASE.out with⟨t1,hv⟩|⟨t1,t2,hv⟩|⟨t1,t2,hv⟩
   ·have HV:=Lib.hid hv
    clear hv
    gi_wp2
    have hko:KeepsOthers w2 _:=zh4 w2 (w.heap.size+1) (.bool false) (.int .i64 0) (.int .i64 0) (.int .i64 0) (.string ⟨#[]⟩) (.bool false) (.int .i64 0) (.int .i64 0) (.int .i64 0) (.string ⟨#[]⟩)
    have hK5:=koD hko rfl HK2.out
    refine⟨by simp,.inl ⟨_,_,rfl,run_takeDeferred hK5, ?_⟩⟩
    refine⟨_,yj _ (w.heap.size+1) Rec.nil _ (.int .i64 80) rfl rfl ?_,by rw[HV.out], ?_⟩
    ·exact(AtF.kept (b:=w.heap.size+1) (l:=(Rec.nil).cells) (by exact(zh7 HRES2.out)) (grownBy_putObj' _ D (.deferred none)) (fun r e=>by cases e;exact⟨_,hK5,rfl⟩)).at_
    ·exact(z63 HB2.out (by simp)).trans (belowK_b (w:=w) (Nat.le_refl _) _ D _ _ hD2 hK5 rfl rfl)
   ·have HV:=Lib.hid hv
    clear hv
    gi_wp2
    have hko:KeepsOthers w2 _:=zh4 w2 (w.heap.size+1) (.bool false) (.int .i64 0) (.int .i64 0) (.int .i64 0) (.string ⟨#[]⟩) (.bool false) (.int .i64 0) (.int .i64 0) (.int .i64 0) (.string ⟨#[]⟩)
    have hK5:=koD hko rfl HK2.out
    refine⟨by simp,.inl ⟨_,_,rfl,run_takeDeferred hK5, ?_⟩⟩
    refine⟨_,yj _ (w.heap.size+1) Rec.nil _ (.int .i64 80) rfl rfl ?_,by rw[HV.out], ?_⟩
    ·exact(AtF.kept (b:=w.heap.size+1) (l:=(Rec.nil).cells) (by exact(zh7 HRES2.out)) (grownBy_putObj' _ D (.deferred none)) (fun r e=>by cases e;exact⟨_,hK5,rfl⟩)).at_
    ·exact(z63 HB2.out (by simp)).trans (belowK_b (w:=w) (Nat.le_refl _) _ D _ _ hD2 hK5 rfl rfl)
   ·have HV:=Lib.hid hv
    clear hv
    gi_wp2
    have hko:KeepsOthers w2 _:=zh4 w2 (w.heap.size+1) (.bool true) (.int .i64 P.fence) (.int .i64 P.de) (.int .i64 P.ds) (.string (s.extract 19 35)) (.bool false) (.int .i64 P.ie) (.int .i64 P.iq) (.int .i64 P.mask) (.string ⟨#[]⟩)
    have hK5:=koD hko rfl HK2.out
    refine⟨by simp,.inl ⟨_,_,rfl,run_takeDeferred hK5, ?_⟩⟩
    refine⟨_,yj _ (w.heap.size+1) P _ (.int .i64 0) rfl rfl ?_,by rw[HV.out], ?_⟩
    ·exact(AtF.kept (b:=w.heap.size+1) (l:=(P).cells) (by rw[Rec.cells,HPU.out,HPO.out,HPB.out,HPS.out];exact(zh7 HRES2.out)) (grownBy_putObj' _ D (.deferred none)) (fun r e=>by cases e;exact⟨_,hK5,rfl⟩)).at_
    ·exact(z63 HB2.out (by simp)).trans (belowK_b (w:=w) (Nat.le_refl _) _ D _ _ hD2 hK5 rfl rfl)
  ·have hPv:P.v= .agg #[.bool true,.int .i64 P.fence,.int .i64 P.de,.int .i64 P.ds,.string (s.extract 19 35),.bool true,.int .i64 P.ie,.int .i64 P.iq,.int .i64 P.mask,.string (s.extract 35 51)]:=by
    rw[Rec.v,Rec.cells,HPU.out,HPO.out,HPB.out,HPS.out];rfl
   have hpk:∀W',Calls Tryz.prog 76 #[.int .i64 stripe,.agg #[.bool true,.int .i64 P.fence,.int .i64 P.de,.int .i64 P.ds,.string (s.extract 19 35),.bool true,.int .i64 P.ie,.int .i64 P.iq,.int .i64 P.mask,.string (s.extract 35 51)]] W' fun e w'=>e= .returned (.tuple #[.string pb,.int .i64 pe])/\Below W'.heap.size W' w':=fun W'=>by
    have h:=z1r stripe P W' hb hs
    rw[hPv,HPBE.out]at h
    exact h
   have HCS:=Lib.hid (show((W.setCell ⟨w1.heap.size,4,none⟩ (.string (s.extract 19 35))).setCell ⟨w1.heap.size,9,none⟩ (.string (s.extract 35 51))).cell? ⟨w.heap.size,0,none⟩=some (.string s)from((World.cell?_setCell_far _ _ _ _ (by simp;omega)).trans ((World.cell?_setCell_far _ _ _ _ (by simp;omega)).trans hcs)))
   have HRS:=Lib.hid ((HRESW.out.far ⟨w1.heap.size,4,none⟩ (.string (s.extract 19 35)) (by simp;omega)).far ⟨w1.heap.size,9,none⟩ (.string (s.extract 35 51)) (by simp;omega))
   have HBS:=Lib.hid ((hbw.setCell (p:=⟨w1.heap.size,4,none⟩) (by simp;omega) (.string (s.extract 19 35))).setCell (p:=⟨w1.heap.size,9,none⟩) (by simp;omega) (.string (s.extract 35 51)))
   have HKS:=Lib.hid (show KeepsOthers W ((W.setCell ⟨w1.heap.size,4,none⟩ (.string (s.extract 19 35))).setCell ⟨w1.heap.size,9,none⟩ (.string (s.extract 35 51)))from by repeat (first|exact KeepsOthers.refl _|refine z05 ?_ _ _))
   have HPK:=Lib.hid hpk
   have HPV:=Lib.hid hPv
   clear hPv hpk
   gi_upto_region 16 with(gi_at_call 76;refine(callsIn_wide.2 (HPK.out _)).mono ?_;rintro e w2 ⟨rfl,hb2⟩)
   have hD3:D<W.heap.size:=(Array.getElem?_eq_some_iff.1 hK).1
   have hsw:w.heap.size+1<W.heap.size:=Nat.lt_of_lt_of_le (by omega) HSZ.out
   have hsw1:w1.heap.size<W.heap.size:=HSZ.out
   have hK2:w2.heap[D]?=some (.deferred (some [])):=(hb2.block D (by simpa using hD3)).trans (HKS.out.same D _ hK rfl)
   have hres2:=HRS.out.below hb2 (by simpa using hsw)
   have hrec2:=(((HROW.out.set 4 (.string (s.extract 19 35))).set 9 (.string (s.extract 35 51))).below hb2 (by simpa using hsw1)).at_
   have hcs2:w2.cell? ⟨w.heap.size,0,none⟩=some (.string s):=(hb2.cell (p:=⟨w.heap.size,0,none⟩) (by simp;omega)).trans HCS.out
   have HB2:=Lib.hid (zw HBS.out hb2)
   have HK2:=Lib.hid hK2
   clear f0 f5 c1 c2 c3 c4 c6 c7 c8 c9 g4 g9 hK2 hb2
   have e0:=(hres2 0 _ rfl).1
   have q0:=(hres2 0 _ rfl).2
   have r0:=hrec2 0 _ rfl
   have e1:=(hres2 1 _ rfl).1
   have q1:=(hres2 1 _ rfl).2
   have r1:=hrec2 1 _ rfl
   have e2:=(hres2 2 _ rfl).1
   have q2:=(hres2 2 _ rfl).2
   have r2:=hrec2 2 _ rfl
   have e3:=(hres2 3 _ rfl).1
   have q3:=(hres2 3 _ rfl).2
   have r3:=hrec2 3 _ rfl
   have e4:=(hres2 4 _ rfl).1
   have q4:=(hres2 4 _ rfl).2
   have r4:=hrec2 4 _ rfl
   have e5:=(hres2 5 _ rfl).1
   have q5:=(hres2 5 _ rfl).2
   have r5:=hrec2 5 _ rfl
   have e6:=(hres2 6 _ rfl).1
   have q6:=(hres2 6 _ rfl).2
   have r6:=hrec2 6 _ rfl
   have e7:=(hres2 7 _ rfl).1
   have q7:=(hres2 7 _ rfl).2
   have r7:=hrec2 7 _ rfl
   have e8:=(hres2 8 _ rfl).1
   have q8:=(hres2 8 _ rfl).2
   have r8:=hrec2 8 _ rfl
   have e9:=(hres2 9 _ rfl).1
   have q9:=(hres2 9 _ rfl).2
   have r9:=hrec2 9 _ rfl
   have HRES2:=Lib.hid hres2
   clear hres2 hrec2
   rcases HCASE.out with⟨t1,hv⟩|⟨t1,t2,hv⟩|⟨t1,t2,hv⟩
   ·have HV:=Lib.hid hv
    clear hv
    gi_wp2
    have hko:KeepsOthers w2 _:=zh4 w2 (w.heap.size+1) (.bool false) (.int .i64 0) (.int .i64 0) (.int .i64 0) (.string ⟨#[]⟩) (.bool false) (.int .i64 0) (.int .i64 0) (.int .i64 0) (.string ⟨#[]⟩)
    have hK5:=koD hko rfl HK2.out
    refine⟨by simp,.inl ⟨_,_,rfl,run_takeDeferred hK5, ?_⟩⟩
    refine⟨_,yj _ (w.heap.size+1) Rec.nil _ (.int .i64 80) rfl rfl ?_,by rw[HV.out], ?_⟩
    ·exact(AtF.kept (b:=w.heap.size+1) (l:=(Rec.nil).cells) (by exact(zh7 HRES2.out)) (grownBy_putObj' _ D (.deferred none)) (fun r e=>by cases e;exact⟨_,hK5,rfl⟩)).at_
    ·exact(z63 HB2.out (by simp)).trans (belowK_b (w:=w) (Nat.le_refl _) _ D _ _ hD2 hK5 rfl rfl)
   ·have HV:=Lib.hid hv
    clear hv
    gi_wp2
    have hko:KeepsOthers w2 _:=zh4 w2 (w.heap.size+1) (.bool false) (.int .i64 0) (.int .i64 0) (.int .i64 0) (.string ⟨#[]⟩) (.bool false) (.int .i64 0) (.int .i64 0) (.int .i64 0) (.string ⟨#[]⟩)
    have hK5:=koD hko rfl HK2.out
    refine⟨by simp,.inl ⟨_,_,rfl,run_takeDeferred hK5, ?_⟩⟩
    refine⟨_,yj _ (w.heap.size+1) Rec.nil _ (.int .i64 80) rfl rfl ?_,by rw[HV.out], ?_⟩
    ·exact(AtF.kept (b:=w.heap.size+1) (l:=(Rec.nil).cells) (by exact(zh7 HRES2.out)) (grownBy_putObj' _ D (.deferred none)) (fun r e=>by cases e;exact⟨_,hK5,rfl⟩)).at_
    ·exact(z63 HB2.out (by simp)).trans (belowK_b (w:=w) (Nat.le_refl _) _ D _ _ hD2 hK5 rfl rfl)
   ·have HV:=Lib.hid hv
    clear hv
    gi_wp2
    have hko:KeepsOthers w2 _:=zh4 w2 (w.heap.size+1) (.bool true) (.int .i64 P.fence) (.int .i64 P.de) (.int .i64 P.ds) (.string (s.extract 19 35)) (.bool true) (.int .i64 P.ie) (.int .i64 P.iq) (.int .i64 P.mask) (.string (s.extract 35 51))
    have hK5:=koD hko rfl HK2.out
    refine⟨by simp,.inl ⟨_,_,rfl,run_takeDeferred hK5, ?_⟩⟩
    refine⟨_,yj _ (w.heap.size+1) P _ (.int .i64 0) rfl rfl ?_,by rw[HV.out], ?_⟩
    ·exact(AtF.kept (b:=w.heap.size+1) (l:=(P).cells) (by rw[Rec.cells,HPU.out,HPO.out,HPB.out,HPS.out];exact(zh7 HRES2.out)) (grownBy_putObj' _ D (.deferred none)) (fun r e=>by cases e;exact⟨_,hK5,rfl⟩)).at_
    ·exact(z63 HB2.out (by simp)).trans (belowK_b (w:=w) (Nat.le_refl _) _ D _ _ hD2 hK5 rfl rfl)
 case stop=>
  rintro D c pre W hD hSp h hK
  exact h.elim
theorem z6f:∀n:Nat,Lib.repeatL [0] n=List.replicate n 0
 |0=>rfl
 |n+1=>by rw[Lib.repeatL,z6f n];rfl
theorem z6e (n:Nat) (w:World) (hn:n<=64):
  Calls Tryz.prog 74 #[.string ⟨#[0]⟩,.int .i64 n] w fun e w'=>e= .returned (.string ⟨(List.replicate n 0).toArray⟩)/\Below w.heap.size w w':=by
 have h:=Tryz.strings_Repeat ⟨#[0]⟩ n w (by omega) (by show 1*n<=_;omega)
 have e:Lib.repeatL (ByteArray.mk #[0]).data.toList n=List.replicate n 0:=z6f n
 rw[e]at h
 exact h
theorem z3k (stripe:Int) (s:ByteArray) (w:World):
  Calls Tryz.prog 40 #[.int .i64 stripe,.string s] w fun e w'=>e= .returned (z0R stripe s)/\Below w.heap.size w w':=by
 have hrep:∀w,Calls Tryz.prog 74 #[.string ⟨#[0]⟩,.int .i64 64] w fun e w'=>e= .returned (.string z1f)/\Below w.heap.size w w':=fun w=>z6e 64 w (Nat.le_refl _)
 by_cases h:0<=stripe/\stripe<8/\s.size=64
 ·obtain⟨s1,s2,h64⟩:=h
  by_cases hz:s=z1f
  ·have hv:z0R stripe s= .tuple #[Rec.nil.v,.int .i64 0]:=by
    unfold z0R jc
    rw[if_neg (by simp;exact⟨s1,s2,h64⟩),if_pos hz]
   rw[hv]
   have hs1:((s.size:Int) !=64)=false:=by rw[h64];rfl
   have hz1:(s.toList==z1f.toList)=true:=by rw[hz];simp
   have HREP:=Lib.hid hrep
   clear hv hz h64 hrep
   refine(callsIn_wide (n:=4)).1 ?_
   refine callsIn_of_wp_marks Tryz.func40 rfl trivial ?_ rfl
   simp only[Tryz.ntmps40,List.size_toArray,List.length_cons,List.length_nil,Nat.reduceAdd,Nat.reduceSub,Array.replicate_succ,Array.replicate_zero,List.push_toArray,List.append_toArray,List.nil_append,List.cons_append]
   gi_wp2
   refine wpIn_wide.2 ?_
   refine wp_region_noPanic ?_
   refine wp_region_held_drew (S:=fun W'=>W'.cell? ⟨w.heap.size,0,none⟩=some (.string s)/\Below w.heap.size w W') (by kernel_rfl) (by exact⟨(World.cell?_alloc_lt (w.alloc (.cells #[.string s] 9)) _ ⟨w.heap.size,0,none⟩ (by simp)).trans (World.cell?_alloc_mark w _ _ _ 0),(za (za (Below.refl _ _) _) _).drew⟩) (fun hHeld=>?_)
   refine zq 0 (v:=?zv0) rfl (by kernel_rfl) (by kernel_rfl) (by kernel_rfl) (fun _ _ _ h=>h) (by rfl) ?zy0 (by assumption) ?zr0
   case zy0=>(intro w hSw;have ct:=hSw.1;go_simp);with_reducible rfl
   simp only[xPt]
   refine jf 1 rfl (by kernel_rfl) (by rfl) (fun K hK=>?_)
   go_simp;refine(HREP.out _).mono ?_;rintro e w1 ⟨rfl,hb1⟩;dsimp only
   refine hK.out _ _ ?zhs1 (fun hHeld=>?zrs1)
   case zhs1=>exact⟨(hb1.cell (p:=⟨w.heap.size,0,none⟩) (by simp;omega)).trans hHeld.1,zw hHeld.2 hb1⟩
   clear hK K
   try simp only[xPt]
   refine zq 2 (v:=?zv2) rfl (by kernel_rfl) (by kernel_rfl) (by kernel_rfl) (fun _ _ _ h=>h) (by rfl) ?zy2 (by assumption) ?zr2
   case zy2=>(intro w hSw;have ct:=hSw.1;go_simp);with_reducible rfl
   simp only[xPt]
   refine wpAnyH_done (by kernel_rfl) ?_ _
   refine NoPanic.normal ?_
   obtain⟨ct,hbel⟩:=hHeld
   have hres:AtF w1 (w.heap.size+1) Rec.nil.cells:=AtF.below (B:=w.heap.size+2) (AtF.box0 Rec.nil.cells 54 (by simp)) (hb1.mono (by simp)) (by omega)
   have e0:=(hres 0 _ rfl).1
   have q0:=(hres 0 _ rfl).2
   have e1:=(hres 1 _ rfl).1
   have q1:=(hres 1 _ rfl).2
   have e2:=(hres 2 _ rfl).1
   have q2:=(hres 2 _ rfl).2
   have e3:=(hres 3 _ rfl).1
   have q3:=(hres 3 _ rfl).2
   have e4:=(hres 4 _ rfl).1
   have q4:=(hres 4 _ rfl).2
   have e5:=(hres 5 _ rfl).1
   have q5:=(hres 5 _ rfl).2
   have e6:=(hres 6 _ rfl).1
   have q6:=(hres 6 _ rfl).2
   have e7:=(hres 7 _ rfl).1
   have q7:=(hres 7 _ rfl).2
   have e8:=(hres 8 _ rfl).1
   have q8:=(hres 8 _ rfl).2
   have e9:=(hres 9 _ rfl).1
   have q9:=(hres 9 _ rfl).2
   have HRES:=Lib.hid hres
   have HB:=Lib.hid hbel
   clear hres hbel hb1
   gi_wp2
   refine⟨_,yj _ (w.heap.size+1) Rec.nil _ (.int .i64 0) rfl rfl ?_,rfl, ?_⟩
   ·exact AtF.at_ (b:=w.heap.size+1) (l:=Rec.nil.cells) ((((((((((HRES.out.set 0 _).set 1 _).set 2 _).set 3 _).set 4 _).set 5 _).set 6 _).set 7 _).set 8 _).set 9 _)
   ·exact(z63 HB.out (by simp))
  ·exact callsIn_wide.1 (zhp stripe s 4 w (Nat.le_refl _) s1 s2 h64 hz hrep)
 ·have hv:z0R stripe s= .tuple #[Rec.nil.v,.int .i64 80]:=by
   unfold z0R jc
   rw[if_pos h]
  rw[hv]
  have hc:stripe<0\/(0<=stripe/\8<=stripe)\/(0<=stripe/\stripe<8/\((s.size:Int) !=64)=true):=by
   by_cases h0:stripe<0
   ·exact .inl h0
   ·by_cases h8:8<=stripe
    ·exact .inr (.inl ⟨by omega,h8⟩)
    ·refine .inr (.inr ⟨by omega,by omega, ?_⟩)
     rw[bne_iff_ne]
     exact fun e=>h ⟨by omega,by omega,by omega⟩
  clear h hv
  have hun:∀(tm:Array Value) (W:World),tm[4]?.getD undef= .pointer (some ⟨w.heap.size+1,0,none⟩)->tm[5]?.getD undef= .int .i64 80->(results Tryz.f40 tm).run Tryz.prog ((w.alloc (.cells #[.string s] 9)).alloc (.cells Rec.nil.cells.toArray 54))= .ok (.tuple #[Rec.nil.v,.int .i64 80]) ((w.alloc (.cells #[.string s] 9)).alloc (.cells Rec.nil.cells.toArray 54)):=fun tm W h4 h5=>
   yj tm (w.heap.size+1) Rec.nil _ _ h4 h5 (by
    have h:=At.box (w.alloc (.cells #[.string s] 9)) Rec.nil.cells 54
    rwa [World.size_alloc]at h)
  rcases hc with h|⟨h,h2⟩|⟨h,h2,h3⟩
  all_goals
   go_enter_defers Tryz.func40,Tryz.ntmps40
   go_wp2
   refine⟨_,hun _ w rfl rfl,rfl,za (za (Below.refl _ _) _) _⟩
end
end Go.Proofs.YtmfincpagnpkjaaGreat
