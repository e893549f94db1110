/- Part of the proof of one statement: what the program's functions compute. -/
import Derived.Sort.CutIn
import Derived.Test.YtmfincpagnpkjaaGreatM11
set_option linter.all false
set_option maxRecDepth 100000
set_option maxHeartbeats 100000000
namespace Go.Proofs.YtmfincpagnpkjaaGreat
section
open Go.RowKit Go.Shelf
attribute [local go_sem] Oper.semAt_some
theorem At.box (w:World) (l:List Value) (t:TypeId):At (w.alloc (.cells l.toArray t)) w.heap.size l:=fun j u hu=>by
 rw[World.cell?_alloc_mark]
 simpa using hu
theorem At.below {W W':World} {b B:Nat} {l:List Value} (h:At W b l) (hb:Below B W W') (hlt:b<B):At W' b l:=fun j u hu=>(hb.cell (p:=⟨b,j,none⟩) hlt).trans (h j u hu)
theorem At.alloc {W:World} {b:Nat} {l:List Value} (h:At W b l) (hlt:b<W.heap.size) (o:Obj):At (W.alloc o) b l:=h.below (Below.alloc (Below.refl W.heap.size W) (Nat.le_refl _) o) hlt
def zmd (used opn:Bool):UInt8:=match used,opn with
 |false,false=>0
 |true,false=>1
 |false,true=>2
 |true,true=>3
def zbG (stripe:Int) (used opn:Bool):List UInt8:=[83,by8 stripe,zmd used opn]++List.replicate 61 0
def z9a (l:List UInt8) (k:Nat) (v:Int):List UInt8:=((l.set (3+3*k) (by8 v)).set (3+3*k+1) (by8 (v/256))).set (3+3*k+2) (by8 (v/65536))
def z0d (r:Rec):List UInt8->Nat->List Off->List UInt8
 |l,_,[]=>l
 |l,k,x::xs=>z0d r (z9a l k (r.num x.1)) (k+1) xs
theorem z6g (r:Rec) (x:Off):∀(xs:List Off) (l:List UInt8) (k:Nat),z0d r l k (xs++[x])=z9a (z0d r l k xs) (k+xs.length) (r.num x.1)
 |[],l,k=>rfl
 |y::xs,l,k=>by
  rw[List.cons_append,z0d,z6g r x xs,List.length_cons,z0d]
  congr 1
  omega
theorem zak (l:List UInt8) (k:Nat) (v:Int):(z9a l k v).length=l.length:=by simp[z9a]
theorem z10 (r:Rec):∀(xs:List Off) (l:List UInt8) (k:Nat),(z0d r l k xs).length=l.length
 |[],_,_=>rfl
 |x::xs,l,k=>by rw[z0d,z10 r xs,zak]
theorem z1g.at_ {w:World} {g:Nat} {l:List UInt8} (h:z1g w g l) (j:Nat) (hj:j<l.length):∃v,w.cell? ⟨g,j,none⟩=some (.int .u8 v)/\w.frozen? ⟨g,j,none⟩=false:=
 ⟨_,h j l[j] (List.getElem?_eq_getElem hj)⟩
theorem z1g.put {W:World} {g k:Nat} {l:List UInt8} {v:Int} (h:z1g W g l) (v1:0<=v) (v2:v<=16777215):
  z1g (((W.setCell ⟨g,3+3*k,none⟩ (.int .u8 (v % 256))).setCell ⟨g,3+3*k+1,none⟩ (.int .u8 (v/256 % 256))).setCell ⟨g,3+3*k+2,none⟩ (.int .u8 (v/65536))) g (z9a l k v):=
 ((h.set_ (3+3*k) (by8 v) _ (z2W v).symm).set_ (3+3*k+1) (by8 (v/256)) _ (z2W _).symm).set_ (3+3*k+2) (by8 (v/65536)) _ (by rw[z2W];omega)
theorem z05 {A B:World} (h:KeepsOthers A B) (p:Addr) (v:Value):KeepsOthers A (B.setCell p v):=h.trans (KeepsOthers.setCell _ _ _)
theorem ziK {A B:World} (h:KeepsOthers A B):KeepsOthers A B.drew:=h.trans (KeepsOthers.drew _)
theorem z4k {b:Nat} {A B:World} (h:z0P b A B) (p:Addr) (v:Value) (hne:p.block≠b):z0P b A (B.setCell p v):=fun u hu=>(World.cell?_setCell_far B p ⟨b,0,none⟩ v hne).trans (h u hu)
theorem ziN {b:Nat} {A B:World} (h:z0P b A B):z0P b A B.drew:=h
theorem At.set {W:World} {b:Nat} {l:List Value} (h:At W b l) (p:Addr) (v:Value) (hne:p.block≠b):At (W.setCell p v) b l:=fun j u hu=>(World.cell?_setCell_far W p ⟨b,j,none⟩ v hne).trans (h j u hu)
theorem At.drew {W:World} {b:Nat} {l:List Value} (h:At W b l):At W.drew b l:=h
theorem z1g.far {W:World} {g:Nat} {l:List UInt8} (h:z1g W g l) (p:Addr) (v:Value) (hne:p.block≠g):z1g (W.setCell p v) g l:=fun j b hb=>
 ⟨(World.cell?_setCell_far W p ⟨g,j,none⟩ v hne).trans (h j b hb).1,by rw[World.frozen?_setCell];exact(h j b hb).2⟩
def Byt (g m:Nat) (W:World):Prop:=∃y,W.cell? ⟨g,m,none⟩=some (.int .u8 y)/\W.frozen? ⟨g,m,none⟩=false
theorem Byt.set {g m:Nat} {W:World} (h:Byt g m W) (k:Nat) (u:Int):Byt g m (W.setCell ⟨g,k,none⟩ (.int .u8 u)):=by
 obtain⟨y,hy,hf⟩:=h
 unfold Byt
 rw[World.frozen?_setCell]
 by_cases e:k=m
 ·subst e
  exact⟨u,World.cell?_setCell_same W _ _ hy,hf⟩
 ·exact⟨y,(World.cell?_setCell_other W _ _ _ (by intro h;injection h with _ h3;exact e h3)).trans hy,hf⟩
structure PkS (ba br x a g:Nat) (v:Int) (W:World):Prop where
 at_:W.cell? ⟨ba,0,none⟩=some (.int .i64 a)
 num:W.cell? ⟨br,x,none⟩=some (.int .i64 v)
 e0:Byt g a W
 e1:Byt g (a+1) W
 e2:Byt g (a+2) W
theorem PkS.set {ba br x a g:Nat} {v:Int} {W:World} (h:PkS ba br x a g v W) (h1:ba≠g) (h2:br≠g) (m:Nat) (u:Int):PkS ba br x a g v (W.setCell ⟨g,m,none⟩ (.int .u8 u)):=
 ⟨(World.cell?_setCell_far _ _ _ _ (Ne.symm h1)).trans h.at_,(World.cell?_setCell_far _ _ _ _ (Ne.symm h2)).trans h.num,h.e0.set m u,h.e1.set m u,h.e2.set m u⟩
theorem z5c (w:World) (b o:Nat) (v:Value):w.grownBy (w.setCell ⟨b,o,none⟩ v) (some b):=
 ⟨rfl,rfl,rfl,(KeepsWalks.setCell w _ v).size,fun k _ hk=>Below.heap_setCell _ _ _ k (fun e=>hk (by rw[e]))⟩
def spl:List UInt8->Nat->List UInt8->List UInt8
 |l,_,[]=>l
 |l,o,x::xs=>spl (l.set o x) (o+1) xs
theorem z3R:∀(xs l:List UInt8) (o:Nat),(spl l o xs).length=l.length
 |[],_,_=>rfl
 |x::xs,l,o=>by rw[spl,z3R xs,List.length_set]
theorem z1g.setCells {g:Nat}:∀(xs l:List UInt8) (o:Nat) (w:World),z1g w g l->z1g (w.setCells g o (zx xs)) g (spl l o xs)
 |[],_,_,_,h=>h
 |x::xs,l,o,_,h=>z1g.setCells xs (l.set o x) (o+1) _ (h.set_ o x _ rfl)
theorem z0k (g:Nat):∀(vs:List Value) (o:Nat) (w:World),w.grownBy (w.setCells g o vs) (some g)
 |[],_,_=>World.grownBy.refl _ _
 |v::vs,o,w=>by
  have h1:=z5c w g o v
  have h2:=z0k g vs (o+1) (w.setCell ⟨g,o,none⟩ v)
  exact⟨h2.os.trans h1.os,h2.tape.trans h1.tape,h2.output.trans h1.output,Nat.le_trans h1.size h2.size,fun k hk hne=>(h2.block k (Nat.lt_of_lt_of_le hk h1.size) hne).trans (h1.block k hk hne)⟩
theorem z64 {P:Program} {o:Oper} {a:Act} {w:World} {K:Act->World->Prop} {Q:Exit->Act->World->Prop} (d s:Operand) (dT sT:TypeId)
  (ho:o.op= .call {callee:=.builtin .copy,args:=#[d,s],argTypes:=#[dT,sT]}) (elem:TypeId) (hu:P.underlying dT=some (.slice elem)) (hsz:(P.info? elem).map (·.size)=some 1)
  (g off n c:Nat) (hd:a.eval d= .slice (some ⟨g,off,none⟩) n c) (str:ByteArray) (hs:a.eval s= .string str) (l:List UInt8) (hrow:z1g w g l) (hl:off+n<=l.length)
  (h:∀w',z1g w' g (spl l off (str.data.toList.take (Nat.min str.size n)))->w.grownBy w' (some g)->K (a.put o.dst (goInt (Nat.min str.size n))) w'):o.wp P a w K Q:=by
 obtain⟨i,hi,hi1⟩:=Option.map_eq_some_iff.1 hsz
 have hmn:Nat.min str.size n<=n:=Nat.min_le_right _ _
 have hst:=run_storeCells_cells (P:=P) g off (zx (str.data.toList.take (Nat.min str.size n))) 0 w (fun j hj=>by
  rw[ye,List.length_take]at hj
  rw[(hrow (off+0+j) _ (List.getElem?_eq_getElem (by omega))).1];rfl) (fun j hj=>by
  rw[ye,List.length_take]at hj
  exact(hrow (off+0+j) _ (List.getElem?_eq_getElem (by omega))).2) (z1t _)
 have hrun:(Builtin.copy_ #[dT,sT] o.type #[.slice (some ⟨g,off,none⟩) n c,.string str]).run P w= .ok (goInt (Nat.min str.size n)) (w.setCells g off (zx (str.data.toList.take (Nat.min str.size n)))):=by
  simp only[Builtin.copy_]
  simp[run_underlying hu,Builtin.lenOf,z1S,sizeOf,typeInfo,hi]
  simp at hst
  simp[hst]
 unfold Oper.wp
 simp[execOp,ho,resolve,invoke,builtin,hd,hs,hrun,Result.andThen]
 exact h _ (hrow.setCells _ _ _ _) (z0k g _ _ _)
def z1l (stripe:Int) (r:Rec):List UInt8:=spl (spl ((z0d r (zbG stripe r.used r.opn) 0 [o1,o2,o3,o6,o7]).set 18 (by8 r.mask)) 19 r.block.data.toList) 35 r.staged.data.toList
def z7H (stripe:Int) (r:Rec):Int:=zh3 ((z1l stripe r).take 61)
def zmI (stripe:Int) (r:Rec):List UInt8:=(((z1l stripe r).set 61 (by8 (z7H stripe r/65536))).set 62 (by8 (z7H stripe r/256))).set 63 (by8 (z7H stripe r))
def z2N (stripe:Int) (r:Rec):ByteArray:=⟨(zmI stripe r).toArray⟩
theorem z6Q {s:ByteArray} {t:Bool} (h:z8Q s t=true):s.size<=16:=by
 cases t
 ·have:s.size=0:=of_decide_eq_true h
  omega
 ·have:s.size=16:=of_decide_eq_true h
  omega
theorem zbp {r:Rec} (h:jg r=true):(∀x∈z2d,0<=r.num x/\r.num x<=16777215)/\r.block.size<=16/\r.staged.size<=16/\0<=r.mask/\r.mask<=63:=by
 unfold jg z7M z0h at h
 simp only[Bool.and_eq_true,decide_eq_true_eq]at h
 obtain⟨⟨⟨⟨⟨h1,h2⟩,h3⟩,h6⟩,h7⟩,⟨⟨⟨hm1,hm2⟩,hb,hs⟩,_⟩,_⟩:=h
 refine⟨fun x hx=>?_,z6Q hb,z6Q hs,hm1,hm2⟩
 simp only[z2d,List.mem_cons,List.not_mem_nil,or_false]at hx
 rcases hx with rfl|rfl|rfl|rfl|rfl
 ·exact z4C.1 h1
 ·exact z4C.1 h2
 ·exact z4C.1 h3
 ·exact z4C.1 h6
 ·exact z4C.1 h7
theorem z1g.lit (w:World) (l:List UInt8) (cs:Array Value) (t:TypeId) (hcs:cs.toList=zx l):z1g (w.alloc (.cells cs t)) w.heap.size l:=fun j b hb=>by
 have h:cs[j]?=some (.int .u8 (b.toNat:Int)):=by
  rw[<-Array.getElem?_toList,hcs]
  simp[zx,hb]
 exact⟨(World.cell?_alloc_mark w cs t (0,0) j).trans h,by rw[World.frozen?_alloc_mark];simp⟩
theorem zhH (r:Rec) (w:World) (hb:r.block.size<=9223372036854775807) (hs:r.staged.size<=9223372036854775807) (hR:jg r=false):
  Calls Tryz.prog 107 #[.agg #[.bool r.used,.int .i64 r.fence,.int .i64 r.de,.int .i64 r.ds,.string r.block,.bool r.opn,.int .i64 r.ie,.int .i64 r.iq,.int .i64 r.mask,.string r.staged]] w fun e w'=>e= .returned (.bool false)/\Below w.heap.size w w':=by
 have h:=z1P r w hb hs
 rw[hR]at h
 exact h
theorem zcE {w A A':World} {g:Nat} (h:Below w.heap.size w A) (hg:A.grownBy A' (some g)) (hB:w.heap.size<=g) (hs:w.heap.size<=A.heap.size):Below w.heap.size w A':=h.grown hg hs (fun k e=>by cases e;exact hB)
theorem z6a {w:World} {g:Nat} {l:List UInt8} {o:Obj} (h:z1g w g l) (hl:0<l.length) (ho:w.heap[g]?=some o):o.isCells=true:=by
 have hc:=(h 0 l[0] (List.getElem?_eq_getElem hl)).1
 unfold World.cell? at hc
 rw[ho]at hc
 cases o<;>simp_all [Obj.isCells]
theorem zkd (used opn:Bool) (f de ds ie iq m:Int) (blk stg:ByteArray) (w:World) (hb:blk.size<=9223372036854775807) (hs:stg.size<=9223372036854775807) (hR:jg ⟨used,f,de,ds,blk,opn,ie,iq,m,stg⟩=true):
  Calls Tryz.prog 107 #[.agg #[.bool used,.int .i64 f,.int .i64 de,.int .i64 ds,.string blk,.bool opn,.int .i64 ie,.int .i64 iq,.int .i64 m,.string stg]] w fun e w'=>e= .returned (.bool true)/\Below w.heap.size w w':=by
 have h:=z1P ⟨used,f,de,ds,blk,opn,ie,iq,m,stg⟩ w hb hs
 rw[hR]at h
 exact h
theorem zlR (stripe:Int) (used opn:Bool) (f de ds ie iq m:Int) (blk stg:ByteArray) (n:Nat) (w:World) (hn:4<=n) (s1:0<=stripe) (s2:stripe<8)
  (hR:jg ⟨used,f,de,ds,blk,opn,ie,iq,m,stg⟩=true):
  CallsIn Fence.wide n Tryz.prog 76 #[.int .i64 stripe,.agg #[.bool used,.int .i64 f,.int .i64 de,.int .i64 ds,.string blk,.bool opn,.int .i64 ie,.int .i64 iq,.int .i64 m,.string stg]] w
   fun e w'=>e= .returned (.tuple #[.string (z2N stripe ⟨used,f,de,ds,blk,opn,ie,iq,m,stg⟩),.int .i64 0])/\Below w.heap.size w w':=by
 have h1:1<=n:=by omega
 have hF:∀k,Fence.wide.fn k:=fun _=>trivial
 have hro:Fence.wide.round=none:=rfl
 obtain⟨hrng,hblk,hstg,m1,m2⟩:=zbp hR
 replace hblk:blk.size<=16:=hblk
 replace hstg:stg.size<=16:=hstg
 replace m1:0<=m:=m1
 replace m2:m<=63:=m2
 obtain⟨R,hRd⟩:∃R:Rec,R=⟨used,f,de,ds,blk,opn,ie,iq,m,stg⟩:=⟨_,rfl⟩
 have hcl:R.cells=[.bool used,.int .i64 f,.int .i64 de,.int .i64 ds,.string blk,.bool opn,.int .i64 ie,.int .i64 iq,.int .i64 m,.string stg]:=by rw[hRd];rfl
 have hat0:=At.box w R.cells 54
 rw[hcl]at hat0
 obtain⟨L0,hL0⟩:∃L0,L0=zbG stripe used opn:=⟨_,rfl⟩
 have hll:L0.length=64:=by rw[hL0];rfl
 have hpb:z2N stripe R=z2N stripe ⟨used,f,de,ds,blk,opn,ie,iq,m,stg⟩:=by rw[hRd]
 have hbody:z1l stripe R=spl (spl ((z0d R L0 0 [o1,o2,o3,o6,o7]).set 18 (by8 m)) 19 blk.data.toList) 35 stg.data.toList:=by rw[hL0,hRd];rfl
 rw[<-hpb]
 rw[<-hRd]at hrng
 have HRNG:=Lib.hid hrng
 have HRC:=Lib.hid hcl
 have HL0:=Lib.hid hL0
 have HLL:=Lib.hid hll
 have HBODY:=Lib.hid hbody
 have HR:=Lib.hid hR
 have hb:blk.size<=9223372036854775807:=by omega
 have hs:stg.size<=9223372036854775807:=by omega
 clear hR hrng hcl hL0 hll hbody hpb hRd
 refine callsIn_of_wp_marks Tryz.func76 rfl (hF _) ?_ hro
 simp only[Tryz.ntmps76,List.size_toArray,List.length_cons,List.length_nil,Nat.reduceAdd,Nat.reduceSub,Array.replicate_succ,Array.replicate_zero,List.push_toArray,List.append_toArray,List.nil_append,List.cons_append]
 gi_upto_if 26 with(gi_at_call 107;refine(callsIn_wide.2 (zkd _ _ f de ds ie iq m blk stg _ hb hs HR.out)).mono ?_;rintro e w1 ⟨rfl,hb1⟩;have hat:=hat0.below hb1 (by simp);have hz:w.heap.size<w1.heap.size:=Nat.lt_of_lt_of_le (by simp) hb1.size;have c0:=hat 0 _ rfl)
 have hbw1:Below w.heap.size w w1:=zw (za (Below.refl _ _) _) hb1
 have HATW:Hid (At w1 w.heap.size R.cells):=Lib.hid (by rw[HRC.out];exact hat)
 gi_cut []from 27 (fun wx=>z1g wx w1.heap.size (zbG stripe used false)/\At wx w.heap.size R.cells/\w1.heap.size<wx.heap.size/\Below w.heap.size w wx)
 case first=>
  cases used
  all_goals
   gi_wp2
   gi_meet
   refine⟨z1g.lit w1 _ _ _ ?_,At.alloc HATW.out hz _,by simp,za hbw1 _⟩
   have h8:stripe % 256=stripe:=by omega
   simp[zx,zbG,z2W,zmd,h8]
   try decide
 obtain⟨hrow1,hat1,hsz1,hbx1⟩:=hcut
 have h2:=hrow1 2 (zmd used false) rfl
 have k2:=h2.1
 have f2:=h2.2
 have c5:=hat1 5 (.bool opn) (by rw[HRC.out];rfl)
 have HROW1:=Lib.hid hrow1
 have HAT1:=Lib.hid hat1
 clear hrow1 hat1 h2 hat
 gi_upto_if 32 with fail
 gi_cut []from 33 (fun wy=>z1g wy w1.heap.size L0/\At wy w.heap.size R.cells/\w1.heap.size<wy.heap.size/\Below w.heap.size w wy)
 case first=>
  cases opn
  ·gi_wp2
   gi_meet
   exact⟨by rw[HL0.out];exact HROW1.out,HAT1.out,hsz1,hbx1⟩
  ·gi_wp2
   gi_meet
   refine⟨?_,HAT1.out.set _ _ (by simp;omega),by simpa using hsz1,hbx1.setCell (p:=⟨w1.heap.size,2,none⟩) (by simp;omega) _⟩
   rw[HL0.out]
   cases used
   ·exact HROW1.out.set_ 2 2 _ (by decide)
   ·exact HROW1.out.set_ 2 3 _ (by decide)
 case rest=>
  obtain⟨hrow0,hat0',hgx,hbx⟩:=hcut
  obtain⟨wx,hwx⟩:∃wx,wx=wc:=⟨_,rfl⟩
  obtain⟨g,hgd⟩:∃g,g=w1.heap.size:=⟨_,rfl⟩
  rw[<-hwx,<-hgd]at hrow0
  rw[<-hwx]at hat0' hgx hbx⊢
  rw[<-hgd]at hgx hz⊢
  have hgz:=hz
  have HROW0:=Lib.hid hrow0
  have HAT2:=Lib.hid hat0'
  have HBW1:=Lib.hid hbx
  clear hrow0 hat0' hbx hat0 hwx hgd k2 f2 c5 hbx1 hsz1 hb1 hbw1 c0 hz
  gi_wp2_with (gi_at_call 75;refine(z2P _ _ Fence.wide (n-1) (hF _) hro).mono ?_;rintro e w' ⟨rfl,rfl⟩)
  refine zbt hro h1 (gf:=106) (lb:=#[.pointer (some ⟨wx.heap.size+1,0,none⟩)]) rfl (hF _) (enters_of Tryz.func106 (by kernel_rfl) rfl)
   (e:=fun x:Off=>.pointer (some ⟨w.heap.size,x.1,none⟩)) (z5C Fence.wide (n-1) (hF _) hro (by omega) (wx.heap.size+1) w.heap.size _ (World.cell?_alloc_at _ _ _ _ (by simp)) (by simp)) z4y (fun W l o o' _ h hc _=>z4z W l o o' h hc) (Below.refl _ _) (by simp)
   (fun pre W=>(At W w.heap.size R.cells/\W.cell? ⟨wx.heap.size,0,none⟩=some (.int .i64 (3+3*pre.length:Nat))/\W.frozen? ⟨wx.heap.size,0,none⟩=false
     /\z1g W g (z0d R L0 0 pre)/\pre.length<=5)/\Below w.heap.size w W)
   (fun _ _ _=>False)
   (OwnFrom.and (Own.from (fun s A B row hs hg hr=>⟨hs.1.kept hg hr,cell_kept hs.2.1 hg hr,(frozen_kept hs.2.1 hg hr).trans hs.2.2.1,fun j b hj=>⟨cell_kept (hs.2.2.2.1 j b hj).1 hg hr,(frozen_kept (hs.2.2.2.1 j b hj).1 hg hr).trans (hs.2.2.2.1 j b hj).2⟩,hs.2.2.2.2⟩) _) (ownFrom_below (Nat.le_refl _) (by simp;omega)))
   (fun _ _ _ _ _ h _ _=>h)
   ?init ?body ?done ?stop
  case init=>
   exact⟨⟨(HAT2.out.alloc (by omega) _).alloc (by simp;omega) _,by simp[go_sem],by simp[go_sem],z1g.alloc (z1g.alloc HROW0.out hgx _) (by simp;omega) _,by simp⟩,za (za HBW1.out _) _⟩
  case body=>
   rintro l pre ⟨x,hx⟩ W ⟨⟨hat',hca,hfa,hrow,hlen⟩,hbw⟩ hlt
   have hcx:=hat'.cell x _ (R.num_cell hx)
   have hl64:(z0d R L0 0 pre).length=64:=by rw[z10,HLL.out]
   obtain⟨v,hv⟩:∃v,v=R.num x:=⟨_,rfl⟩
   obtain⟨a,ha⟩:∃a,a=3+3*pre.length:=⟨_,rfl⟩
   have ha2:a+2<64:=by omega
   rw[<-hv]at hcx
   rw[<-ha]at hca
   have hPk:PkS (wx.heap.size) w.heap.size x a g v W.drew:=by
    exact⟨hca,hcx,hrow.at_ a (by omega),hrow.at_ (a+1) (by omega),hrow.at_ (a+2) (by omega)⟩
   have v1:0<=v:=by rw[hv];exact(HRNG.out x hx).1
   have v2:v<=16777215:=by rw[hv];exact(HRNG.out x hx).2
   have HROW:=Lib.hid hrow
   have HV:=Lib.hid hv
   have HA:=Lib.hid ha
   have HATR:=Lib.hid hat'
   clear hrow hv ha hl64 hat'
   have i0:(0:Int)<=(a:Int):=by omega
   have i1:(a:Int)<64:=by omega
   have i2:(a:Int)+1<64:=by omega
   have i8:(0:Int)<=(a:Int)+1:=by omega
   have i9:(0:Int)<=(a:Int)+2:=by omega
   have i3:(a:Int)+2<64:=by omega
   have i4:IntKind.i64.wrap ((a:Int)+1)=(a:Int)+1:=IntWalk.i64_in _ (by omega)
   have i5:IntKind.i64.wrap ((a:Int)+2)=(a:Int)+2:=IntWalk.i64_in _ (by omega)
   have i6:((a:Int)+1).toNat=a+1:=by omega
   have i7:((a:Int)+2).toNat=a+2:=by omega
   dsimp only
   gi_wp2
   refine z30 (S:=PkS (wx.heap.size) w.heap.size x a g v) (by kernel_rfl) (by kernel_rfl) (fun⟨_,_,h⟩=>h) (by exact hPk) (fun hHeld=>?_)
   refine zq 0 (v:=?v0) rfl (by kernel_rfl) (by kernel_rfl) (by kernel_rfl) (fun _ _ _ h=>h) (by rfl) ?y0 (by assumption) ?r0
   case y0=>(intro w hSw;have ct:=hSw.at_;have cn:=hSw.num;go_simp);with_reducible rfl
   simp only[xPt]
   refine zq 1 (v:=?v1) rfl (by kernel_rfl) (by kernel_rfl) (by kernel_rfl) (fun _ _ _ h=>h) (by rfl) ?y1 (by assumption) ?r1
   case y1=>(intro w hSw;have ct:=hSw.at_;have cn:=hSw.num;go_simp);with_reducible rfl
   simp only[xPt]
   refine zq 2 (v:=?v2) rfl (by kernel_rfl) (by kernel_rfl) (by kernel_rfl) (fun _ _ _ h=>h) (by rfl) ?y2 (by assumption) ?r2
   case y2=>(intro w hSw;have ct:=hSw.at_;have cn:=hSw.num;go_simp);with_reducible rfl
   simp only[xPt]
   refine zq 3 (v:=?v3) rfl (by kernel_rfl) (by kernel_rfl) (by kernel_rfl) (fun _ _ _ h=>h) (by rfl) ?y3 (by assumption) ?r3
   case y3=>(intro w hSw;have ct:=hSw.at_;have cn:=hSw.num;go_simp);with_reducible rfl
   simp only[xPt]
   refine zq 4 (v:=?v4) rfl (by kernel_rfl) (by kernel_rfl) (by kernel_rfl) (fun _ _ _ h=>h) (by rfl) ?y4 (by assumption) ?r4
   case y4=>(intro w hSw;have ct:=hSw.at_;have cn:=hSw.num;go_simp);with_reducible rfl
   simp only[xPt]
   refine zq 5 (v:=?v5) rfl (by kernel_rfl) (by kernel_rfl) (by kernel_rfl) (fun _ _ _ h=>h) (by rfl) ?y5 (by assumption) ?r5
   case y5=>(intro w hSw;have ct:=hSw.at_;have cn:=hSw.num;go_simp);with_reducible rfl
   simp only[xPt]
   refine zq 6 (v:=?v6) rfl (by kernel_rfl) (by kernel_rfl) (by kernel_rfl) (fun _ _ _ h=>h) (by rfl) ?y6 (by assumption) ?r6
   case y6=>(intro w hSw;have ct:=hSw.at_;have cn:=hSw.num;go_simp);with_reducible rfl
   simp only[xPt]
   refine zq 7 (v:=?v7) rfl (by kernel_rfl) (by kernel_rfl) (by kernel_rfl) (fun _ _ _ h=>h) (by rfl) ?y7 (by assumption) ?r7
   case y7=>(intro w hSw;have ct:=hSw.at_;have cn:=hSw.num;go_simp);with_reducible rfl
   simp only[xPt]
   refine zq 8 (v:=?v8) rfl (by kernel_rfl) (by kernel_rfl) (by kernel_rfl) (fun _ _ _ h=>h) (by rfl) ?y8 (by assumption) ?r8
   case y8=>(intro w hSw;have ct:=hSw.at_;have cn:=hSw.num;go_simp);with_reducible rfl
   simp only[xPt]
   refine zq 9 (v:=?v9) rfl (by kernel_rfl) (by kernel_rfl) (by kernel_rfl) (fun _ _ _ h=>h) (by rfl) ?y9 (by assumption) ?r9
   case y9=>(intro w hSw;have ct:=hSw.at_;have cn:=hSw.num;go_simp);with_reducible rfl
   simp only[xPt]
   refine zq 10 (v:=?v10) rfl (by kernel_rfl) (by kernel_rfl) (by kernel_rfl) (fun _ _ _ h=>h) (by rfl) ?y10 (by assumption) ?r10
   case y10=>(intro w hSw;have ct:=hSw.at_;have cn:=hSw.num;go_simp);with_reducible rfl
   simp only[xPt]
   refine zq 11 (v:=?v11) rfl (by kernel_rfl) (by kernel_rfl) (by kernel_rfl) (fun _ _ _ h=>h) (by rfl) ?y11 (by assumption) ?r11
   case y11=>(intro w hSw;have ct:=hSw.at_;have cn:=hSw.num;go_simp);with_reducible rfl
   simp only[xPt]
   refine zq 12 (v:=?v12) rfl (by kernel_rfl) (by kernel_rfl) (by kernel_rfl) (fun _ _ _ h=>h) (by rfl) ?y12 (by assumption) ?r12
   case y12=>(intro w hSw;have ct:=hSw.at_;have cn:=hSw.num;go_simp);with_reducible rfl
   simp only[xPt]
   refine zq 13 (v:=?v13) rfl (by kernel_rfl) (by kernel_rfl) (by kernel_rfl) (fun _ _ _ h=>h) (by rfl) ?y13 (by assumption) ?r13
   case y13=>(intro w hSw;have ct:=hSw.at_;have cn:=hSw.num;go_simp);with_reducible rfl
   simp only[xPt]
   refine zq 14 (v:=?v14) rfl (by kernel_rfl) (by kernel_rfl) (by kernel_rfl) (fun _ _ _ h=>h) (by rfl) ?y14 (by assumption) ?r14
   case y14=>(intro w hSw;have ct:=hSw.at_;have cn:=hSw.num;go_simp);with_reducible rfl
   simp only[xPt]
   refine zq 15 (v:=?v15) rfl (by kernel_rfl) (by kernel_rfl) (by kernel_rfl) (fun _ _ _ h=>h) (by rfl) ?y15 (by assumption) ?r15
   case y15=>(intro w hSw;have ct:=hSw.at_;have cn:=hSw.num;go_simp);with_reducible rfl
   simp only[xPt]
   refine zq 16 (v:=?v16) rfl (by kernel_rfl) (by kernel_rfl) (by kernel_rfl) (fun _ _ _ h=>h) (by rfl) ?y16 (by assumption) ?r16
   case y16=>(intro w hSw;have ct:=hSw.at_;have cn:=hSw.num;go_simp);with_reducible rfl
   simp only[xPt]
   refine zq 17 (v:=?v17) rfl (by kernel_rfl) (by kernel_rfl) (by kernel_rfl) (fun _ _ _ h=>h) (by rfl) ?y17 (by assumption) ?r17
   case y17=>(intro w hSw;have ct:=hSw.at_;have cn:=hSw.num;go_simp);with_reducible rfl
   simp only[xPt]
   refine zq 18 (v:=?v18) rfl (by kernel_rfl) (by kernel_rfl) (by kernel_rfl) (fun _ _ _ h=>h) (by rfl) ?y18 (by assumption) ?r18
   case y18=>(intro w hSw;have ct:=hSw.at_;have cn:=hSw.num;go_simp);with_reducible rfl
   simp only[xPt]
   refine zq 19 (v:=?v19) rfl (by kernel_rfl) (by kernel_rfl) (by kernel_rfl) (fun _ _ _ h=>h) (by rfl) ?y19 (by assumption) ?r19
   case y19=>(intro w hSw;have ct:=hSw.at_;have cn:=hSw.num;go_simp);with_reducible rfl
   simp only[xPt]
   refine jf 20 rfl (by kernel_rfl) (by rfl) (fun K hK=>?_)
   have ct:=hHeld.at_;have cn:=hHeld.num;obtain⟨y0,k0,g0⟩:=hHeld.e0;obtain⟨y1,k1,g1⟩:=hHeld.e1;obtain⟨y2,k2,g2⟩:=hHeld.e2
   go_simp
   refine hK.out _ _ ?hs20 (fun hHeld=>?rs20)
   case hs20=>exact hHeld.set (by omega) (by omega) _ _
   clear hK K
   try simp only[xPt]
   refine zq 21 (v:=?v21) rfl (by kernel_rfl) (by kernel_rfl) (by kernel_rfl) (fun _ _ _ h=>h) (by rfl) ?y21 (by assumption) ?r21
   case y21=>(intro w hSw;have ct:=hSw.at_;have cn:=hSw.num;go_simp);with_reducible rfl
   simp only[xPt]
   refine jf 22 rfl (by kernel_rfl) (by rfl) (fun K hK=>?_)
   have ct:=hHeld.at_;have cn:=hHeld.num;obtain⟨y0,k0,g0⟩:=hHeld.e0;obtain⟨y1,k1,g1⟩:=hHeld.e1;obtain⟨y2,k2,g2⟩:=hHeld.e2
   go_simp
   refine hK.out _ _ ?hs22 (fun hHeld=>?rs22)
   case hs22=>exact hHeld.set (by omega) (by omega) _ _
   clear hK K
   try simp only[xPt]
   refine zq 23 (v:=?v23) rfl (by kernel_rfl) (by kernel_rfl) (by kernel_rfl) (fun _ _ _ h=>h) (by rfl) ?y23 (by assumption) ?r23
   case y23=>(intro w hSw;have ct:=hSw.at_;have cn:=hSw.num;go_simp);with_reducible rfl
   simp only[xPt]
   refine jf 24 rfl (by kernel_rfl) (by rfl) (fun K hK=>?_)
   have ct:=hHeld.at_;have cn:=hHeld.num;obtain⟨y0,k0,g0⟩:=hHeld.e0;obtain⟨y1,k1,g1⟩:=hHeld.e1;obtain⟨y2,k2,g2⟩:=hHeld.e2
   go_simp
   refine hK.out _ _ ?hs24 (fun hHeld=>?rs24)
   case hs24=>exact hHeld.set (by omega) (by omega) _ _
   clear hK K
   try simp only[xPt]
   refine wpAnyH_done (by kernel_rfl) ?_ _
   have hrow2:=(HROW.out.put (k:=pre.length) (v:=v) v1 v2)
   rw[<-HA.out]at hrow2
   have hpn:z0d R L0 0 (pre++[⟨x,hx⟩])=z9a (z0d R L0 0 pre) pre.length v:=by
    rw[z6g,Nat.zero_add,HV.out]
   have HPN:=Lib.hid hpn
   have HR2:=Lib.hid hrow2
   have ct:=hHeld.at_
   clear hpn hrow2 hHeld hPk
   gi_wp2
   have hne1:g≠wx.heap.size:=by omega
   have hne2:g≠wx.heap.size+1:=by omega
   have hne3:wx.heap.size≠wx.heap.size+1:=by omega
   have hne4:g≠w.heap.size:=by omega
   have hne5:wx.heap.size≠w.heap.size:=by omega
   refine⟨ziK (z05 (z05 (z05 (z05 (KeepsOthers.refl _) _ _) _ _) _ _) _ _),ziN (z4k (z4k (z4k (z4k (fun v h=>h) _ _ hne2) _ _ hne2) _ _ hne2) _ _ hne3),⟨At.drew ((((HATR.out.set _ _ hne4).set _ _ hne4).set _ _ hne4).set _ _ hne5), ?k4, ?k5, ?k6, ?k7⟩, ?k8⟩
   case k4=>
    have h3:=(z4k (z4k (z4k (b:=wx.heap.size) (fun v h=>h) ⟨g,a,none⟩ (.int .u8 (v % 256)) hne1) ⟨g,a+1,none⟩ (.int .u8 (v/256 % 256)) hne1) ⟨g,a+2,none⟩ (.int .u8 (v/65536)) hne1) _ hca
    refine(World.cell?_setCell_same _ _ _ h3).trans ?_
    rw[HA.out,List.length_append,List.length_singleton]
    congr 2
   case k5=>
    rw[World.frozen?_drew,World.frozen?_setCell,World.frozen?_setCell,World.frozen?_setCell,World.frozen?_setCell]
    exact hfa
   case k6=>
    rw[HPN.out]
    exact(HR2.out.far _ _ (by simp;omega)).drew
   case k7=>rw[List.length_append,List.length_singleton];omega
   case k8=>exact((((hbw.setCell (p:=⟨g,a,none⟩) (by simp;omega) _).setCell (p:=⟨g,a+1,none⟩) (by simp;omega) _).setCell (p:=⟨g,a+2,none⟩) (by simp;omega) _).setCell (p:=⟨wx.heap.size,0,none⟩) (by simp;omega) _).drew
  case done=>
   rintro D xs W hD rfl ⟨⟨hat,hca,hfa,hrow,hlen⟩,hbw⟩ hK
   have hl64:(z0d R L0 0 [o1,o2,o3,o6,o7]).length=64:=by rw[z10,HLL.out]
   obtain⟨y,k18,f18⟩:=hrow.at_ 18 (by omega)
   have c8:=hat 8 (.int .i64 m) (by rw[HRC.out];rfl)
   have hgw:(⟨g,18,none⟩:Addr).block≠w.heap.size:=by simp;omega
   have hat2:=hat.set ⟨g,18,none⟩ (.int .u8 m) hgw
   have d4:=hat2 4 (.string blk) (by rw[HRC.out];rfl)
   have d9:=hat2 9 (.string stg) (by rw[HRC.out];rfl)
   have HRW:=Lib.hid (hrow.set_ 18 (by8 m) m (by rw[z2W];omega))
   have HRWL:Hid (((z0d R L0 0 [o1,o2,o3,o6,o7]).set 18 (by8 m)).length=64):=Lib.hid (by rw[List.length_set];exact hl64)
   have hD2:w.heap.size<=D:=by simp at hD;omega
   have hKD:Hid ((W.setCell ⟨g,18,none⟩ (.int .u8 m)).heap[D]?=some (.deferred (some []))):=Lib.hid ((KeepsOthers.setCell _ _ _).same D _ hK rfl)
   have HB0:Hid (Below w.heap.size w (W.setCell ⟨g,18,none⟩ (.int .u8 m))):=Lib.hid (hbw.setCell (p:=⟨g,18,none⟩) (by simp;omega) _)
   clear hat hat2 hca hfa hrow hlen hl64 hD hgw hK hbw
   gi_wp2
   refine wpIn_wide.2 ?_
   refine wp_region_noPanic ?_
   refine wp_region_held_drew (S:=fun W'=>W'.cell? ⟨w.heap.size,4,none⟩=some (.string blk)) (by kernel_rfl) (by exact d4) (fun hHeld=>?_)
   refine zq 0 (v:=?av0) rfl (by kernel_rfl) (by kernel_rfl) (by kernel_rfl) (fun _ _ _ h=>h) (by rfl) ?ay0 (by assumption) ?ar0
   case ay0=>(intro w hSw;(try dsimp only at hSw);(try go_split_ands);go_simp);with_reducible rfl
   simp only[xPt]
   refine zq 1 (v:=?av1) rfl (by kernel_rfl) (by kernel_rfl) (by kernel_rfl) (fun _ _ _ h=>h) (by rfl) ?ay1 (by assumption) ?ar1
   case ay1=>(intro w hSw;(try dsimp only at hSw);(try go_split_ands);go_simp);with_reducible rfl
   simp only[xPt]
   refine zq 2 (v:=?av2) rfl (by kernel_rfl) (by kernel_rfl) (by kernel_rfl) (fun _ _ _ h=>h) (by rfl) ?ay2 (by assumption) ?ar2
   case ay2=>(intro w hSw;(try dsimp only at hSw);(try go_split_ands);go_simp);with_reducible rfl
   simp only[xPt]
   refine jf 3 rfl (by kernel_rfl) (by rfl) (fun K hK=>?_)
   refine z64 (.tmp 67) (.tmp 69) 101 9 rfl 5 Tryz.underlying101 zhr g 19 45 45 rfl blk rfl _ HRW.out.drew (by have:=HRWL.out;omega) ?_;intro w3 hrw3 hgw3
   refine hK.out _ _ ?ahs3 (fun hHeld=>?ars3)
   case ahs3=>exact(hgw3.cell (a:=⟨w.heap.size,4,none⟩) hHeld (by simp;omega))
   clear hK K
   try simp only[xPt]
   refine wpAnyH_done (by kernel_rfl) ?_ _
   refine NoPanic.normal ?_
   gi_wp2_with fail
   have d9':=hgw3.cell (a:=⟨w.heap.size,9,none⟩) d9 (by simp;omega)
   have hKD3:=(KeepsOthers.of_grownBy hgw3 (fun j o ej hj=>by cases ej;exact z6a HRW.out.drew (by have:=HRWL.out;omega) hj)).same D _ hKD.out rfl
   have HKD3:=Lib.hid hKD3
   have HB3:=Lib.hid (zcE HB0.out.drew hgw3 (by omega) HB0.out.size)
   have e45:blk.data.toList.take (Nat.min blk.size 45)=blk.data.toList:=List.take_of_length_le (by rw[zf];exact Nat.le_min.2 ⟨Nat.le_refl _,by omega⟩)
   rw[e45]at hrw3
   have HR3:=Lib.hid hrw3
   have HR3L:Hid (_=64):=Lib.hid ((z3R blk.data.toList ((z0d R L0 0 [o1,o2,o3,o6,o7]).set 18 (by8 m)) 19).trans HRWL.out)
   clear d4 d9 k18 f18 c8 hHeld hKD3 hrw3 e45
   have d9:=d9'
   clear d9'
   refine wpIn_wide.2 ?_
   refine wp_region_noPanic ?_
   refine wp_region_held_drew (S:=fun W'=>W'.cell? ⟨w.heap.size,9,none⟩=some (.string stg)) (by kernel_rfl) (by exact d9) (fun hHeld=>?_)
   refine zq 0 (v:=?bv0) rfl (by kernel_rfl) (by kernel_rfl) (by kernel_rfl) (fun _ _ _ h=>h) (by rfl) ?by0 (by assumption) ?br0
   case by0=>(intro w hSw;(try dsimp only at hSw);(try go_split_ands);go_simp);with_reducible rfl
   simp only[xPt]
   refine zq 1 (v:=?bv1) rfl (by kernel_rfl) (by kernel_rfl) (by kernel_rfl) (fun _ _ _ h=>h) (by rfl) ?by1 (by assumption) ?br1
   case by1=>(intro w hSw;(try dsimp only at hSw);(try go_split_ands);go_simp);with_reducible rfl
   simp only[xPt]
   refine zq 2 (v:=?bv2) rfl (by kernel_rfl) (by kernel_rfl) (by kernel_rfl) (fun _ _ _ h=>h) (by rfl) ?by2 (by assumption) ?br2
   case by2=>(intro w hSw;(try dsimp only at hSw);(try go_split_ands);go_simp);with_reducible rfl
   simp only[xPt]
   refine jf 3 rfl (by kernel_rfl) (by rfl) (fun K hK=>?_)
   refine z64 (.tmp 71) (.tmp 73) 101 9 rfl 5 Tryz.underlying101 zhr g 35 29 29 rfl stg rfl _ HR3.out.drew (by have:=HR3L.out;omega) ?_;intro w4 hrw4 hgw4
   refine hK.out _ _ ?bhs3 (fun hHeld=>?brs3)
   case bhs3=>exact(hgw4.cell (a:=⟨w.heap.size,9,none⟩) hHeld (by simp;omega))
   clear hK K
   try simp only[xPt]
   refine wpAnyH_done (by kernel_rfl) ?_ _
   refine NoPanic.normal ?_
   gi_wp2_with fail
   have hKD4:=(KeepsOthers.of_grownBy hgw4 (fun j o ej hj=>by cases ej;exact z6a HR3.out.drew (by have:=HR3L.out;omega) hj)).same D _ HKD3.out rfl
   have HKD4:=Lib.hid hKD4
   have HB4:=Lib.hid (zcE HB3.out.drew hgw4 (by omega) HB3.out.size)
   have e29:stg.data.toList.take (Nat.min stg.size 29)=stg.data.toList:=List.take_of_length_le (by rw[zf];exact Nat.le_min.2 ⟨Nat.le_refl _,by omega⟩)
   rw[e29]at hrw4
   rw[<-HBODY.out]at hrw4
   have HR4:=Lib.hid hrw4
   have HR4L:Hid ((z1l stripe R).length=64):=Lib.hid (by rw[HBODY.out,z3R];exact HR3L.out)
   clear d9 hHeld hKD4 hrw4 e29
   have hcv1:=yw (P:=Tryz.prog) Tryz.underlying101 Tryz.underlying5 Tryz.underlying9 (l:=(z1l stripe R).take 61) (w:=w4) (g:=g) (fun j b hj=>HR4.out j b (by rw[List.getElem?_take]at hj;split at hj;exact hj;cases hj)) 61 64 (by rw[List.length_take,HR4L.out];rfl)
   obtain⟨t61,ht61⟩:∃t61:ByteArray,t61=⟨((z1l stripe R).take 61).toArray⟩:=⟨_,rfl⟩
   rw[<-ht61]at hcv1
   obtain⟨sm,hsm⟩:∃sm,sm=zh3 t61.data.toList:=⟨_,rfl⟩
   have hsz61:t61.size<=9223372036854775807:=by rw[ht61,z1w,List.length_take];have:=Nat.min_le_left 61 (z1l stripe R).length;omega
   have hsm2:sm=z7H stripe R:=by rw[hsm,ht61];simp[z7H]
   obtain⟨y1,k1,f1⟩:=HR4.out.at_ 61 (by have:=HR4L.out;omega)
   obtain⟨y2,k2,f2⟩:=HR4.out.at_ 62 (by have:=HR4L.out;omega)
   obtain⟨y3,k3,f3⟩:=HR4.out.at_ 63 (by have:=HR4L.out;omega)
   have hrow5:=((HR4.out.set_ 61 (by8 (sm/65536)) (sm/65536 % 256) (z2W _).symm).set_ 62 (by8 (sm/256)) (sm/256 % 256) (z2W _).symm).set_ 63 (by8 sm) (sm % 256) (z2W _).symm
   have hcv2:=yw (P:=Tryz.prog) Tryz.underlying101 Tryz.underlying5 Tryz.underlying9 hrow5 64 64 (by simp only[List.length_set];exact HR4L.out)
   have hpk:(ByteArray.mk ((((z1l stripe R).set 61 (by8 (sm/65536))).set 62 (by8 (sm/256))).set 63 (by8 sm)).toArray)=z2N stripe R:=by rw[hsm2];rfl
   rw[hpk]at hcv2
   have HSM:=Lib.hid hsm
   clear hrow5 hpk hsm2 ht61 hsm
   gi_wp2
   rw[hcv1]
   simp only[Result.andThen_ok,Oper.uponIn_value]
   gi_wp2_with (gi_at_call 108;refine(callsIn_wide.2 (zbe _ _ hsz61)).mono ?_;rintro e w' ⟨rfl,rfl⟩;rw[<-HSM.out])
   have hK5:=(z05 (z05 (z05 (KeepsOthers.refl w4) ⟨g,61,none⟩ (.int .u8 (sm/65536 % 256))) ⟨g,62,none⟩ (.int .u8 (sm/256 % 256))) ⟨g,63,none⟩ (.int .u8 (sm % 256))).same D _ HKD4.out rfl
   refine⟨by simp,.inl ⟨_,_,rfl,run_takeDeferred hK5, ?_⟩⟩
   refine⟨_,results_tmp2 rfl _ _ _,rfl, ?_⟩
   exact(((HB4.out.setCell (p:=⟨g,61,none⟩) (by simp;omega) _).setCell (p:=⟨g,62,none⟩) (by simp;omega) _).setCell (p:=⟨g,63,none⟩) (by simp;omega) _).trans (belowK_b (w:=w) (Nat.le_refl _) _ D _ _ hD2 hK5 rfl rfl)
  case stop=>
   rintro D c pre W hD hSp h hK
   exact h.elim
def z1B (stripe:Int) (r:Rec):Bool:=decide (0<=stripe)&&decide (stripe<8)&&jg r
def z8H (stripe:Int) (r:Rec):Value:=if z1B stripe r then .tuple #[.string (z2N stripe r),.int .i64 0]else .tuple #[.string noB,.int .i64 80]
theorem z1r (stripe:Int) (r:Rec) (w:World) (hb:r.block.size<=9223372036854775807) (hs:r.staged.size<=9223372036854775807):
  Calls Tryz.prog 76 #[.int .i64 stripe,r.v] w fun e w'=>e= .returned (z8H stripe r)/\Below w.heap.size w w':=by
 by_cases h:z1B stripe r=true
 ·have hv:z8H stripe r= .tuple #[.string (z2N stripe r),.int .i64 0]:=by unfold z8H;rw[if_pos h]
  rw[hv]
  unfold z1B at h
  simp only[Bool.and_eq_true,decide_eq_true_eq]at h
  exact callsIn_wide.1 (zlR stripe r.used r.opn r.fence r.de r.ds r.ie r.iq r.mask r.block r.staged 4 w (Nat.le_refl _) h.1.1 h.1.2 h.2)
 ·have hv:z8H stripe r= .tuple #[.string noB,.int .i64 80]:=by unfold z8H;rw[if_neg h]
  rw[hv]
  unfold z1B at h
  simp only[Bool.and_eq_true,decide_eq_true_eq]at h
  have hc:stripe<0\/(0<=stripe/\8<=stripe)\/(0<=stripe/\stripe<8/\jg r=false):=by
   by_cases h0:stripe<0
   ·exact .inl h0
   ·by_cases h8:8<=stripe
    ·exact .inr (.inl ⟨by omega,h8⟩)
    ·refine .inr (.inr ⟨by omega,by omega, ?_⟩)
     cases hr:jg r
     ·rfl
     ·exact absurd ⟨⟨by omega,by omega⟩,hr⟩ h
  clear h hv
  have hrv:r.v= .agg #[.bool r.used,.int .i64 r.fence,.int .i64 r.de,.int .i64 r.ds,.string r.block,.bool r.opn,.int .i64 r.ie,.int .i64 r.iq,.int .i64 r.mask,.string r.staged]:=rfl
  rcases hc with h|⟨h,h2⟩|⟨h,h2,h3⟩
  all_goals
   rw[hrv]
   clear hrv
   go_enter_defers Tryz.func76,Tryz.ntmps76
  ·go_wp2
   exact⟨_,results_tmp2 rfl _ _ _,rfl,(Below.refl _ _).alloc (Nat.le_refl _) _⟩
  ·go_wp2
   exact⟨_,results_tmp2 rfl _ _ _,rfl,(Below.refl _ _).alloc (Nat.le_refl _) _⟩
  ·go_wp2_with (go_at_call 107;refine(zhH r _ hb hs h3).mono ?_;rintro e w1 ⟨rfl,hb1⟩)
   exact⟨_,results_tmp2 rfl _ _ _,rfl,zw (za (Below.refl _ _) _) hb1⟩
end
end Go.Proofs.YtmfincpagnpkjaaGreat
