/- Part of the proof of one statement: what the program's functions compute. -/
import Derived.RangeFuncNested
import Derived.RangeFuncBound
import Derived.RangeFuncCalls
import Derived.RangeFuncLeaves
import Derived.Shelf.Abstract
import Derived.Shelf.RegionOpen
import Derived.OwnWalkIn
import Derived.TacticsInMore
import Derived.LoopNIn
import Derived.LoopIn
import Derived.KernelRfl
import Derived.Laws.BitsAllLaws
import Derived.Test.YtmfincpagnpkjaaGreatM01
set_option linter.all false
set_option maxRecDepth 100000
set_option maxHeartbeats 100000000
namespace Go.Proofs.YtmfincpagnpkjaaGreat
section
open Go.RowKit Go.Shelf
attribute [local go_sem] Oper.semAt_some
def z0P (b:Nat) (A B:World):Prop:=∀v,A.cell? ⟨b,0,none⟩=some v->B.cell? ⟨b,0,none⟩=some v
theorem z4y {b:Nat} {A B C:World} (h:z0P b A B) (k:z0P b B C):z0P b A C:=fun v hv=>k v (h v hv)
theorem z4z {b:Nat} (W:World) (l:Nat) (o o':Obj) (h:W.heap[l]?=some o) (hc:o.isCells=false):z0P b W (W.putObj l o'):=fun v hv=>by
 have hne:b≠l:=by
  rintro rfl
  unfold World.cell? at hv
  rw[h]at hv
  cases o<;>simp_all [Obj.isCells]
 exact(World.cell?_of_block (w:=W) (a:=⟨b,0,none⟩) ((grownBy_putObj' W l o').block b (by
  have:=World.cell?_spot hv
  unfold World.cell? at hv
  split at hv
  ·rename_i hh;exact(Array.getElem?_eq_some_iff.1 hh).1
  ·cases hv) (by simpa using hne))).trans hv
def z2d:List Nat:=[1,2,3,6,7]
abbrev Off:={x:Nat//x∈z2d}
def z7y (b:Nat) (x:Off):Array Value:=#[.pointer (some ⟨b,x.1,none⟩)]
def o1:Off:=⟨1,by decide⟩
def o2:Off:=⟨2,by decide⟩
def o3:Off:=⟨3,by decide⟩
def o6:Off:=⟨6,by decide⟩
def o7:Off:=⟨7,by decide⟩
theorem z5C (F:Fence) (n:Nat) (h6:F.fn 106) (hro:F.round=none) (hn:1<=n) (bx b:Nat) (w:World) (hc:w.cell? ⟨bx,0,none⟩=some (.pointer (some ⟨b,0,none⟩))) (hbx:bx<w.heap.size):
  SeqStopsK F n Tryz.prog 106 #[.pointer (some ⟨bx,0,none⟩)] (z7y b) (z0P bx) (fun xs=>xs=[o1,o2,o3,o6,o7]) (fun _=>True) 5 w:=fun l J Jx W hW _ _ hY h0=>by
 have hc0:=(hW.cell (p:=⟨bx,0,none⟩) hbx).trans hc
 clear hW hc hbx
 refine callsIn_of_wp Tryz.func106 rfl h6 ?_ hro
 simp only[Tryz.ntmps106,List.size_toArray,List.length_cons,List.length_nil,Nat.reduceAdd,Nat.reduceSub,Array.replicate_succ,Array.replicate_zero,List.push_toArray,List.append_toArray,List.nil_append,List.cons_append]
 obtain⟨f1,t1,a1,b1,hy1,hR1⟩:=hY [] o1 W h0 (by simp)
 simp only[z7y,o1]at hy1
 gi_wp2
 refine hR1.mono ?_
 rintro e W1 (⟨rfl,hJ1,hk1⟩|⟨rfl,hx1⟩)
 ·clear hR1 hy1
  have hc1:=hk1 _ hc0
  obtain⟨f2,t2,a2,b2,hy2,hR2⟩:=hY [o1] o2 W1 hJ1 (by simp)
  simp only[z7y,o2]at hy2
  gi_wp2
  refine hR2.mono ?_
  rintro e W2 (⟨rfl,hJ2,hk2⟩|⟨rfl,hx2⟩)
  ·clear hR2 hy2
   have hc2:=hk2 _ hc1
   obtain⟨f3,t3,a3,b3,hy3,hR3⟩:=hY [o1,o2] o3 W2 hJ2 (by simp)
   simp only[z7y,o3]at hy3
   gi_wp2
   refine hR3.mono ?_
   rintro e W3 (⟨rfl,hJ3,hk3⟩|⟨rfl,hx3⟩)
   ·clear hR3 hy3
    have hc3:=hk3 _ hc2
    obtain⟨f4,t4,a4,b4,hy4,hR4⟩:=hY [o1,o2,o3] o6 W3 hJ3 (by simp)
    simp only[z7y,o6]at hy4
    gi_wp2
    refine hR4.mono ?_
    rintro e W4 (⟨rfl,hJ4,hk4⟩|⟨rfl,hx4⟩)
    ·clear hR4 hy4
     have hc4:=hk4 _ hc3
     obtain⟨f5,t5,a5,b5,hy5,hR5⟩:=hY [o1,o2,o3,o6] o7 W4 hJ4 (by simp)
     simp only[z7y,o7]at hy5
     gi_wp2
     refine hR5.mono ?_
     rintro e W5 (⟨rfl,hJ5,hk5⟩|⟨rfl,hx5⟩)
     ·gi_wp2
      go_end0
      exact⟨⟨_,rfl⟩,.inl ⟨[o1,o2,o3,o6,o7],rfl,hJ5⟩⟩
     ·gi_wp2
      go_end0
      exact⟨⟨_,rfl⟩,.inr ⟨[o1,o2,o3,o6,o7],trivial,hx5⟩⟩
    ·gi_wp2
     repeat (refine⟨fun _ h=>(by cases h), ?_⟩;gi_wp2)
     go_end0
     exact⟨⟨_,rfl⟩,.inr ⟨[o1,o2,o3,o6],trivial,hx4⟩⟩
   ·gi_wp2
    repeat (refine⟨fun _ h=>(by cases h), ?_⟩;gi_wp2)
    go_end0
    exact⟨⟨_,rfl⟩,.inr ⟨[o1,o2,o3],trivial,hx3⟩⟩
  ·gi_wp2
   repeat (refine⟨fun _ h=>(by cases h), ?_⟩;gi_wp2)
   go_end0
   exact⟨⟨_,rfl⟩,.inr ⟨[o1,o2],trivial,hx2⟩⟩
 ·gi_wp2
  repeat (refine⟨fun _ h=>(by cases h), ?_⟩;gi_wp2)
  go_end0
  exact⟨⟨_,rfl⟩,.inr ⟨[o1],trivial,hx1⟩⟩
end
def z6k (m:Nat):List UInt8:=if h:m=0 then[]else UInt8.ofNat (m % 256)::z6k (m/256)
termination_by m
decreasing_by omega
def z6I:List UInt8->Nat
 |[]=>0
 |b::l=>b.toNat+256*z6I l
theorem z2m:z6k 0=[]:=by rw[z6k];simp
theorem z52 {m:Nat} (h:0<m):z6k m=UInt8.ofNat (m % 256)::z6k (m/256):=by rw[z6k];rw[dif_neg (by omega)]
theorem z0o {k:Nat} (h:k<256):(UInt8.ofNat k).toNat=k:=by simp[UInt8.toNat_ofNat'];omega
theorem zb4 (m:Nat):z6I (z6k m)=m:=by
 induction m using Nat.strongRecOn with
 |_ m ih=>
  by_cases h:m=0
  ·subst h;rw[z2m];rfl
  ·rw[z52 (by omega),z6I,ih _ (by omega),z0o (by omega)];omega
theorem zho (l:List UInt8):z6I l<256^l.length:=by
 induction l with
 |nil=>simp[z6I]
 |cons b l ih=>
  have:=b.toNat_lt
  simp only[z6I,List.length_cons,Nat.pow_succ]
  omega
theorem zhn (l:List UInt8) (b:UInt8):z6I (l++[b])=z6I l+256^l.length*b.toNat:=by
 induction l with
 |nil=>simp[z6I]
 |cons c l ih=>
  simp only[List.cons_append,z6I,ih,List.length_cons,Nat.pow_succ]
  rw[Nat.mul_add,Nat.add_assoc,Nat.mul_comm (256^l.length) 256,Nat.mul_assoc]
theorem zir (m:Nat):(z6k m).getLast?≠some 0:=by
 induction m using Nat.strongRecOn with
 |_ m ih=>
  by_cases h:m=0
  ·subst h;rw[z2m];simp
  ·rw[z52 (by omega)]
   by_cases h2:m/256=0
   ·rw[h2,z2m]
    simp only[List.getLast?_singleton,ne_eq,Option.some.injEq]
    intro h0
    have h1:(UInt8.ofNat (m % 256)).toNat=0:=by rw[h0];rfl
    rw[z0o (by omega)]at h1
    omega
   ·have:=ih (m/256) (by omega)
    rw[z52 (m:=m/256) (by omega)]at this⊢
    rw[List.getLast?_cons_cons]
    exact this
theorem zkM {m k:Nat} (h:m<256^k):(z6k m).length<=k:=by
 induction k generalizing m with
 |zero=>simp at h;subst h;rw[z2m];simp
 |succ k ih=>
  by_cases h0:m=0
  ·subst h0;rw[z2m];simp
  ·rw[z52 (by omega),List.length_cons]
   have:=ih (m:=m/256) (by rw[Nat.pow_succ]at h;omega)
   omega
def z1d (n:Int):Bool:=decide (-1<=n/\n<=1099511627776)
def z6z (n:Int):List UInt8:=if z1d n then z6k (n+1).toNat else[]
def zmv (n:Int):Int:=if z1d n then 0 else 30
def z4b (l:List UInt8):Bool:=decide (l.length<=6/\l.getLast?≠some 0/\z6I l<=1099511627777)
def z8O (l:List UInt8):Int:=if z4b l then(z6I l:Int)-1 else 0
def z8P (l:List UInt8):Int:=if z4b l then 0 else 30
theorem z0J {n:Int}:z1d n=true↔-1<=n/\n<=1099511627776:=by simp[z1d]
theorem z3K {l:List UInt8}:z4b l=true↔l.length<=6/\l.getLast?≠some 0/\z6I l<=1099511627777:=by simp[z4b]
theorem z6M (n:Int):(z6z n).length<=6:=by
 unfold z6z
 by_cases h:z1d n=true
 ·rw[if_pos h]
  have:=z0J.1 h
  exact zkM (by omega)
 ·rw[if_neg h];simp
theorem zm8 {n:Int} (h:z1d n=true):z4b (z6z n)=true/\z8O (z6z n)=n:=by
 have hn:=z0J.1 h
 have hg:z4b (z6z n)=true:=by
  rw[z3K]
  refine⟨z6M n, ?_, ?_⟩
  ·unfold z6z;rw[if_pos h];exact zir _
  ·unfold z6z;rw[if_pos h,zb4];omega
 refine⟨hg, ?_⟩
 unfold z8O
 rw[if_pos hg]
 unfold z6z
 rw[if_pos h,zb4]
 omega
end Go.Proofs.YtmfincpagnpkjaaGreat
namespace Go.Proofs.YtmfincpagnpkjaaGreat
open Go.RowKit
theorem z6Z:(Tryz.prog.info? 5).map (fun i=>(i.zero,i.size,i.bytes))=some (some (.int .u8 0),1,1):=by kernel_rfl
theorem z1y {P:Program} {w:World} {base n:Nat} {src dst e:TypeId} {v:Value} {l:List UInt8} (hs:P.underlying src=some (.slice e)) (he:P.underlying e=some (.int .u8)) (hd:P.underlying dst=some .string)
  (h:w.ownsRow base e 1 v n (zx l)) (hn:l.length=n):(convert src dst v).run P w= .ok (.string ⟨l.toArray⟩) w:=by
 rcases Nat.eq_zero_or_pos n with h0|h0
 ·subst h0
  have hl:l=[]:=List.eq_nil_of_length_eq_zero hn
  subst hl
  rcases h.2 with⟨rfl,_⟩|⟨g,cap,cur,rfl,_⟩
  ·rw[run_convert_bytes_string w src dst e none 0 0 hs he hd]
   simp[Conv.bytesToString,go_sem]
   rfl
  ·exact yw hs he hd (l:=[]) (fun j b hb=>by simp at hb) 0 cap rfl
 ·obtain⟨g,c,rfl,-,-,-,-⟩:=z4X h h0
  exact yw hs he hd (z1g.of_own h) n c hn
theorem z5X (a b:List UInt8):zx (a++b)=zx a++zx b:=by simp[zx]
theorem zeO {N m:Nat} {l:List UInt8} (h:l++z6k m=z6k N) (hN:(z6k N).length<=6) (h0:0<m):(l++[UInt8.ofNat (m % 256)])++z6k (m/256)=z6k N/\l.length<6:=by
 rw[z52 h0]at h
 refine⟨by rw[List.append_assoc];exact h, ?_⟩
 rw[<-h,List.length_append,List.length_cons]at hN
 omega
theorem zio {N:Nat} {l:List UInt8} (h:l++z6k 0=z6k N):l=z6k N:=by rw[z2m,List.append_nil]at h;exact h
theorem num_cell {w:World} {base m k:Nat} {e:TypeId} {v:Value} {l:List UInt8} (h:w.ownsRow base e 1 v k (zx l++[.int .u8 ((m:Int) % 256)])):w.ownsRow base e 1 v k (zx (l++[UInt8.ofNat (m % 256)])):=by
 rw[z5X]
 have:zx [UInt8.ofNat (m % 256)]=[.int .u8 ((m:Int) % 256)]:=by
  simp only[zx,List.map_cons,List.map_nil]
  rw[z0o (by omega)]
  simp
 rw[this]
 exact h
theorem zin (n:Int) (w:World) (h:z1d n=true):
  Calls Tryz.prog 211 #[.int .i64 n] w fun e w'=>e= .returned (.tuple #[.string ⟨(z6z n).toArray⟩,.int .i64 0])/\Below w.heap.size w w':=by
 obtain⟨h1,h2⟩:=z0J.1 h
 obtain⟨N,hN⟩:∃N:Nat,(N:Int)=n+1:=⟨(n+1).toNat,by omega⟩
 have hT:z6z n=z6k N:=by unfold z6z;rw[if_pos h,show(n+1).toNat=N by omega]
 have hL:(z6k N).length<=6:=by rw[<-hT];exact z6M n
 have HL:=Lib.hid hL
 have hN2:N<=1099511627777:=by omega
 rw[hT]
 have HN:=Lib.hid hN
 clear h hT hL
 have d1:decide (n< -1)=false:=decide_eq_false (by omega)
 have d2:decide (1099511627776<n)=false:=decide_eq_false (by omega)
 obtain⟨i8,hi8,hz8,hs8,hb8⟩:=info_parts z6Z
 go_enter Tryz.func211,Tryz.ntmps211
 go_wp2
 go_loopw [0,4] (fun i v wr=>∃(m:Nat) (l:List UInt8),m<=1099511627777/\i= .int .i64 m/\l++z6k m=z6k N/\wr.ownsRow w.heap.size 5 1 v l.length (zx l)/\Below w.heap.size w wr) (fun i _ _=>(intOf i).toNat)
 case atStart=>exact⟨N,[],hN2,by rw[HN.out],rfl,World.ownsRow_nil _ _ _ _,Below.refl _ _⟩
 case round=>
  obtain⟨m,l,hm,rfl,hl,hown,hb⟩:=hrel
  by_cases h0:0<m
  ·have hm0:(0:Int)<m:=by omega
   obtain⟨hl2,hl3⟩:=zeO hl HL.out h0
   have HL2:=Lib.hid hl2
   have HO:=Lib.hid hown
   clear hl hl2 hown
   have hbsz:=hb.size
   go_wp2_with (at_builtin;refine wpList_append_own _ rfl (.tmp 17) (.tmp 20) 101 rfl w.heap.size 5 i8 _ 1 1 Tryz.underlying101 hi8 hz8 hs8 hb8 rfl (by decide) _ l.length (zx l) rfl (HO.out.alloc _) ⟨wr.heap.size,0,none⟩ 1 1 [.int .u8 ((m:Int) % 256)] rfl rfl (zay _ _ _) (by simp[Value.oneCell']) (by unfold maxLen;omega) (by omega) (by simp;omega) ?_;intro v3 w3 hown3 hgrow3 _;have HO3:=Lib.hid hown3;have HG3:=Lib.hid hgrow3;clear hown3 hgrow3)
   go_roundw
   case rel=>exact⟨m/256,l++[UInt8.ofNat (m % 256)],by omega,by go_num,HL2.out,by rw[List.length_append];exact num_cell HO3.out,(hb.alloc hbsz _).grown HG3.out (by simp;omega) (fun j hj=>by have:=(HO.out.lt j hj).1;omega)⟩
   case measure=>simp[intOf];omega
  ·obtain rfl:m=0:=by omega
   have hcv:=z1y (P:=Tryz.prog) Tryz.underlying101 Tryz.underlying5 Tryz.underlying9 hown rfl
   rw[zio hl]at hcv
   clear hl hown
   go_wp2
   go_ret2
   exact⟨rfl,hb⟩
theorem zmL (n:Int) (w:World) (h:z1d n=false):
  Calls Tryz.prog 211 #[.int .i64 n] w fun e w'=>e= .returned (.tuple #[.string ⟨#[]⟩,.int .i64 30])/\Below w.heap.size w w':=by
 have h':¬(-1<=n/\n<=1099511627776):=of_decide_eq_false h
 clear h
 by_cases h1:n< -1
 ·clear h'
  go_enter Tryz.func211,Tryz.ntmps211
  go_wp2
  go_ret2
  exact⟨rfl,Below.refl _ _⟩
 ·have d1:decide (n< -1)=false:=decide_eq_false h1
  have d2:decide (1099511627776<n)=true:=decide_eq_true (by omega)
  clear h1 h'
  go_enter Tryz.func211,Tryz.ntmps211
  go_wp2
  go_ret2
  exact⟨rfl,Below.refl _ _⟩
theorem ziq (n:Int) (w:World):
  Calls Tryz.prog 211 #[.int .i64 n] w fun e w'=>e= .returned (.tuple #[.string ⟨(z6z n).toArray⟩,.int .i64 (zmv n)])/\Below w.heap.size w w':=by
 cases h:z1d n with
 |true=>unfold zmv;rw[if_pos h];exact zin n w h
 |false=>unfold zmv z6z;rw[if_neg (by rw[h];simp),if_neg (by rw[h];simp)];exact zmL n w h
theorem zmR {s:ByteArray} (h:s.size-1<s.size):s.data.toList.getLast?=some s[s.size-1]:=by
 rw[List.getLast?_eq_getElem?,zf,List.getElem?_eq_getElem (by rw[zf];exact h)]
 rfl
theorem z9Q {b:UInt8}:((b.toNat:Int)==0)=decide (b=0):=by
 rw[Bool.eq_iff_iff,beq_iff_eq,decide_eq_true_iff]
 constructor
 ·intro h;exact UInt8.toNat_inj.1 (by have:b.toNat=0:=(by omega);rw[this];rfl)
 ·intro h;subst h;rfl
theorem z1V {s:ByteArray} (h:0<s.size):s.toList.isEmpty=false:=by
 rw[ByteArray.toList_eq]
 cases hl:s.data.toList with
 |nil=>rw[<-zf,hl]at h;simp at h
 |cons _ _=>rfl
theorem zf2 {s:ByteArray} (h:s.size=0):s=⟨#[]⟩:=by
 rw[<-z3v s]
 have:s.data.toList=[]:=List.eq_nil_of_length_eq_zero (by rw[zf];exact h)
 rw[this]
theorem zdI {a k:Nat} {b:UInt8} (h:a<256^k):a|||(b.toNat<<<(8*k))=a+256^k*b.toNat:=by
 rw[show(256:Nat)=2^8 by rfl,<-Nat.pow_mul]at h⊢
 rw[Nat.or_comm,Nat.shiftLeft_eq,Nat.mul_comm b.toNat,<-Nat.two_pow_add_eq_or_of_lt h]
 omega
theorem zjT {l:List UInt8} {k:Nat} (h:k<l.length):z6I (l.take (k+1))=z6I (l.take k)|||(l[k].toNat<<<(8*k)):=by
 rw[List.take_succ_eq_append_getElem h,zhn,List.length_take,Nat.min_eq_left (by omega),zdI]
 have:=zho (l.take k)
 rwa [List.length_take,Nat.min_eq_left (by omega)]at this
theorem zeu {l:List UInt8} {k:Nat} (h:k<=6):z6I (l.take k)<281474976710656:=by
 refine Nat.lt_of_lt_of_le (zho _) ?_
 have h2:(l.take k).length<=6:=by rw[List.length_take];omega
 exact Nat.pow_le_pow_right (n:=256) (by omega) h2
theorem z5J (a b:Nat) (ha:a<9223372036854775808) (hb:b<9223372036854775808):bits .or .i64 (a:Int) (b:Int)=((a|||b:Nat):Int):=by
 have hx:a|||b<2^63:=Nat.or_lt_two_pow (by omega) (by omega)
 show IntKind.i64.wrap ((BitVec.ofInt 64 (a:Int)|||BitVec.ofInt 64 (b:Int)).toNat:Int)=_
 rw[BitVec.toNat_or,BitVec.ofInt_natCast,BitVec.ofInt_natCast,BitVec.toNat_ofNat,BitVec.toNat_ofNat,Nat.mod_eq_of_lt (by omega),Nat.mod_eq_of_lt (by omega)]
 exact IntWalk.i64_in _ (by omega)
theorem zkJ {l:List UInt8} {k:Nat} (h:k<l.length) (h6:l.length<=6):bits .or .i64 ((z6I (l.take k):Nat):Int) (wrap64 (wrap64 (l[k].toNat:Int)*2^(8*k)))=((z6I (l.take (k+1)):Nat):Int):=by
 have hb:=l[k].toNat_lt
 have e1:wrap64 (l[k].toNat:Int)=((l[k].toNat:Nat):Int):=IntWalk.wrap64_in _ (by omega)
 have hk:2^(8*k)<=2^40:=Nat.pow_le_pow_right (by omega) (by omega)
 have hm:l[k].toNat*2^(8*k)<=255*2^40:=Nat.mul_le_mul (by omega) hk
 have e2:(((l[k].toNat:Nat):Int)*2^(8*k))=((l[k].toNat*2^(8*k):Nat):Int):=by push_cast;rfl
 rw[e1,e2,IntWalk.wrap64_in _ (by omega),z5J _ _ (by have:=zeu (l:=l) (k:=k) (by omega);omega) (by omega),zjT h,Nat.shiftLeft_eq]
theorem zm9 (s:ByteArray) (w:World) (h0:0<s.size) (h1:s.size<=6) (h2:s.data.toList.getLast?≠some 0):
  Calls Tryz.prog 170 #[.string s] w fun e w'=>e= .returned (if z6I s.data.toList<=1099511627777 then .tuple #[.int .i64 ((z6I s.data.toList:Int)-1),.int .i64 0]else .tuple #[.int .i64 0,.int .i64 30])/\Below w.heap.size w w':=by
 have he:=z1V h0
 have hk:s.size-1<s.size:=by omega
 have hl:((s[s.size-1].toNat:Int)==0)=false:=by
  rw[z9Q]
  exact decide_eq_false fun h=>h2 (by rw[zmR hk,h])
 have d1:decide (6<(s.size:Int))=false:=decide_eq_false (by omega)
 clear h2
 go_enter Tryz.func170,Tryz.ntmps170
 go_wp2
 clear hl he d1
 go_loop [4,23] (fun v i=>∃k:Nat,k<=s.size/\v= .int .i64 (z6I (s.data.toList.take k))/\i= .int .i64 k) (fun _ i=>s.size-(intOf i).toNat)
 case atStart=>exact⟨0,Nat.zero_le _,rfl,rfl⟩
 case round=>
  obtain⟨k,hks,rfl,rfl⟩:=hrel
  by_cases hlt:k<s.size
  ·go_wp2
   go_round
   case rel=>exact⟨k+1,by omega,congrArg (Value.int .i64) (zkJ (l:=s.data.toList) (by rw[zf];exact hlt) (by rw[zf];exact h1)),by go_num⟩
   case measure=>simp[intOf];omega
  ·have hT:s.data.toList.take k=s.data.toList:=List.take_of_length_le (by rw[zf];omega)
   rw[hT]
   have hv:z6I s.data.toList<281474976710656:=by rw[<-hT];exact zeu (by omega)
   clear hT
   by_cases hbig:z6I s.data.toList<=1099511627777
   ·go_wp2
    go_ret2
    exact⟨by rfl,Below.refl _ _⟩
   ·go_wp2
    go_ret2
    exact⟨by first|rfl|(rw[if_neg hbig];rfl),Below.refl _ _⟩
theorem zj0 (w:World):
  Calls Tryz.prog 170 #[.string ⟨#[]⟩] w fun e w'=>e= .returned (.tuple #[.int .i64 (-1),.int .i64 0])/\Below w.heap.size w w':=by
 have he:(ByteArray.mk #[]).toList.isEmpty=true:=by rw[ByteArray.toList_eq];rfl
 have hs:(ByteArray.mk #[]).size=0:=rfl
 go_enter Tryz.func170,Tryz.ntmps170
 go_wp2
 go_loop [4,23] (fun v i=>v= .int .i64 0/\i= .int .i64 0) (fun _ _=>0)
 case atStart=>exact⟨rfl,rfl⟩
 case round=>
  obtain⟨rfl,rfl⟩:=hrel
  go_wp2
  go_ret2
  exact⟨rfl,Below.refl _ _⟩
theorem zl9 (s:ByteArray) (w:World) (h:6<s.size):
  Calls Tryz.prog 170 #[.string s] w fun e w'=>e= .returned (.tuple #[.int .i64 0,.int .i64 30])/\Below w.heap.size w w':=by
 go_enter Tryz.func170,Tryz.ntmps170
 go_wp2
 go_ret2
 exact⟨rfl,Below.refl _ _⟩
theorem zl7 (s:ByteArray) (w:World) (h0:0<s.size) (h1:s.size<=6) (h2:s.data.toList.getLast?=some 0):
  Calls Tryz.prog 170 #[.string s] w fun e w'=>e= .returned (.tuple #[.int .i64 0,.int .i64 30])/\Below w.heap.size w w':=by
 have he:=z1V h0
 have hk:s.size-1<s.size:=by omega
 have hl:((s[s.size-1].toNat:Int)==0)=true:=by
  rw[z9Q]
  rw[zmR hk]at h2
  injection h2 with h2
  exact decide_eq_true h2
 have d1:decide (6<(s.size:Int))=false:=decide_eq_false (by omega)
 clear h2
 go_enter Tryz.func170,Tryz.ntmps170
 go_wp2
 go_ret2
 exact⟨rfl,Below.refl _ _⟩
theorem z0l (s:ByteArray) (w:World):
  Calls Tryz.prog 170 #[.string s] w fun e w'=>e= .returned (.tuple #[.int .i64 (z8O s.data.toList),.int .i64 (z8P s.data.toList)])/\Below w.heap.size w w':=by
 by_cases h6:s.size<=6
 ·by_cases h0:s.size=0
  ·obtain rfl:=zf2 h0
   exact zj0 w
  ·by_cases h2:s.data.toList.getLast?=some 0
   ·have hg:z4b s.data.toList=false:=by
     cases h:z4b s.data.toList with
     |true=>exact absurd h2 (z3K.1 h).2.1
     |false=>rfl
    unfold z8O z8P
    rw[if_neg (by rw[hg];simp),if_neg (by rw[hg];simp)]
    exact zl7 s w (by omega) h6 h2
   ·refine(zm9 s w (by omega) h6 h2).mono ?_
    rintro e w' ⟨rfl,hk⟩
    refine⟨?_,hk⟩
    by_cases hv:z6I s.data.toList<=1099511627777
    ·have hg:z4b s.data.toList=true:=z3K.2 ⟨by rw[zf];exact h6,h2,hv⟩
     unfold z8O z8P
     rw[if_pos hv,if_pos hg,if_pos hg]
    ·have hg:z4b s.data.toList=false:=by
      cases h:z4b s.data.toList with
      |true=>exact absurd (z3K.1 h).2.2 hv
      |false=>rfl
     unfold z8O z8P
     rw[if_neg hv,if_neg (by rw[hg];simp),if_neg (by rw[hg];simp)]
 ·have hg:z4b s.data.toList=false:=by
   cases h:z4b s.data.toList with
   |true=>have:=(z3K.1 h).1;rw[zf]at this;exact absurd this h6
   |false=>rfl
  unfold z8O z8P
  rw[if_neg (by rw[hg];simp),if_neg (by rw[hg];simp)]
  exact zl9 s w (by omega)
end Go.Proofs.YtmfincpagnpkjaaGreat
