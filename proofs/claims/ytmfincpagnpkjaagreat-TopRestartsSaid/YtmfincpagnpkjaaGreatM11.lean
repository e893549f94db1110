/- Part of the proof of one statement: what the program's functions compute. -/
import Derived.Deep.RegionLaw
import Derived.Stop.BytesEq
import Derived.OrdersIn
import Derived.Lib.Bytes
import Derived.Lib.SmallJoins
import Derived.Test.YtmfincpagnpkjaaGreatM05
import Derived.Test.YtmfincpagnpkjaaGreatM10
set_option linter.all false
set_option maxRecDepth 100000
set_option maxHeartbeats 100000000
namespace Go.Proofs.YtmfincpagnpkjaaGreat
open Go.RowKit
abbrev Fld:=Int×ByteArray
def zo:List Fld->List Value
 |[]=>[]
 |f::l=>.int .i64 f.1:: .string f.2::zo l
theorem z06 (a b:List Fld):zo (a++b)=zo a++zo b:=by
 induction a with
 |nil=>rfl
 |cons f l ih=>simp only[zo,List.cons_append,ih]
theorem z6p {l:List Fld} {k:Nat} (h:k<l.length):(zo l)[k*2]?=some (.int .i64 l[k].1):=by
 induction l generalizing k with
 |nil=>simp at h
 |cons f l ih=>
  cases k with
  |zero=>simp[zo]
  |succ k=>
   rw[show(k+1)*2=k*2+1+1 by omega,zo,List.getElem?_cons_succ,List.getElem?_cons_succ]
   simpa using ih (k:=k) (by simpa using h)
theorem z1n {l:List Fld} {k:Nat} (h:k<l.length):(zo l)[k*2+1]?=some (.string l[k].2):=by
 induction l generalizing k with
 |nil=>simp at h
 |cons f l ih=>
  cases k with
  |zero=>simp[zo]
  |succ k=>
   rw[show(k+1)*2+1=k*2+1+1+1 by omega,zo,List.getElem?_cons_succ,List.getElem?_cons_succ]
   simpa using ih (k:=k) (by simpa using h)
theorem zci (l:List Fld):∀u∈zo l,u.oneCell'=true:=by
 induction l with
 |nil=>simp[zo]
 |cons f l ih=>
  intro u hu
  simp only[zo,List.mem_cons]at hu
  rcases hu with rfl|rfl|hu
  ·rfl
  ·rfl
  ·exact ih u hu
def okF (f:Fld):Bool:=decide (1<=f.1/\f.1<=255/\f.2.size<=400)
theorem z2c {f:Fld}:okF f=true↔1<=f.1/\f.1<=255/\f.2.size<=400:=by simp[okF]
def z3J (t:Int) (n:Nat):List UInt8:=[UInt8.ofNat t.toNat,UInt8.ofNat (n % 256),UInt8.ofNat (n/256)]
def zlq (f:Fld):List UInt8:=z3J f.1 f.2.size++f.2.data.toList
def z5b:List Fld->List UInt8
 |[]=>[]
 |f::l=>zlq f++z5b l
theorem zdQ (a b:List Fld):z5b (a++b)=z5b a++z5b b:=by
 induction a with
 |nil=>rfl
 |cons f l ih=>simp only[z5b,List.cons_append,ih,List.append_assoc]
theorem zc6 {l:List Fld} {k:Nat} (h:k<l.length):z5b (l.take (k+1))=z5b (l.take k)++z3J l[k].1 l[k].2.size++l[k].2.data.toList:=by
 rw[List.take_succ_eq_append_getElem h,zdQ,z5b,z5b,List.append_nil,zlq,List.append_assoc]
theorem zdM (f:Fld):(zlq f).length=3+f.2.size:=by simp[zlq,z3J];omega
def z2w (l:List Fld):Prop:=∀f∈l,okF f=true
theorem z7V {l:List Fld} (h:z2w l):(z5b l).length<=403*l.length:=by
 induction l with
 |nil=>simp[z5b]
 |cons f l ih=>
  have h1:=z2c.1 (h f (by simp))
  have h2:=ih fun g hg=>h g (by simp[hg])
  rw[z5b,List.length_append,zdM,List.length_cons]
  omega
def z6C (l:List Fld):Bool:=decide (l.length<=64)&&l.all okF
theorem z1E {l:List Fld}:z6C l=true↔l.length<=64/\z2w l:=by
 unfold z6C z2w
 rw[Bool.and_eq_true,decide_eq_true_iff,List.all_eq_true]
def z6m (l:List Fld):List UInt8:=if z6C l then z5b l else[]
def z7W (l:List Fld):Int:=if z6C l then 0 else 30
theorem z9J {l:List Fld} {k:Nat} (h:k<l.length) (h1:z2w (l.take k)) (h2:okF l[k]=true):z2w (l.take (k+1)):=by
 intro f hf
 rw[List.take_succ_eq_append_getElem h]at hf
 rcases List.mem_append.1 hf with h'|h'
 ·exact h1 f h'
 ·rw[List.mem_singleton.1 h'];exact h2
theorem ziH {l:List Fld} {k:Nat} (h:k<l.length) (h2:¬okF l[k]=true):z6m l=[]/\z7W l=30:=by
 have h3:¬z6C l=true:=fun h'=>h2 ((z1E.1 h').2 _ (List.getElem_mem h))
 exact⟨by unfold z6m;rw[if_neg h3],by unfold z7W;rw[if_neg h3]⟩
theorem zkP (w:World) (us:List Value) (t:TypeId):∀(j:Nat) (x:Value),us[j]?=some x->(w.alloc (.cells us.toArray t)).cell? ((⟨w.heap.size,0,none⟩:Addr).add j)=some x:=by
 intro j x hx
 rw[Addr.add_lit,Nat.zero_add]
 exact(World.cell?_alloc_mark w us.toArray t (0,0) j).trans (by simpa using hx)
theorem z9t {t:Int} {n:Nat} (h1:1<=t) (h2:t<=255) (h3:n<=400):zx (z3J t n)=[.int .u8 t,.int .u8 ((n:Int) % 256),.int .u8 ((n:Int) /256)]:=by
 simp only[zx,z3J,List.map_cons,List.map_nil]
 rw[z0o (by omega),z0o (by omega),z0o (by omega),Int.toNat_of_nonneg (by omega)]
 simp
def z1H (t:Int) (s:ByteArray):Obj:=.cells #[.int .i64 t,.string s] 79
theorem znR {w w1 w2:World} {t:Int} {s:ByteArray} {o:Obj} {r:Option Nat} (hw:w1=(w.alloc (z1H t s)).alloc o) (hg:w1.grownBy w2 r) (hr:∀k,r=some k->k<w.heap.size):w2.cell? ⟨w.heap.size,1,none⟩=some (.string s):=by
 subst hw
 refine hg.cell ?_ (fun h=>by have:=hr _ h.symm;simp at this)
 rw[World.cell?_alloc_lt _ _ _ (by simp)]
 exact World.cell?_alloc_mark w _ _ _ 1
theorem zm3 (l:List Fld) (A:Option Addr) (n c:Nat) (w:World) (hr:Rd w w.heap.size A (zo l)) (hln:l.length=n) (hn:n<=64):
  Calls Tryz.prog 131 #[.slice A n c] w fun e w'=>e= .returned (.tuple #[.string ⟨(z6m l).toArray⟩,.int .i64 (z7W l)])/\Below w.heap.size w w':=by
 obtain⟨i8,hi8,hz8,hs8,hb8⟩:=info_parts z6Z
 have HR:=Lib.hid hr
 have HN:=Lib.hid hln
 clear hr hln
 go_enter Tryz.func131,Tryz.ntmps131
 go_wp2
 go_loopw [4,13] (fun v i wr=>∃k:Nat,k<=n/\i= .int .i64 k/\z2w (l.take k)/\wr.ownsRow w.heap.size 5 1 v (z5b (l.take k)).length (zx (z5b (l.take k)))/\Below w.heap.size w wr) (fun _ i _=>n-(intOf i).toNat)
 case atStart=>exact⟨0,Nat.zero_le _,rfl,by intro f hf;simp at hf,World.ownsRow_nil _ _ _ _,Below.refl _ _⟩
 case round=>
  obtain⟨k,hk,rfl,hall,hown,hb⟩:=hrel
  by_cases hlt:k<n
  ·have hkl:k<l.length:=by rw[HN.out];exact hlt
   obtain⟨b,off,rfl,hbB,hc0⟩:=(HR.out.below hb).at_ (z6p hkl)
   have hc1:=(HR.out.below hb).cell_ (z1n hkl)
   rw[<-Nat.add_assoc]at hc1
   obtain⟨t,ht⟩:∃t,t=l[k].1:=⟨_,rfl⟩
   obtain⟨s,hs⟩:∃s,s=l[k].2:=⟨_,rfl⟩
   rw[<-ht]at hc0
   rw[<-hs]at hc1
   have HALL:=Lib.hid hall
   have HO:=Lib.hid hown
   have HT:=Lib.hid ht
   have HS:=Lib.hid hs
   have hlen:(z5b (l.take k)).length<=403*64:=Nat.le_trans (z7V hall) (by rw[List.length_take];omega)
   clear hall hown ht hs
   have hbsz:=hb.size
   by_cases hok:1<=t/\t<=255/\s.size<=400
   ·obtain⟨t1,t2,t3⟩:=hok
    have hHC:=z9t t1 t2 t3
    have HHC:=Lib.hid hHC
    clear hHC
    go_wp2_with (first
     |(at_builtin;refine wpList_append_own _ rfl (.tmp 34) (.tmp 43) 101 rfl w.heap.size 5 i8 _ 1 1 Tryz.underlying101 hi8 hz8 hs8 hb8 rfl (by decide) _ _ _ rfl ((HO.out.alloc _).alloc _) ⟨wr.heap.size+1,0,none⟩ 3 3 [.int .u8 t,.int .u8 ((s.size:Int) % 256),.int .u8 ((s.size:Int) /256)] rfl rfl (by have:=zkP (wr.alloc (z1H t s)) [.int .u8 t,.int .u8 ((s.size:Int) % 256),.int .u8 ((s.size:Int) /256)] 5;rwa [World.size_alloc]at this) (by simp[Value.oneCell']) (by unfold maxLen;omega) (by omega) (by simp;omega) ?_;rintro v3 w3 hown3 hgrow3-;have hbx:=znR (t:=t) (s:=s) rfl hgrow3 (fun j hj=>(HO.out.lt j hj).2);have hb3:=((hb.alloc hbsz _).alloc (by simp;omega) _).grown hgrow3 (by simp;omega) (fun j hj=>by have:=(HO.out.lt j hj).1;omega);have HO3:=Lib.hid hown3;clear hown3)
     |(at_builtin;refine Lib.wpList_append_own_string _ rfl (.tmp 45) (.tmp 47) 101 9 rfl w.heap.size 5 i8 Tryz.underlying101 Tryz.underlying9 hi8 hz8 hs8 hb8 _ _ _ rfl HO3.out s rfl (by unfold maxLen;omega) (by omega) hb3.size ?_;rintro v4 w4 hown4 hgrow4-;have HO4:=Lib.hid hown4;have HG4:=Lib.hid hgrow4;clear hown4 hgrow4))
    go_roundw
    case rel=>
     have e1:=zc6 hkl
     rw[<-HT.out,<-HS.out]at e1
     refine⟨k+1,by omega,by go_num,z9J hkl HALL.out (z2c.2 ⟨by rw[<-HT.out];exact t1,by rw[<-HT.out];exact t2,by rw[<-HS.out];exact t3⟩), ?_,hb3.grown HG4.out hb3.size (fun j hj=>(HO3.out.lt j hj).1)⟩
     rw[e1,z5X,z5X,HHC.out,<-zdh,List.length_append,List.length_append,zf]
     exact HO4.out
    case measure=>simp[intOf];omega
   ·have hbad:=ziH hkl (fun h=>hok (by rw[HT.out,HS.out];exact z2c.1 h))
    have HB:=Lib.hid hbad
    clear hbad
    rcases(show t<1\/(1<=t/\255<t)\/(1<=t/\t<=255/\400<s.size) by omega)with g|⟨g1,g⟩|⟨g1,g2,g⟩
    all_goals
     clear hok
     go_wp2
     go_ret2
     exact⟨by rw[HB.out.1,HB.out.2];rfl,hb.alloc hbsz _⟩
  ·have hkn:k=n:=by omega
   subst hkn
   have htk:l.take k=l:=List.take_of_length_le (by rw[HN.out];exact Nat.le_refl _)
   rw[htk]at hall hown
   have hok:z6C l=true:=z1E.2 ⟨by rw[HN.out];exact hn,hall⟩
   have hcv:=z1y (P:=Tryz.prog) Tryz.underlying101 Tryz.underlying5 Tryz.underlying9 hown rfl
   have hT:z6m l=z5b l:=by unfold z6m;rw[if_pos hok]
   have hE:z7W l=0:=by unfold z7W;rw[if_pos hok]
   rw[<-hT]at hcv
   have HT:=Lib.hid hT
   have HE:=Lib.hid hE
   clear htk hall hown hok hT hE
   go_wp2
   go_ret2
   exact⟨by rw[HE.out];rfl,hb⟩
theorem zkW (l:List Fld) (A:Option Addr) (n c:Nat) (w:World) (hln:l.length=n) (hn:64<n):
  Calls Tryz.prog 131 #[.slice A n c] w fun e w'=>e= .returned (.tuple #[.string ⟨(z6m l).toArray⟩,.int .i64 (z7W l)])/\Below w.heap.size w w':=by
 have h3:¬z6C l=true:=fun h'=>by have:=(z1E.1 h').1;omega
 have hT:z6m l=[]:=by unfold z6m;rw[if_neg h3]
 have hE:z7W l=30:=by unfold z7W;rw[if_neg h3]
 rw[hT,hE]
 clear h3 hT hE
 go_enter Tryz.func131,Tryz.ntmps131
 go_wp2
 go_ret2
 exact⟨rfl,Below.refl _ _⟩
theorem zc4 (l:List Fld) (A:Option Addr) (n c:Nat) (w:World) (hr:Rd w w.heap.size A (zo l)) (hln:l.length=n):
  Calls Tryz.prog 131 #[.slice A n c] w fun e w'=>e= .returned (.tuple #[.string ⟨(z6m l).toArray⟩,.int .i64 (z7W l)])/\Below w.heap.size w w':=by
 by_cases hn:n<=64
 ·exact zm3 l A n c w hr hln hn
 ·exact zkW l A n c w hln (by omega)
def by8 (x:Int):UInt8:=UInt8.ofNat (x % 256).toNat
theorem z2W (x:Int):((by8 x).toNat:Int)=x % 256:=by
 unfold by8
 rw[z0o (by omega)]
 omega
theorem zeB {P:Program} {src dst e:TypeId} (hs:P.underlying src=some (.slice e)) (he:P.underlying e=some (.int .u8)) (hd:P.underlying dst=some .string)
  (w:World) (l:List UInt8) (cs:Array Value) (t:TypeId) (n:Nat) (hcs:cs.toList=zx l) (hn:l.length=n):
  (convert src dst (.slice (some ⟨w.heap.size,0,none⟩) n n)).run P (w.alloc (.cells cs t))= .ok (.string ⟨l.toArray⟩) (w.alloc (.cells cs t)):=by
 refine yw hs he hd (fun j b hb=>?_) n n hn
 have h:cs[j]?=some (.int .u8 (b.toNat:Int)):=by
  rw[<-Array.getElem?_toList,hcs]
  simp[zx,hb]
 constructor
 ·exact(World.cell?_alloc_mark w cs t (0,0) j).trans h
 ·rw[World.frozen?_alloc_mark];simp
def z9W (l:List UInt8):List UInt8:=[by8 (zh3 l/65536),by8 (zh3 l/256),by8 (zh3 l)]
def z5L (n:Nat):List UInt8:=[87,76,UInt8.ofNat (n % 256),UInt8.ofNat (n/256)]
theorem z7Z {n:Nat} (hn:n<=800):zx (z5L n)=[.int .u8 87,.int .u8 76,.int .u8 ((n:Int) % 256),.int .u8 ((n:Int) /256)]:=by
 have h1:(UInt8.ofNat (n % 256)).toNat=n % 256:=z0o (by omega)
 have h2:(UInt8.ofNat (n/256)).toNat=n/256:=z0o (by omega)
 simp only[zx,z5L,List.map_cons,List.map_nil,h1,h2]
 rfl
theorem zde (l:List UInt8):zx (z9W l)=[.int .u8 (zh3 l/65536 % 256),.int .u8 (zh3 l/256 % 256),.int .u8 (zh3 l % 256)]:=by
 simp only[zx,z9W,List.map_cons,List.map_nil,z2W]
theorem z9u (n:Nat) (w:World) (hn:n<=800):
  Calls Tryz.prog 126 #[.int .i64 n] w fun e w'=>e= .returned (.agg #[.int .u8 87,.int .u8 76,.int .u8 ((n:Int) % 256),.int .u8 ((n:Int) /256)])/\Below w.heap.size w w':=by
 go_enter Tryz.func126,Tryz.ntmps126
 go_wp2
 exact bodyPost_ret (v:=.agg #[.int .u8 87,.int .u8 76,.int .u8 ((n:Int) % 256),.int .u8 ((n:Int) /256)]) (by simp[results,Tryz.results126,go_sem]) rfl ⟨rfl,(Below.refl _ _).alloc (Nat.le_refl _) _⟩
theorem z94 (s:ByteArray) (w:World) (hs:s.size<=9223372036854775807):
  Calls Tryz.prog 127 #[.string s] w fun e w'=>e= .returned (.string ⟨(z9W s.data.toList).toArray⟩)/\Below w.heap.size w w':=by
 have hcv:=zeB (P:=Tryz.prog) Tryz.underlying101 Tryz.underlying5 Tryz.underlying9 w (z9W s.data.toList) #[.int .u8 (zh3 s.data.toList/65536 % 256),.int .u8 (zh3 s.data.toList/256 % 256),.int .u8 (zh3 s.data.toList % 256)] 5 3 (zde _).symm rfl
 go_enter Tryz.func127,Tryz.ntmps127
 go_wp2_with (go_at_call 108;refine(zbe _ _ hs).mono ?_;rintro e w' ⟨rfl,rfl⟩)
 go_ret
 exact⟨rfl,(Below.refl _ _).alloc (Nat.le_refl _) _⟩
def zmp (p:ByteArray):ByteArray:=⟨(z5L p.size).toArray⟩++p
def z83 (p:ByteArray):ByteArray:=zmp p++⟨(z9W (zmp p).data.toList).toArray⟩
theorem zmc (p:ByteArray) (w:World) (hp:800<p.size):
  Calls Tryz.prog 132 #[.string p] w fun e w'=>e= .returned (.tuple #[.string noB,.int .i64 40])/\Below w.heap.size w w':=by
 go_enter Tryz.func132,Tryz.ntmps132
 go_wp2
 go_ret2
 exact⟨rfl,Below.refl _ _⟩
theorem zla (p:ByteArray) (w:World) (hp:p.size<=800):
  Calls Tryz.prog 132 #[.string p] w fun e w'=>e= .returned (.tuple #[.string (z83 p),.int .i64 0])/\Below w.heap.size w w':=by
 obtain⟨H,hH⟩:∃H:ByteArray,H=⟨(z5L p.size).toArray⟩:=⟨_,rfl⟩
 have hHs:H.size<=4:=by rw[hH,z1w];exact Nat.le_refl _
 have HH:=Lib.hid hH
 obtain⟨T,hT⟩:∃T:ByteArray,T=⟨(z9W (H++p).data.toList).toArray⟩:=⟨_,rfl⟩
 have hTs:T.size<=3:=by rw[hT,z1w];exact Nat.le_refl _
 have HT:=Lib.hid hT
 have hHp:(H++p).size<=804:=by rw[ByteArray.size_append];omega
 have hF:z83 p=H++p++T:=by rw[hT,hH];rfl
 have HF:=Lib.hid hF
 clear hH hT hF
 go_enter Tryz.func132,Tryz.ntmps132
 go_wp2_with (first
  |(go_at_call 126;(refine(z9u _ _ hp).mono ?_);rintro e w1 ⟨rfl,hb1⟩;have hc1:=zeB (P:=Tryz.prog) Tryz.underlying101 Tryz.underlying5 Tryz.underlying9 w1 (z5L p.size) #[.int .u8 87,.int .u8 76,.int .u8 ((p.size:Int) % 256),.int .u8 ((p.size:Int) /256)] 240 4 (z7Z hp).symm rfl;rw[<-HH.out]at hc1)
  |(go_at_call 127;(refine(z94 _ _ (by omega)).mono ?_);rintro e w2 ⟨rfl,hb2⟩;rw[<-HT.out]))
 go_ret2
 exact⟨by rw[HF.out];rfl,zw (za (zw (Below.refl _ _) hb1) _) hb2⟩
theorem zjQ {P:Program} {o:Oper} {a:Act} {w:World} {K:Act->World->Prop} {Q:Exit->Act->World->Prop} (src dst e:TypeId) (x:Operand) (ho:o.op= .convert src dst x)
  (hs:P.underlying src=some .string) (hd:P.underlying dst=some (.slice e)) (he:P.underlying e=some (.int .u8)) (s:ByteArray) (hx:a.eval x= .string s)
  (h:∀cap w',z1g w' w.heap.size s.data.toList->Below w.heap.size w w'->w.heap.size<w'.heap.size->K (a.put o.dst (.slice (some ⟨w.heap.size,0,none⟩) s.size cap)) w'):o.wp P a w K Q:=by
 unfold Oper.wp execOp
 simp only[ho,hx,Sem.run_bind,run_bytes_of_string w src dst e s hs hd he,Result.andThen_ok,Sem.run_pure]
 exact h _ _ (z1g.ofString w.drew s _ e) ((Below.refl _ w).drew.alloc (Nat.le_refl _) _) (by simp)
theorem z1g.range {w:World} {g:Nat} {l:List UInt8} (h:z1g w g l):w.rangeAt g 0 (zx l):=by
 intro j v hv
 rw[Nat.zero_add]
 obtain⟨b,hb,rfl⟩:∃b,l[j]?=some b/\Value.int .u8 (b.toNat:Int)=v:=by simpa [zx]using hv
 exact(h j b hb).1
theorem z7l {P:Program} {arr e:TypeId} {n len cap:Nat} {a:Option Addr} (ht:P.underlying arr=some (.array n e)) (h:n<=len) (w:World):
  (Instr.arrayAt arr (.slice a len cap)).run P w= .ok (.pointer a) w:=by
 unfold Instr.arrayAt
 simp[run_underlying ht,show ¬len<n by omega]
theorem zaM {x:ByteArray} {l:List UInt8} (h:x.data.toList=l) (j:Nat) (b:UInt8) (hb:l[j]?=some b) (cap:Nat):(bytesRow x cap)[j]?=some (.int .u8 (b.toNat:Int)):=by
 subst h
 obtain⟨hj,rfl⟩:=List.getElem?_eq_some_iff.1 hb
 rw[bytesRow_at x cap j (by simpa using hj)]
 rfl
theorem z6K {x:ByteArray} {l:List UInt8} (h:x.data.toList=l) (j:Nat) (b:UInt8) (hb:l[j]?=some b) (t:TypeId) (W:World) (cap:Nat) (fr:Nat×Nat):(W.alloc (.cells (bytesRow x cap) t fr)).cell? ⟨W.heap.size,j,none⟩=some (.int .u8 (b.toNat:Int)):=by
 rw[World.cell?_alloc_mark]
 exact zaM h j b hb cap
theorem znp {l:List UInt8} (h:l.length=4):∃a b c d,l=[a,b,c,d]:=by
 match l,h with
 |[a,b,c,d],_=>exact⟨a,b,c,d,rfl⟩
theorem zjA (w:World):(sizeOf 5).run Tryz.prog w= .ok 1 w:=by
 obtain⟨i8,hi8,hz8,hs8,hb8⟩:=info_parts z6Z
 simp[sizeOf,typeInfo,hi8,hs8]
def z5e (s:ByteArray):Option ByteArray:=
 if s.size<7\/807<s.size then none
 else if z5L (s.size-7)≠(s.extract 0 4).data.toList then none
 else if(⟨(z9W (s.extract 0 (s.size-3)).data.toList).toArray⟩:ByteArray)≠s.extract (s.size-3) s.size then none
 else some (s.extract 4 (s.size-3))
theorem znO (n:Nat) (hn:n<=800) (a b c d:UInt8) (W:World):
  (binOp .neq 240 (.agg #[.int .u8 87,.int .u8 76,.int .u8 ((n:Int) % 256),.int .u8 ((n:Int) /256)]) (.agg #[.int .u8 (a.toNat:Int),.int .u8 (b.toNat:Int),.int .u8 (c.toNat:Int),.int .u8 (d.toNat:Int)])).run Tryz.prog W= .ok (.bool (!(z5L n==[a,b,c,d]))) W:=by
 have h:=run_equalIn_bytes (P:=Tryz.prog) W 9998 240 5 4 Tryz.underlying240 Tryz.underlying5 zjA (z5L n) [a,b,c,d] rfl rfl
 have h1:(z5L n).map Extern.Stop.cell=[.int .u8 87,.int .u8 76,.int .u8 ((n:Int) % 256),.int .u8 ((n:Int) /256)]:=(z7Z hn)
 rw[h1]at h
 rw[run_neq_struct]
 rw[show(10000:Nat)=9998+2 from rfl]
 have h2:(Op.equalIn (9998+2) 240 (.agg #[.int .u8 87,.int .u8 76,.int .u8 ((n:Int) % 256),.int .u8 ((n:Int) /256)]) (.agg #[.int .u8 (a.toNat:Int),.int .u8 (b.toNat:Int),.int .u8 (c.toNat:Int),.int .u8 (d.toNat:Int)])).run Tryz.prog W= .ok (z5L n==[a,b,c,d]) W:=h
 rw[h2]
 rfl
def z5d (s:ByteArray):Value:=match z5e s with
 |some p=>.tuple #[.string p,.int .i64 0]
 |none=>.tuple #[.string noB,.int .i64 40]
theorem z84 {s:ByteArray} (h:z5e s=none):z5d s= .tuple #[.string noB,.int .i64 40]:=by unfold z5d;rw[h]
theorem ze5 {s p:ByteArray} (h:z5e s=some p):z5d s= .tuple #[.string p,.int .i64 0]:=by unfold z5d;rw[h]
theorem zj1 (s:ByteArray) (w:World) (n:Nat) (hn:s.size=n+7) (h8:n<=800):
  Calls Tryz.prog 87 #[.string s] w fun e w'=>e= .returned (z5d s)/\Below w.heap.size w w':=by
 have e1:(s.size:Int)-4-3=(n:Int):=by omega
 have e2:(4:Int)<=(s.size:Int):=by omega
 have e3:(4:Nat)<=s.size:=by omega
 have e4:s.size<=807:=by omega
 have e5:(4:Int)+(n:Int)<=(s.size:Int):=by omega
 have e6:((4:Int)+(n:Int)).toNat=s.size-3:=by omega
 have e7:s.size-3<=s.size:=by omega
 have e8:(4:Int)<=(4:Int)+(n:Int):=by omega
 have hr:z5e s=if z5L n≠(s.extract 0 4).data.toList then none else if(⟨(z9W (s.extract 0 (s.size-3)).data.toList).toArray⟩:ByteArray)≠s.extract (s.size-3) s.size then none else some (s.extract 4 (s.size-3)):=by
  unfold z5e
  rw[if_neg (by omega),show s.size-7=n by omega]
 obtain⟨T,hT⟩:∃T:ByteArray,T=⟨(z9W (s.extract 0 (s.size-3)).data.toList).toArray⟩:=⟨_,rfl⟩
 rw[<-hT]at hr
 have HT:=Lib.hid hT
 clear hn hT
 obtain⟨x,hx⟩:∃x,x=s.extract 0 4:=⟨_,rfl⟩
 have hxl:x.size=4:=by rw[hx,ByteArray.size_extract];omega
 obtain⟨a,b,c,d,hl⟩:=znp (l:=x.data.toList) (by rw[zf,hxl])
 have r0:=z6K hl 0 a rfl 5
 have r1:=z6K hl 1 b rfl 5
 have r2:=z6K hl 2 c rfl 5
 have r3:=z6K hl 3 d rfl 5
 have hne:=znO n h8 a b c d
 rw[<-hx,hl]at hr
 have hbs:∀W,(convert 9 101 (.string (s.extract 0 4))).run Tryz.prog W= .ok (.slice (some ⟨W.heap.size,0,none⟩) 4 (grownCap W 4 0 5))
   (W.drew.alloc (.cells (bytesRow x (grownCap W 4 0 5)) 5 ((bytesRow x (grownCap W 4 0 5)).size,(bytesRow x (grownCap W 4 0 5)).size+1))):=by
  intro W
  have h:=run_bytes_of_string (P:=Tryz.prog) W 9 101 5 x Tryz.underlying9 Tryz.underlying101 Tryz.underlying5
  rw[hxl]at h
  rw[<-hx]
  exact h
 have hat:=fun a c=>z7l (P:=Tryz.prog) (len:=4) (cap:=c) (a:=a) Tryz.underlying240 (Nat.le_refl 4)
 have hsz:(s.extract 0 (s.size-3)).size<=9223372036854775807:=by rw[ByteArray.size_extract];omega
 clear hx hxl hl
 obtain⟨B,hB⟩:∃B:Bool,(!(z5L n==[a,b,c,d]))=B:=⟨_,rfl⟩
 obtain⟨C,hC⟩:∃C:Bool,(T.toList==(s.extract (s.size-3) s.size).toList)=C:=⟨_,rfl⟩
 rw[hB]at hne
 have hB2:z5L n=[a,b,c,d]↔B=false:=by rw[<-hB];simp
 have hC2:T=s.extract (s.size-3) s.size↔C=true:=by
  rw[<-hC,beq_iff_eq]
  exact⟨fun h=>by rw[h],z0N⟩
 simp only[ne_eq,hB2,hC2]at hr
 have hfv:z5d s=if B=false/\C=true then .tuple #[.string (s.extract 4 (s.size-3)),.int .i64 0]else .tuple #[.string noB,.int .i64 40]:=by
  unfold z5d
  rw[hr]
  cases B<;>cases C<;>simp
 have HFV:=Lib.hid hfv
 clear hB hB2 hC2 hr hfv
 go_enter Tryz.func87,Tryz.ntmps87
 go_upto_region 4 with fail
 go_cut [23] (fun s23 wx=>s23= .bool B/\Below w.heap.size w wx)
 case first=>
  go_region_with (go_at_call 126;(refine(z9u n _ h8).mono ?_);rintro e w1 ⟨rfl,hb1⟩;have hc:=znu hb1;have hz:=hb1.size)
  all_goals (go_wp2_with fail;go_meet;exact⟨rfl,(by repeat (first|exact Below.refl _ _|refine zw ?_ hb2|refine zw ?_ hb1|refine Below.drew ?_|refine za ?_ _))⟩)
 case rest=>
  obtain⟨rfl,hb⟩:=hcut
  cases B
  ·go_upto_region 7 with fail
   go_cut [33] (fun s33 wx=>s33= .bool (!C)/\Below w.heap.size w wx)
   case first=>
    go_region_with (go_at_call 127;(refine(z94 _ _ hsz).mono ?_);rintro e w2 ⟨rfl,hb2⟩;rw[<-HT.out])
    all_goals (go_wp2_with fail;go_meet;exact⟨rfl,(by repeat (first|exact hb|exact Below.refl _ _|refine zw ?_ hb2|refine zw ?_ hb1|refine Below.drew ?_|refine za ?_ _))⟩)
   case rest=>
    obtain⟨rfl,hb'⟩:=hcut
    cases C
    all_goals
     go_wp2
     go_ret2
     exact⟨by rw[HFV.out];rfl,hb'⟩
  ·go_wp2
   go_ret2
   exact⟨by rw[HFV.out];rfl,hb⟩
theorem ze4 (s:ByteArray) (w:World) (hs:s.size<=9223372036854775807):
  Calls Tryz.prog 87 #[.string s] w fun e w'=>e= .returned (z5d s)/\Below w.heap.size w w':=by
 by_cases h:s.size<7\/807<s.size
 ·have hr:z5e s=none:=by unfold z5e;rw[if_pos h]
  have HR:=Lib.hid (z84 hr)
  clear hr
  rcases h with h|h
  all_goals
   go_enter Tryz.func87,Tryz.ntmps87
   go_wp2
   go_ret2
   exact⟨by rw[HR.out];rfl,Below.refl _ _⟩
 ·exact zj1 s w (s.size-7) (by omega) (by omega)
end Go.Proofs.YtmfincpagnpkjaaGreat
namespace Go.Proofs.YtmfincpagnpkjaaGreat
section
open Go.RowKit Go.Shelf
attribute [local go_sem] Oper.semAt_some
theorem zbt {F:Fence} {n:Nat} {P:Program} {α:Type} {g:Operand} {p d id:Nat} {ty:TypeId} {ps:String} {body:Code} {Q:Exit->Act->World->Prop} {tm:Array Value} {w:World}
  (hro:F.round=none) (h1:1<=n) {gf:Nat} {lb:Array Value} (hg:(Act.mk tm []).eval g= .func (.func gf) #[] lb) (hFg:F.fn gf) (eg:∀args w,(callFunc gf args).run P w= .ok (.enter gf args) w)
  {e:α->Value} {Kp:World->World->Prop} {S Sp:List α->Prop} {N:Nat} {w0:World} (hseq:SeqStopsK F (n-1) P gf lb (fun x=>#[e x]) Kp S Sp N w0)
  (hKt:∀{A B C:World},Kp A B->Kp B C->Kp A C) (hKb:∀(W:World) (l:Nat) (o o':Obj),w.heap.size<=l->W.heap[l]?=some o->o.isCells=false->o.isWalk=false->Kp W (W.putObj l o')) (hb0:Below w0.heap.size w0 w)
  (hp:p<tm.size)
  (I:List α->World->Prop) (Ix:Code->List α->World->Prop) (hI:OwnFrom w.heap.size I) (hIx:∀c,OwnFrom w.heap.size (Ix c)) (h0:I [] w)
  (hbody:∀(l:Nat) (pre:List α) (x:α) (W:World),I pre W->pre.length<N->body.wpIn (F.inRound l) (n-1-1) P (ownPostK Kp I Ix (pre++[x]) W) ⟨(tm.setIfInBounds p (e x)).setIfInBounds d (e x),[]⟩ W)
  (hdone:∀(D:Nat) (xs:List α) (W:World),w.heap.size<=D->S xs->I xs W->W.heap[D]?=some (.deferred (some []))->Q .normal ⟨tm,[{target:=.collected D,args:=#[]}]⟩ W)
  (hstop:∀(D:Nat) (c:Code) (pre:List α) (W:World),w.heap.size<=D->Sp pre->Ix c pre W->W.heap[D]?=some (.deferred (some []))->c.wpIn F n P Q ⟨tm,[{target:=.collected D,args:=#[]}]⟩ W):
  (Code.rangeFunc g #[p] (Code.region id #[{dst:=some d,op:=.assign (.tmp p),type:=ty,pos:=ps,after:=#[],guard:=none}] false) body).wpIn F n P Q ⟨tm,[]⟩ w:=by
 refine wpIn_rangeFunc_ownF hro h1 hg hFg eg hseq hKt hKb hb0 (fun _=>rfl) I Ix hI hIx h0 (fun x=>⟨(tm.setIfInBounds p (e x)).setIfInBounds d (e x),[]⟩) ?_ hbody hdone hstop
 intro l x W K hK
 have hf:(#[p].zip #[e x]).foldl (fun t (x:Nat×Value)=>t.setIfInBounds x.1 x.2) tm=tm.setIfInBounds p (e x):=by simp
 have hv:(Act.mk (tm.setIfInBounds p (e x)) []).eval (.tmp p)=e x:=by
  simp[Act.eval,hp]
 show Code.wpIn _ _ _ _ _ ⟨(#[p].zip #[e x]).foldl (fun t (x:Nat×Value)=>t.setIfInBounds x.1 x.2) tm,[]⟩ W
 rw[hf]
 gi_wp2
 exact hK
end
end Go.Proofs.YtmfincpagnpkjaaGreat
namespace Go.Proofs.YtmfincpagnpkjaaGreat
open Go.RowKit
section
section
variable {P:Program} {ops:Array Oper} {Q:Exit->Act->World->Prop} {md:Region.Mode} {S:World->Prop} {n l:Nat}
theorem zfV {row:String} {args:Array Value} {w:World} {R:Value->World->Prop} (h:Rows P row args w R):RowsIn (Fence.wide.inRound l) n P row args w R:=fun c cs _=>by
 obtain⟨v,w',hr,hs⟩:=h c cs
 exact⟨v,w',hr,stepsIn_wide.2 hs⟩
theorem z8X {o:Oper} {a:Act} {w:World} {K:Act->World->Prop} (hd:∀c,o.op≠ .defer c) (h:o.wp P a w K Q):o.wpIn (Fence.wide.inRound l) n P a w K Q:=by
 refine⟨fun _ _=>trivial, ?_⟩
 have hs:o.semAt (Fence.wide.inRound l).round a.eval=execOp a.eval o:=Oper.semAt_some _ _ _ hd
 rw[hs]
 unfold Oper.wp at h
 generalize (execOp a.eval o).run P w=r at*
 cases r with
 |ok x w'=>
  cases x<;>simp only[Oper.upon,Oper.uponIn]at h⊢
  case value v=>exact h
  case skip=>exact h
  case defer d=>exact h
  case enter f args=>exact⟨fun h=>by simp[Fence.wide]at h,CallsIn.inRound l (callsIn_wide.2 h)⟩
  case row row args=>exact⟨fun h=>by simp[Fence.wide]at h,zfV h⟩
 |halt x w'=>cases x<;>simp only[Oper.upon,Oper.uponIn]at h⊢<;>exact h
def z7N (ops:Array Oper):Bool:=ops.all fun o=>match o.op with| .defer _=>false|_=>true
theorem z9n {i:Nat} {o:Oper} (h:z7N ops=true) (hi:ops[i]?=some o):∀c,o.op≠ .defer c:=by
 intro c hc
 obtain⟨hlt,rfl⟩:=Array.getElem?_eq_some_iff.1 hi
 have:=Array.all_eq_true.1 h i hlt
 rw[hc]at this
 cases this
theorem z0F (hd:z7N ops=true) (hQ:¬LetsOut Q):∀(fuel:Nat) (listed:Array Bool) (a:Act) (w:World),wpAny P md ops Q fuel listed a w->wpAnyIn (Fence.wide.inRound l) n P md ops Q fuel listed a w
 |0,_,_,_,h=>h
 |fuel+1,listed,a,w,h=>⟨h.1,fun i hi=>by
   have h1:=h.2 i hi
   unfold wpOp at h1
   unfold wpOpIn
   split at h1
   ·rename_i hn
    rw[hn]
    exact z0F hd hQ fuel _ _ _ h1
   ·rename_i o ho
    rw[ho]
    split at h1
    ·rename_i hw
     simp only[hw,if_true]
     rcases h1 with h1|h1
     ·exact Oper.wpIn_mono (fun a w h=>z0F hd hQ fuel _ a w h) (z8X (z9n hd ho) h1)
     ·exact absurd h1.2 hQ
    ·rename_i hw
     simp only[hw]
     exact⟨fun _ _=>trivial,z0F hd hQ fuel _ _ _ h1⟩⟩
theorem z30 {id:Nat} {a:Act} {w:World} (hm:P.follows .mixedOrders=true) (hd:z7N ops=true) (hQ:¬LetsOut Q) (hS:S w.drew)
  (h:S w.drew->wpAnyH P .any ops Q S ops.size (Array.replicate ops.size false) a w.drew):(Code.region id ops true).wpIn (Fence.wide.inRound l) n P Q a w:=
 wpIn_region_any hm (z0F hd hQ _ _ _ _ (wpAny_of_held _ _ _ _ (h hS)))
end
end
end Go.Proofs.YtmfincpagnpkjaaGreat
namespace Go.Proofs.YtmfincpagnpkjaaGreat
def z8W (a b:List UInt8):List UInt8:=List.zipWith (·^^^·) a b
def z9M (a b:ByteArray):ByteArray:=⟨(z8W a.data.toList b.data.toList).toArray⟩
def z1m (first:ByteArray) (l:List ByteArray):ByteArray:=l.foldl z9M first
theorem z2z (a b:List UInt8):(z8W a b).length=min a.length b.length:=by simp[z8W]
theorem z1v (a b:ByteArray):(z9M a b).data.toList=z8W a.data.toList b.data.toList:=by simp[z9M]
theorem zaZ (a b:ByteArray):(z9M a b).size=min a.size b.size:=by
 rw[<-zf,z1v,z2z,zf,zf]
theorem z9v (a b:ByteArray) (l:List ByteArray):z1m a (b::l)=z1m (z9M a b) l:=rfl
theorem zch (a:ByteArray) (l m:List ByteArray):z1m a (l++m)=z1m (z1m a l) m:=by simp[z1m,List.foldl_append]
theorem z5O (a:ByteArray) (l:List ByteArray) (h:∀s∈l,s.size=a.size):(z1m a l).size=a.size:=by
 induction l generalizing a with
 |nil=>rfl
 |cons b l ih=>
  rw[z9v,ih,zaZ,h b (by simp)]
  ·omega
  ·intro s hs
   rw[zaZ,h s (by simp[hs]),h b (by simp)]
   omega
theorem zjv {a b:ByteArray} (h:a.data.toList=b.data.toList):a=b:=by
 cases a;cases b
 simp only[ByteArray.mk.injEq]
 exact Array.toList_inj.1 h
theorem zjP (a b:List UInt8) (i:Nat):(z8W a b)[i]?=match a[i]?,b[i]? with|some x,some y=>some (x^^^y)|_,_=>none:=by
 unfold z8W
 rw[List.getElem?_zipWith]
 cases a[i]?<;>cases b[i]?<;>rfl
theorem zhh (a b:List UInt8):z8W a b=z8W b a:=by
 unfold z8W
 rw[List.zipWith_comm]
 congr 1
 funext x y
 exact UInt8.xor_comm y x
theorem zhg (a:List UInt8) (n:Nat) (h:a.length<=n):z8W a (List.replicate n 0)=a:=by
 induction a generalizing n with
 |nil=>simp[z8W]
 |cons x a ih=>
  cases n with
  |zero=>simp at h
  |succ n=>
   simp only[z8W,List.replicate_succ,List.zipWith_cons_cons,UInt8.xor_zero]at ih⊢
   rw[ih n (by simpa using h)]
theorem zhj (a b:ByteArray):z9M a b=z9M b a:=zjv (by rw[z1v,z1v,zhh])
def z6u (n:Nat):ByteArray:=⟨(List.replicate n 0).toArray⟩
theorem z5n (n:Nat):(z6u n).size=n:=by rw[z6u,z1w,List.length_replicate]
theorem zhi (a:ByteArray) (n:Nat) (h:a.size<=n):z9M a (z6u n)=a:=zjv (by
 rw[z1v]
 have:(z6u n).data.toList=List.replicate n 0:=by simp[z6u]
 rw[this,zhg _ _ (by rw[zf];exact h)])
def z6A (first:ByteArray) (rest:List ByteArray):ByteArray×Int:=
 if ∀s∈rest,s.size=first.size then(z1m first rest,0)else(⟨#[]⟩,10)
def znS:List ByteArray->ByteArray×Int
 |[]=>(⟨#[]⟩,10)
 |a::l=>z6A a l
theorem zaz {first:ByteArray} {rest:List ByteArray} (h:∀s∈rest,s.size=first.size):z6A first rest=(z1m first rest,0):=if_pos h
theorem zkQ {first:ByteArray} {rest:List ByteArray} (h:¬∀s∈rest,s.size=first.size):z6A first rest=(⟨#[]⟩,10):=if_neg h
def zjG (n:Nat) (l:List ByteArray):ByteArray:=z1m (z6u n) l
theorem zhC (n:Nat) (a:ByteArray) (l:List ByteArray) (h:a.size=n):zjG n (a::l)=z1m a l:=by
 unfold zjG
 rw[z9v,zhj,zhi a n (by omega)]
theorem zmt {n:Nat} {l:List ByteArray} (h0:l≠[]) (h:∀s∈l,s.size=n):znS l=(zjG n l,0):=by
 cases l with
 |nil=>exact absurd rfl h0
 |cons a l=>
  have ha:=h a (by simp)
  rw[zhC n a l ha]
  exact zaz fun s hs=>by rw[h s (by simp[hs]),ha]
theorem zhB {n:Nat} {l:List ByteArray} (h:∀s∈l,s.size=n):(zjG n l).size=n:=by
 unfold zjG
 rw[z5O _ _ (fun s hs=>by rw[h s hs,z5n]),z5n]
theorem zm1 (acc s:List UInt8) (m:Nat) (x y:UInt8) (hx:acc[m]?=some x) (hy:s[m]?=some y):
  ((z8W acc s).take m++acc.drop m).set m (x^^^y)=(z8W acc s).take (m+1)++acc.drop (m+1):=by
 have h1:=(List.getElem?_eq_some_iff.1 hx).1
 have h2:=(List.getElem?_eq_some_iff.1 hy).1
 have hz:(z8W acc s)[m]?=some (x^^^y):=by rw[zjP,hx,hy]
 have hl:((z8W acc s).take m).length=m:=by rw[List.length_take,z2z];omega
 rw[List.set_append,if_neg (by omega),hl,Nat.sub_self]
 have h3:acc.drop m=x::acc.drop (m+1):=by
  rw[List.drop_eq_getElem_cons h1]
  congr 1
  rw[List.getElem?_eq_getElem h1]at hx
  exact Option.some.inj hx
 rw[h3,List.set_cons_zero,List.take_add_one,hz]
 simp
theorem zno (acc s:List UInt8) (m:Nat) (x:UInt8) (hx:acc[m]?=some x) (hs:m<s.length):((z8W acc s).take m++acc.drop m)[m]?=some x:=by
 have h1:=(List.getElem?_eq_some_iff.1 hx).1
 have hl:((z8W acc s).take m).length=m:=by rw[List.length_take,z2z];omega
 rw[List.getElem?_append_right (by omega),hl,Nat.sub_self,List.getElem?_drop]
 simpa using hx
theorem zni (x y:UInt8):bits .xor .u8 (x.toNat:Int) (y.toNat:Int)=((x^^^y).toNat:Int):=by
 rw[u8_xor_nat _ _ x.toNat_lt y.toNat_lt,UInt8.toNat_xor]
theorem toList_inj {x y:ByteArray} (h:x.toList=y.toList):x=y:=by
 rw[Lib.toList_data,Lib.toList_data]at h
 exact zjv h
theorem zhr:(Tryz.prog.info? 5).map (·.size)=some 1:=by kernel_rfl
theorem zdg:(Tryz.prog.info? 9).map (fun i=>(i.zero,i.size,i.bytes))=some (some (.string ⟨#[]⟩),1,16):=by kernel_rfl
end Go.Proofs.YtmfincpagnpkjaaGreat
