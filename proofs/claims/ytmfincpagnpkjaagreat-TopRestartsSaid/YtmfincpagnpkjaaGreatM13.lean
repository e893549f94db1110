/- Part of the proof. -/
import Derived.Shelf.Strings.Builder1
import Derived.Shelf.Strings.Builder2
import Derived.Shelf.Small.Bits
import Derived.Shelf.Strings.BuilderF
import Derived.Shelf.Strings.Builder2Cap
import Derived.Shelf.Strconv.Itoa0
import Derived.Shelf.Sort.Plain
import Derived.Shelf.Strings.Prefix
import Derived.Shelf.Bits.Mul64
import Derived.Shelf.Strings.Repeat
import Derived.Ground.Names2Prog
import Derived.Shelf.Slices.CompactI
import Derived.Shelf.Slices.SearchI
import Derived.Shelf.Slices.Cells
import Derived.Shelf.Slices.In.SortNone
import Derived.Test.YtmfincpagnpkjaaGreatM11
set_option linter.all false
set_option maxRecDepth 100000
set_option maxHeartbeats 100000000
namespace Go.Proofs.YtmfincpagnpkjaaGreat
open Go.RowKit
def jx:Nat->List UInt8->Option (List Fld)
 |_,[]=>some []
 |0,_::_=>none
 |k+1,t::a::b::r=>if t=0\/400<a.toNat+256*b.toNat\/r.length<a.toNat+256*b.toNat then none
  else(jx k (r.drop (a.toNat+256*b.toNat))).map fun l=>((t.toNat:Int),⟨(r.take (a.toNat+256*b.toNat)).toArray⟩)::l
 |_+1,[_]=>none
 |_+1,[_,_]=>none
theorem z7b (k:Nat):jx k []=some []:=by cases k<;>rfl
theorem z91 {l:List UInt8} (h:0<l.length):jx 0 l=none:=by
 cases l with
 |nil=>simp at h
 |cons _ _=>rfl
theorem z7a {k:Nat} {l:List UInt8} (h:0<l.length) (h3:l.length<3):jx k l=none:=by
 match k,l,h,h3 with
 |0,_::_,_,_=>rfl
 |_+1,[_],_,_=>rfl
 |_+1,[_,_],_,_=>rfl
 |_+1,_::_::_::_,_,h3=>simp at h3;omega
theorem z79 {k n:Nat} {l:List UInt8} (h:3<=l.length) (hn:n=l[1].toNat+256*l[2].toNat):
  jx (k+1) l=if l[0]=0\/400<n\/l.length<n+3 then none else(jx k (l.drop (n+3))).map fun r=>((l[0].toNat:Int),⟨((l.drop 3).take n).toArray⟩)::r:=by
 match l,h,hn with
 |t::a::b::r,h,hn=>
  simp only[List.getElem_cons_zero,List.getElem_cons_succ]at hn
  subst hn
  simp only[jx,List.getElem_cons_zero,List.length_cons,List.drop_succ_cons,List.drop_zero,show ∀m:Nat,m+3=m+1+1+1 from fun _=>rfl]
  simp only[show(r.length+1+1+1<a.toNat+256*b.toNat+1+1+1)=(r.length<a.toNat+256*b.toNat)from propext (by omega)]
theorem zeY (s:ByteArray) (i j:Nat):(s.extract i j).data.toList=(s.data.toList.take j).drop i:=by simp[List.drop_take]
theorem zja {s:ByteArray} {n:Nat}:s.extract 3 (n+3)=⟨((s.data.toList.drop 3).take n).toArray⟩:=by
 rw[<-z3v (s.extract 3 (n+3)),zeY,List.drop_take]
 rfl
theorem zlf {s:ByteArray} {n:Nat}:(s.extract n s.size).data.toList=s.data.toList.drop n:=by
 rw[zeY,List.take_of_length_le (by rw[zf];exact Nat.le_refl _)]
theorem zk6 {s:ByteArray} {k n:Nat} (h3:3<=s.size) (hn:n=s[1].toNat+256*s[2].toNat) (hb:s[0]=0\/400<n\/s.size<n+3):jx (k+1) s.data.toList=none:=by
 rw[z79 (n:=n) (by rw[zf];exact h3) (by rw[hn];rfl),if_pos]
 rcases hb with h|h|h
 ·exact Or.inl h
 ·exact Or.inr (Or.inl h)
 ·exact Or.inr (Or.inr (by rw[zf];exact h))
theorem zhy {s:ByteArray} {k n:Nat} (h3:3<=s.size) (hn:n=s[1].toNat+256*s[2].toNat) (h0:¬s[0]=0) (h1:¬400<n) (h2:¬s.size<n+3):
  jx (k+1) s.data.toList=(jx k (s.extract (n+3) s.size).data.toList).map fun r=>((s[0].toNat:Int),s.extract 3 (n+3))::r:=by
 rw[z79 (n:=n) (by rw[zf];exact h3) (by rw[hn];rfl),if_neg,zlf,zja]
 ·rfl
 ·rintro(h|h|h)
  ·exact h0 h
  ·exact h1 h
  ·rw[zf]at h;exact h2 h
theorem zlH {S s:ByteArray} {L:List Fld} {n:Nat} (hL:¬L.length=64) (hL2:L.length<=64) (h3:3<=s.size) (hn:n=s[1].toNat+256*s[2].toNat) (h0:¬s[0]=0) (h1:¬400<n) (h2:¬s.size<n+3)
  (h:jx 64 S.data.toList=(jx (64-L.length) s.data.toList).map (L++·)):
  jx 64 S.data.toList=(jx (64-(L++[((s[0].toNat:Int),s.extract 3 (n+3))]).length) (s.extract (n+3) s.size).data.toList).map ((L++[((s[0].toNat:Int),s.extract 3 (n+3))])++·):=by
 rw[h,show 64-L.length=(64-(L.length+1))+1 by omega,zhy h3 hn h0 h1 h2,List.length_append]
 simp only[Option.map_map,List.length_singleton]
 congr 1
 funext r
 simp
theorem z9T {S s:ByteArray} {L:List Fld} {n:Nat} (hL:¬L.length=64) (hL2:L.length<=64) (h3:3<=s.size) (hn:n=s[1].toNat+256*s[2].toNat) (hb:s[0]=0\/400<n\/s.size<n+3)
  (h:jx 64 S.data.toList=(jx (64-L.length) s.data.toList).map (L++·)):jx 64 S.data.toList=none:=by
 rw[h,show 64-L.length=(64-(L.length+1))+1 by omega,zk6 h3 hn hb]
 rfl
def z0G (s:List UInt8):List Fld:=(jx 64 s).getD []
def z1N (s:List UInt8):Int:=if(jx 64 s).isSome then 0 else 30
theorem zlp (a b:UInt8):bits .or .i64 (wrap64 (a.toNat:Int)) (wrap64 (wrap64 (b.toNat:Int)*256))=((a.toNat+256*b.toNat:Nat):Int):=by
 have ha:=a.toNat_lt
 have hb:=b.toNat_lt
 have e:((b.toNat:Int)*256)=((b.toNat*256:Nat):Int):=by omega
 have e2:b.toNat*256=b.toNat<<<(8*1):=by rw[Nat.shiftLeft_eq]
 rw[IntWalk.wrap64_in _ (by omega),IntWalk.wrap64_in (b.toNat:Int) (by omega),e,IntWalk.wrap64_in _ (by omega),z5J _ _ (by omega) (by omega),e2,zdI (by omega)]
theorem zeW:(Tryz.prog.info? 79).map (fun i=>(i.zero,i.size,i.bytes))=some (some (.agg #[.int .i64 0,.string ⟨#[]⟩]),2,24):=by kernel_rfl
theorem z1q (S:ByteArray) (w:World):
  Calls Tryz.prog 88 #[.string S] w fun e w'=>∃v,e= .returned (.tuple #[v,.int .i64 (z1N S.data.toList)])/\w'.ownsRow w.heap.size 79 2 v (z0G S.data.toList).length (zo (z0G S.data.toList))/\Below w.heap.size w w':=by
 go_enter Tryz.func88,Tryz.ntmps88
 go_wp2
 refine zb2 (rest1:=?rest1) (fun a' w'=>∃(s:ByteArray) (L:List Fld) (v:Value) (u5 u6 u7 u8 u9 u10 u11 u12 u13 u14 u15 u16 u17 u18 u19 u20 u21 u22 u23 u24 u25 u26 u27 u28 u29 u30 u31 u32 u33 u34 u35 u36 u37 u38 u39 u40 u41 u42 u43 u44 u45 u46 u47 u48 u49 u50:Value),
   a'={tmps:=#[.string s,undef,.slice none 0 0,.int .i64 0,v,u5,u6,u7,u8,u9,u10,u11,u12,u13,u14,u15,u16,u17,u18,u19,u20,u21,u22,u23,u24,u25,u26,u27,u28,u29,u30,u31,u32,u33,u34,u35,u36,u37,u38,u39,u40,u41,u42,u43,u44,u45,u46,u47,u48,u49,u50],defers:=[]}/\
    L.length<=64/\jx 64 S.data.toList=(jx (64-L.length) s.data.toList).map (L++·)/\w'.ownsRow w.heap.size 79 2 v L.length (zo L)/\Below w.heap.size w w')
  (fun a' w'=>∃(u0 v u5 u6 u7 u8 u9 u10 u11 u12 u13 u14 u15 u16 u17 u18 u19 u20 u21 u22 u23 u24 u25 u26 u27 u28 u29 u30 u31 u32 u33 u34 u35 u36 u37 u38 u39 u40 u41 u42 u43 u44 u45 u46 u47 u48 u49 u50:Value),
   a'={tmps:=#[u0,undef,.slice none 0 0,.int .i64 0,v,u5,u6,u7,u8,u9,u10,u11,u12,u13,u14,u15,u16,u17,u18,u19,u20,u21,u22,u23,u24,u25,u26,u27,u28,u29,u30,u31,u32,u33,u34,u35,u36,u37,u38,u39,u40,u41,u42,u43,u44,u45,u46,u47,u48,u49,u50],defers:=[]}/\
    jx 64 S.data.toList=none/\Below w.heap.size w w')
  (fun a' _=>match a'.tmps.getD 0 undef with| .string s=>s.size|_=>0) ?hf0 ?hf1 ?first ?pass ?last
 case hf0=>rfl
 case hf1=>rfl
 case first=>
  go_wp2
  exact⟨S,[],.slice none 0 0,_,_,_,_,_,_,_,_,_,_,_,_,_,_,_,_,_,_,_,_,_,_,_,_,_,_,_,_,_,_,_,_,_,_,_,_,_,_,_,_,_,_,_,_,_,_,rfl,by simp,by simp,World.ownsRow_nil _ _ _ _,Below.refl _ _⟩
 case pass=>
  rintro a' w' ⟨s,L,v,u5,u6,u7,u8,u9,u10,u11,u12,u13,u14,u15,u16,u17,u18,u19,u20,u21,u22,u23,u24,u25,u26,u27,u28,u29,u30,u31,u32,u33,u34,u35,u36,u37,u38,u39,u40,u41,u42,u43,u44,u45,u46,u47,u48,u49,u50,rfl,hL,heq,hown,hb⟩
  obtain⟨A,c,rfl,hc1,hc2⟩:=z0I hown
  by_cases h0:s.size=0
  ·obtain rfl:=zf2 h0
   have hv:jx 64 S.data.toList=some L:=by rw[heq];simp[jx]
   have hF:z0G S.data.toList=L:=by unfold z0G;rw[hv];rfl
   have hE:z1N S.data.toList=0:=by unfold z1N;rw[hv];rfl
   have HF:=Lib.hid hF
   have HE:=Lib.hid hE
   have HO:=Lib.hid hown
   have he:(ByteArray.mk #[]).toList.isEmpty=true:=by rw[ByteArray.toList_eq];rfl
   clear heq hv hF hE hown h0
   go_wp2
   simp only[ziO]
   go_ret2
   exact⟨_,by rw[HE.out];rfl,by rw[HF.out];exact HO.out,hb⟩
  ·have he:s.toList.isEmpty=false:=z1V (by omega)
   by_cases hL64:L.length=64
   ·have hLn:((L.length:Int)==64)=true:=by rw[beq_iff_eq];omega
    have HBAD:Hid (jx 64 S.data.toList=none):=Lib.hid (by rw[heq,hL64,z91 (by rw[zf];omega)];rfl)
    clear heq hown
    go_wp2
    go_step3
    exact Or.inr ⟨rfl,_,_,_,_,_,_,_,_,_,_,_,_,_,_,_,_,_,_,_,_,_,_,_,_,_,_,_,_,_,_,_,_,_,_,_,_,_,_,_,_,_,_,_,_,_,_,_,_,rfl,HBAD.out,hb⟩
   ·have hLn:((L.length:Int)==64)=false:=by rw[beq_eq_false_iff_ne];omega
    by_cases h3:s.size<3
    ·have HBAD:Hid (jx 64 S.data.toList=none):=Lib.hid (by rw[heq,z7a (by rw[zf];omega) (by rw[zf];exact h3)];rfl)
     clear heq hown
     go_wp2
     go_step3
     exact Or.inr ⟨rfl,_,_,_,_,_,_,_,_,_,_,_,_,_,_,_,_,_,_,_,_,_,_,_,_,_,_,_,_,_,_,_,_,_,_,_,_,_,_,_,_,_,_,_,_,_,_,_,_,rfl,HBAD.out,hb⟩
    ·have k0:0<s.size:=by omega
     have k1:1<s.size:=by omega
     have k2:2<s.size:=by omega
     by_cases hz:s[0]=0
     ·have hz':((s[0].toNat:Int)==0)=true:=by rw[z9Q];exact decide_eq_true hz
      have HBAD:Hid (jx 64 S.data.toList=none):=Lib.hid (z9T hL64 hL (by omega) rfl (Or.inl hz) heq)
      clear heq hown hz
      go_wp2
      go_step3
      exact Or.inr ⟨rfl,_,_,_,_,_,_,_,_,_,_,_,_,_,_,_,_,_,_,_,_,_,_,_,_,_,_,_,_,_,_,_,_,_,_,_,_,_,_,_,_,_,_,_,_,_,_,_,_,rfl,HBAD.out,hb⟩
     ·have hz':((s[0].toNat:Int)==0)=false:=by rw[z9Q];exact decide_eq_false hz
      obtain⟨n,hn⟩:∃n,n=s[1].toNat+256*s[2].toNat:=⟨_,rfl⟩
      have hbits:bits .or .i64 (wrap64 (s[1].toNat:Int)) (wrap64 (wrap64 (s[2].toNat:Int)*256))=(n:Int):=by rw[hn];exact zlp _ _
      have HN:=Lib.hid hn
      have HZ:=Lib.hid hz
      have HH:=Lib.hid heq
      have HO:=Lib.hid hown
      have hn2:n<65536:=by rw[hn];have h1:=s[1].toNat_lt;have h2:=s[2].toNat_lt;omega
      clear hz hown heq hn
      have k1':(1:Int)<(s.size:Int):=by omega
      have k2':(2:Int)<(s.size:Int):=by omega
      by_cases hbig:400<n
      ·have HBAD:Hid (jx 64 S.data.toList=none):=Lib.hid (z9T hL64 hL (by omega) HN.out (Or.inr (Or.inl hbig)) HH.out)
       go_wp2
       go_quiet (fail)
       go_wp2
       go_step3
       exact Or.inr ⟨rfl,_,_,_,_,_,_,_,_,_,_,_,_,_,_,_,_,_,_,_,_,_,_,_,_,_,_,_,_,_,_,_,_,_,_,_,_,_,_,_,_,_,_,_,_,_,_,_,_,rfl,HBAD.out,z2Y hb nq⟩
      ·by_cases hfit:s.size<n+3
       ·have HBAD:Hid (jx 64 S.data.toList=none):=Lib.hid (z9T hL64 hL (by omega) HN.out (Or.inr (Or.inr hfit)) HH.out)
        go_wp2
        go_quiet (fail)
        go_wp2
        go_step3
        exact Or.inr ⟨rfl,_,_,_,_,_,_,_,_,_,_,_,_,_,_,_,_,_,_,_,_,_,_,_,_,_,_,_,_,_,_,_,_,_,_,_,_,_,_,_,_,_,_,_,_,_,_,_,_,rfl,HBAD.out,z2Y hb nq⟩
       ·have HON:=Lib.hid (zlH hL64 hL (by omega) HN.out HZ.out hbig hfit HH.out)
        obtain⟨iF,hiF,hzF,hsF,hbF⟩:=info_parts zeW
        go_wp2
        go_quiet (fail)
        go_wp2
        have q1:(n:Int)+3<=(s.size:Int):=by omega
        have q2:(3:Int)<=(n:Int)+3:=by omega
        have q3:(0:Int)<=(n:Int)+3:=by omega
        have hw0:wrap64 (s[0].toNat:Int)=(s[0].toNat:Int):=IntWalk.wrap64_in _ (by have:=s[0].toNat_lt;omega)
        have hbsz:=hb.size
        go_region_law (refine z4e (by rfl) (.tmp 38) (.tmp 46) 81 (by rfl) w.heap.size 79 iF _ 2 24 Tryz.underlying81 hiF hzF hsF hbF rfl (by decide) (.slice A L.length c) L.length (zo L) (by rfl) (World.ownsRow.alloc (w:=w'.drewN (nq+1)) HO.out _) (w'.heap.size+1) (some ⟨w'.heap.size,0,none⟩) 1 1 (zo [(IntKind.i64.wrap (s[0].toNat:Int),s.extract 3 ((n:Int)+3).toNat)]) (by rfl) (Rd.new (w'.drewN (nq+1)) #[.int .i64 (IntKind.i64.wrap (s[0].toNat:Int)),.string (s.extract 3 ((n:Int)+3).toNat)] 79 (0,0)) (by rfl) (zci _) (by unfold maxLen;omega) (by omega) (by simp;omega) ?_;intro v3 w3 hown3 hg3;have HO3:=Lib.hid hown3;have HG3:=Lib.hid hg3;clear hown3 hg3)
        go_wp2
        go_step3
        refine Or.inl ⟨rfl,⟨s.extract (n+3) s.size,L++[((s[0].toNat:Int),s.extract 3 (n+3))],v3,_,_,_,_,_,_,_,_,_,_,_,_,_,_,_,_,_,_,_,_,_,_,_,_,_,_,_,_,_,_,_,_,_,_,_,_,_,_,_,_,_,_,_,_,_,_,rfl,by rw[List.length_append,List.length_singleton];omega,HON.out, ?_, ?_⟩, ?_⟩
        ·rw[z06,List.length_append]
         have h3:=HO3.out
         rw[show((n:Int)+3).toNat=n+3 by omega,show IntKind.i64.wrap (s[0].toNat:Int)=(s[0].toNat:Int)from IntWalk.i64_in _ (by have:=s[0].toNat_lt;omega)]at h3
         exact h3
        ·exact((z2Y hb (nq+1)).alloc hbsz _).grown HG3.out (by simp;omega) (fun j hj=>(HO.out.lt j hj).1)
        ·show(s.extract (n+3) s.size).size<s.size
         rw[ByteArray.size_extract]
         omega
 case last=>
  rintro a' w' ⟨u0,v,u5,u6,u7,u8,u9,u10,u11,u12,u13,u14,u15,u16,u17,u18,u19,u20,u21,u22,u23,u24,u25,u26,u27,u28,u29,u30,u31,u32,u33,u34,u35,u36,u37,u38,u39,u40,u41,u42,u43,u44,u45,u46,u47,u48,u49,u50,rfl,hn,hb⟩
  have hF:z0G S.data.toList=[]:=by unfold z0G;rw[hn];rfl
  have hE:z1N S.data.toList=30:=by unfold z1N;rw[hn];rfl
  have HF:=Lib.hid hF
  have HE:=Lib.hid hE
  clear hn hF hE
  go_wp2
  rw[Exit.noGoto_ret]
  go_ret2
  exact⟨_,by rw[HE.out];rfl,by rw[HF.out];exact World.ownsRow_nil _ _ _ _,hb⟩
end Go.Proofs.YtmfincpagnpkjaaGreat
namespace Go.Proofs
open Go.Shelf
def Tryz.lays189_ren:Go.Shelf.Ren:=⟨fun|189=>125|125=>176|257=>175|128=>223|129=>224|294=>214|295=>215|296=>216|297=>217|298=>218|299=>219|216=>220|300=>221|301=>222|328=>251|329=>252|330=>253|331=>254|332=>255|215=>256|343=>272|n=>n,fun|28=>25|3=>3|46=>142|0=>0|51=>261|53=>264|4=>4|183=>318|182=>317|131=>222|5=>5|9=>9|218=>341|222=>141|228=>363|229=>58|n=>n,fun|n=>n⟩
theorem Tryz.lays189:Go.Proofs.Lays.n189 Tryz.prog Tryz.lays189_ren:={
 mixed:=by kernel_rfl
 f125:=Tryz.func176.trans (congrArg some (by kernel_rfl))
 f128:=Tryz.func223.trans (congrArg some (by kernel_rfl))
 f129:=Tryz.func224.trans (congrArg some (by kernel_rfl))
 f189:=Tryz.func125.trans (congrArg some (by kernel_rfl))
 f215:=Tryz.func256.trans (congrArg some (by kernel_rfl))
 f216:=Tryz.func220.trans (congrArg some (by kernel_rfl))
 f257:=Tryz.func175.trans (congrArg some (by kernel_rfl))
 f294:=Tryz.func214.trans (congrArg some (by kernel_rfl))
 f295:=Tryz.func215.trans (congrArg some (by kernel_rfl))
 f296:=Tryz.func216.trans (congrArg some (by kernel_rfl))
 f297:=Tryz.func217.trans (congrArg some (by kernel_rfl))
 f298:=Tryz.func218.trans (congrArg some (by kernel_rfl))
 f299:=Tryz.func219.trans (congrArg some (by kernel_rfl))
 f300:=Tryz.func221.trans (congrArg some (by kernel_rfl))
 f301:=Tryz.func222.trans (congrArg some (by kernel_rfl))
 f328:=Tryz.func251.trans (congrArg some (by kernel_rfl))
 f329:=Tryz.func252.trans (congrArg some (by kernel_rfl))
 f330:=Tryz.func253.trans (congrArg some (by kernel_rfl))
 f331:=Tryz.func254.trans (congrArg some (by kernel_rfl))
 f332:=Tryz.func255.trans (congrArg some (by kernel_rfl))
 f343:=Tryz.func272.trans (congrArg some (by kernel_rfl))
 t0:=Tryz.underlying0
 a0:=Tryz.isAgg0
 z0:=Tryz.sizeOf0
 v0:=Tryz.zeroValue0
 t3:=Tryz.underlying3
 a3:=Tryz.isAgg3
 z3:=Tryz.sizeOf3
 v3:=Tryz.zeroValue3
 t4:=Tryz.underlying4
 a4:=Tryz.isAgg4
 z4:=Tryz.sizeOf4
 v4:=Tryz.zeroValue4
 t5:=Tryz.underlying5
 a5:=Tryz.isAgg5
 z5:=Tryz.sizeOf5
 v5:=Tryz.zeroValue5
 t9:=Tryz.underlying9
 a9:=Tryz.isAgg9
 z9:=Tryz.sizeOf9
 v9:=Tryz.zeroValue9
 t28:=Tryz.underlying25
 a28:=Tryz.isAgg25
 z28:=Tryz.sizeOf25
 v28:=Tryz.zeroValue25
 t46:=Tryz.underlying142
 a46:=Tryz.isAgg142
 z46:=Tryz.sizeOf142
 v46:=Tryz.zeroValue142
 t51:=Tryz.underlying261
 a51:=Tryz.isAgg261
 z51:=Tryz.sizeOf261
 v51:=Tryz.zeroValue261
 t53:=Tryz.underlying264
 a53:=Tryz.isAgg264
 z53:=Tryz.sizeOf264
 v53:=Tryz.zeroValue264
 t131:=Tryz.underlying222
 a131:=Tryz.isAgg222
 z131:=Tryz.sizeOf222
 v131:=Tryz.zeroValue222
 t182:=Tryz.underlying317
 a182:=Tryz.isAgg317
 z182:=Tryz.sizeOf317
 v182:=Tryz.zeroValue317
 t183:=Tryz.underlying318
 a183:=Tryz.isAgg318
 z183:=Tryz.sizeOf318
 v183:=Tryz.zeroValue318
 t218:=Tryz.underlying341
 a218:=Tryz.isAgg341
 z218:=Tryz.sizeOf341
 v218:=Tryz.zeroValue341
 t222:=Tryz.underlying141
 a222:=Tryz.isAgg141
 z222:=Tryz.sizeOf141
 v222:=Tryz.zeroValue141
 t228:=Tryz.underlying363
 a228:=Tryz.isAgg363
 z228:=Tryz.sizeOf363
 v228:=Tryz.zeroValue363
 t229:=Tryz.underlying58
 a229:=Tryz.isAgg58
 z229:=Tryz.sizeOf58
 v229:=Tryz.zeroValue58}
open Go.Sort Go.RowKit in
theorem Tryz.slices_Sort_int (blk off cap:Nat) (zs:List Int) (w:World) (hH:Holds (Value.int .i64) w blk off zs.toArray) (hblk:blk<w.heap.size) (hsz:zs.length<4611686018427387904):
  Calls Tryz.prog 125 #[.slice (some ⟨blk,off,none⟩) zs.length cap] w fun e w'=>
   e= .returned (.tuple #[])/\∃n os,w'=grow (putRow (Value.int .i64) (Sort.ahead w n) blk off (zs.mergeSort fun x y=>decide (x<=y)).toArray) os:=Any.slices_Sort_int Tryz.lays189 blk off cap zs w hH hblk hsz
def Tryz.lays190_ren:Go.Shelf.Ren:=⟨fun|190=>144|125=>176|258=>194|128=>223|129=>224|302=>229|303=>230|304=>231|305=>232|306=>233|307=>234|308=>235|309=>236|310=>237|333=>257|329=>252|330=>253|334=>258|335=>259|336=>260|344=>273|n=>n,fun|31=>30|9=>9|3=>3|46=>142|0=>0|51=>261|53=>264|4=>4|183=>318|182=>317|131=>222|5=>5|218=>341|222=>141|228=>363|229=>58|n=>n,fun|n=>n⟩
theorem Tryz.lays190:Go.Proofs.Lays.n190 Tryz.prog Tryz.lays190_ren:={
 mixed:=by kernel_rfl
 f125:=Tryz.func176.trans (congrArg some (by kernel_rfl))
 f128:=Tryz.func223.trans (congrArg some (by kernel_rfl))
 f129:=Tryz.func224.trans (congrArg some (by kernel_rfl))
 f190:=Tryz.func144.trans (congrArg some (by kernel_rfl))
 f258:=Tryz.func194.trans (congrArg some (by kernel_rfl))
 f302:=Tryz.func229.trans (congrArg some (by kernel_rfl))
 f303:=Tryz.func230.trans (congrArg some (by kernel_rfl))
 f304:=Tryz.func231.trans (congrArg some (by kernel_rfl))
 f305:=Tryz.func232.trans (congrArg some (by kernel_rfl))
 f306:=Tryz.func233.trans (congrArg some (by kernel_rfl))
 f307:=Tryz.func234.trans (congrArg some (by kernel_rfl))
 f308:=Tryz.func235.trans (congrArg some (by kernel_rfl))
 f309:=Tryz.func236.trans (congrArg some (by kernel_rfl))
 f310:=Tryz.func237.trans (congrArg some (by kernel_rfl))
 f329:=Tryz.func252.trans (congrArg some (by kernel_rfl))
 f330:=Tryz.func253.trans (congrArg some (by kernel_rfl))
 f333:=Tryz.func257.trans (congrArg some (by kernel_rfl))
 f334:=Tryz.func258.trans (congrArg some (by kernel_rfl))
 f335:=Tryz.func259.trans (congrArg some (by kernel_rfl))
 f336:=Tryz.func260.trans (congrArg some (by kernel_rfl))
 f344:=Tryz.func273.trans (congrArg some (by kernel_rfl))
 t0:=Tryz.underlying0
 a0:=Tryz.isAgg0
 z0:=Tryz.sizeOf0
 v0:=Tryz.zeroValue0
 t3:=Tryz.underlying3
 a3:=Tryz.isAgg3
 z3:=Tryz.sizeOf3
 v3:=Tryz.zeroValue3
 t4:=Tryz.underlying4
 a4:=Tryz.isAgg4
 z4:=Tryz.sizeOf4
 v4:=Tryz.zeroValue4
 t5:=Tryz.underlying5
 a5:=Tryz.isAgg5
 z5:=Tryz.sizeOf5
 v5:=Tryz.zeroValue5
 t9:=Tryz.underlying9
 a9:=Tryz.isAgg9
 z9:=Tryz.sizeOf9
 v9:=Tryz.zeroValue9
 t31:=Tryz.underlying30
 a31:=Tryz.isAgg30
 z31:=Tryz.sizeOf30
 v31:=Tryz.zeroValue30
 t46:=Tryz.underlying142
 a46:=Tryz.isAgg142
 z46:=Tryz.sizeOf142
 v46:=Tryz.zeroValue142
 t51:=Tryz.underlying261
 a51:=Tryz.isAgg261
 z51:=Tryz.sizeOf261
 v51:=Tryz.zeroValue261
 t53:=Tryz.underlying264
 a53:=Tryz.isAgg264
 z53:=Tryz.sizeOf264
 v53:=Tryz.zeroValue264
 t131:=Tryz.underlying222
 a131:=Tryz.isAgg222
 z131:=Tryz.sizeOf222
 v131:=Tryz.zeroValue222
 t182:=Tryz.underlying317
 a182:=Tryz.isAgg317
 z182:=Tryz.sizeOf317
 v182:=Tryz.zeroValue317
 t183:=Tryz.underlying318
 a183:=Tryz.isAgg318
 z183:=Tryz.sizeOf318
 v183:=Tryz.zeroValue318
 t218:=Tryz.underlying341
 a218:=Tryz.isAgg341
 z218:=Tryz.sizeOf341
 v218:=Tryz.zeroValue341
 t222:=Tryz.underlying141
 a222:=Tryz.isAgg141
 z222:=Tryz.sizeOf141
 v222:=Tryz.zeroValue141
 t228:=Tryz.underlying363
 a228:=Tryz.isAgg363
 z228:=Tryz.sizeOf363
 v228:=Tryz.zeroValue363
 t229:=Tryz.underlying58
 a229:=Tryz.isAgg58
 z229:=Tryz.sizeOf58
 v229:=Tryz.zeroValue58}
open Go.Sort Go.RowKit in
theorem Tryz.slices_Sort_string (blk off cap:Nat) (ss:List (List UInt8)) (w:World) (hH:Holds encStr w blk off ss.toArray) (hblk:blk<w.heap.size) (hsz:ss.length<4611686018427387904):
  Calls Tryz.prog 144 #[.slice (some ⟨blk,off,none⟩) ss.length cap] w fun e w'=>
   e= .returned (.tuple #[])/\∃n os,w'=grow (putRow encStr (Sort.ahead w n) blk off (ss.mergeSort fun x y=>decide (x<=y)).toArray) os:=Any.slices_Sort_string Tryz.lays190 blk off cap ss w hH hblk hsz
def Tryz.lays105_ren:Go.Shelf.Ren:=⟨fun|105=>74|212=>100|99=>101|165=>102|166=>103|170=>104|169=>105|263=>146|264=>147|206=>148|240=>149|241=>150|276=>195|277=>196|n=>n,fun|9=>9|3=>3|4=>4|20=>20|0=>0|46=>142|109=>206|5=>5|72=>211|76=>214|51=>261|146=>262|53=>264|148=>265|70=>209|37=>101|75=>213|127=>267|164=>304|80=>57|n=>n,fun|n=>n⟩
theorem Tryz.lays105:Go.Proofs.Lays.n105 Tryz.prog Tryz.lays105_ren:={
 mixed:=by kernel_rfl
 f99:=Tryz.func101.trans (congrArg some (by kernel_rfl))
 f105:=Tryz.func74.trans (congrArg some (by kernel_rfl))
 f165:=Tryz.func102.trans (congrArg some (by kernel_rfl))
 f166:=Tryz.func103.trans (congrArg some (by kernel_rfl))
 f169:=Tryz.func105.trans (congrArg some (by kernel_rfl))
 f170:=Tryz.func104.trans (congrArg some (by kernel_rfl))
 f206:=Tryz.func148.trans (congrArg some (by kernel_rfl))
 f212:=Tryz.func100.trans (congrArg some (by kernel_rfl))
 f240:=Tryz.func149.trans (congrArg some (by kernel_rfl))
 f241:=Tryz.func150.trans (congrArg some (by kernel_rfl))
 f263:=Tryz.func146.trans (congrArg some (by kernel_rfl))
 f264:=Tryz.func147.trans (congrArg some (by kernel_rfl))
 f276:=Tryz.func195.trans (congrArg some (by kernel_rfl))
 f277:=Tryz.func196.trans (congrArg some (by kernel_rfl))
 t0:=Tryz.underlying0
 a0:=Tryz.isAgg0
 z0:=Tryz.sizeOf0
 v0:=Tryz.zeroValue0
 t3:=Tryz.underlying3
 a3:=Tryz.isAgg3
 z3:=Tryz.sizeOf3
 v3:=Tryz.zeroValue3
 t4:=Tryz.underlying4
 a4:=Tryz.isAgg4
 z4:=Tryz.sizeOf4
 v4:=Tryz.zeroValue4
 t5:=Tryz.underlying5
 a5:=Tryz.isAgg5
 z5:=Tryz.sizeOf5
 v5:=Tryz.zeroValue5
 t9:=Tryz.underlying9
 a9:=Tryz.isAgg9
 z9:=Tryz.sizeOf9
 v9:=Tryz.zeroValue9
 t20:=Tryz.underlying20
 a20:=Tryz.isAgg20
 z20:=Tryz.sizeOf20
 v20:=Tryz.zeroValue20
 t37:=Tryz.underlying101
 a37:=Tryz.isAgg101
 z37:=Tryz.sizeOf101
 v37:=Tryz.zeroValue101
 t46:=Tryz.underlying142
 a46:=Tryz.isAgg142
 z46:=Tryz.sizeOf142
 v46:=Tryz.zeroValue142
 t51:=Tryz.underlying261
 a51:=Tryz.isAgg261
 z51:=Tryz.sizeOf261
 v51:=Tryz.zeroValue261
 t53:=Tryz.underlying264
 a53:=Tryz.isAgg264
 z53:=Tryz.sizeOf264
 v53:=Tryz.zeroValue264
 t70:=Tryz.underlying209
 a70:=Tryz.isAgg209
 z70:=Tryz.sizeOf209
 v70:=Tryz.zeroValue209
 t72:=Tryz.underlying211
 a72:=Tryz.isAgg211
 z72:=Tryz.sizeOf211
 v72:=Tryz.zeroValue211
 t75:=Tryz.underlying213
 a75:=Tryz.isAgg213
 z75:=Tryz.sizeOf213
 v75:=Tryz.zeroValue213
 t76:=Tryz.underlying214
 a76:=Tryz.isAgg214
 z76:=Tryz.sizeOf214
 v76:=Tryz.zeroValue214
 t109:=Tryz.underlying206
 a109:=Tryz.isAgg206
 z109:=Tryz.sizeOf206
 v109:=Tryz.zeroValue206
 t127:=Tryz.underlying267
 a127:=Tryz.isAgg267
 z127:=Tryz.sizeOf267
 v127:=Tryz.zeroValue267
 t146:=Tryz.underlying262
 a146:=Tryz.isAgg262
 z146:=Tryz.sizeOf262
 v146:=Tryz.zeroValue262
 t148:=Tryz.underlying265
 a148:=Tryz.isAgg265
 z148:=Tryz.sizeOf265
 v148:=Tryz.zeroValue265
 t164:=Tryz.underlying304
 a164:=Tryz.isAgg304
 z164:=Tryz.sizeOf304
 v164:=Tryz.zeroValue304}
theorem Tryz.Builder_Extra_105:Builder.Extra Tryz.prog Tryz.lays105_ren:={
 sizeBuilder:=by kernel_rfl
 liesBuilder:=by kernel_rfl
 t5:=Tryz.underlying5
 a5:=Tryz.isAgg5
 z5:=Tryz.sizeOf5
 v5:=Tryz.zeroValue5
 infoByte:=by kernel_rfl
 cellsByte:=by kernel_rfl
 sizeByte:=by kernel_rfl
 neB5:=by decide}
open Go.RowKit Go.Lib in
theorem Tryz.strings_Repeat (s:ByteArray) (c:Nat) (w:World) (hc:c<=9223372036854775807) (hlen:s.size*c<=140737488355328):
  Calls Tryz.prog 74 #[.string s,.int .i64 c] w fun e w'=>e= .returned (.string ⟨(Lib.repeatL s.data.toList c).toArray⟩)/\Below w.heap.size w w':=Any.strings_Repeat Tryz.lays105 Tryz.Builder_Extra_105 s c w hc hlen
def Tryz.laysNm220_ren:Go.Shelf.Ren:=⟨fun|20=>199|n=>n,fun|22=>25|3=>3|4=>4|0=>0|n=>n,fun|n=>n⟩
theorem Tryz.laysNm220:Go.Proofs.Lays2.n20 Tryz.prog Tryz.laysNm220_ren:={
 mixed:=by kernel_rfl
 f20:=Tryz.func199.trans (congrArg some (by kernel_rfl))
 t0:=Tryz.underlying0
 a0:=Tryz.isAgg0
 z0:=Tryz.sizeOf0
 v0:=Tryz.zeroValue0
 t3:=Tryz.underlying3
 a3:=Tryz.isAgg3
 z3:=Tryz.sizeOf3
 v3:=Tryz.zeroValue3
 t4:=Tryz.underlying4
 a4:=Tryz.isAgg4
 z4:=Tryz.sizeOf4
 v4:=Tryz.zeroValue4
 t22:=Tryz.underlying25
 a22:=Tryz.isAgg25
 z22:=Tryz.sizeOf25
 v22:=Tryz.zeroValue25
 i3:=by kernel_rfl}
open Go.RowKit Go.Lib Go.Sort in
theorem Tryz.slices_Compact_int (blk off cap:Nat) (zs:List Int) (w:World) (hH:Holds (Value.int .i64) w blk off zs.toArray) (hsz:zs.length<=9223372036854775807) (hcap:zs.length<=cap):
  Calls Tryz.prog 199 #[.slice (some ⟨blk,off,none⟩) zs.length cap] w fun e w'=>e= .returned (.slice (some ⟨blk,off,none⟩) (Lib.compact zs).length cap)/\∃q,w'=putRow (Value.int .i64) (Sort.ahead w q) blk off (Lib.compact zs++List.replicate (zs.length-(Lib.compact zs).length) 0).toArray:=Any.slices_Compact_int Tryz.laysNm220 blk off cap zs w hH hsz hcap
open Go.RowKit Go.Lib Go.Sort in
theorem Tryz.slices_Compact_int_empty (a:Option Addr) (cap:Nat) (w:World):
  Calls Tryz.prog 199 #[.slice a 0 cap] w fun e w'=>e= .returned (.slice a 0 cap)/\w'=w:=Any.slices_Compact_int_empty Tryz.laysNm220 a cap w
open Go.RowKit Go.Sort in
theorem Tryz.slices_Sort_string_none (p:Option Addr) (cap:Nat) (w:World):
  Calls Tryz.prog 144 #[.slice p 0 cap] w fun e w'=>e= .returned (.tuple #[])/\w'=w:=Any.slices_Sort_string_none Tryz.lays190 p cap w
open Go.RowKit Go.Sort in
theorem Tryz.slices_Sort_int_none (p:Option Addr) (cap:Nat) (w:World):
  Calls Tryz.prog 125 #[.slice p 0 cap] w fun e w'=>e= .returned (.tuple #[])/\w'=w:=Any.slices_Sort_int_none Tryz.lays189 p cap w
end Go.Proofs
