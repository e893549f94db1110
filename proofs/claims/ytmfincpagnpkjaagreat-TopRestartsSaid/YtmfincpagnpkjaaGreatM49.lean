/- Part of the proof. -/
import Derived.Deep.Upon
import Derived.Test.YtmfincpagnpkjaaGreatM42
import Derived.Test.YtmfincpagnpkjaaGreatM48
set_option linter.all false
set_option maxRecDepth 100000
set_option maxHeartbeats 100000000
namespace Go.Proofs.YtmfincpagnpkjaaGreat
open Go.RowKit
theorem z3G (n:Int):zi Tryz.prog 26 #[.int .i64 n] [] fun r K=>r= .bool (decide (0<=n)&&decide (n<2))/\K=[]:=zb8 fun w=>by
 cases h0:decide (0<=n)with
 |true=>
  have h1:decide (n>=0)=true:=h0
  go_enter Tryz.func26,Tryz.ntmps26
  go_wp2
  go_ret
  exact⟨rfl,rfl⟩
 |false=>
  have h1:decide (n>=0)=false:=h0
  go_enter Tryz.func26,Tryz.ntmps26
  go_wp2
  go_ret
  exact⟨rfl,rfl⟩
abbrev ClusM.pass (s:ClusM) (n:Int):ClusM:={s with time:=min (wrap64 (s.time+n)) 1099511627776}
theorem zie (c:Nat) (s:ClusM) (n:Int):zi Tryz.prog 25 #[.pointer (some ⟨c,0,none⟩),.int .i64 n] [ym c s] fun r K=>r= .tuple #[]/\K=[ym c (s.pass n)]:=by
 intro F0 w0 w R H
 try simp only[xNf]at H
 have h2:=fun ats t W=>z0u (P:=Tryz.prog) (wrap64 (s.time+n)) 1099511627776 ats t W
 have h3:=fun ats t W=>z0u (P:=Tryz.prog) (IntKind.i64.wrap (s.time+n)) 1099511627776 ats t W
 obtain⟨mv,ke,nb,hb,ch,zs,hz,H⟩:=ym.parts .head H
 go_enter Tryz.func25,Tryz.ntmps25
 go_wp2_with (first|refine xLd H ?_|(refine xEf H ?_;clear H;intro b A' w H))
 refine xRe ?_
 exact⟨_,_,rfl,⟨rfl,rfl⟩,ym.join mv ke nb hb ch zs (H.sub sba) (by rfl) hz⟩
theorem z2Q (c:Nat) (s:ClusM) (n:Int):zi Tryz.prog 28 #[.pointer (some ⟨c,0,none⟩),.int .i64 n] [ym c s] fun r K=>r= .bool (decide (0<=n)&&decide (n<s.N))/\K=[ym c s]:=by
 intro F0 w0 w R H
 try simp only[xNf]at H
 obtain⟨mv,ke,nb,hb,ch,zs,hz,H⟩:=ym.parts .head H
 cases h0:decide (0<=n)with
 |true=>
  have h1:decide (n>=0)=true:=h0
  go_enter Tryz.func28,Tryz.ntmps28
  go_wp2_with (first|refine xLd H ?_|(refine xEf H ?_;clear H;intro b A' w H))
  refine xR1 H ?_
  exact⟨_,_,rfl,⟨rfl,rfl⟩,ym.join mv ke nb hb ch zs (H.sub sba) rfl hz⟩
 |false=>
  have h1:decide (n>=0)=false:=h0
  go_enter Tryz.func28,Tryz.ntmps28
  go_wp2_with (first|refine xLd H ?_|(refine xEf H ?_;clear H;intro b A' w H))
  refine xR1 H ?_
  exact⟨_,_,rfl,⟨rfl,rfl⟩,ym.join mv ke nb hb ch zs (H.sub sba) rfl hz⟩
theorem ze3 (p:ByteArray):(z83 p).size=p.size+7:=by
 unfold z83 zmp
 rw[ByteArray.size_append,ByteArray.size_append]
 show 4+p.size+3=_
 omega
theorem zbw {l:Letter} {x:ByteArray} (h:zeH l=some x):x.size<=807:=by
 unfold zeH at h
 split at h
 ·rename_i h1
  cases h
  simp only[Bool.and_eq_true,decide_eq_true_eq]at h1
  have:=h1.2
  rw[ze3]
  show(z6m (z0f l)).toArray.size+7<=807
  rw[List.size_toArray]
  omega
 ·cases h
def z4H (l:Letter):Prop:=l.say.rcd.block.size<=9223372036854775807/\l.say.rcd.staged.size<=9223372036854775807
def NetM.put (s:NetM) (l:Letter):NetM:=match zeH l with
 |some x=>(s.send x).1
 |none=>s
def NetM.puts (s:NetM) (ls:List Letter):NetM:=ls.foldl NetM.put s
theorem z2Z.put {s:NetM} (h:z2Z s) (l:Letter):z2Z (s.put l):=by
 unfold NetM.put
 split
 ·exact h.send _
 ·exact h
theorem z2Z.puts:∀{ls:List Letter} {s:NetM},z2Z s->z2Z (s.puts ls)
 |[],_,h=>h
 |l::ls,_,h=>z2Z.puts (ls:=ls) (h.put l)
theorem zbv {s:NetM} {ls:List Letter} {k:Nat} {l:Letter} (h:ls[k]?=some l):s.puts (ls.take (k+1))=(s.puts (ls.take k)).put l:=by
 obtain⟨hlt,rfl⟩:=List.getElem?_eq_some_iff.1 h
 unfold NetM.puts
 rw[<-List.take_append_getElem hlt,List.foldl_append]
 rfl
abbrev ClusM.sends (s:ClusM) (ls:List Letter):ClusM:={s with net:=s.net.puts ls}
theorem zbi (c:Nat) (s:ClusM) (ls:List Letter) (n:Nat) (v:Value) (hn:ls.length=n) (hmax:n<=4000000000) (hN:z2Z s.net) (hl:∀l∈ls,z4H l):zi Tryz.prog 61 #[.pointer (some ⟨c,0,none⟩),v] [ym c s,zh 114 26 v n (zd Letter.cells ls)] fun r K=>r= .tuple #[]/\K=[ym c (s.sends ls),zh 114 26 v n (zd Letter.cells ls)]:=by
 intro F0 w0 w R H
 try simp only[xNf]at H
 obtain⟨A1,c1,rfl⟩:=zt (v:=v) H pk
 have HN:=Lib.hid hn
 have HI:=Lib.hid hN
 have HL:=Lib.hid hl
 clear hn hN hl
 go_enter Tryz.func61,Tryz.ntmps61
 go_wp2_with (first|refine xLd H ?_|(refine xEf H ?_;clear H;intro b A' w H))
 go_loopw [10] (fun v10 wr=>∃k:Nat,k<=n/\v10= .int .i64 k/\Sep F0 w0 wr (ym c (s.sends (ls.take k))::zh 114 26 (.slice A1 n c1) n (zd Letter.cells ls)::R)) (fun v10 _=>n-(intOf v10).toNat)
 case atStart=>
  refine⟨0,Nat.zero_le _,rfl, ?_⟩
  show Sep F0 w0 _ (ym c s::_)
  exact H
 case round=>
  clear H
  obtain⟨k,hk,rfl,H⟩:=hrel
  by_cases hlt:k<n
  ·obtain⟨l,hx⟩:∃x,ls[k]?=some x:=⟨_,List.getElem?_eq_getElem (by rw[HN.out];exact hlt)⟩
   have hok:=HL.out l (List.mem_of_getElem? hx)
   have hnx:=zbv (s:=s.net) hx
   have hI2:z2Z (s.net.puts (ls.take k)):=HI.out.puts
   have hP:=z7R l hok.1 hok.2
   have hpz:= @zbw l
   obtain⟨t,ht⟩:=xG (s.sends (ls.take k))
   have htn:s.net.puts (ls.take k)=t.net:=by rw[<-ht]
   have hnxt:s.sends (ls.take (k+1))={t with net:=t.net.put l}:=by rw[<-ht];show {s with net:=_}={s with net:=_};rw[hnx]
   rw[htn]at hI2
   rw[ht]at H
   obtain⟨g1,c1',hA⟩:=zz (n:=n) (v:=.slice A1 n c1) H pk (by omega)
   cases hA
   have HX:=Lib.hid hx
   unfold NetM.put at hnxt
   cases hput:zeH l with
   |none=>
    rw[hput]at hP hnxt
    rw[show zlu none= .tuple #[.string noB,.int .i64 120]from rfl]at hP
    have HP:=Lib.hid hP
    have HNX:=Lib.hid hnxt
    clear hP hnxt hnx hok hI2 hpz ht htn hput hx
    go_wp2_with (first|(refine ldr H (hh:=(by first|exact yd pk (by first|exact HX.out) Letter.cells_length (by rfl) (ze (by rfl))|exact yq pk (by first|exact HX.out) Letter.cells_length (by rfl) (ze (by rfl)))) ?_)|(go_at_call 90;refine xT2 (HP.out) H ?_;clear H;intro w H)|first|refine xLd H ?_|(refine xEf H ?_;clear H;intro b A' w H))
    go_roundw
    case rel=>
     refine⟨k+1,by omega,by go_num, ?_⟩
     rw[HNX.out]
     exact H.sub sb
    case measure=>simp[intOf];omega
   |some x=>
    rw[hput]at hP hnxt
    rw[show zlu (some x)= .tuple #[.string x,.int .i64 0]from rfl]at hP
    have hS:=fun nb=>z9m nb t.net x hI2.all0 hI2.size (by have:=hpz hput;omega)
    have HP:=Lib.hid hP
    have HNX:=Lib.hid hnxt
    have HS:=Lib.hid hS
    clear hP hnxt hnx hok hI2 hpz ht htn hput hx hS
    go_upto_region 5 with(first|(refine ldr H (hh:=(by first|exact yd pk (by first|exact HX.out) Letter.cells_length (by rfl) (ze (by rfl))|exact yq pk (by first|exact HX.out) Letter.cells_length (by rfl) (ze (by rfl)))) ?_)|(go_at_call 90;refine xT2 (HP.out) H ?_;clear H;intro w H)|first|refine xLd H ?_|(refine xEf H ?_;clear H;intro b A' w H))
    obtain⟨mv,ke,nb,hb,ch,zs,hz,H⟩:=ym.parts pk H
    go_wp2_with (first|(go_at_call 33;refine xT2 (HS.out _) H ?_;clear H;intro w H)|first|refine xLd H ?_|(refine xEf H ?_;clear H;intro b A' w H))
    have H2:Sep F0 w0 w (ym c (s.sends (ls.take (k+1)))::zh 114 26 (.slice (some ⟨g1,0,none⟩) n c1) n (zd Letter.cells ls)::R):=by
     rw[HNX.out]
     exact ym.join (s:={t with net:=(t.net.send x).1}) mv ke nb hb ch zs (H.sub sba) (by rfl) hz
    clear H
    go_roundw
    case rel=>exact⟨k+1,by omega,by go_num,H2⟩
    case measure=>simp[intOf];omega
  ·obtain rfl:k=n:=by omega
   go_wp2
   refine xRe ?_
   have e:ls.take k=ls:=by rw[<-HN.out,List.take_length]
   rw[e]at H
   exact xF H
abbrev zh5 (what a b:Int) (keep:Value) (text:ByteArray):List Value:=[.int .i64 what,.int .i64 a,.int .i64 b,keep,.string text]
abbrev ClusM.turnN (s:ClusM) (n:Nat) (m:MacM):ClusM:={s with nodes:=s.nodes.set n m}
theorem zlA {zs:List (MacH×MacM)} {nodes:List MacM} {n:Nat} {m:MacM} (hz:zs.map (·.2)=nodes) (hm:nodes[n]?=some m):∃h,zs[n]?=some (h,m):=by
 rw[<-hz,List.getElem?_map]at hm
 cases hx:zs[n]? with
 |none=>rw[hx]at hm;cases hm
 |some x=>rw[hx]at hm;cases hm;exact⟨x.1,rfl⟩
theorem zh8 {zs:List (MacH×MacM)} {nodes:List MacM} (n:Nat) (y:MacH×MacM) (hz:zs.map (·.2)=nodes):(zs.set n y).map (·.2)=nodes.set n y.2:=by rw[List.map_set,hz]
theorem zgI (c n:Nat) (s:ClusM) (m:MacM) (hm:s.nodes[n]?=some m):zi Tryz.prog 29 #[.pointer (some ⟨c,0,none⟩),.agg (zh5 8 n 0 (.slice none 0 0) noB).toArray] [ym c s] fun r K=>r= .tuple #[]/\K=[ym c (s.turnN n ⟨m.disk,false⟩)]:=by
 intro F0 w0 w R H
 try simp only[xNf]at H
 obtain⟨mv,ke,nb,hb,ch,zs,hz,H⟩:=ym.parts .head H
 obtain⟨⟨p,q⟩,hx⟩:=zlA hz hm
 obtain⟨d,up⟩:=m
 have hlt:=(List.getElem?_eq_some_iff.1 hx).1
 obtain⟨nz,hnz⟩:=xG (zs.length)
 rw[hnz]at H hlt
 have hlt2:(n:Int)<nz:=by omega
 have HZ:=Lib.hid hz
 have HX:=Lib.hid hx
 have HN:=Lib.hid hnz
 clear hz hx hnz hm
 obtain⟨g1,c1,hA⟩:=zz (n:=nz) (v:=mv) H pk (by omega)
 cases hA
 have HSZ:=Lib.hid (zh8 n (⟨p,q⟩,⟨d,false⟩) HZ.out)
 go_enter Tryz.func29,Tryz.ntmps29
 go_upto_region 1 with(first|(refine xNt 37 H ?_;clear H;intro bh w H)|first|refine xLd H ?_|(refine xEf H ?_;clear H;intro b A' w H))
 refine xRg [] (fun L=>[L]) H ?_
 clear H;intro w H
 have HS:=H
 refine xO 0 0 HS ?_
 refine xO 1 0 HS ?_
 refine xO 2 0 HS ?_
 refine xL 3 0 HS ?_
 refine xO 4 0 HS ?_
 refine xL 5 0 HS ?_
 refine xO 6 0 HS ?_
 refine xO 7 0 HS ?_
 refine xD ?_
 go_wp2_with (first|(refine zr (by rfl) (fun K' hK=>?_);refine jo H (ht:=(by first|exact jw (((⟨p,q⟩,⟨d,false⟩):MacH×MacM)) pk (by first|exact HX.out) yi (by rfl) (by decide) (by rfl)|exact z0r (((⟨p,q⟩,⟨d,false⟩):MacH×MacM)) pk (by first|exact HX.out) yi (by rfl) (by decide) (by rfl)|exact z02 (((⟨p,q⟩,⟨d,false⟩):MacH×MacM)) pk (by first|exact HX.out) yi (by rfl) (by decide) (by rfl)|exact z01 (((⟨p,q⟩,⟨d,false⟩):MacH×MacM)) pk (by first|exact HX.out) yi (by rfl) (by decide) (by rfl))) ?_;clear H;intro w H;refine hK _ _ ?_;clear hK K')|first|refine xLd H ?_|(refine xEf H ?_;clear H;intro b A' w H))
 refine xRe ?_
 have H2:=(jj.open' HX.out (H.sub (K:=jj s.S.toNat zs::_) sb))
 have H2b:=Sep.mk_pure (p:=True) trivial (H2.sub (K:=yz p d::jj s.S.toNat (zs.eraseIdx n)::_) (.cons .head (.skip .refl)))
 have H3:=jj.shut (y:=(⟨p,q⟩,⟨d,false⟩)) HX.out (H2b.sub (K:=yz p d::zge s.S.toNat ⟨p,q⟩ false::jj s.S.toNat (zs.eraseIdx n)::_) (.cons (.tail .head) (.cons .head .refl)))
 exact⟨_,_,rfl,⟨rfl,rfl⟩,ym.join (.slice (some ⟨g1,0,none⟩) nz c1) ke nb hb ch (zs.set n (⟨p,q⟩,⟨d,false⟩)) (H3.sub sba) (by rfl) HSZ.out (e4:=by rw[List.length_set,HN.out])⟩
theorem zg0 (c n:Nat) (s:ClusM) (d:List ByteArray) (keep:Value) (hm:s.nodes[n]?=some ⟨d,false⟩) (hS:d.length=s.S.toNat) (hS0:s.S=s.S.toNat) (h1:1<=s.S.toNat) (h8:s.S.toNat<=8) (hkeep:keep.oneCell'=true):zi Tryz.prog 29 #[.pointer (some ⟨c,0,none⟩),.agg (zh5 9 n 0 keep noB).toArray] [ym c s] fun r K=>r= .tuple #[]/\K=[ym c (s.turnN n ⟨d,true⟩)]:=by
 intro F0 w0 w R H
 try simp only[xNf]at H
 obtain⟨mv,ke,nb,hb,ch,zs,hz,H⟩:=ym.parts .head H
 obtain⟨⟨p,q⟩,hx⟩:=zlA hz hm
 have hlt:=(List.getElem?_eq_some_iff.1 hx).1
 obtain⟨nz,hnz⟩:=xG (zs.length)
 rw[hnz]at H hlt
 have hlt2:(n:Int)<nz:=by omega
 obtain⟨k,hk⟩:=xG (s.S.toNat)
 rw[hk]at hS hS0 h1 h8
 have HNN:=Lib.hid (fun p=>zbT (p:=p) hS h1 h8)
 have HRS:=Lib.hid (zam (p:=p) (d:=d) keep)
 have HZ:=Lib.hid hz
 have HX:=Lib.hid hx
 have HN:=Lib.hid hnz
 have HK:=Lib.hid hk
 have HS0:=Lib.hid hS0
 clear hz hx hnz hm hS hS0 h1 h8 hk
 obtain⟨g1,c1,hA⟩:=zz (n:=nz) (v:=mv) H pk (by omega)
 cases hA
 have H2:=jj.open' HX.out (H.sub (K:=jj s.S.toNat zs::z7 c z4d _::ya ke s.keeper::z13 nb s.net::js hb s.hist::zh 89 2 (.slice (some ⟨g1,0,none⟩) nz c1) nz (zd z8K zs)::z3e (ch 0) (s.ctl 0)::z3e (ch 1) (s.ctl 1)::R) sb)
 clear H
 have H:=H2
 clear H2
 go_enter Tryz.func29,Tryz.ntmps29
 go_upto_region 1 with(first|(refine xNt 37 H ?_;clear H;intro bh w H)|first|refine xLd H ?_|(refine xEf H ?_;clear H;intro b A' w H))
 refine xRg [] (fun L=>[L]) H ?_
 clear H;intro w H
 have HS:=H
 refine xO 0 0 HS ?_
 refine xO 1 0 HS ?_
 refine xO 2 0 HS ?_
 refine xL 3 0 HS ?_
 refine xO 4 0 HS ?_
 refine xL 5 0 HS ?_
 refine xO 6 0 HS ?_
 refine xO 7 0 HS ?_
 refine xD ?_
 go_upto_region 7 with(first|(refine ld1 H (v:=.pointer none) (hh:=yr pk HX.out yi (by rfl) (by rfl)) ?_)|first|refine xLd H ?_|(refine xEf H ?_;clear H;intro b A' w H))
 refine xRg [] (fun L=>[L]) H ?_
 clear H;intro w H
 have HS:=H
 refine xO 0 0 HS ?_
 refine xO 1 0 HS ?_
 refine xO 2 0 HS ?_
 refine xL 3 0 HS ?_ (hin:=(.last (by first|exact yu pk HX.out yi (by rfl) (by rfl)|exact yr pk HX.out yi (by rfl) (by rfl))))
 refine xO 4 0 HS ?_
 refine xL 5 0 HS ?_
 refine xC 6 0 HRS.out H ?_
 clear H HS;intro w H HS
 refine xD ?_
 go_upto_region 8 with(first|refine xLd H ?_|(refine xEf H ?_;clear H;intro b A' w H))
 refine xRg [16] (fun L=>[L,[]]) H ?_
 clear H;intro w H
 have HS:=H
 refine xO 0 0 HS ?_
 refine xO 1 0 HS ?_
 refine xO 2 0 HS ?_
 refine xO 3 0 HS ?_
 refine xL 4 0 HS ?_ (hin:=(.stop (n:=17) (by first|exact yu pk HX.out yi (by rfl) (by rfl)|exact yr pk HX.out yi (by rfl) (by rfl)) (by kernel_rfl)))
 refine xO 5 0 HS ?_
 refine xO 6 0 HS ?_
 refine xO 7 0 HS ?_
 refine xO 8 0 HS ?_
 refine xL 9 0 HS ?_ (hin:=(.stop (n:=17) (zc pk (by show some (Value.int .i64 s.S)=_;rw[HS0.out])) (by kernel_rfl)))
 clear HS
 refine tk1 10 0 (fun K' hK=>?_)
 go_simp;revert H;refine zi.use (HNN.out _) pks ?_;rintro _ _ w ⟨q2,rfl,rfl⟩ H;try simp only[xNf]at H
 refine hK _ _ (H.sub sbn) (fun HS=>?_)
 clear hK K'
 try simp only[xPt]
 refine xO 11 0 HS ?_
 refine xO 12 0 HS ?_
 refine xO 13 0 HS ?_
 refine xO 14 0 HS ?_
 refine xO 15 0 HS ?_
 clear HS
 refine tk1 16 1 (fun K' hK=>?_)
 (refine jo H (ht:=jw ((⟨p,q2⟩,⟨d,true⟩):MacH×MacM) pk HX.out yi (by rfl) (by decide) (by rfl)) ?_;clear H;intro w H)
 refine hK _ _ (H.sub sbn) (fun HS=>?_)
 clear hK K'
 try simp only[xPt]
 refine xD ?_
 go_wp2
 refine xRe ?_
 rw[show z0g q2 p k=zge s.S.toNat ⟨p,q2⟩ true by rw[HK.out];rfl]at H
 have H3:=jj.shut (y:=(⟨p,q2⟩,⟨d,true⟩)) HX.out (H.sub (K:=yz p d::zge s.S.toNat ⟨p,q2⟩ true::jj s.S.toNat (zs.eraseIdx n)::z7 c z4d _::ya ke s.keeper::z13 nb s.net::js hb s.hist::zh 89 2 (.slice (some ⟨g1,0,none⟩) nz c1) nz _::z3e (ch 0) (s.ctl 0)::z3e (ch 1) (s.ctl 1)::R) sb)
 exact⟨_,_,rfl,⟨rfl,rfl⟩,ym.join (.slice (some ⟨g1,0,none⟩) nz c1) ke nb hb ch (zs.set n (⟨p,q2⟩,⟨d,true⟩)) (H3.sub sba) (by rfl) (zh8 n (⟨p,q2⟩,⟨d,true⟩) HZ.out) (e4:=by rw[List.length_set,HN.out])⟩
theorem z5j {F0:Nat->Prop} {w0 w:World} {L:List Assn} {g n size:Nat} {e:TypeId} {xs:List Value} (H:Sep F0 w0 w (z7 g e xs::L)) (hl:xs.length=n*size) (hm:n<=maxLen):Sep F0 w0 w (zh e size (.slice (some ⟨g,0,none⟩) n n) n xs::L):=by
 refine Sep.conv ?_ H
 rintro F w ⟨h1,h2⟩
 exact⟨⟨hl,.inr ⟨g,n,xs.toArray,rfl,Nat.zero_le _,h2,Nat.le_refl _,hm,by simpa using hl,by simp[<-hl]⟩⟩,fun k hk=>by cases hk;exact h1⟩
def zbq (l:Letter) (y:SayM):Letter:=⟨l.to,l.frm,l.id,true,AskM.nil,y⟩
theorem zel (l:Letter) (y:SayM) (W:World):(Instr.build 114 #[(0,.int .i64 l.to),(1,.int .i64 l.frm),(2,.int .i64 l.id),(3,.bool true),(5,.agg y.cells.toArray)]).run Tryz.prog W= .ok (.agg (zbq l y).cells.toArray) W:=by kernel_rfl
abbrev ClusM.back (s:ClusM) (l:Letter) (y:SayM) (ok:Bool):ClusM:=if ok=true then s.sends [zbq l y]else s
section
section
variable {op:Oper} {a:Act} {w w0:World} {F0:Nat->Prop} {Q:Exit->Act->World->Prop} {K':Act->World->Prop} {L L' L2:List Assn} {t e:TypeId} {x y s:Operand} {z:Value} {xs news:List Value}
theorem zn7 {A B:Option Addr} {cp n c m size bytes:Nat} (H:Sep F0 w0 w L) (h:∀A' k' w',Sep F0 w0 w' (zh e size (.slice A' (n+m) k') (n+m) (xs++news)::zh e size (.slice B m c) m news::L2)->K' (a.put op.dst (.slice A' (n+m) k')) w') (ho:op.op= .call {callee:=.builtin .append,args:=#[s,x],argTypes:=#[t,t]}:=by exact rfl) (ht:Tryz.prog.underlying t=some (.slice e):=by exact und) (hz:(Tryz.prog.info? e).bind (·.zero)=some z:=by first|exact z9L|exact zaY) (hi:(Tryz.prog.info? e).map (fun i=>(i.size,i.bytes))=some (size,bytes):=by exact inf) (hzs:z.cells.size=size:=by rfl) (h0:0<size:=by exact Nat.le_of_ble_eq_true rfl)
  (hs:a.eval s= .slice A n cp:=by exact rfl) (hx:a.eval x= .slice B m c:=by exact rfl) (hp:Pick (zh e size (.slice A n cp) n xs) L L':=by exact pk) (hp2:Pick (zh e size (.slice B m c) m news) L' L2:=by exact pk) (h1:news.all (·.oneCell')=true:=by first|rfl|assumption) (h63:n+m<=maxLen:=by exact bnd) (hby:(n+m)*bytes<=140737488355328:=by exact bnd):op.wp Tryz.prog a w K' Q:=by
 have H1:=H.pick hp
 have hrow:=(H1.pick (.tail hp2)).row (e:=e) (size:=size) (v:=.slice B m c) (n:=m) (xs:=news) .head
 have hfin:∀{w':World} {R:Assn},Sep F0 w0 w' (R::L')->Sep F0 w0 w' (R::zh e size (.slice B m c) m news::L2):=fun h=>h.sub (.cons .head (.cons hp2 .refl))
 rcases hrow.2 with⟨hv,hm⟩|⟨g,cap,cur,hv,_⟩
 ·cases hv
  have hn:news=[]:=List.eq_nil_of_length_eq_zero (by have:=hrow.1;simpa using this)
  subst hn
  have hle:n<=cp:=by
   rcases(H.row hp).2 with⟨hv,_⟩|⟨g,cap,cur,hv,_,_,hc,_⟩
   ·cases hv;exact Nat.le_refl _
   ·cases hv;exact hc
  cases hq:Tryz.prog.info? e with
  |none=>simp[hq]at hz
  |some i=>
   have hrun:=Go.run_append_nothing (P:=Tryz.prog) w t t op.type e i ht hq A n cp hle (.slice none 0 0) (Src.ofNil (P:=Tryz.prog) w ht 0)
   refine jp (v:=.slice A n cp) (w':=w) ?_ (h A cp w (hfin (by simpa using H1)))
   unfold execOp
   simp[ho,resolve,invoke,builtin,hs,hx,hrun]
 ·cases hv
  obtain⟨v',w',hrun,_,H'⟩:=zf8 (P:=Tryz.prog) (ty:=op.type) (c:=c) (g:=g) ht hz hi hzs h0 hp hrow.1 (by
   exact z1s (cs:=news) news.length hp2 (by rw[List.drop_zero,List.take_length])) (List.all_eq_true.1 h1) h63 hby H
  obtain⟨A',k',rfl⟩:=zt H' .head
  refine jp (v:=.slice A' (n+m) k') (w':=w') ?_ (h A' k' w' (hfin H'))
  unfold execOp
  simp[ho,resolve,invoke,builtin,hs,hx,hrun]
end
theorem zi0 {e:TypeId} {size n:Nat} {v:Value} {xs:List Value} {F0:Nat->Prop} {w0 w:World} {L L':List Assn} (H:Sep F0 w0 w L) (hp:Pick (zh e size v n xs) L L'):n<=9223372036854775807:=by
 rcases(H.row hp).2 with⟨_,h⟩|⟨g,cap,cur,_,_,_,h1,h2,_⟩
 ·omega
 ·simp only[maxLen]at h2
  omega
def z25 (N:Int) (l:List Int):Int×Bool:=match l.find? fun n=>decide (n<N)with
 |some n=>(n,true)
 |none=>(0,false)
theorem zhO {N:Int} {l:List Int} (h:∀(k:Nat) (n:Int),l[k]?=some n->decide (n<N)=false):z25 N l=(0,false):=by
 unfold z25
 rw[List.find?_eq_none.2 (fun x hx=>?_)]
 obtain⟨k,hk⟩:=List.mem_iff_getElem?.1 hx
 simpa using h k x hk
theorem zfF {N:Int} {l:List Int} {k:Nat} {n:Int} (h:∀(j:Nat) (m:Int),j<k->l[j]?=some m->decide (m<N)=false) (hk:l[k]?=some n) (hn:decide (n<N)=true):z25 N l=(n,true):=by
 have hf:l.find? (fun n=>decide (n<N))=some n:=by
  induction l generalizing k with
  |nil=>simp at hk
  |cons x l ih=>
   cases k with
   |zero=>
    simp at hk
    subst hk
    rw[List.find?_cons_of_pos (by simpa using hn)]
   |succ k=>
    have h0:=h 0 x (by omega) rfl
    rw[List.find?_cons_of_neg (by simpa using h0)]
    exact ih (k:=k) (fun j m hj hm=>h (j+1) m (by omega) (by simpa using hm)) (by simpa using hk)
 unfold z25
 rw[hf]
theorem zby (p:Nat) (s:PilotM) (now:Int) (hm:s.calls.opn.length<=64):zi Tryz.prog 111 #[.pointer (some ⟨p,0,none⟩),.int .i64 now] [zy p s]
  fun r K=>r= .tuple #[.int .i64 (z25 s.N (s.calls.late now)).1,.bool (z25 s.N (s.calls.late now)).2]/\K=[zy p s]:=by
 intro F0 w0 w R H
 try simp only[xNf]at H
 have hA:=fun c=>ziJ c s.calls now hm
 have hno:= @zhO s.N (s.calls.late now)
 have hyes:=fun(k:Nat) (n:Int)=> @zfF s.N (s.calls.late now) k n
 obtain⟨l,hl⟩:=xG (s.calls.late now)
 obtain⟨n,hn⟩:=xG (l.length)
 rw[hl,hn]at hA
 rw[hl]at hno hyes⊢
 obtain⟨⟨rn,rb⟩,hr⟩:∃x,z25 s.N l=x:=⟨_,rfl⟩
 rw[hr]at hno hyes⊢
 dsimp only
 have HA:=Lib.hid hA
 have HN:=Lib.hid hn
 have HNO:=Lib.hid hno
 have HYES:=Lib.hid hyes
 clear hA hl hn hno hyes hr hm
 go_enter Tryz.func111,Tryz.ntmps111
 obtain⟨bc,kn,re,rd,wv,up,as_,H⟩:=zy.parts .head H
 go_wp2_with (first|(go_at_call 153;refine xTr (HA.out _) H ?_;clear H;rintro _ _ w ⟨A1,c1,rfl,rfl⟩ H;try simp only[xNf]at H)|first|refine xLd H ?_|(refine xSt H ?_;clear H;intro w H;try dsimp only[List.set]at H)|(refine xNw H ?_;clear H;intro b w H)|(refine xAp H ?_;clear H;intro A' k' w H))
 have H3:Sep F0 w0 _ (zy p s::zh 3 1 (.slice A1 n c1) n (l.map z09)::R):=zy.join bc kn re rd wv up as_ (H.sub sba) rfl
 clear H HA
 have H:=H3
 clear H3
 have hnm:n<=9223372036854775807:=zi0 (v:=.slice A1 n c1) H pk
 go_loopw [15] (fun v15 wr=>∃k:Nat,k<=n/\v15= .int .i64 k/\Hid (∀(j:Nat) (m:Int),j<k->l[j]?=some m->decide (m<s.N)=false)/\Sep F0 w0 wr (zy p s::zh 3 1 (.slice A1 n c1) n (l.map z09)::R)) (fun v15 _=>n-(intOf v15).toNat)
 case atStart=>exact⟨0,Nat.zero_le _,rfl,Lib.hid (fun j m hj=>absurd hj (Nat.not_lt_zero _)),H⟩
 case round=>
  clear H
  obtain⟨k,hk,rfl,HP,H⟩:=hrel
  by_cases hlt:k<n
  ·obtain⟨c,hx⟩:∃x,l[k]?=some x:=⟨_,List.getElem?_eq_getElem (by rw[HN.out];exact hlt)⟩
   have HX:=Lib.hid (show(l.map z09)[k]?=some (.int .i64 c) by rw[List.getElem?_map,hx];rfl)
   obtain⟨g1,c1',hA⟩:=zz (n:=n) (v:=.slice A1 n c1) H pk (by omega)
   cases hA
   cases hc:decide (c<s.N)with
   |true=>
    have HC:=Lib.hid hc
    have hr:=HYES.out k c HP.out hx hc
    have hr1:c=rn/\true=rb:=by cases hr;exact⟨rfl,rfl⟩
    obtain⟨rfl,rfl⟩:=hr1
    clear hr hx
    go_wp2_with (first|(refine ld1 H (hh:=zn pk HX.out) ?_)|first|refine ldp H ?_|refine zc3 H ?_|refine xLd H ?_|(refine xSt H ?_;clear H;intro w H;try dsimp only[List.set]at H)|(refine xNw H ?_;clear H;intro b w H)|(refine xAp H ?_;clear H;intro A' k' w H))
    refine xR2 H ?_
    exact xF H
   |false=>
    have HP2:Hid (∀(j:Nat) (m:Int),j<k+1->l[j]?=some m->decide (m<s.N)=false):=Lib.hid (by
     intro j m hj hm
     by_cases h:j=k
     ·subst h
      rw[hx]at hm
      cases hm
      exact hc
     ·exact HP.out j m (by omega) hm)
    clear hx
    go_wp2_with (first|(refine ld1 H (hh:=zn pk HX.out) ?_)|first|refine ldp H ?_|refine zc3 H ?_|refine xLd H ?_|(refine xSt H ?_;clear H;intro w H;try dsimp only[List.set]at H)|(refine xNw H ?_;clear H;intro b w H)|(refine xAp H ?_;clear H;intro A' k' w H))
    go_roundw
    case rel=>exact⟨k+1,by omega,by go_num,HP2,H.sub sb⟩
    case measure=>simp[intOf];omega
  ·obtain rfl:k=n:=by omega
   have hr:=HNO.out (fun j m hm=>HP.out j m (by rw[<-HN.out];exact(List.getElem?_eq_some_iff.1 hm).1) hm)
   have hr1:(0:Int)=rn/\false=rb:=by cases hr;exact⟨rfl,rfl⟩
   obtain⟨rfl,rfl⟩:=hr1
   clear hr
   go_wp2
   refine xR2 H ?_
   exact xF H
end
end Go.Proofs.YtmfincpagnpkjaaGreat
