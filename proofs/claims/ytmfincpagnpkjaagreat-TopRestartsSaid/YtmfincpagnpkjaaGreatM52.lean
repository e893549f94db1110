/- Part of the proof. -/
import Derived.Test.YtmfincpagnpkjaaGreatM51
set_option linter.all false
set_option maxRecDepth 100000
set_option maxHeartbeats 100000000
namespace Go.Proofs.YtmfincpagnpkjaaGreat
open Go.RowKit
theorem zcr (c B:Nat) (s:ClusM) (r:Int) (hI:CInv (B+13300) s):zi Tryz.prog 30 #[.pointer (some ⟨c,0,none⟩),.int .i64 r] [ym c s] fun v K=>v= .tuple #[]/\K=[ym c (s.deliver r)]:=by
 intro F0 w0 w R H
 try simp only[xNf]at H
 have hT:=fun nb=>zgc nb s.net r hI.net.size (by have:=hI.net.all64;omega) (fun k hk=>by have:=hI.net.keyLen k hk;omega) hI.net.keysN
 have hnt:=hI.net.take r
 obtain⟨out,hout⟩:=xG (s.deliver r)
 rw[hout]
 unfold ClusM.deliver at hout
 obtain⟨⟨n1,o⟩,hto⟩:∃x,s.net.take r=x:=⟨_,rfl⟩
 rw[hto]at hout hnt
 simp only[hto]at hT
 dsimp only at hout hnt hT
 have hI1:=hI.net' hnt.1
 obtain⟨s1,hs1⟩:=xG (({s with net:=n1}:ClusM))
 rw[hs1]at hI1 hout
 have HS1:=Lib.hid hs1
 obtain⟨mv,ke,nb,hb,ch,zs,hz,H⟩:=ym.parts .head H
 have HZ:=Lib.hid hz
 have hT:=hT nb
 cases o with
 |none=>
  rw[show zlS none= .tuple #[.string noB,.bool false]from rfl]at hT
  have HT:=Lib.hid hT
  have HOUT:=Lib.hid (show s1=out from hout)
  clear hT hnt hout hto hI1 hs1 hz hI
  go_enter Tryz.func30,Tryz.ntmps30
  go_wp2_with (first|(refine xNt 28 H ?_;clear H;intro bc w H)|(go_at_call 58;refine xT2 (HT.out) H ?_;clear H;intro w H)|first|refine xLd H ?_|(refine xEf H ?_;clear H;intro b A' w H))
  refine xRz ?_
  rw[<-HOUT.out,<-HS1.out]
  exact⟨_,_,rfl,⟨rfl,rfl⟩,ym.join (s:={s with net:=n1}) mv ke nb hb ch zs (H.sub sba) (by rfl) HZ.out⟩
 |some x=>
  rw[show zlS (some x)= .tuple #[.string x,.bool true]from rfl]at hT
  have HT:=Lib.hid hT
  have hG:=ziA x (by have:=hnt.2 x rfl;omega)
  dsimp only at hout
  cases hg:zh6 x with
  |none=>
   rw[hg]at hG hout
   rw[show zns none= .tuple #[Letter.nil.v,.int .i64 120]from rfl]at hG
   have HG:=Lib.hid hG
   have HOUT:=Lib.hid (show s1=out from hout)
   clear hT hnt hout hto hI1 hs1 hz hI hG hg
   obtain⟨ln,hln⟩:=xG (Letter.nil)
   rw[hln]at HG
   clear hln
   go_enter Tryz.func30,Tryz.ntmps30
   go_wp2_with (first|(refine xNt 28 H ?_;clear H;intro bc w H)|(go_at_call 58;refine xT2 (HT.out) H ?_;clear H;intro w H)|(go_at_call 59;refine xT2 (HG.out) H ?_;clear H;intro w H)|(refine xNt 114 H ?_;clear H;intro bl w H)|first|refine xLd H ?_|(refine xEf H ?_;clear H;intro b A' w H))
   refine xRz ?_
   rw[<-HOUT.out,<-HS1.out]
   exact⟨_,_,rfl,⟨rfl,rfl⟩,ym.join (s:={s with net:=n1}) mv ke nb hb ch zs (H.sub sba) (by rfl) HZ.out⟩
  |some l=>
   rw[hg]at hG hout
   rw[show zns (some l)= .tuple #[l.v,.int .i64 0]from rfl]at hG
   have HG:=Lib.hid hG
   have hrl:=zcf hg
   have hlo:=zbn hrl
   have hout:s1.handle l=out:=hout
   unfold ClusM.handle at hout
   have HOUT:=Lib.hid hout
   clear hT hnt hto hs1 hz hI hG hg hout
   obtain⟨lf,lt,li,la,lq,ly⟩:=l
   go_enter Tryz.func30,Tryz.ntmps30
   go_upto_region 6 with(first|(refine xNt 28 H ?_;clear H;intro bc w H)|(go_at_call 58;refine xT2 (HT.out) H ?_;clear H;intro w H)|(go_at_call 59;refine xT2 (HG.out) H ?_;clear H;intro w H)|(refine xNt 114 H ?_;clear H;intro bl w H)|first|refine xLd H ?_|(refine xEf H ?_;clear H;intro b A' w H))
   have H2:Sep F0 w0 w (ym c s1::z7 bc 28 [.pointer (some ⟨c,0,none⟩)]::z7 bl 114 (Letter.cells ⟨lf,lt,li,la,lq,ly⟩)::R):=by
    rw[<-HS1.out]
    exact ym.join (s:={s with net:=n1}) mv ke nb hb ch zs (H.sub sba) (by rfl) HZ.out
   clear H HZ HS1 HT HG
   have H:=H2
   clear H2
   have hto:=HOUT.out
   try dsimp only at hto
   by_cases h200:200<=lt
   ·have hpi:=z7F hlo.2 h200
    try dsimp only at hpi
    obtain⟨i,rfl⟩:∃i:Nat,lt=200+(i:Int):=⟨(lt-200).toNat,by omega⟩
    have hi:i<2:=by omega
    rw[if_pos h200,show(200+(i:Int)-200).toNat=i by omega]at hto
    obtain⟨p,hp⟩:=hI1.g i hi
    have hC:=zaJ c i B s1 p ⟨lf,200+(i:Int),li,la,lq,ly⟩ hi (hp.less (by have:=hI1.q i hi;omega)) hI1.net hlo.1
    rw[hto]at hC
    clear h200 hpi hto HOUT hlo hrl hI1 hp
    have hge:decide ((200:Int)+(i:Int)>=200)=true:=decide_eq_true (by omega)
    rcases(show i=0\/i=1 by omega)with rfl|rfl
    ·have HC:=Lib.hid hC
     clear hC
     rw[show(200:Int)+((0:Nat):Int)=200 from rfl]at H HC hge
     go_wp2_with (first|(go_at_call 62;refine xT2 (HC.out) H ?_;clear H;intro w H)|first|refine xLd H ?_|(refine xEf H ?_;clear H;intro b A' w H))
     refine xRe ?_
     exact xF H
    ·have HC:=Lib.hid hC
     clear hC
     rw[show(200:Int)+((1:Nat):Int)=201 from rfl]at H HC hge
     go_wp2_with (first|(go_at_call 62;refine xT2 (HC.out) H ?_;clear H;intro w H)|first|refine xLd H ?_|(refine xEf H ?_;clear H;intro b A' w H))
     refine xRe ?_
     exact xF H
   ·have hge:decide (lt>=200)=false:=decide_eq_false h200
    rw[if_neg h200]at hto
    cases la with
    |true=>
     rw[if_pos rfl]at hto
     have HTO:=Lib.hid hto
     clear h200 hto HOUT hlo hrl hI1
     go_wp2_with (first|refine xLd H ?_|(refine xEf H ?_;clear H;intro b A' w H))
     refine xRe ?_
     rw[<-HTO.out]
     exact xF H
    |false=>
     rw[if_neg (by decide)]at hto
     by_cases h100:lt=100
     ·subst h100
      rw[if_pos rfl]at hto
      have hka:=hI1.kp.act s1.time lf li lq
      have hK:=fun ke=>zl0 ke s1.keeper s1.time lf li lq
      rw[zaP]at hto
      obtain⟨⟨k2,y,ok⟩,hact⟩:∃x,s1.keeper.act s1.time lf li lq=x:=⟨_,rfl⟩
      rw[hact]at hto hka
      simp only[hact]at hK
      dsimp only at hto hka hK
      have hnet:=hI1.net
      have hB:=fun nb cs hcs=>z9I c nb bc bl cs 28 s1.net ⟨lf,100,li,false,lq,ly⟩ y ok hcs hnet hka.2
      obtain⟨mv,ke,nb,hb,ch,zs,hz,H⟩:=ym.parts .head H
      have HZ:=Lib.hid hz
      have HTO:=Lib.hid hto
      have HK:=Lib.hid (hK ke)
      have HB:=Lib.hid (hB nb (s1.cells ⟨mv,ke,nb,hb,ch,zs⟩) (by rfl))
      clear h200 hto HOUT hlo hrl hI1 hK hB hact hka hnet hz
      go_upto_region 10 with(first|refine xLd H ?_|(refine xEf H ?_;clear H;intro b A' w H))
      refine xRg [15,18] (fun L=>[L,[],[]]) H ?_
      clear H;intro w H
      have HS:=H
      refine xO 0 0 HS ?_
      refine xL 1 0 HS ?_ (hin:=(.stop (n:=19) hd (by kernel_rfl)))
      refine xO 2 0 HS ?_
      refine xO 3 0 HS ?_
      refine xL 4 0 HS ?_ (hin:=(.stop (n:=19) hd (by kernel_rfl)))
      refine xL 5 0 HS ?_ (hin:=(.stop (n:=19) hd (by kernel_rfl)))
      refine xO 6 0 HS ?_
      refine xO 7 0 HS ?_
      refine xL 8 0 HS ?_ (hin:=(.stop (n:=19) hd (by kernel_rfl)))
      refine xO 9 0 HS ?_
      refine xL 10 0 HS ?_ (hin:=(.stop (n:=19) hd (by kernel_rfl)))
      refine xO 11 0 HS ?_
      refine xL 12 0 HS ?_ (hin:=(.stop (n:=19) hd (by kernel_rfl)))
      refine xO 13 0 HS ?_
      refine xV 14 0 HS ?_ (hin:=(.stop (n:=19) (by first|exact z0y pk (ze (by rfl))|exact zg (cs:=lq.cells) 9 pk (by rfl) (ze (by rfl))|exact z0V (cs:=lq.cells) 9 pk (by rfl) (ze (by rfl))) (by kernel_rfl)))
      refine xC 15 1 HK.out H ?_
      clear H HS;intro w H HS
      refine xO 16 1 HS ?_
      refine xO 17 1 HS ?_
      clear HS
      refine tk1 18 2 (fun K' hK=>?_)
      (refine zcU (by first|(go_simp;rfl)|go_simp|rfl) HB.out pks ?_ H;clear H;rintro _ _ w ⟨rfl,rfl⟩ H;try simp only[xNf]at H)
      refine hK _ _ (H.sub sbn) (fun HS=>?_)
      clear hK K'
      try simp only[xPt]
      refine xD ?_
      go_wp2
      refine xRe ?_
      rw[<-HTO.out]
      exact⟨_,_,rfl,⟨rfl,rfl⟩,ym.join (s:={s1 with keeper:=k2,net:=s1.net.backN ⟨lf,100,li,false,lq,ly⟩ y ok}) mv ke nb hb ch zs (H.sub sba) (by rfl) HZ.out⟩
     ·rw[if_neg h100]at hto
      have hp0:0<=lt:=by
       have:=hlo.2
       unfold z39 at this
       simp only[Bool.or_eq_true,Bool.and_eq_true,decide_eq_true_eq,beq_iff_eq]at this
       omega
      obtain⟨n,rfl⟩:∃n:Nat,lt=(n:Int):=⟨lt.toNat,by omega⟩
      have h100b:((n:Int)==100)=false:=by simpa using h100
      have hU:=zlD c n s1 hI1.nN
      rw[Int.toNat_natCast]at hto
      unfold zmw at hU
      cases hm:s1.nodes[n]? with
      |none=>
       rw[hm]at hto hU
       have HU:=Lib.hid hU
       have HTO:=Lib.hid (show s1=out from hto)
       clear h200 hto HOUT hlo hrl hI1 hU hm h100 hp0
       go_wp2_with (first|(go_at_call 64;refine xT2 (HU.out) H ?_;clear H;intro w H)|first|refine xLd H ?_|(refine xEf H ?_;clear H;intro b A' w H))
       refine xRe ?_
       rw[<-HTO.out]
       exact xF H
      |some m=>
       rw[hm]at hto hU
       dsimp only at hto hU
       have hu:=hI1.up m (List.mem_of_getElem? hm)
       obtain⟨d,up⟩:=m
       dsimp only at hto hu hU
       obtain⟨hd,rfl⟩:=hu
       have hS:=fun p q=>zfL (n:=q) (p:=p) lq hd
       have hsy:=zfN s1.S.toNat d lq
       rw[zaP]at hto
       obtain⟨⟨d2,y,ok⟩,hsv⟩:∃x,z2i s1.S.toNat d lq=x:=⟨_,rfl⟩
       rw[hsv]at hto hsy
       simp only[hsv]at hS
       dsimp only at hto hsy hS
       have hnet:=hI1.net
       have hB:=fun nb cs hcs=>z9I c nb bc bl cs 28 s1.net ⟨lf,(n:Int),li,false,lq,ly⟩ y ok hcs hnet hsy
       have HU:=Lib.hid hU
       have HTO:=Lib.hid hto
       have HM:=Lib.hid hm
       have HS0:=Lib.hid hS
       have HB0:=Lib.hid hB
       clear h200 hto HOUT hlo hrl hI1 hU hm h100 hp0 hsv hsy hnet hS hB hd
       go_upto_region 12 with(first|(go_at_call 64;refine xT2 (HU.out) H ?_;clear H;intro w H)|first|refine xLd H ?_|(refine xEf H ?_;clear H;intro b A' w H))
       obtain⟨g,cz,nz,ke,nb,hb,ch,zs,p,q,HZ,hnz,H⟩:=ym.mac HM.out pk H
       have hnz2:(n:Int)<nz:=by omega
       have HSV:=Lib.hid (HS0.out p q)
       have HB:=Lib.hid (HB0.out nb (s1.cells ⟨.slice (some ⟨g,0,none⟩) nz cz,ke,nb,hb,ch,zs⟩) (by rfl))
       have HOF:=Lib.hid (zic (p:=p) (d:=d2))
       rw[show zge s1.S.toNat ⟨p,q⟩ true=z0g q p s1.S.toNat from rfl]at H
       refine xRg [] (fun L=>[L]) H ?_
       clear H;intro w H
       have HS:=H
       refine xL 0 0 HS ?_
       refine xO 1 0 HS ?_
       refine xO 2 0 HS ?_
       refine xL 3 0 HS ?_
       refine xO 4 0 HS ?_
       refine xL 5 0 HS ?_
       refine xO 6 0 HS ?_
       refine xO 7 0 HS ?_
       refine xD ?_
       go_upto_region 13 with(first|refine xLd H ?_|(refine xEf H ?_;clear H;intro b A' w H))
       refine xRg [7,10] (fun L=>[L,[],[]]) H ?_
       clear H;intro w H
       have HS:=H
       refine xO 0 0 HS ?_
       refine xO 1 0 HS ?_
       refine xO 2 0 HS ?_
       refine xO 3 0 HS ?_
       refine xL 4 0 HS ?_ (hin:=(.stop (n:=11) (by first|exact yu pk (HZ.out).2.1 yi (by rfl) (by rfl)|exact yr pk (HZ.out).2.1 yi (by rfl) (by rfl)) (by kernel_rfl)))
       refine xO 5 0 HS ?_
       refine xV 6 0 HS ?_ (hin:=(.stop (n:=11) (by first|exact z0y pk (ze (by rfl))|exact zg (cs:=lq.cells) 9 pk (by rfl) (ze (by rfl))|exact z0V (cs:=lq.cells) 9 pk (by rfl) (ze (by rfl))) (by kernel_rfl)))
       refine xC 7 1 HSV.out H ?_
       clear H HS;intro w H HS
       refine xO 8 1 HS ?_
       refine xO 9 1 HS ?_
       clear HS
       refine tk1 10 2 (fun K' hK=>?_)
       (refine zcU (by first|(go_simp;rfl)|go_simp|rfl) HB.out pks ?_ H;clear H;rintro _ _ w ⟨rfl,rfl⟩ H;try simp only[xNf]at H)
       refine hK _ _ (H.sub sbn) (fun HS=>?_)
       clear hK K'
       try simp only[xPt]
       refine xD ?_
       go_wp2_with (first|(go_at_call 66;refine xT2 (HOF.out) H ?_;clear H;intro w H)|(refine ld1 H (v:=.pointer (some ⟨p,0,none⟩)) (hh:=(by first|exact yu pk (HZ.out).2.1 yi (by rfl) (by rfl)|exact yr pk (HZ.out).2.1 yi (by rfl) (by rfl))) ?_)|first|refine xLd H ?_|(refine xEf H ?_;clear H;intro b A' w H))
       refine xRe ?_
       rw[<-HTO.out]
       rw[show z0g q p s1.S.toNat=zge s1.S.toNat ⟨p,q⟩ (MacM.mk d true).up from rfl]at H
       exact⟨_,_,rfl,⟨rfl,rfl⟩,ym.mac_join (s:=s1) (tm:=s1.time) (m:=⟨d,true⟩) (d:=d2) g cz nz ke nb hb ch p q HZ (H.sub sba)⟩
def ClusM.stepsTo (s:ClusM):Nat->ClusM
 |0=>s
 |k+1=>ClusM.step (s.stepsTo k) k
theorem CInv.stepsTo {B:Nat} {s:ClusM} (h:CInv (B+26600) s):∀k:Nat,k<=2->CInv (B+13300*(2-k)) (s.stepsTo k)
 |0,_=>h.less (by omega)
 |k+1,hk=>CInv.step (B:=B+13300*(2-(k+1))) ((CInv.stepsTo h k (by omega)).less (by omega)) (by omega)
theorem zec {n:Nat} {s:ClusM}:ClusM.delivers (n+1) s=ClusM.delivers n (s.deliver 0):=rfl
theorem zfW (c B:Nat) (s:ClusM) (hI:CInv (B+877800) s):zi Tryz.prog 34 #[.pointer (some ⟨c,0,none⟩)] [ym c s] fun v K=>v= .tuple #[]/\K=[ym c s.round]:=by
 intro F0 w0 w R H
 try simp only[xNf]at H
 have hP:=zie c s 1
 have h1:=hI.pass 1
 have hr:s.round=ClusM.stepsTo (ClusM.delivers (s.pass 1).net.all.toNat (s.pass 1)) 2:=rfl
 obtain⟨s1,hs1⟩:=xG (s.pass 1)
 rw[hs1]at hP h1 hr
 have h64:=h1.net.all64
 have h00:=h1.net.all0
 have hL:=fun nb=>ziv nb s1.net
 obtain⟨a,ha⟩:∃a:Nat,s1.net.all=a:=⟨s1.net.all.toNat,by omega⟩
 rw[ha,Int.toNat_natCast]at hr
 simp only[ha]at hL
 rw[ha]at h64
 obtain⟨s2,hs2⟩:=xG (ClusM.delivers a s1)
 have h2:CInv (B+26600) s2:=by
  rw[<-hs2]
  exact CInv.delivers a (h1.less (by omega))
 rw[hs2]at hr
 rw[hr]
 have HP:=Lib.hid hP
 have H1:=Lib.hid (show CInv (B+26600+13300*a) s1 from h1.less (by omega))
 have H2:=Lib.hid h2
 have HS2:=Lib.hid hs2
 have h64':a<=64:=by omega
 clear hP h1 hs1 hr ha hs2 h2 h64 h00 hI
 go_enter Tryz.func34,Tryz.ntmps34
 go_upto_region 1 with(first|(go_at_call 25;refine xT2 (HP.out) H ?_;clear H;intro w H)|first|refine xLd H ?_|(refine xEf H ?_;clear H;intro b A' w H))
 obtain⟨mv,ke,nb,hb,ch,zs,hz,H⟩:=ym.parts pk H
 have HL:=Lib.hid (hL nb)
 have HZ:=Lib.hid hz
 clear hL hz
 go_wp2_with (first|(go_at_call 68;refine xT2 (HL.out) H ?_;clear H;intro w H)|first|refine xLd H ?_|(refine xEf H ?_;clear H;intro b A' w H))
 have H3:Sep F0 w0 w (ym c s1::R):=ym.join mv ke nb hb ch zs (H.sub sba) rfl HZ.out
 clear H HZ HL HP
 have H:=H3
 clear H3
 go_loopw [10] (fun v10 wr=>∃(k:Nat) (t:ClusM),k<=a/\v10= .int .i64 k/\Hid (ClusM.delivers (a-k) t=s2)/\Hid (CInv (B+26600+13300*(a-k)) t)/\Sep F0 w0 wr (ym c t::R)) (fun v10 _=>a-(intOf v10).toNat)
 case atStart=>exact⟨0,s1,Nat.zero_le _,rfl,HS2,H1,H⟩
 case round=>
  clear H H1 HS2
  obtain⟨k,t,hk,rfl,HD,HI,H⟩:=hrel
  by_cases hlt:k<a
  ·obtain⟨j,hj⟩:∃j,a-k=j+1:=⟨a-k-1,by omega⟩
   have hd:=HD.out
   have hi:=HI.out
   rw[hj]at hd hi
   rw[zec]at hd
   have hi2:CInv (B+26600+13300*j) (t.deliver 0):=CInv.deliver (hi.less (by omega)) 0
   have hDT:=zcr c (B+26600) t 0 (hi.less (by omega))
   have HDT:=Lib.hid hDT
   have hj2:a-(k+1)=j:=by omega
   have HD2:=Lib.hid (show ClusM.delivers (a-(k+1)) (t.deliver 0)=s2 by rw[hj2];exact hd)
   have HI2:=Lib.hid (show CInv (B+26600+13300*(a-(k+1))) (t.deliver 0) by rw[hj2];exact hi2)
   clear hd hi hi2 hDT hj2 hj HD HI
   go_wp2_with (first|(go_at_call 30;refine xT2 (HDT.out) H ?_;clear H;intro w H)|first|refine xLd H ?_|(refine xEf H ?_;clear H;intro b A' w H))
   go_roundw
   case rel=>exact⟨k+1,_,by omega,by go_num,HD2,HI2,H⟩
   case measure=>simp[intOf];omega
  ·obtain rfl:k=a:=by omega
   have hd:=HD.out
   rw[Nat.sub_self]at hd
   have hd:t=s2:=hd
   subst hd
   clear HD HI
   go_wp2
   go_loopw [15] (fun v15 wr=>∃k:Nat,k<=2/\v15= .int .i64 k/\Sep F0 w0 wr (ym c (t.stepsTo k)::R)) (fun v15 _=>2-(intOf v15).toNat)
   case atStart=>exact⟨0,by omega,rfl,H⟩
   case round=>
    clear H
    obtain⟨j,hj,rfl,H⟩:=hrel
    by_cases hlt2:j<2
    ·have hc:=CInv.stepsTo H2.out j hj
     obtain⟨p,hp⟩:=hc.g j hlt2
     have hq:=hc.q j hlt2
     have HST:=Lib.hid (zgJ c j B (t.stepsTo j) p hlt2 (hp.less (by omega)) hc.net)
     have hjI:(j:Int)<2:=by omega
     have hst:t.stepsTo (j+1)=ClusM.step (t.stepsTo j) j:=rfl
     have HSQ:=Lib.hid hst
     clear hc hp hq hst
     go_wp2_with (first|(go_at_call 51;refine xT2 (HST.out) H ?_;clear H;intro w H)|first|refine xLd H ?_|(refine xEf H ?_;clear H;intro b A' w H))
     go_roundw
     case rel=>
      refine⟨j+1,by omega,by go_num, ?_⟩
      rw[HSQ.out]
      exact H
     case measure=>simp[intOf];omega
    ·obtain rfl:j=2:=by omega
     go_wp2
     refine xRe ?_
     exact xF H
def opM (p:Opr):OpM:=⟨p.1,p.2.1,p.2.2⟩
def zmK (k a:Int) (d:ByteArray) (n:Nat):List OpM:=(zga k a d n).map opM
theorem z7K (k a:Int) (d:ByteArray) (n:Nat):(zmK k a d n).length=n:=by unfold zmK;rw[List.length_map,zdJ]
theorem z6j:∀l:List Opr,z0e l=zd OpM.cells (l.map opM)
 |[]=>rfl
 |p::l=>by
  rw[z0e,z6j l]
  rfl
theorem zih {N S k a c:Int} {d:ByteArray} {n:Nat} (hr:yn N S=true) (hc:c=n) (h:z0E k a c d) (h3:k≠3) (hb:a+c<=yl N S):∀op∈zmK k a d n,OpOk N S op:=by
 intro op hop
 obtain⟨p,hp,rfl⟩:=List.mem_map.1 hop
 obtain⟨i,hi,rfl⟩:=List.mem_map.1 hp
 have hi:=List.mem_range.1 hi
 obtain⟨⟨a0,_⟩,h⟩:=h
 refine⟨?_, ?_⟩
 ·show inZ N S (a+i)=true
  exact decide_eq_true ⟨by omega,by omega⟩
 ·show(k=1/\(if k=2 then d.extract (i*16) ((i+1)*16)else⟨#[]⟩)=noB)\/(k=2/\(if k=2 then d.extract (i*16) ((i+1)*16)else(⟨#[]⟩:ByteArray)).size=16)
  rcases h with h|h|h
  ·left
   obtain⟨rfl,_⟩:=h
   exact⟨rfl,rfl⟩
  ·right
   obtain⟨rfl,h1,h2,h4⟩:=h
   refine⟨rfl, ?_⟩
   rw[if_pos rfl,ByteArray.size_extract]
   omega
  ·exact absurd h.1 h3
theorem zfT (N S k a c:Int) (n:Nat) (d s:ByteArray) (hc:c=n) (h:z0E k a c d) (hs:s=z6D (z5x k a c d)) (h3:k≠3) (hb:a+c<=yl N S):
  zi Tryz.prog 85 #[.agg #[.int .i64 N,.int .i64 S],.string s] [] fun v K=>∃A cc,v= .tuple #[.slice A n cc,.int .i64 0]/\K=[zh 173 3 (.slice A n cc) n (zd OpM.cells (zmK k a d n))]:=by
 intro F0 w0 w R H
 try simp only[xNf]at H
 refine(zk5 N S k a c n d s w hc h hs h3 hb).mono ?_
 rintro e w' ⟨A,cc,rfl,ho,hbw⟩
 rw[z6j]at ho
 exact⟨_,_,rfl,⟨A,cc,rfl,rfl⟩,H.newRow hbw ho⟩
theorem zbs (e:Int):zi Tryz.prog 83 #[.int .i64 e] [] fun v K=>v= .string (z1j [e] [noB])/\K=[]:=by
 intro F0 w0 w R H
 try simp only[xNf]at H
 have hT:=fun v1 v2=>zb9 [e] [(⟨#[]⟩:ByteArray)] 1 1 v1 v2 rfl rfl (fun s hs=>by simp at hs;subst hs;decide)
 simp only[List.map_cons,List.map_nil]at hT
 rw[show noB=(⟨#[]⟩:ByteArray)from rfl]
 rw[show z09 e= .int .i64 e from rfl]at hT
 obtain⟨B,hB⟩:∃B,z1j [e] [(⟨#[]⟩:ByteArray)]=B:=⟨_,rfl⟩
 obtain⟨E,hE⟩:∃E,z8n [e] [(⟨#[]⟩:ByteArray)]=E:=⟨_,rfl⟩
 simp only[hB,hE]at hT
 rw[hB]
 have HT:=Lib.hid hT
 clear hT hB hE
 go_enter Tryz.func83,Tryz.ntmps83
 go_wp2_with (first
  |(go_at_call 120;have H1:=z5j (n:=1) (size:=1) H rfl (by decide);dsimp only at H1;have H2:=z5j (n:=1) (size:=1) (H1.sub (K:=z7 _ 38 [.int .i64 e]::zh 9 1 _ 1 [.string ⟨#[]⟩]::R) sb) rfl (by decide);clear H H1;revert H2;refine zi.use (HT.out _ _) pks ?_;rintro _ _ w ⟨rfl,rfl⟩ H;try simp only[xNf]at H)
  |first|refine xLd H ?_|(refine xEf H ?_;clear H;intro b A' w H))
 refine xR1 H ?_
 exact xF H
def ClusM.busyAt (s:ClusM) (i:Nat):Bool:= !(s.ctl i).queue.isEmpty||((s.ctl i).doing||decide (192<s.hist.evs.length))
abbrev ClusM.asked (s:ClusM) (i:Nat) (ops:List OpM):ClusM:={s with ctl:=upC s.ctl i {s.ctl i with queue:=ops,errs:=[],data:=[],answer:=noB,done:=false}}
def ClusM.ask (s:ClusM) (i:Nat) (ops:List OpM):ClusM:=if s.busyAt i=true then s else(s.asked i ops).goOn i
def ClusM.askB (s:ClusM) (i:Nat):ByteArray:=if s.busyAt i=true then z1j [201] [noB]else noB
theorem z9E {s:ClusM} {i:Nat} (h:s.busyAt i=false):(s.ctl i).doing=false/\(s.ctl i).queue=[]/\s.hist.evs.length<=192:=by
 unfold ClusM.busyAt at h
 simp only[Bool.or_eq_false_iff,Bool.not_eq_false',List.isEmpty_iff,decide_eq_false_iff_not]at h
 exact⟨h.2.1,h.1,by omega⟩
theorem GInv.asked {i m:Nat} {s:ClusM} {p:PilotM} (h:GInv i m s p) (hd:(s.ctl i).doing=false) {ops:List OpM} (ho:∀op∈ops,OpOk s.N s.S op) (hl:ops.length<=100):GInv i m (s.asked i ops) p:=by
 refine⟨?_,h.inv, ?_, ?_,h.h0,h.h1, ?_, ?_, ?_⟩
 ·show(upC s.ctl i _ i).pil=_
  rw[yv]
  exact h.pil
 ·show(upC s.ctl i _ i).doing=false->_
  rw[yv]
  exact h.idle
 ·show ∀o∈(upC s.ctl i _ i).queue,OpOk s.N s.S o
  rw[yv]
  exact ho
 ·show(upC s.ctl i {s.ctl i with queue:=ops,errs:=[],data:=[],answer:=noB,done:=false} i).errs.length+(upC s.ctl i {s.ctl i with queue:=ops,errs:=[],data:=[],answer:=noB,done:=false} i).queue.length+(if(upC s.ctl i {s.ctl i with queue:=ops,errs:=[],data:=[],answer:=noB,done:=false} i).doing=true then 1 else 0)<=1000
  rw[yv]
  show 0+ops.length+(if(s.ctl i).doing=true then 1 else 0)<=1000
  rw[hd]
  simp only[Bool.false_eq_true,if_false]
  omega
 ·show(upC s.ctl i {s.ctl i with queue:=ops,errs:=[],data:=[],answer:=noB,done:=false} i).data.length=(upC s.ctl i {s.ctl i with queue:=ops,errs:=[],data:=[],answer:=noB,done:=false} i).errs.length
  rw[yv]
  rfl
 ·show ∀d∈(upC s.ctl i {s.ctl i with queue:=ops,errs:=[],data:=[],answer:=noB,done:=false} i).data,d.size<=16
  rw[yv]
  exact fun d hd=>absurd hd List.not_mem_nil
theorem CInv.ask {B i:Nat} {s:ClusM} (h:CInv (B+13300) s) (hi:i<2) {ops:List OpM} (ho:∀op∈ops,OpOk s.N s.S op) (hl:ops.length<=100):CInv B (s.ask i ops):=by
 unfold ClusM.ask
 split
 ·exact h.less (by omega)
 ·rename_i hb
  have hb:=z9E (s:=s) (i:=i) (by simpa using hb)
  obtain⟨p,hp⟩:=h.g i hi
  refine(h.less (C:=B+201) (by omega)).goOn hi rfl rfl rfl rfl (fun j hj=>z2g _ _ hj) rfl h.net ?_ (GInv.asked (hp.less (by omega)) hb.1 ho hl)
  show(upC s.ctl i _ i).queue.length<=100
  rw[yv]
  exact hl
def z0H (c n:Int):Int:=(if c<0 then-(c+1)else c).tmod n
theorem z16 (c n:Int) (hn:1<=n):0<=z0H c n/\z0H c n<n:=by
 unfold z0H
 have h:0<=(if c<0 then-(c+1)else c):=by split<;>omega
 generalize (if c<0 then-(c+1)else c)=x at*
 rw[Int.tmod_eq_emod_of_nonneg h]
 exact⟨Int.emod_nonneg _ (by omega),Int.emod_lt_of_pos _ (by omega)⟩
theorem zdD (c n:Int) (w:World) (hc1:-9223372036854775808<=c) (hc2:c<=9223372036854775807) (hn1:1<=n) (hn2:n<=9223372036854775807):
  Calls Tryz.prog 5 #[.int .i64 c,.int .i64 n] w fun e w'=>e= .returned (.int .i64 (z0H c n))/\w=w':=by
 by_cases h0:c<0
 ·go_enter Tryz.func5,Tryz.ntmps5
  go_wp2
  go_ret
  refine⟨?_,rfl⟩
  unfold z0H
  rw[if_pos h0,Int.neg_tmod]
  rfl
 ·go_enter Tryz.func5,Tryz.ntmps5
  go_wp2
  go_ret
  refine⟨?_,rfl⟩
  unfold z0H
  rw[if_neg (by omega),Int.tmod_eq_emod_of_nonneg (by omega)]
  rfl
abbrev isI (x:Int):Prop:=-9223372036854775808<=x/\x<=9223372036854775807
theorem z3V (c n:Int) (hc:isI c) (h1:1<=n) (h2:n<=9223372036854775807):zi Tryz.prog 5 #[.int .i64 c,.int .i64 n] [] fun v K=>v= .int .i64 (z0H c n)/\K=[]:=zb8 fun w=>zdD c n w hc.1 hc.2 h1 h2
structure TAsk where
 pil:Int
 kind:Int
 at_:Int
 cnt:Int
 text:ByteArray
abbrev TAsk.cells (x:TAsk):List Value:=[.int .i64 x.pil,.int .i64 x.kind,.int .i64 x.at_,.int .i64 x.cnt,.string x.text]
theorem TAsk.cells_length (x:TAsk):x.cells.length=5:=rfl
structure TAskOk (x:TAsk):Prop where
 pil:isI x.pil
 kind:isI x.kind
 at_:isI x.at_
 cnt:isI x.cnt
 text:x.text.size<=9223372036854775807
abbrev TAsk.v (x:TAsk):Value:=.agg x.cells.toArray
def z2a (N S:Int) (x:TAsk):Int:=z0H x.at_ (yl N S)
def zab (N S:Int) (x:TAsk):Int:=1+z0H x.cnt (min 4 (yl N S-z2a N S x))
theorem z62 {N S:Int} (hr:yn N S=true):2<=yl N S/\yl N S<=40:=by
 have h2:=zgW N S
 obtain⟨r1,r2,r3,r4⟩:=yc.1 hr
 unfold yl at h2⊢
 rw[if_pos hr]at h2⊢
 refine⟨?_,h2.2⟩
 have:1*2<=S*(N-1):=Int.mul_le_mul r3 (by omega) (by omega) (by omega)
 omega
theorem z4R {N S:Int} (hr:yn N S=true) (x:TAsk):0<=z2a N S x/\z2a N S x<yl N S/\1<=zab N S x/\zab N S x<=4/\z2a N S x+zab N S x<=yl N S:=by
 have hb:=z62 hr
 have h1:=z16 x.at_ (yl N S) (by omega)
 have h2:=z16 x.cnt (min 4 (yl N S-z2a N S x)) (by unfold z2a;omega)
 unfold zab z2a at*
 omega
theorem zkn (N S:Int) (x:TAsk) (hr:yn N S=true) (hx:TAskOk x):zi Tryz.prog 23 #[.agg #[.int .i64 N,.int .i64 S],x.v] [] fun v K=>v= .tuple #[.int .i64 (z2a N S x),.int .i64 (zab N S x)]/\K=[]:=by
 intro F0 w0 w R H
 try simp only[xNf]at H
 have hb:=z62 hr
 have hB:zi Tryz.prog 21 #[.agg #[.int .i64 N,.int .i64 S]] [] fun v K=>v= .int .i64 (yl N S)/\K=[]:=zm fun w=>zaj N S w
 have h1:=z16 x.at_ (yl N S) (by omega)
 have hP:=z3V x.at_ (yl N S) hx.at_ (by omega) (by omega)
 have h2:=z16 x.cnt (min 4 (yl N S-z2a N S x)) (by unfold z2a;omega)
 have hP2:=z3V x.cnt (min 4 (yl N S-z2a N S x)) hx.cnt (by unfold z2a;omega) (by omega)
 have hrn:zab N S x=1+z0H x.cnt (min 4 (yl N S-z2a N S x)):=rfl
 rw[show z0H x.at_ (yl N S)=z2a N S x from rfl]at h1 hP
 rw[hrn]
 obtain⟨b,hbb⟩:=xG (yl N S)
 obtain⟨t,ht⟩:=xG (z2a N S x)
 rw[hbb,ht]at h2 hP2
 rw[hbb]at hB hP h1
 rw[ht]at h1 hP
 rw[hbb,ht]
 obtain⟨m,hm⟩:=xG (min 4 (b-t))
 rw[hm]at h2 hP2
 rw[hm]
 obtain⟨q,hq⟩:=xG (z0H x.cnt m)
 rw[hq]at h2 hP2
 rw[hq]
 have hmin:=fun ats t' W=>z0u (P:=Tryz.prog) 4 (b-t) ats t' W
 rw[hm]at hmin
 have hw1:IntKind.i64.wrap (b-t)=b-t:=by rw[IntKind.wrap_i64];omega
 have hw2:IntKind.i64.wrap (1+q)=1+q:=by rw[IntKind.wrap_i64];omega
 have HB:=Lib.hid hB
 have HP:=Lib.hid hP
 have HP2:=Lib.hid hP2
 clear hB hP hP2 h1 h2 hb hr hx hrn hbb ht hm hq
 obtain⟨xp,xk,xa,xc,xt⟩:=x
 go_enter Tryz.func23,Tryz.ntmps23
 go_wp2_with (first|(refine xNt 23 H ?_;clear H;intro bg w H)|(refine xNt 34 H ?_;clear H;intro bx w H)|(go_at_call 21;refine xT2 (HB.out) H ?_;clear H;intro w H)|(go_at_call_of 5 (Value.int .i64 xa);revert H;refine zi.use HP.out pks ?_;rintro _ _ w ⟨rfl,rfl⟩ H;try simp only[xNf]at H)|(go_at_call_of 5 (Value.int .i64 xc);revert H;refine zi.use HP2.out pks ?_;rintro _ _ w ⟨rfl,rfl⟩ H;try simp only[xNf]at H)|first|refine xLd H ?_|(refine xEf H ?_;clear H;intro b A' w H))
 refine xR2 H ?_
 exact xF H
theorem zd7 (t:ByteArray) (v:Value) (l:Nat) (hl:l<=65536):zi Tryz.prog 50 #[v,.int .i64 1,.int .i64 l] [zh 9 1 v 1 [.string t]] fun r K=>∃g cc,r= .slice (some ⟨g,0,none⟩) 1 cc/\K=[zh 9 1 (.slice (some ⟨g,0,none⟩) 1 cc) 1 [.string (ze7 l t)],zh 9 1 v 1 [.string t]]:=by
 intro F0 w0 w R H
 try simp only[xNf]at H
 obtain⟨A1,c1,rfl⟩:=zt (v:=v) H pk
 refine(zfp [t] A1 1 c1 1 l 1 l w (Rd.of_own (H.row (v:=.slice A1 1 c1) .head)) rfl (by decide) rfl rfl (by decide) (by decide) hl).mono ?_
 rintro e w' ⟨g,cc,L,hL,rfl,h1,h2,h3,h4,h5,h6,h7,h8⟩
 have e:L=[ze7 l t]:=by rw[hL];rfl
 rw[e]at h7
 exact⟨_,_,rfl,⟨g,cc,rfl,rfl⟩,H.newRow h8 h7⟩
theorem zjd (x:TAsk) (n:Nat) (hn:n<=4):zi Tryz.prog 24 #[x.v,.int .i64 n] [] fun v K=>v= .string (ze7 (16*n) x.text)/\K=[]:=by
 intro F0 w0 w R H
 try simp only[xNf]at H
 obtain⟨xp,xk,xa,xc,xt⟩:=x
 have hT:=fun v=>zd7 xt v (16*n) (by omega)
 dsimp only
 obtain⟨f,hf⟩:=xG (ze7 (16*n) xt)
 rw[hf]
 simp only[hf]at hT
 have hw:IntKind.i64.wrap (16*(n:Int))=((16*n:Nat):Int):=by rw[IntKind.wrap_i64];omega
 have HT:=Lib.hid hT
 clear hT hf
 go_enter Tryz.func24,Tryz.ntmps24
 go_wp2_with (first|(refine xNt 34 H ?_;clear H;intro bx w H)|(go_at_call 50;replace H:=z5j (n:=1) (size:=1) H rfl (by decide);revert H;refine zi.use (HT.out _) pks ?_;rintro _ _ w ⟨g9,c9,rfl,rfl⟩ H;try simp only[xNf]at H)|(refine ld1 H (v:=.string f) (hh:=zn pk (by rfl)) ?_)|first|refine xLd H ?_|(refine xEf H ?_;clear H;intro b A' w H))
 refine xR1 H ?_
 exact xF H
def zcG (x:TAsk):Int:=if z0H x.kind 3=0 then 1 else 2
def zlz (N S:Int) (x:TAsk):ByteArray:=if z0H x.kind 3=0 then noB else ze7 (16*(zab N S x).toNat) x.text
def zc5 (N S:Int) (x:TAsk):ByteArray:=z6D (z5x (zcG x) (z2a N S x) (zab N S x) (zlz N S x))
theorem zeo {N S:Int} (hr:yn N S=true) (x:TAsk):z0E (zcG x) (z2a N S x) (zab N S x) (zlz N S x)/\zcG x≠3:=by
 obtain⟨h1,h2,h3,h4,h5⟩:=z4R hr x
 have hb:=z62 hr
 unfold zcG zlz z0E
 split
 ·exact⟨⟨⟨h1,by omega⟩,.inl ⟨rfl,h3,h4,rfl⟩⟩,by decide⟩
 ·refine⟨⟨⟨h1,by omega⟩,.inr (.inl ⟨rfl,h3,h4, ?_⟩)⟩,by decide⟩
  rw[z5g]
  omega
theorem zfY (k a c:Int) (d s:ByteArray) (hd:d.size<=140737488351232) (h:z0E k a c d) (hs:s=z6D (z5x k a c d)):zi Tryz.prog 11 #[.int .i64 k,.int .i64 a,.int .i64 c,.string d] [] fun v K=>v= .tuple #[.string s,.int .i64 0]/\K=[]:=zm fun w=>zfZ k a c d s w hd h hs
theorem zgj (N S:Int) (x:TAsk) (hr:yn N S=true) (hx:TAskOk x):zi Tryz.prog 15 #[.agg #[.int .i64 N,.int .i64 S],x.v] [] fun v K=>v= .string (zc5 N S x)/\K=[]:=by
 intro F0 w0 w R H
 try simp only[xNf]at H
 have hR:=zkn N S x hr hx
 have hP:=z3V x.kind 3 hx.kind (by omega) (by omega)
 obtain⟨h1,h2,h3,h4,h5⟩:=z4R hr x
 have hq:=(zeo hr x).1
 have hL:=zfY (zcG x) (z2a N S x) (zab N S x) (zlz N S x) (zc5 N S x) (by unfold zlz;split;decide;rw[z5g];omega) hq rfl
 obtain⟨n,hn⟩:∃n:Nat,zab N S x=n:=⟨(zab N S x).toNat,by omega⟩
 have hD:=zjd x n (by omega)
 have hk:zcG x=if z0H x.kind 3=0 then 1 else 2:=rfl
 have hd:zlz N S x=if z0H x.kind 3=0 then noB else ze7 (16*(zab N S x).toNat) x.text:=rfl
 rw[hn,Int.toNat_natCast]at hd
 rw[hn]at hR hL
 obtain⟨out,ho⟩:=xG (zc5 N S x)
 rw[ho]at hL⊢
 obtain⟨t,ht⟩:=xG (z2a N S x)
 rw[ht]at hL hR
 obtain⟨kk,hkk⟩:=xG (z0H x.kind 3)
 rw[hkk]at hP hk hd
 have HR:=Lib.hid hR
 have HP:=Lib.hid hP
 by_cases h0:kk=0
 ·subst h0
  rw[if_pos rfl]at hk hd
  rw[hk,hd]at hL
  have HL:=Lib.hid hL
  clear hR hP h1 h2 h3 h4 h5 hq hL hn hD hk hd ho ht hkk hr hx
  obtain⟨xp,xk,xa,xc,xt⟩:=x
  go_enter Tryz.func15,Tryz.ntmps15
  go_wp2_with (first|(refine xNt 23 H ?_;clear H;intro bg w H)|(refine xNt 34 H ?_;clear H;intro bx w H)|(go_at_call 23;refine xT2 (HR.out) H ?_;clear H;intro w H)|(go_at_call 5;refine xT2 (HP.out) H ?_;clear H;intro w H)|(go_at_call 11;refine xT2 (HL.out) H ?_;clear H;intro w H)|first|refine xLd H ?_|(refine xEf H ?_;clear H;intro b A' w H))
  refine xR1 H ?_
  exact xF H
 ·rw[if_neg h0]at hk hd
  rw[hk,hd]at hL
  have hkb:(kk==0)=false:=by simpa using h0
  obtain⟨f,hf⟩:=xG (ze7 (16*n) x.text)
  rw[hf]at hL hD
  have HL:=Lib.hid hL
  have HD:=Lib.hid hD
  clear hR hP h1 h2 h3 h4 h5 hq hL hn hD hk hd ho ht hkk hr hx hf h0
  obtain⟨xp,xk,xa,xc,xt⟩:=x
  go_enter Tryz.func15,Tryz.ntmps15
  go_wp2_with (first|(refine xNt 23 H ?_;clear H;intro bg w H)|(refine xNt 34 H ?_;clear H;intro bx w H)|(go_at_call 23;refine xT2 (HR.out) H ?_;clear H;intro w H)|(go_at_call 5;refine xT2 (HP.out) H ?_;clear H;intro w H)|(go_at_call 24;refine xT2 (HD.out) H ?_;clear H;intro w H)|(go_at_call 11;refine xT2 (HL.out) H ?_;clear H;intro w H)|first|refine xLd H ?_|(refine xEf H ?_;clear H;intro b A' w H))
  refine xR1 H ?_
  exact xF H
end Go.Proofs.YtmfincpagnpkjaaGreat
