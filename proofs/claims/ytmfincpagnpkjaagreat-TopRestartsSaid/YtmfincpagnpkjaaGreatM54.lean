/- Part of the proof. -/
import Derived.Test.YtmfincpagnpkjaaGreatM53
set_option linter.all false
set_option maxRecDepth 100000
set_option maxHeartbeats 100000000
namespace Go.Proofs.YtmfincpagnpkjaaGreat
open Go.RowKit
section
abbrev zf3 (N S:Int) (mv kv:Value) (nb hb:Nat):List Value:=[.int .i64 N,.int .i64 S,.int .i64 0,mv,kv,.pointer none,.int .i64 0,.slice none 0 0,.bool false,.int .i64 0,.slice none 0 0,.slice none 0 0,.string noB,.bool false,.pointer none,.int .i64 0,.slice none 0 0,.bool false,.int .i64 0,.slice none 0 0,.slice none 0 0,.string noB,.bool false,.pointer (some ⟨nb,0,none⟩),.pointer (some ⟨hb,0,none⟩)]
theorem zjr (N S:Int) (nb hb:Nat) (W:World):(Instr.build z4d #[(0,.agg #[.int .i64 N,.int .i64 S]),(5,.pointer (some ⟨nb,0,none⟩)),(6,.pointer (some ⟨hb,0,none⟩))]).run Tryz.prog W= .ok (.agg (zf3 N S (.slice none 0 0) (.pointer none) nb hb).toArray) W:=by kernel_rfl
theorem zjp (p q:Nat) (W:World):(Instr.build 89 #[(0,.pointer (some ⟨p,0,none⟩)),(1,.pointer (some ⟨q,0,none⟩))]).run Tryz.prog W= .ok (.agg (List.toArray [.pointer (some ⟨p,0,none⟩),.pointer (some ⟨q,0,none⟩)])) W:=by kernel_rfl
def ClusM.new (N:Nat) (k:Nat):ClusM:=⟨N,k,0,List.replicate N ⟨zeV (z6R k) k,true⟩,⟨z0K k k,AnsM.nil,AnsM.nil⟩,fun _=>CtlM.nil 0,⟨.map [],0⟩,⟨[],0⟩⟩
section
variable {F0:Nat->Prop} {w0 w:World} {L L':List Assn} {k p q:Nat} {zs:List (MacH×MacM)} {d:List ByteArray}
theorem jj.none (H:Sep F0 w0 w L):Sep F0 w0 w (jj k []::L):=Sep.bag (K:=[]) H
theorem jj.snoc (H:Sep F0 w0 w (yz p d::z0g q p k::jj k zs::L)):Sep F0 w0 w (jj k (zs++[((⟨p,q⟩,⟨d,true⟩):MacH×MacM)])::L):=by
 have H1:Sep F0 w0 w (z8k k (⟨p,q⟩,⟨d,true⟩)::jj k zs::L):=Sep.bag (K:=[yz p d,zge k ⟨p,q⟩ true]) H
 have H2:=(H1.sub (K:=jj k zs::z8k k (⟨p,q⟩,⟨d,true⟩)::L) (.cons (.tail .head) (.cons .head .refl))).unbag
 refine Sep.bag (K:=(zs++[((⟨p,q⟩,⟨d,true⟩):MacH×MacM)]).map (z8k k)) ?_
 rw[List.map_append,List.append_assoc]
 exact H2
theorem zet:(Tryz.prog.info? 89).bind (·.zero)=some (.agg #[.pointer none,.pointer none]):=by kernel_rfl
end
theorem zef (n k:Nat) (hr:yn n k=true):zi Tryz.prog 20 #[.agg #[.int .i64 n,.int .i64 k]] [] fun r K=>∃c,r= .pointer (some ⟨c,0,none⟩)/\K=[ym c (ClusM.new n k)]:=by
 intro F0 w0 w R H
 try simp only[xNf]at H
 have hR:=z9d n k
 rw[hr]at hR
 obtain⟨r1,r2,r3,r4⟩:=yc.1 hr
 have h1:1<=k:=by omega
 have h8:k<=8:=by omega
 have h6:n<=6:=by omega
 have HR:=Lib.hid hR
 have HK:=Lib.hid (ziL k h1 h8)
 have HP:=Lib.hid (zid k h1 h8)
 have hzl:(z6R k).length=k:=List.length_replicate ..
 have HN:=Lib.hid (fun p=>zbT (p:=p) hzl h1 h8)
 have HF:=Lib.hid (fun p q=>zbW (p:=p) (q:=q) hzl h8)
 have HB:=Lib.hid (zjr n k)
 have HM:=Lib.hid zjp
 have hdef:ClusM.new n k=⟨n,k,0,List.replicate n ⟨zeV (z6R k) k,true⟩,⟨z0K k k,AnsM.nil,AnsM.nil⟩,fun _=>CtlM.nil 0,⟨.map [],0⟩,⟨[],0⟩⟩:=rfl
 have HDEF:=Lib.hid hdef
 obtain⟨f,hf⟩:=xG (zeV (z6R k) k)
 simp only[hf]at HF HDEF
 obtain⟨z,hz⟩:=xG (z6R k)
 simp only[hz]at HP HN HF
 obtain⟨K0,hK0⟩:=xG ((⟨z0K k k,AnsM.nil,AnsM.nil⟩:KeeperM))
 simp only[hK0]at HK HDEF
 clear hR r1 r2 r3 r4 hr hzl hdef hz hf hK0
 go_enter Tryz.func20,Tryz.ntmps20
 go_upto_region 3 with(first|(refine xNt 23 H ?_;clear H;intro bg w H)|(go_at_call 42;refine xT2 (HR.out) H ?_;clear H;intro w H)|first|refine xLd H ?_|(refine xSt H ?_;clear H;intro w H;try dsimp only[List.set]at H)|(refine xNw H ?_;clear H;intro b w H)|(refine xAp H ?_;clear H;intro A' k' w H))
 refine xRg [] (fun L=>[L]) H ?_
 clear H;intro w H
 have HS:=H
 refine xV 0 0 HS ?_
 clear HS
 refine tk1 1 0 (fun K' hK=>?_)
 go_simp;revert H;refine zi.use ziu pks ?_;rintro _ _ w ⟨nb,rfl,rfl⟩ H;try simp only[xNf]at H
 refine hK _ _ (H.sub sbn) (fun HS=>?_)
 clear hK K'
 try simp only[xPt]
 clear HS
 refine tk1 2 0 (fun K' hK=>?_)
 go_simp;revert H;refine zi.use ziT pks ?_;rintro _ _ w ⟨hb,rfl,rfl⟩ H;try simp only[xNf]at H
 refine hK _ _ (H.sub sbn) (fun HS=>?_)
 clear hK K'
 try simp only[xPt]
 refine xO 3 0 HS ?_ (v:=(.agg (zf3 n k (.slice none 0 0) (.pointer none) nb hb).toArray)) (hy:=by(intro W;exact zb (t:=z4d) rfl (HB.out nb hb W)))
 clear HS
 refine tk1 4 0 (fun K' hK=>?_)
 (refine wbx (ty:=z4d) H ?_;clear H;intro bc w H)
 refine hK _ _ (H.sub sbn) (fun HS=>?_)
 clear hK K'
 try simp only[xPt]
 refine xO 5 0 HS ?_
 refine xD ?_
 all_goals
  go_wp2_with (first|(go_at_call 45;refine xTr (HK.out) H ?_;clear H;rintro _ _ w ⟨ke,rfl,rfl⟩ H;try simp only[xNf]at H)|first|refine xLd H ?_|(refine xSt H ?_;clear H;intro w H;try dsimp only[List.set]at H)|(refine xNw H ?_;clear H;intro b w H)|(refine xAp H ?_;clear H;intro A' k' w H))
  have H2:Sep F0 w0 w (jj k []::zh 89 2 (.slice none 0 0) 0 (zd z8K [])::z7 bc z4d (zf3 n k (.slice none 0 0) (.pointer (some ⟨ke,0,none⟩)) nb hb)::_):=jj.none (k:=k) (Sep.mk_row_nil (e:=89) (size:=2) (H.sub (K:=z7 bc z4d _::ya ke K0::z13 nb _::js hb _::z7 bg 23 [.int .i64 n,.int .i64 k]::R) sb))
  clear H
  have H:=H2
  clear H2
  go_loopw [27] (fun v27 wr=>∃(j:Nat) (mv:Value) (zs:List (MacH×MacM)),j<=n/\v27= .int .i64 j/\zs.length=j/\zs.map (·.2)=List.replicate j ⟨f,true⟩/\Sep F0 w0 wr (jj k zs::zh 89 2 mv j (zd z8K zs)::z7 bc z4d (zf3 n k mv (.pointer (some ⟨ke,0,none⟩)) nb hb)::ya ke K0::z13 nb ⟨.map [],0⟩::js hb ⟨[],0⟩::z7 bg 23 [.int .i64 n,.int .i64 k]::R)) (fun v27 _=>n-(intOf v27).toNat)
  case atStart=>exact⟨0,.slice none 0 0,[],Nat.zero_le _,rfl,rfl,rfl,H.sub sba⟩
  case round=>
   clear H
   obtain⟨j,mv,zs,hj,rfl,hzl,hzm,H⟩:=hrel
   obtain⟨A1,c1,rfl⟩:=zt (v:=mv) H pk
   have HZL:=Lib.hid hzl
   have HZM:=Lib.hid hzm
   clear hzl hzm
   by_cases hlt:j<n
   ·go_wp2_with (first
     |(go_at_call 46;refine xTr (HP.out) H ?_;clear H;rintro _ _ w ⟨p,rfl,rfl⟩ H;try simp only[xNf]at H)
     |(go_at_call 47;refine xTr (HN.out p) H ?_;clear H;rintro _ _ w ⟨q,rfl,rfl⟩ H;try simp only[xNf]at H)
     |(go_at_call 48;refine xT2 (HF.out p q) H ?_;clear H;intro w H)
     |(refine z8 (v:=.agg (List.toArray [.pointer (some ⟨p,0,none⟩),.pointer (some ⟨q,0,none⟩)])) (by rfl) (zb (t:=89) rfl ?_) ?_;(·simp only[List.map_cons,List.map_nil];exact HM.out p q _))
     |(refine j1 (by rfl) (by rfl) (fun K' hK=>?_);refine wsl H ?_ (hz:=zet);clear H;intro bs w H;refine hK _ _ ?_;clear hK K')
     |(refine j1 (by rfl) (by rfl) (fun K' hK=>?_);refine wap H ?_ (hz:=zet);clear H;intro A' k' w H;refine hK _ _ ?_;clear hK K')
     |first|refine xLd H ?_|(refine xSt H ?_;clear H;intro w H;try dsimp only[List.set]at H)|(refine xNw H ?_;clear H;intro b w H)|(refine xAp H ?_;clear H;intro A' k' w H))
    have H2:=jj.snoc (k:=k) (zs:=zs) (H.sub (K:=yz p f::z0g q p k::jj k zs::zh 89 2 _ (j+1) _::z7 bc z4d _::ya ke K0::z13 nb ⟨.map [],0⟩::js hb ⟨[],0⟩::z7 bg 23 [.int .i64 n,.int .i64 k]::R) sb)
    clear H
    go_roundw
    case rel=>
     refine⟨j+1,.slice A' (j+1) k',zs++[((⟨p,q⟩,⟨f,true⟩):MacH×MacM)],by omega,by go_num,by rw[List.length_append,HZL.out];rfl,by rw[List.map_append,HZM.out,List.replicate_succ'];rfl, ?_⟩
     have e:zd z8K (zs++[((⟨p,q⟩,⟨f,true⟩):MacH×MacM)])=zd z8K zs++[.pointer (some ⟨p,0,none⟩),.pointer (some ⟨q,0,none⟩)]:=by simp[zd];rfl
     rw[e]
     exact H2.sub sb
    case measure=>simp[intOf];omega
   ·obtain rfl:j=n:=by omega
    go_wp2
    refine xR1 H ?_
    rw[HDEF.out]
    refine⟨_,_,rfl,⟨bc,rfl,rfl⟩, ?_⟩
    have H3:=Sep.mk_pure (p:=True) trivial (Sep.mk_que_nil (Sep.mk_row_nil (e:=38) (size:=1) (Sep.mk_row_nil (e:=9) (size:=1) H)))
    have H4:=Sep.mk_pure (p:=True) trivial (Sep.mk_que_nil (Sep.mk_row_nil (e:=38) (size:=1) (Sep.mk_row_nil (e:=9) (size:=1) H3)))
    have hc0:zn1 ⟨0,.slice none 0 0,.slice none 0 0,.slice none 0 0⟩ (CtlM.nil 0)=[z0w True,zes (.slice none 0 0) [],zh 38 1 (.slice none 0 0) 0 [],zh 9 1 (.slice none 0 0) 0 []]:=rfl
    have H5:Sep F0 w0 _ (z3e ⟨0,.slice none 0 0,.slice none 0 0,.slice none 0 0⟩ (CtlM.nil 0)::_):=Sep.bag (K:=zn1 ⟨0,.slice none 0 0,.slice none 0 0,.slice none 0 0⟩ (CtlM.nil 0)) H4
    have H6:=H5.sub (K:=z0w True::zes (.slice none 0 0) []::zh 38 1 (.slice none 0 0) 0 []::zh 9 1 (.slice none 0 0) 0 []::z3e ⟨0,.slice none 0 0,.slice none 0 0,.slice none 0 0⟩ (CtlM.nil 0)::jj k zs::zh 89 2 _ j (zd z8K zs)::z7 bc z4d _::ya ke K0::z13 nb ⟨.map [],0⟩::js hb ⟨[],0⟩::R) sb
    have H7:Sep F0 w0 _ (z3e ⟨0,.slice none 0 0,.slice none 0 0,.slice none 0 0⟩ (CtlM.nil 0)::_):=Sep.bag (K:=zn1 ⟨0,.slice none 0 0,.slice none 0 0,.slice none 0 0⟩ (CtlM.nil 0)) H6
    exact ym.join (L:=R) (s:=⟨j,k,0,List.replicate j ⟨f,true⟩,K0,fun _=>CtlM.nil 0,⟨.map [],0⟩,⟨[],0⟩⟩) _ ke nb hb (fun _=>⟨0,.slice none 0 0,.slice none 0 0,.slice none 0 0⟩) zs (H7.sub sba) (by rfl) HZM.out (e4:=HZL.out.symm) (e5:=(Int.toNat_natCast k).symm)
end
theorem z9G (a:Int) (W:World):(Instr.build 37 #[(0,.int .i64 a)]).run Tryz.prog W= .ok (z8N a 0 (.slice none 0 0) noB) W:=by kernel_rfl
theorem z9F (a b:Int) (W:World):(Instr.build 37 #[(0,.int .i64 a),(1,.int .i64 b)]).run Tryz.prog W= .ok (z8N a b (.slice none 0 0) noB) W:=by kernel_rfl
theorem zgT (a b:Int) (A:Option Addr) (n c:Nat) (W:World):(Instr.build 37 #[(0,.int .i64 a),(1,.int .i64 b),(3,.slice A n c)]).run Tryz.prog W= .ok (z8N a b (.slice A n c) noB) W:=by kernel_rfl
theorem zgS (a b:Int) (s:ByteArray) (W:World):(Instr.build 37 #[(0,.int .i64 a),(1,.int .i64 b),(4,.string s)]).run Tryz.prog W= .ok (z8N a b (.slice none 0 0) s) W:=by kernel_rfl
theorem zaX:(Tryz.prog.info? 37).bind (·.zero)=some (.agg (List.toArray (zh5 0 0 0 (.slice none 0 0) noB))):=by kernel_rfl
def ClusM.begun (n k:Nat):ClusM:=((ClusM.new n k).start 0).start 1
theorem PInv.fresh {N S i:Int} (hr:yn N S=true) (hi:i<2) (h0:0<=i) (m:Nat) (hm:m<=1000000000):PInv N S m (PilotM.new N S i 1):=by
 obtain⟨r1,r2,r3,r4⟩:=yc.1 hr
 have hw:zv (1*1048576)=1048576:=by decide
 refine⟨⟨?_, ?_,Int.le_refl _,(by show(0:Int)<8;decide)⟩,hr, ?_,Int.le_refl _, ?_,(by show(0:Int)≠3;decide),Nat.zero_le _,rfl,Nat.zero_le _,Nat.zero_le _,(fun c hc=>absurd hc List.not_mem_nil),(fun u hu=>(by cases hu)),Nat.zero_le _,(fun h=>absurd rfl h),(fun h=>(by cases h)),(fun h=>(by cases h)),(fun o ho=>absurd ho List.not_mem_nil),Nat.zero_le _,(fun l hl=>absurd hl List.not_mem_nil),rfl,rfl⟩
 ·show 0<=zv (1*1048576)
  rw[hw];decide
 ·show 0+m<=1000000000
  omega
 ·show(0:Int)<S
  omega
 ·show(0:Int)<N-1
  omega
theorem zju (n k B:Nat) (hr:yn n k=true) (hB:B<=1000000000):CInv B (ClusM.begun n k):=by
 have hg:∀i:Nat,i<2->(ClusM.begun n k).ctl i=znc n k i:=by
  intro i hi
  rcases(show i=0\/i=1 by omega)with rfl|rfl<;>rfl
 refine⟨hr,by show((List.replicate n _).length:Int)=n;rw[List.length_replicate],fun m hm=>?_,z2Z.new,⟨z1b.nil,z1b.nil⟩,fun i hi=>?_,fun i hi=>?_,Nat.zero_le _⟩
 ·have hm:m∈List.replicate n (⟨zeV (z6R k) k,true⟩:MacM):=hm
  rw[List.eq_of_mem_replicate hm]
  refine⟨?_,rfl⟩
  show(zeV (z6R k) k).length=(k:Int).toNat
  rw[z4A,Int.toNat_natCast]
  exact List.length_replicate ..
 ·have e:=hg i hi
  refine⟨PilotM.new n k i 1,by rw[e],PInv.fresh hr (by omega) (by omega) B hB,fun _=>rfl,by rw[e];exact fun op hop=>absurd hop List.not_mem_nil,(show(0:Int)<=0 from Int.le_refl _), ?_,(by rw[e];show 0+0+(if(false:Bool)=true then 1 else 0)<=1000;decide),(by rw[e];rfl),by rw[e];exact fun d hd=>absurd hd List.not_mem_nil⟩
  show(0:Int)+B<=1000000000000
  omega
 ·rw[hg i hi]
  exact Nat.zero_le _
theorem zen (n k:Nat) (hr:yn n k=true):zi Tryz.prog 7 #[.agg #[.int .i64 n,.int .i64 k]] [] fun r K=>∃c,r= .pointer (some ⟨c,0,none⟩)/\K=[ym c (ClusM.begun n k)]:=by
 intro F0 w0 w R H
 try simp only[xNf]at H
 have hN:=zef n k hr
 have hd:ClusM.begun n k=((ClusM.new n k).start 0).start 1:=rfl
 have hD0:=fun c=>z5h (c:=c) (i:=0) (by decide) (z67 c 0 (ClusM.new n k) (by decide) hr rfl)
 have hD1:=fun c=>z5h (c:=c) (i:=1) (by decide) (z67 c 1 ((ClusM.new n k).start 0) (by decide) hr rfl)
 rw[<-hd]at hD1
 obtain⟨s2,hs2⟩:=xG (ClusM.begun n k)
 rw[hs2]at hD1
 obtain⟨s0,hs0⟩:=xG (ClusM.new n k)
 rw[hs0]at hN
 simp only[hs0]at hD0 hD1
 obtain⟨s1,hs1⟩:=xG (s0.start 0)
 simp only[hs1]at hD0 hD1
 rw[hs2]
 have HN:=Lib.hid hN
 have HD0:=Lib.hid (fun c=>show zi _ _ #[_,z8N 7 0 (.slice none 0 0) noB] _ _ from hD0 c)
 have HD1:=Lib.hid (fun c=>show zi _ _ #[_,z8N 7 1 (.slice none 0 0) noB] _ _ from hD1 c)
 clear hN hd hD0 hD1 hs0 hs1 hs2 hr
 go_enter Tryz.func7,Tryz.ntmps7
 go_upto_region 5 with(first|(refine xNt 23 H ?_;clear H;intro bg w H)|(go_at_call 20;refine xTr (HN.out) H ?_;clear H;rintro _ _ w ⟨bc,rfl,rfl⟩ H;try simp only[xNf]at H)|(go_at_call 10;refine xT2 (HD0.out bc) H ?_;clear H;intro w H)|(refine z8 (v:=z8N 7 0 (.slice none 0 0) noB) (by rfl) (zb (t:=37) rfl ?_) ?_;(·simp only[List.map_cons,List.map_nil];exact z9G 7 _))|first|refine xLd H ?_|(refine xEf H ?_;clear H;intro b A' w H))
 go_wp2_with (first|(go_at_call 10;refine xT2 (HD1.out bc) H ?_;clear H;intro w H)|(refine z8 (v:=z8N 7 1 (.slice none 0 0) noB) (by rfl) (zb (t:=37) rfl ?_) ?_;(·simp only[List.map_cons,List.map_nil];exact z9F 7 1 _))|first|refine xLd H ?_|(refine xEf H ?_;clear H;intro b A' w H))
 refine xR1 H ?_
 exact⟨_,_,rfl,⟨bc,rfl,rfl⟩,H.sub sba⟩
theorem z7m (c B:Nat) (s:ClusM) (hI:CInv (B+877800) s):zi Tryz.prog 16 #[.pointer (some ⟨c,0,none⟩),.int .i64 1] [ym c s] fun r K=>r= .tuple #[]/\K=[ym c s.round]:=by
 intro F0 w0 w R H
 try simp only[xNf]at H
 have hR:=zmj (c:=c) hI
 obtain⟨s1,hs1⟩:=xG (s.round)
 rw[hs1]at hR⊢
 have HR:=Lib.hid hR
 clear hR hs1 hI
 go_enter Tryz.func16,Tryz.ntmps16
 go_wp2_with (first|refine xLd H ?_|(refine xEf H ?_;clear H;intro b A' w H))
 go_loopw [4] (fun v4 wr=>(v4= .int .i64 0/\Sep F0 w0 wr (ym c s::R))\/(v4= .int .i64 1/\Sep F0 w0 wr (ym c s1::R))) (fun v4 _=>1-(intOf v4).toNat)
 case atStart=>exact .inl ⟨rfl,H⟩
 case round=>
  clear H
  rcases hrel with⟨rfl,H⟩|⟨rfl,H⟩
  ·go_wp2_with (first|(go_at_call 10;refine xT2 (HR.out) H ?_;clear H;intro w H)|(refine z8 (v:=z8N 14 0 (.slice none 0 0) noB) (by rfl) (zb (t:=37) rfl ?_) ?_;(·simp only[List.map_cons,List.map_nil];exact z9G 14 _))|first|refine xLd H ?_|(refine xEf H ?_;clear H;intro b A' w H))
   go_roundw
   case rel=>exact .inr ⟨rfl,H⟩
   case measure=>simp[intOf]
  ·go_wp2
   refine xRe ?_
   exact xF H
section
def z8V (p g:Nat) (d:List ByteArray):Assn:=⟨fun F w=>∃(own:Nat->Nat) (m:Nat) (acts:Int) (clock:Nat),(∀k,own k=1->F k)/\DiskP w own 1 p m g d acts clock,fun {F w w'} ⟨own,m,acts,clock,h1,h2⟩ hk=>⟨own,m,acts,clock,h1,h2.same (fun k _ ho=>hk k (h1 k ho)) (Ext.refl _ _)⟩⟩
section
variable {F0:Nat->Prop} {w0 w:World} {L L':List Assn} {p g o n i:Nat} {d:List ByteArray} {x:ByteArray} {xs:List Value} {c:Nat}
theorem yz.named (H:Sep F0 w0 w (yz p d::L)):∃g,Sep F0 w0 w (z8V p g d::L):=by
 refine Sep.ex (f:=fun g=>z8V p g d) (H.conv ?_)
 rintro F w ⟨own,h1,m,g,acts,clock,h2⟩
 exact⟨g,own,m,acts,clock,h1,h2⟩
theorem z8V.shut (H:Sep F0 w0 w (z8V p g d::L)):Sep F0 w0 w (yz p d::L):=by
 refine H.conv ?_
 rintro F w ⟨own,m,acts,clock,h1,h2⟩
 exact⟨own,h1,m,g,acts,clock,h2⟩
theorem zgs (hp:Pick (z8V p g d) L L'):jz L p 0 (.slice (some ⟨g,0,none⟩) d.length d.length):=fun F0 w0 w H=>by
 obtain⟨F,⟨own,m,acts,clock,h1,h2⟩,_⟩:=(H.pick hp).say
 exact h2.ob.cell 0 _ rfl
theorem zhS (hp:Pick (z8V p g d) L L') (H:Sep F0 w0 w L) (hx:d[i]?=some x):x.size=64/\∀j b,x.data.toList[j]?=some b->w.cell? ⟨g,i*64+j,none⟩=some (.int .u8 (b.toNat:Int)):=by
 obtain⟨F,⟨own,m,acts,clock,h1,h2⟩,_⟩:=(H.pick hp).say
 obtain⟨hlt,rfl⟩:=List.getElem?_eq_some_iff.1 hx
 refine⟨h2.sz _ (List.getElem_mem hlt),fun j b hb=>h2.row.cell _ _ (zj4 h2.sz hlt ?_)⟩
 simp[zx,hb]
theorem za6 {P:Program} {src dst e:TypeId} (hs:P.underlying src=some (.slice e)) (he:P.underlying e=some (.int .u8)) (hd:P.underlying dst=some .string) {l:List UInt8}
  (h:∀j b,l[j]?=some b->w.cell? ⟨g,o+j,none⟩=some (.int .u8 (b.toNat:Int))) (n cap:Nat) (hn:l.length=n):(convert src dst (.slice (some ⟨g,o,none⟩) n cap)).run P w= .ok (.string ⟨l.toArray⟩) w:=by
 subst hn
 refine run_convert_bytes_back w src dst e ⟨g,o,none⟩ cap l hs he hd (fun j hj=>?_)
 rw[Addr.add_mid]
 exact h j l[j] (List.getElem?_eq_getElem hj)
def z3b (d:List ByteArray) (i:Nat):List Value:=(d.take i).map Value.string++List.replicate (d.length-i) (.string noB)
theorem zgF (hi:i<=d.length):(z3b d i).length=d.length:=by
 unfold z3b
 rw[List.length_append,List.length_map,List.length_take,List.length_replicate]
 omega
theorem zgE (hx:d[i]?=some x):(z3b d i).set i (.string x)=z3b d (i+1):=by
 obtain⟨hlt,rfl⟩:=List.getElem?_eq_some_iff.1 hx
 have h1:((d.take i).map Value.string).length=i:=by rw[List.length_map,List.length_take];omega
 unfold z3b
 obtain⟨k,hk⟩:∃k,d.length-i=k+1:=⟨d.length-i-1,by omega⟩
 rw[hk,List.set_append_right _ _ (by omega),h1,Nat.sub_self,List.replicate_succ,List.set_cons_zero,show d.length-(i+1)=k by omega,<-List.take_append_getElem hlt,List.map_append,List.append_assoc]
 rfl
theorem zd9 (hp:Pick (zh 9 1 (.slice (some ⟨g,0,none⟩) n c) n (z3b d i)) L L') (hx:d[i]?=some x):z0m L g i (.string x) (zh 9 1 (.slice (some ⟨g,0,none⟩) n c) n (z3b d (i+1))::L'):=by
 rw[<-zgE hx]
 have hlt:=(List.getElem?_eq_some_iff.1 hx).1
 exact z2h hp (by rw[zgF (by omega)];exact hlt)
end
theorem zgr (p n:Nat) (d:List ByteArray) (hn:d.length=n) (h8:n<=8):zi Tryz.prog 41 #[.pointer (some ⟨p,0,none⟩)] [yz p d] fun r K=>K=[zh 9 1 r n (d.map Value.string),yz p d]:=by
 intro F0 w0 w R H
 try simp only[xNf]at H
 obtain⟨g,H⟩:=yz.named H
 have HN:=Lib.hid hn
 have hz0:List.replicate n (Value.string noB)=z3b d 0:=by unfold z3b;rw[hn];rfl
 have hzn:z3b d n=d.map Value.string:=by unfold z3b;rw[<-hn,List.take_length,Nat.sub_self];simp
 have HZ0:=Lib.hid hz0
 have HZN:=Lib.hid hzn
 have HD:=Lib.hid (show ∀L L',Pick (z8V p g d) L L'->jz L p 0 (.slice (some ⟨g,0,none⟩) n n)from fun L L' hp=>by have:=zgs hp;rwa [hn]at this)
 clear hn hz0 hzn
 go_enter Tryz.func41,Tryz.ntmps41
 go_wp2_with (first
  |(refine ld1 H (hh:=HD.out _ _ pk) ?_)
  |(refine zp (by rfl) (fun K' hK=>?_);refine znz (e:=9) (z:=.string noB) (bytes:=16) (k:=n) (by omega) (by omega) H ?_ (hi:=by kernel_rfl);clear H;intro bk w H;refine hK _ _ ?_;clear hK K')
  |first|refine xLd H ?_|(refine xSt H ?_;clear H;intro w H;try dsimp only[List.set]at H)|(refine xNw H ?_;clear H;intro b w H)|(refine xAp H ?_;clear H;intro A' k' w H))
 rw[HZ0.out]at H
 go_loopw [13] (fun v13 wr=>∃k:Nat,k<=n/\v13= .int .i64 k/\Sep F0 w0 wr (zh 9 1 (.slice (some ⟨bk,0,none⟩) n n) n (z3b d k)::z8V p g d::R)) (fun v13 _=>n-(intOf v13).toNat)
 case atStart=>exact⟨0,Nat.zero_le _,rfl,H⟩
 case round=>
  clear H HZ0
  obtain⟨k,hk,rfl,H⟩:=hrel
  by_cases hlt:k<n
  ·obtain⟨x,hx⟩:∃x,d[k]?=some x:=⟨_,List.getElem?_eq_getElem (by rw[HN.out];exact hlt)⟩
   have hs:=zhS pk H hx
   have hltI:(k:Int)<n:=by omega
   have hcv:(convert 101 9 (.slice (some ⟨g,k*64,none⟩) 64 64)).run Tryz.prog wr= .ok (.string x) wr:=za6 Tryz.underlying101 Tryz.underlying5 Tryz.underlying9 (l:=x.data.toList) hs.2 64 64 (by rw[zf];exact hs.1)
   have HX:=Lib.hid hx
   clear hs hx
   go_wp2_with (first
    |(refine ld1 H (hh:=HD.out _ _ pk) ?_)
    |(refine zr (by rfl) (fun K' hK=>?_);refine jo H (ht:=zd9 pk HX.out) ?_;clear H hcv;intro w H;refine hK _ _ ?_;clear hK K')
    |first|refine xLd H ?_|(refine xSt H ?_;clear H;intro w H;try dsimp only[List.set]at H)|(refine xNw H ?_;clear H;intro b w H)|(refine xAp H ?_;clear H;intro A' k' w H))
   go_roundw
   case rel=>exact⟨k+1,by omega,by go_num,H⟩
   case measure=>simp[intOf];omega
  ·obtain rfl:k=n:=by omega
   rw[HZN.out]at H
   go_wp2
   refine xR1 H ?_
   replace H:=z8V.shut (H.sub (K:=z8V p g d::zh 9 1 (.slice (some ⟨bk,0,none⟩) k k) k (d.map Value.string)::R) sb)
   exact⟨.slice (some ⟨bk,0,none⟩) k k,_,rfl,rfl,H.sub sba⟩
theorem zb5 (st:Int) (s:ByteArray):zi Tryz.prog 40 #[.int .i64 st,.string s] [] fun v K=>v= .tuple #[(jc st s).1.v,.int .i64 (jc st s).2]/\K=[]:=zm fun w=>z3k st s w
theorem z7x (c n st k:Nat) (s:ClusM) (m:MacM) (hm:s.nodes[n]?=some m) (hn:(n:Int)<s.N) (hS:s.S=k) (hst:st<k) (hd:m.disk.length=k) (h8:k<=8):zi Tryz.prog 18 #[.pointer (some ⟨c,0,none⟩),.int .i64 n,.int .i64 st] [ym c s] fun r K=>r=(z2j m.disk st).v/\K=[ym c s]:=by
 intro F0 w0 w R H
 try simp only[xNf]at H
 have hI:=z2Q c s n
 rw[show(decide ((0:Int)<=(n:Int))&&decide ((n:Int)<s.N))=true by simp;omega]at hI
 have HI:=Lib.hid hI
 obtain⟨d,up⟩:=m
 dsimp only at hd⊢
 obtain⟨x,hx⟩:∃x,d[st]?=some x:=⟨_,List.getElem?_eq_getElem (by omega)⟩
 have hU:=zb5 st x
 have he:=z6Y st x
 have hrec:z2j d st=(jc st x).1:=by unfold z2j;rw[hx];rfl
 obtain⟨⟨r,e⟩,hr⟩:∃y,jc st x=y:=⟨_,rfl⟩
 rw[hr]at hU he hrec
 dsimp only at hU he hrec
 rw[hrec]
 have hxs:(d.map Value.string)[st]?=some (.string x):=by rw[List.getElem?_map,hx];rfl
 have hset:s.nodes.set n ⟨d,up⟩=s.nodes:=by
  obtain⟨h1,h2⟩:=List.getElem?_eq_some_iff.1 hm
  rw[<-h2,List.set_getElem_self]
 have HU:=Lib.hid hU
 have HXS:=Lib.hid hxs
 have HM:=Lib.hid hm
 have HSET:=Lib.hid hset
 have HIM:=Lib.hid (fun p=>zgr p k d hd h8)
 have HSK:=Lib.hid hS
 have hstI:(st:Int)<(k:Int):=by omega
 have hst0:decide ((st:Int)<0)=false:=decide_eq_false (by omega)
 have hst1:decide ((st:Int)>=(k:Int))=false:=decide_eq_false (by omega)
 clear hI hx hU hrec hr hxs hset hm hd hn hS
 have hkpos:0<k:=by omega
 by_cases h0:e=0
 ·subst h0
  clear he
  go_enter Tryz.func18,Tryz.ntmps18
  go_wp2_with (first
   |(go_at_call 28;revert H;refine zi.use HI.out pks ?_;rintro _ _ w ⟨rfl,rfl⟩ H;try simp only[xNf]at H;obtain⟨g,cz,nz,ke,nb,hb,ch,zs,p,q,HZ,hnz,H⟩:=ym.mac HM.out pk H;have hnz2:(n:Int)<nz:=by omega)
   |(refine ld1 H (v:=.int .i64 (k:Int)) (hh:=zc pk (by show some (Value.int .i64 s.S)=_;rw[HSK.out])) ?_)
   |(refine ld1 H (v:=.pointer (some ⟨p,0,none⟩)) (hh:=(by first|exact yu pk (HZ.out).2.1 yi (by rfl) (by rfl)|exact yr pk (HZ.out).2.1 yi (by rfl) (by rfl))) ?_)
   |(go_at_call 41;revert H;refine zi.use (HIM.out p) pks ?_;rintro v1 _ w rfl H;try simp only[xNf]at H;obtain⟨g7,c7,rfl⟩:=zz (v:=v1) (n:=k) H .head hkpos)
   |(refine ld1 H (hh:=zn pk HXS.out) ?_)
   |(go_at_call 40;refine xT2 (HU.out) H ?_;clear H;intro w H)
   |first|refine xLd H ?_|(refine xSt H ?_;clear H;intro w H;try dsimp only[List.set]at H)|(refine xNw H ?_;clear H;intro b w H)|(refine xAp H ?_;clear H;intro A' k' w H))
  refine xR1 H ?_
  have H2:=ym.mac_join (s:=s) (m:=⟨d,up⟩) (tm:=s.time) (d:=d) g cz nz ke nb hb ch p q HZ (H.sub sba)
  rw[HSET.out]at H2
  exact⟨_,_,rfl,⟨rfl,rfl⟩,H2.sub sba⟩
 ·obtain⟨h1,h2⟩:=he h0
  subst h1 h2
  clear h0 he
  go_enter Tryz.func18,Tryz.ntmps18
  go_wp2_with (first
   |(go_at_call 28;revert H;refine zi.use HI.out pks ?_;rintro _ _ w ⟨rfl,rfl⟩ H;try simp only[xNf]at H;obtain⟨g,cz,nz,ke,nb,hb,ch,zs,p,q,HZ,hnz,H⟩:=ym.mac HM.out pk H;have hnz2:(n:Int)<nz:=by omega)
   |(refine ld1 H (v:=.int .i64 (k:Int)) (hh:=zc pk (by show some (Value.int .i64 s.S)=_;rw[HSK.out])) ?_)
   |(refine ld1 H (v:=.pointer (some ⟨p,0,none⟩)) (hh:=(by first|exact yu pk (HZ.out).2.1 yi (by rfl) (by rfl)|exact yr pk (HZ.out).2.1 yi (by rfl) (by rfl))) ?_)
   |(go_at_call 41;revert H;refine zi.use (HIM.out p) pks ?_;rintro v1 _ w rfl H;try simp only[xNf]at H;obtain⟨g7,c7,rfl⟩:=zz (v:=v1) (n:=k) H .head hkpos)
   |(refine ld1 H (hh:=zn pk HXS.out) ?_)
   |(go_at_call 40;refine xT2 (HU.out) H ?_;clear H;intro w H)
   |(refine z8 (v:=Rec.nil.v) (by rfl) (zb (t:=54) rfl ?_) ?_;(·simp only[List.map_cons,List.map_nil];exact z5Z _))
   |first|refine xLd H ?_|(refine xSt H ?_;clear H;intro w H;try dsimp only[List.set]at H)|(refine xNw H ?_;clear H;intro b w H)|(refine xAp H ?_;clear H;intro A' k' w H))
  refine xR1 H ?_
  have H2:=ym.mac_join (s:=s) (m:=⟨d,up⟩) (tm:=s.time) (d:=d) g cz nz ke nb hb ch p q HZ (H.sub sba)
  rw[HSET.out]at H2
  exact⟨_,_,rfl,⟨rfl,rfl⟩,H2.sub sba⟩
end
section
def zfc:Option (Nat×Obj)->Assn
 |none=>z0w True
 |some (g,o)=>z4J g o
structure Args (A:Option Addr) (l:List TAsk) (n:Nat) (arg:Option (Nat×Obj)):Prop where
 len:l.length=n
 max:n<=maxLen
 ok:∀x∈l,TAskOk x
 at_:∀(i:Nat) (x:TAsk),l[i]?=some x->∃g off o,A=some ⟨g,off,none⟩/\arg=some (g,o)/\∀w:World,w.heap[g]?=some o->∀(j:Nat) (u:Value),x.cells[j]?=some u->w.cell? ⟨g,off+i*5+j,none⟩=some u
section
variable {L L':List Assn} {g o j:Nat} {ob:Obj} {x:TAsk} {u:Value}
theorem zc8 (hx:∀w:World,w.heap[g]?=some ob->∀(j:Nat) (u:Value),x.cells[j]?=some u->w.cell? ⟨g,o+j,none⟩=some u) (hp:Pick (zfc (some (g,ob))) L L') (hu:x.cells[j]?=some u):jz L g (o+j) u:=fun F0 w0 w H=>by
 obtain⟨F,⟨_,h⟩,_⟩:=(H.pick hp).say
 exact hx w h j u hu
theorem zgu (hx:∀w:World,w.heap[g]?=some ob->∀(j:Nat) (u:Value),x.cells[j]?=some u->w.cell? ⟨g,o+j,none⟩=some u) (hp:Pick (zfc (some (g,ob))) L L') (hu:x.cells[0]?=some u):jz L g o u:=zc8 (j:=0) hx hp hu
theorem zgw (hx:∀w:World,w.heap[g]?=some ob->∀(j:Nat) (u:Value),x.cells[j]?=some u->w.cell? ⟨g,o+j,none⟩=some u) (hp:Pick (zfc (some (g,ob))) L L'):jm Tryz.prog 34 L g o x.cells:=⟨fun F0 w0 w H j u hu=>zc8 hx hp hu F0 w0 w H,ze (by rfl)⟩
end
theorem zj6 (a b:Int) (ha:isI a) (hb:isI b):zi Tryz.prog 6 #[.agg #[.int .i64 a,.int .i64 b]] [] fun v K=>∃n k:Nat,Hid (yn n k=true)/\v= .agg #[.int .i64 n,.int .i64 k]/\K=[]:=fun F0 w0 w R H=>by
 refine(zj5 a b w ha.1 ha.2 hb.1 hb.2).mono ?_
 rintro e w' ⟨N,S,h1,h2,h3,h4,rfl,hbl⟩
 obtain⟨n,rfl⟩:∃n:Nat,N=n:=⟨N.toNat,by omega⟩
 obtain⟨k,rfl⟩:∃k:Nat,S=k:=⟨S.toNat,by omega⟩
 exact⟨_,[],rfl,⟨n,k,Lib.hid (yc.2 ⟨h1,h2,h3,h4⟩),rfl,rfl⟩,H.below hbl⟩
structure Both (n k B:Nat) (s:ClusM):Prop where
 inv:CInv B s
 N:s.N=n
 S:s.S=k
theorem zaF (s:ClusM) (i:Nat):(s.goOn i).N=s.N/\(s.goOn i).S=s.S:=⟨(z5N s i).N,(z5N s i).S⟩
theorem z6J (s:ClusM) (i:Nat):(s.step i).N=s.N/\(s.step i).S=s.S:=by
 unfold ClusM.step
 split
 ·exact⟨rfl,rfl⟩
 ·exact zaF _ _
theorem zdv (s:ClusM) (i:Nat) (l:Letter):(s.receive i l).N=s.N/\(s.receive i l).S=s.S:=by
 unfold ClusM.receive
 split
 ·exact⟨rfl,rfl⟩
 ·exact zaF _ _
theorem zf6 (s:ClusM) (l:Letter) (y:SayM) (ok:Bool):(s.back l y ok).N=s.N/\(s.back l y ok).S=s.S:=by
 rw[zaP]
 exact⟨rfl,rfl⟩
theorem zgy (s:ClusM) (l:Letter):(s.handle l).N=s.N/\(s.handle l).S=s.S:=by
 unfold ClusM.handle
 split
 ·exact zdv _ _ _
 ·split
  ·exact⟨rfl,rfl⟩
  ·split
   ·exact zf6 _ _ _ _
   ·split
    ·exact⟨rfl,rfl⟩
    ·exact zf6 _ _ _ _
theorem z8b (s:ClusM) (r:Int):(s.deliver r).N=s.N/\(s.deliver r).S=s.S:=by
 unfold ClusM.deliver
 split
 ·exact⟨rfl,rfl⟩
 ·split
  ·exact⟨rfl,rfl⟩
  ·exact zgy _ _
theorem z3M:∀(n:Nat) (s:ClusM),(ClusM.delivers n s).N=s.N/\(ClusM.delivers n s).S=s.S
 |0,_=>⟨rfl,rfl⟩
 |n+1,s=>⟨((z3M n _).1).trans (z8b s 0).1,((z3M n _).2).trans (z8b s 0).2⟩
theorem zbl (s:ClusM):s.round.N=s.N/\s.round.S=s.S:=by
 have h:=z3M (s.pass 1).net.all.toNat (s.pass 1)
 unfold ClusM.round
 rw[(z6J _ 1).1,(z6J _ 0).1,(z6J _ 1).2,(z6J _ 0).2,h.1,h.2]
 exact⟨rfl,rfl⟩
theorem zjw (s:ClusM) (i:Nat) (ops:List OpM):(s.ask i ops).N=s.N/\(s.ask i ops).S=s.S:=by
 unfold ClusM.ask
 split
 ·exact⟨rfl,rfl⟩
 ·exact zaF _ _
abbrev zmJ (n k:Nat) (x:TAsk):List OpM:=zmK (zcG x) (z2a n k x) (zlz n k x) (zab n k x).toNat
theorem zmY (n k B c p:Nat) (s:ClusM) (x:TAsk) (hb:Both n k (B+13300) s) (hp:p<2):DoT c (z8N 12 p (.slice none 0 0) (zc5 n k x)) s (s.ask p (zmJ n k x)) (s.askB p):=by
 have hr:yn n k=true:=by have:=hb.inv.right;rwa [hb.N,hb.S]at this
 obtain⟨hq,h3⟩:=zeo hr x
 obtain⟨r1,r2,r4,r5,r6⟩:=z4R hr x
 have hn:(zab n k x)=((zab n k x).toNat:Int):=by omega
 refine zeb hp (zfo c p s (s.ask p (zmJ n k x)) (zc5 n k x) (s.askB p) (zjk c p B (zab n k x).toNat s (zmJ n k x) (zc5 n k x) hb.inv hp (z7K ..) (by omega) ?_ ?_))
 ·rw[hb.N,hb.S]
  exact zih hr hn hq h3 r6
 ·rw[hb.N,hb.S]
  exact zfT n k (zcG x) (z2a n k x) (zab n k x) (zab n k x).toNat (zlz n k x) (zc5 n k x) hn hq rfl h3 r6
theorem Both.ask {n k B p:Nat} {s:ClusM} (hb:Both n k (B+13300) s) (hp:p<2) (x:TAsk):Both n k B (s.ask p (zmJ n k x)):=by
 have hr:yn n k=true:=by have:=hb.inv.right;rwa [hb.N,hb.S]at this
 obtain⟨hq,h3⟩:=zeo hr x
 obtain⟨r1,r2,r4,r5,r6⟩:=z4R hr x
 refine⟨hb.inv.ask hp ?_ (by rw[z7K];omega),(zjw ..).1.trans hb.N,(zjw ..).2.trans hb.S⟩
 rw[hb.N,hb.S]
 exact zih hr (by omega) hq h3 r6
theorem Both.round {n k B:Nat} {s:ClusM} (hb:Both n k (B+877800) s):Both n k B s.round:=⟨hb.inv.round,(zbl s).1.trans hb.N,(zbl s).2.trans hb.S⟩
theorem Both.less {n k B C:Nat} {s:ClusM} (hb:Both n k B s) (h:C<=B):Both n k C s:=⟨hb.inv.less h,hb.N,hb.S⟩
theorem zj9 (n k B c m:Nat) (s:ClusM) (A:Option Addr) (kn kc:Nat) (hb:Both n k B s) (hm:m<n):∃s1,DoT c (z8N 8 m (.slice none 0 0) noB) s s1 noB/\DoT c (z8N 9 m (.slice A kn kc) noB) s1 s noB:=by
 have hN:=hb.N
 have hS:=hb.S
 have hl:=hb.inv.nN
 obtain⟨r1,r2,r3,r4⟩:=yc.1 hb.inv.right
 have hlt:m<s.nodes.length:=by omega
 obtain⟨x,hx⟩:∃x,s.nodes[m]?=some x:=⟨_,List.getElem?_eq_getElem hlt⟩
 have hu:=hb.inv.up x (List.mem_of_getElem? hx)
 obtain⟨d,up⟩:=x
 dsimp only at hu
 obtain⟨hd,rfl⟩:=hu
 have h1:=zmX (c:=c) ⟨d,true⟩ hx (by omega)
 have hx2:(s.turnN m ⟨d,false⟩).nodes[m]?=some ⟨d,false⟩:=by
  show(s.nodes.set m _)[m]?=_
  rw[List.getElem?_set_self hlt]
 have h2:=zmW (c:=c) (s:=s.turnN m ⟨d,false⟩) (n:=m) d A kn kc hx2 hd (by show s.S=s.S.toNat;omega) (by show 1<=s.S.toNat;omega) (by show s.S.toNat<=8;omega) (by show(m:Int)<s.N;omega)
 have e:(s.turnN m ⟨d,false⟩).turnN m ⟨d,true⟩=s:=by
  show {s with nodes:=(s.nodes.set m _).set m _}=s
  rw[List.set_set]
  obtain⟨h3,h4⟩:=List.getElem?_eq_some_iff.1 hx
  rw[<-h4,List.set_getElem_self]
 rw[e]at h2
 exact⟨_,h1,h2⟩
end
theorem z32 (a b:Int) (ha:isI a) (hb:isI b) (A:Option Addr) (n' c':Nat) (l:List TAsk) (arg:Option (Nat×Obj)) (hA:Args A l n' arg) (kA:Option Addr) (kn kc:Nat):
  zi Tryz.prog 4 #[.agg #[.int .i64 a,.int .i64 b],.slice A n' c',.slice kA kn kc] [zfc arg] fun v K=>v= .bool true/\K=[zfc arg]:=by
 intro F0 w0 w R H
 try simp only[xNf]at H
 have HF:=Lib.hid (zj6 a b ha hb)
 have HA:=Lib.hid hA
 have hmx:=hA.max
 unfold maxLen at hmx
 clear hA ha hb
 go_enter Tryz.func4,Tryz.ntmps4
 go_upto_region 1 with(first|(refine xNt 23 H ?_;clear H;intro b0 w H)|first|refine xLd H ?_|(refine xEf H ?_;clear H;intro b A' w H))
 go_upto_region 2 with(first|(go_at_call 6;refine xTr (HF.out) H ?_;clear H;rintro _ _ w ⟨n,k,HR,rfl,rfl⟩ H;try simp only[xNf]at H)|(refine xNt 23 H ?_;clear H;intro b7 w H)|first|refine xLd H ?_|(refine xEf H ?_;clear H;intro b A' w H))
 have HB:=Lib.hid (zen n k HR.out)
 have HI0:=Lib.hid (show Both n k 250000000 (ClusM.begun n k)from⟨zju n k 250000000 HR.out (by decide),rfl,rfl⟩)
 obtain⟨s0,hs0⟩:=xG (ClusM.begun n k)
 rw[hs0]at HB HI0
 clear hs0
 obtain⟨g1,g2,g3,g4⟩:=yc.1 HR.out
 have hn6:n<=6:=by omega
 have hk8:k<=8:=by omega
 clear g1 g2 g3 g4
 go_upto_region 3 with(first|(go_at_call 7;refine xTr (HB.out) H ?_;clear H;rintro _ _ w ⟨ca,rfl,rfl⟩ H;try simp only[xNf]at H)|first|refine xLd H ?_|(refine xEf H ?_;clear H;intro b A' w H))
 go_upto_region 4 with(first|(go_at_call 7;refine xTr (HB.out) H ?_;clear H;rintro _ _ w ⟨cb,rfl,rfl⟩ H;try simp only[xNf]at H)|first|refine xLd H ?_|(refine xEf H ?_;clear H;intro b A' w H))
 go_wp2_with (first|refine xLd H ?_|(refine xEf H ?_;clear H;intro b A' w H))
 have H2:Sep F0 w0 w (ym ca s0::ym cb s0::z7 b7 23 [.int .i64 n,.int .i64 k]::zfc arg::R):=H.sub sb
 clear H HF HB
 have H:=H2
 clear H2
 go_loopw [10] (fun v10 wr=>∃(i:Nat) (s:ClusM),i<=n'/\i<=4/\v10= .int .i64 i/\Hid (Both n k ((4-i)*61600000) s)/\Sep F0 w0 wr (ym ca s::ym cb s::z7 b7 23 [.int .i64 n,.int .i64 k]::zfc arg::R)) (fun v10 _=>4-(intOf v10).toNat)
 case atStart=>exact⟨0,s0,Nat.zero_le _,Nat.zero_le _,rfl,Lib.hid (HI0.out.less (by decide)),H⟩
 case round=>
  clear H HI0 s0
  obtain⟨i,s,hi,hi4,rfl,HI,H⟩:=hrel
  by_cases hlt:i<n'/\i<4
  ·obtain⟨hlt,hlt4⟩:=hlt
   have hltI:(i:Int)<n':=by omega
   have hlt4I:(i:Int)<4:=by omega
   obtain⟨x,hx⟩:∃x,l[i]?=some x:=⟨_,List.getElem?_eq_getElem (by rw[HA.out.len];exact hlt)⟩
   obtain⟨g,off,ob,hAe,hae,hcell⟩:=HA.out.at_ i x hx
   subst hAe hae
   have HC:=Lib.hid hcell
   have hxo:=HA.out.ok x (List.mem_of_getElem? hx)
   have hp2:=z3V x.pil 2 hxo.pil (by omega) (by omega)
   have hpr:=z16 x.pil 2 (by omega)
   obtain⟨p,hp⟩:∃p:Nat,z0H x.pil 2=p:=⟨(z0H x.pil 2).toNat,by omega⟩
   rw[hp]at hp2 hpr
   have hplt:p<2:=by omega
   have HP:=Lib.hid hp2
   have HLY:=Lib.hid (zgj n k x HR.out hxo)
   obtain⟨B,hB⟩:∃B,(4-i)*61600000=B+61446000+13300:=⟨(4-i)*61600000-61446000-13300,by omega⟩
   have hbo:=HI.out
   rw[hB]at hbo
   have HDA:=Lib.hid (zmY n k (B+61446000) ca p s x hbo hplt)
   have HDB:=Lib.hid (zmY n k (B+61446000) cb p s x hbo hplt)
   have HI2:=Lib.hid (hbo.ask hplt x)
   have hBB:(4-(i+1))*61600000<=B:=by omega
   obtain⟨s1,hs1⟩:=xG (s.ask p (zmJ n k x))
   rw[hs1]at HDA HDB HI2
   obtain⟨tx,htx⟩:=xG (zc5 n k x)
   rw[htx]at HDA HDB HLY
   obtain⟨an,han⟩:=xG (s.askB p)
   rw[han]at HDA HDB
   have HH4:=Lib.hid (zgS 12 p tx)
   have hself:(an.toList==an.toList)=true:=beq_self_eq_true _
   clear hcell hx hxo hp2 hpr hp hB hbo hs1 htx han HI
   go_upto_region 10 with(first|(refine ld1 H (v:=.int .i64 x.pil) (hh:=zgu HC.out pk (by rfl)) ?_)|(go_at_call 5;refine xT2 (HP.out) H ?_;clear H;intro w H)|first|refine xLd H ?_|(refine xEf H ?_;clear H;intro b A' w H))
   refine xRg [9] (fun L=>[L,[]]) H ?_
   clear H;intro w H
   have HS:=H
   refine xO 0 0 HS ?_
   refine xV 1 0 HS ?_ (hin:=(.stop (n:=10) hdV (by kernel_rfl)))
   refine xO 2 0 HS ?_
   refine xO 3 0 HS ?_
   refine xO 4 0 HS ?_
   refine xV 5 0 HS ?_ (hin:=(.stop (n:=10) (zgw HC.out pk) (by kernel_rfl)))
   clear HS
   refine tk2 6 8 0 0 (fun K' hK=>?_) (fun K' hK=>?_)
   go_simp;revert H;refine zi.use HLY.out pks ?_;rintro _ _ w ⟨rfl,rfl⟩ H;try simp only[xNf]at H
   refine hK _ _ (H.sub sbn) (fun HS=>?_)
   clear hK K'
   try simp only[xPt]
   refine xO 7 0 HS ?_ (v:=(z8N 12 p (.slice none 0 0) tx)) (hy:=by(intro W;exact zb (t:=37) rfl (HH4.out W)))
   clear HS
   refine tk1 8 0 (fun K' hK=>?_)
   (refine wal (ty:=37) H ?_ (hz:=zaX);clear H;intro b12 w H)
   refine hK _ _ (H.sub sbn) (fun HS=>?_)
   clear hK K'
   try simp only[xPt]
   refine xM 9 1 H ?_
   clear H HS;intro _ _ w H HS
   refine xD ?_
   rotate_left
   (refine wal (ty:=37) H ?_ (hz:=zaX);clear H;intro b12 w H)
   refine hK _ _ (H.sub sbn) (fun HS=>?_)
   clear hK K'
   try simp only[xPt]
   refine xC 6 0 HLY.out H ?_
   clear H HS;intro w H HS
   refine xO 7 0 HS ?_ (v:=(z8N 12 p (.slice none 0 0) tx)) (hy:=by(intro W;exact zb (t:=37) rfl (HH4.out W)))
   refine xM 9 1 H ?_
   clear H HS;intro _ _ w H HS
   refine xD ?_
   rotate_left
   all_goals
    have H2:Sep F0 w0 w (z7 b12 37 (zh5 12 p 0 (.slice none 0 0) tx)::ym ca s::ym cb s::z7 b7 23 [.int .i64 n,.int .i64 k]::zfc (some (g,ob))::R):=H.sub sb
    clear H
    have H:=H2
    clear H2
    go_upto_region 11 with(first|refine xLd H ?_|(refine xEf H ?_;clear H;intro b A' w H))
    refine xRg [] (fun _=>[[z7 b12 37 (zh5 12 p 0 (.slice none 0 0) tx)]]) H ?_
    clear H;intro w H
    have HS:Sep F0 w0 w [z7 b12 37 (zh5 12 p 0 (.slice none 0 0) tx)]:=(by(try simp only[z2x]);exact H.sub sb)
    refine xO 0 0 HS ?_
    refine xV 1 0 HS ?_
    refine xO 3 0 HS ?_
    refine xV 4 0 HS ?_
    clear HS
    refine tk1 2 0 (fun K' hK=>?_)
    (go_simp;revert H;refine zi.use HDA.out pks ?_;rintro _ _ w ⟨rfl,rfl⟩ H;try simp only[xNf]at H)
    refine hK _ _ (by(try simp only[z2x]);exact H.sub sb) (fun HS=>?_)
    clear hK K'
    try simp only[xPt]
    clear HS
    refine tk1 5 0 (fun K' hK=>?_)
    (go_simp;revert H;refine zi.use HDB.out pks ?_;rintro _ _ w ⟨rfl,rfl⟩ H;try simp only[xNf]at H)
    refine hK _ _ (by(try simp only[z2x]);exact H.sub sb) (fun HS=>?_)
    clear hK K'
    try simp only[xPt]
    refine xO 6 0 HS ?_ (v:=(.bool false)) (hy:=by(intro W;simp[hself,execOp,go_sem]))
    refine xD ?_
    have H2:Sep F0 w0 w (ym ca s1::ym cb s1::z7 b7 23 [.int .i64 n,.int .i64 k]::zfc (some (g,ob))::R):=H.sub sb
    clear H HDA HDB HLY HP HC HH4 hself
    have H:=H2
    clear H2
    go_wp2
    go_loopw [13] (fun v13 wr=>∃(j:Nat) (s2:ClusM),j<=70/\v13= .int .i64 j/\Hid (Both n k (B+(70-j)*877800) s2)/\Sep F0 w0 wr (ym ca s2::ym cb s2::z7 b7 23 [.int .i64 n,.int .i64 k]::zfc (some (g,ob))::R)) (fun v13 _=>70-(intOf v13).toNat)
    case atStart=>exact⟨0,s1,by omega,rfl,Lib.hid (HI2.out.less (by omega)),H⟩
    case round=>
     clear H HI2 s1
     obtain⟨j,s2,hj,rfl,HI,H⟩:=hrel
     by_cases hjl:j<70
     ·have hjI:(j:Int)<70:=by omega
      have hbo:=HI.out.less (C:=B+(70-(j+1))*877800+877800) (by omega)
      have HRA:=Lib.hid (z7m ca _ s2 hbo.inv)
      have HRB:=Lib.hid (z7m cb _ s2 hbo.inv)
      have HI2:=Lib.hid hbo.round
      obtain⟨s3,hs3⟩:=xG (s2.round)
      rw[hs3]at HRA HRB HI2
      clear hbo HI hs3
      go_upto_region 17 with(first|(go_at_call 16;refine xT2 (HRA.out) H ?_;clear H;intro w H)|first|refine xLd H ?_|(refine xEf H ?_;clear H;intro b A' w H))
      go_upto_region 18 with(first|(go_at_call 16;refine xT2 (HRB.out) H ?_;clear H;intro w H)|first|refine xLd H ?_|(refine xEf H ?_;clear H;intro b A' w H))
      have H2:Sep F0 w0 w (ym ca s3::ym cb s3::z7 b7 23 [.int .i64 n,.int .i64 k]::zfc (some (g,ob))::R):=H.sub sb
      clear H HRA HRB
      have H:=H2
      clear H2
      go_wp2
      go_loopw [14] (fun v14 wr=>∃m:Nat,m<=n/\v14= .int .i64 m/\Sep F0 w0 wr (ym ca s3::ym cb s3::z7 b7 23 [.int .i64 n,.int .i64 k]::zfc (some (g,ob))::R)) (fun v14 _=>n-(intOf v14).toNat)
      case atStart=>exact⟨0,Nat.zero_le _,rfl,H⟩
      case round=>
       clear H
       obtain⟨m,hm,rfl,H⟩:=hrel
       by_cases hml:m<n
       ·have hmI:(m:Int)<n:=by omega
        obtain⟨s4,hf1,hf2⟩:=zj9 n k _ cb m s3 kA kn kc HI2.out hml
        have HF1:=Lib.hid hf1
        have HF2:=Lib.hid hf2
        have HB1:=Lib.hid (z9F 8 m)
        have HB2:=Lib.hid (zgT 9 m kA kn kc)
        clear hf1 hf2
        go_upto_region 22 with(first|(go_at_call 10;refine xT2 (HF1.out) H ?_;clear H;intro w H)|(refine z8 (v:=z8N 8 m (.slice none 0 0) noB) (by rfl) (zb (t:=37) rfl ?_) ?_;(·simp only[List.map_cons,List.map_nil];exact HB1.out _))|first|refine xLd H ?_|(refine xEf H ?_;clear H;intro b A' w H))
        go_wp2_with (first|(go_at_call 10;refine xT2 (HF2.out) H ?_;clear H;intro w H)|(refine z8 (v:=z8N 9 m (.slice kA kn kc) noB) (by rfl) (zb (t:=37) rfl ?_) ?_;(·simp only[List.map_cons,List.map_nil];exact HB2.out _))|first|refine xLd H ?_|(refine xEf H ?_;clear H;intro b A' w H))
        go_roundw
        case rel=>exact⟨m+1,by omega,by go_num,H.sub sb⟩
        case measure=>simp[intOf];omega
       ·have hmI:decide ((m:Int)<(n:Int))=false:=decide_eq_false (by omega)
        have HAA:=Lib.hid (z6s (c:=ca) (s:=s3) hplt)
        have HAB:=Lib.hid (z6s (c:=cb) (s:=s3) hplt)
        obtain⟨an,han⟩:=xG ((s3.ctl p).answer)
        obtain⟨dn,hdn⟩:=xG ((s3.ctl p).done)
        rw[han,hdn]at HAA HAB
        have hself:(an.toList==an.toList)=true:=beq_self_eq_true _
        clear han hdn
        cases dn
        all_goals
         go_upto_region 24 with(first|(go_at_call 17;refine xT2 (HAA.out) H ?_;clear H;intro w H)|first|refine xLd H ?_|(refine xEf H ?_;clear H;intro b A' w H))
         go_wp2_with (first|(go_at_call 17;refine xT2 (HAB.out) H ?_;clear H;intro w H)|first|refine xLd H ?_|(refine xEf H ?_;clear H;intro b A' w H))
         go_roundw
         case rel=>exact⟨j+1,s3,by omega,by go_num,HI2,H.sub sb⟩
         case measure=>simp[intOf];omega
     ·have hjI:decide ((j:Int)<70)=false:=decide_eq_false (by omega)
      go_wp2
      go_roundw
      case rel=>exact⟨i+1,s2,by omega,by omega,by go_num,Lib.hid (HI.out.less (by omega)),H.sub sb⟩
      case measure=>simp[intOf];omega
  ·have hexit:(¬i<n'/\decide (i<n')=false/\decide ((i:Int)<(n':Int))=false)\/(i<n'/\¬i<4/\decide (i<n')=true/\decide ((i:Int)<(n':Int))=true/\decide (i<4)=false/\decide ((i:Int)<4)=false):=by
    by_cases h1:i<n'
    ·exact .inr ⟨h1,by omega,decide_eq_true h1,decide_eq_true (by omega),decide_eq_false (by omega),decide_eq_false (by omega)⟩
    ·exact .inl ⟨h1,decide_eq_false h1,decide_eq_false (by omega)⟩
   have hbi:=HI.out
   have hN:=hbi.N
   have hS:=hbi.S
   have hl:=hbi.inv.nN
   have hup:=hbi.inv.up
   have hri:=hbi.inv.right
   rw[hN]at hl
   rw[hN,hS]at hri
   obtain⟨r1,r2,r3,r4⟩:=yc.1 hri
   have hdk:∀m:Nat,m<n->∃x,s.nodes[m]?=some x/\x.disk.length=k:=fun m hm=>by
    have hlt:m<s.nodes.length:=by omega
    refine⟨_,List.getElem?_eq_getElem hlt, ?_⟩
    rw[(hup _ (List.getElem_mem hlt)).1,hS,Int.toNat_natCast]
   have HDK:=Lib.hid hdk
   have HN:=Lib.hid hN
   have HS:=Lib.hid hS
   clear hbi hN hS hl hup hri hdk r1 r2 r3 r4 HI hlt
   rcases hexit with⟨he1,he2,he3⟩|⟨he1,he2,he3,he4,he5,he6⟩
   all_goals
    go_wp2
    go_loopw [19] (fun v19 wr=>∃m:Nat,m<=n/\v19= .int .i64 m/\Sep F0 w0 wr (ym ca s::ym cb s::z7 b7 23 [.int .i64 n,.int .i64 k]::zfc arg::R)) (fun v19 _=>n-(intOf v19).toNat)
    case atStart=>exact⟨0,Nat.zero_le _,rfl,H⟩
    case round=>
     clear H
     obtain⟨m,hm,rfl,H⟩:=hrel
     by_cases hml:m<n
     ·have hmI:(m:Int)<n:=by omega
      obtain⟨x,hx,hxd⟩:=HDK.out m hml
      have HX:=Lib.hid hx
      clear hx
      go_wp2_with (first|refine xLd H ?_|(refine xEf H ?_;clear H;intro b A' w H))
      go_loopw [20] (fun v20 wr=>∃q:Nat,q<=k/\v20= .int .i64 q/\Sep F0 w0 wr (ym ca s::ym cb s::z7 b7 23 [.int .i64 n,.int .i64 k]::zfc arg::R)) (fun v20 _=>k-(intOf v20).toNat)
      case atStart=>exact⟨0,Nat.zero_le _,rfl,H⟩
      case round=>
       clear H
       obtain⟨q,hq,rfl,H⟩:=hrel
       by_cases hql:q<k
       ·have hqI:(q:Int)<k:=by omega
        have HRA:=Lib.hid (z7x ca m q k s x HX.out (by rw[HN.out];exact hmI) HS.out hql hxd hk8)
        have HRB:=Lib.hid (z7x cb m q k s x HX.out (by rw[HN.out];exact hmI) HS.out hql hxd hk8)
        obtain⟨r,hr⟩:=xG (z2j x.disk q)
        rw[hr]at HRA HRB
        have hnq:=fun y z W=>z7O r r y z W
        rw[Rec.same_iff.2 (rfl:r=r)]at hnq
        have HNQ:=Lib.hid hnq
        clear hr hnq
        go_wp2_with (first
         |(go_at_call_of 18 (Value.pointer (some ⟨ca,0,none⟩));revert H;refine zi.use HRA.out pks ?_;rintro _ _ w ⟨rfl,rfl⟩ H;try simp only[xNf]at H)
         |(go_at_call_of 18 (Value.pointer (some ⟨cb,0,none⟩));revert H;refine zi.use HRB.out pks ?_;rintro _ _ w ⟨rfl,rfl⟩ H;try simp only[xNf]at H)
         |(refine z8 (by rfl) (yg (v1:=.agg r.cells.toArray) (v2:=.agg r.cells.toArray) rfl rfl rfl (HNQ.out _ _ _)) ?_)
         |first|refine xLd H ?_|(refine xEf H ?_;clear H;intro b A' w H))
        go_roundw
        case rel=>exact⟨q+1,by omega,by go_num,H.sub sb⟩
        case measure=>simp[intOf];omega
       ·have hqI:decide ((q:Int)<(k:Int))=false:=decide_eq_false (by omega)
        go_wp2_with (first|refine xLd H ?_|(refine xEf H ?_;clear H;intro b A' w H))
        go_roundw
        case rel=>exact⟨m+1,by omega,by go_num,H.sub sb⟩
        case measure=>simp[intOf];omega
     ·have hmI:decide ((m:Int)<(n:Int))=false:=decide_eq_false (by omega)
      go_wp2_with (first|refine xLd H ?_|(refine xEf H ?_;clear H;intro b A' w H))
      refine xR1 H ?_
      exact xF H
theorem z5r (a b:Int) (ha:isI a) (hb:isI b) (A:Option Addr) (n c:Nat) (l:List TAsk) (hn:l.length=n) (hm:n<=maxLen) (hok:∀x∈l,TAskOk x) (W:World)
  (hl:l=[]\/∃g off,A=some ⟨g,off,none⟩/\g<W.heap.size/\∀(i:Nat) (x:TAsk),l[i]?=some x->∀(j:Nat) (u:Value),x.cells[j]?=some u->W.cell? ⟨g,off+i*5+j,none⟩=some u) (kA:Option Addr) (kn kc:Nat):
  Calls Tryz.prog 4 #[.agg #[.int .i64 a,.int .i64 b],.slice A n c,.slice kA kn kc] W fun e W'=>e= .returned (.bool true)/\Below W.heap.size W W':=by
 rcases hl with rfl|⟨g,off,rfl,hg,hc⟩
 ·have hA:Args A [] n none:=⟨hn,hm,hok,fun i x hx=>by simp at hx⟩
  refine(z32 a b ha hb A n c [] none hA kA kn kc (fun _=>False) W W [] (Sep.start (L:=[z0w True]) ⟨fun _=>False,fun _=>False,fun _ h=>h,fun _ h=>h,fun _ h=>h.elim,trivial,trivial⟩ fun _ h=>h.elim)).mono ?_
  rintro e W' ⟨v,K,rfl,⟨rfl,rfl⟩,H⟩
  exact⟨rfl,H.os,H.tape,H.output,H.size,fun k hk=>H.block k hk (fun h=>h)⟩
 ·obtain⟨o,ho⟩:∃o,W.heap[g]?=some o:=⟨_,Array.getElem?_eq_getElem hg⟩
  have hA:Args (some ⟨g,off,none⟩) l n (some (g,o)):=⟨hn,hm,hok,fun i x hx=>⟨g,off,o,rfl,rfl,fun w hw j u hu=>by
   rw[<-hc i x hx j u hu]
   exact World.cell?_of_block (a:=⟨g,off+i*5+j,none⟩) (hw.trans ho.symm)⟩⟩
  refine(z32 a b ha hb (some ⟨g,off,none⟩) n c l (some (g,o)) hA kA kn kc (fun k=>k=g) W W [] (Sep.start (L:=[z4J g o]) ⟨fun k=>k=g,fun _=>False,fun _ h=>h,fun _ h=>h.elim,fun _ _ h=>h,⟨rfl,ho⟩,trivial⟩ fun k h=>by subst h;exact hg)).mono ?_
  rintro e W' ⟨v,K,rfl,⟨rfl,rfl⟩,H⟩
  refine⟨rfl,H.os,H.tape,H.output,H.size,fun k hk=>?_⟩
  by_cases hkg:k=g
  ·subst hkg
   obtain⟨F,⟨_,h⟩,_⟩:=(show Sep _ _ _ (z4J k o::[])from H).say
   exact h.trans ho.symm
  ·exact H.block k hk hkg
theorem z6v (a b:Int) (l:List TAsk) (A:Option Addr) (n c:Nat) (ks:List Int) (kA:Option Addr) (kn kc:Nat) (W:World) (a1:-9223372036854775808<=a) (a2:a<=9223372036854775807) (b1:-9223372036854775808<=b) (b2:b<=9223372036854775807)
  (hn:l.length=n) (hm:n<=maxLen) (hok:∀x∈l,TAskOk x) (hl:l=[]\/∃g off,A=some ⟨g,off,none⟩/\g<W.heap.size/\∀(i:Nat) (x:TAsk),l[i]?=some x->∀(j:Nat) (u:Value),x.cells[j]?=some u->W.cell? ⟨g,off+i*5+j,none⟩=some u)
  (_:Rd W W.heap.size kA (z1W ks)) (_:ks.length=kn) (_:kn<=kc) (_:kc*8<=140737488351232) (_:∀z∈ks,-9223372036854775808<=z/\z<=9223372036854775807):
  Calls Tryz.prog 4 #[.agg #[.int .i64 a,.int .i64 b],.slice A n c,.slice kA kn kc] W fun e W'=>e= .returned (.bool true)/\Below W.heap.size W W':=
 z5r a b ⟨a1,a2⟩ ⟨b1,b2⟩ A n c l hn hm hok W hl kA kn kc
end Go.Proofs.YtmfincpagnpkjaaGreat
