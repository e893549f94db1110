/- Part of the proof. -/
import Derived.Test.YtmfincpagnpkjaaGreatM49
set_option linter.all false
set_option maxRecDepth 100000
set_option maxHeartbeats 100000000
namespace Go.Proofs.YtmfincpagnpkjaaGreat
open Go.RowKit
theorem z2M (p:Nat) (s:PilotM) (h:PilotH):zi Tryz.prog 115 #[.pointer (some ⟨p,0,none⟩)] [z7 p z4I (s.cells p h)] fun r K=>r=h.as_/\K=[z7 p z4I ((s.cells p h).set 69 (.slice none 0 0))]:=by
 intro F0 w0 w R H
 try simp only[xNf]at H
 go_enter Tryz.func115,Tryz.ntmps115
 go_wp2_with (first|refine xLd H ?_|(refine xEf H ?_;clear H;intro b A' w H))
 refine xR1 H ?_
 exact xF H
def PilotM.waked (s:PilotM) (t:Int):PilotM:=
 if(z25 s.N (s.calls.late t)).2=true then s.gone t (z25 s.N (s.calls.late t)).1 else if(s.work.leasing&&s.calls.opn.length==0)=true then s.enterLease t else s
def PilotM.resent (s:PilotM) (t:Int):PilotM×List Letter:=({s with calls:=(s.calls.again t).1,asked:=[]},s.asked++(s.calls.again t).2)
def PilotM.step (s:PilotM) (now:Int):PilotM×List Letter:=if s.busy=false then(s,[])else(s.waked (zv now)).resent (zv now)
theorem PInv.waked {N S:Int} {n:Nat} {s:PilotM} (h:PInv N S (n+1) s) (t:Int):PInv N S n (s.waked t):=by
 unfold PilotM.waked
 split
 ·exact h.gone _ _
 ·split
  ·exact h.enterLease _
  ·exact h.less (by omega)
theorem z3O (s:CallsM) (t:Int):(s.again t).2.length<=s.opn.length:=by
 unfold CallsM.again
 simp only[List.length_map]
 exact List.length_filter_le _ _
theorem z6N (l:Letter):l.cells.all (·.oneCell')=true:=rfl
theorem zg7 {N S:Int} (p:Nat) (s:PilotM) (now:Int) (hi:PInv N S 200 s):
  zi Tryz.prog 80 #[.pointer (some ⟨p,0,none⟩),.int .i64 now] [zy p s] fun r K=>K=[zh 114 26 r (s.step now).2.length (zd Letter.cells (s.step now).2),zy p (s.step now).1]:=by
 intro F0 w0 w R H
 try simp only[xNf]at H
 have hrec:s.step now=if s.busy=false then(s,[])else(s.waked (zv now)).resent (zv now):=rfl
 obtain⟨bz,hbz⟩:=xG (s.busy)
 rw[hbz]at hrec
 have HBZ:=Lib.hid hbz
 cases bz with
 |false=>
  rw[if_pos rfl]at hrec
  rw[hrec]
  clear hrec hi hbz
  go_enter Tryz.func80,Tryz.ntmps80
  go_wp2_with (first|(refine ldp H (v:=.bool false) (hh:=zj pk (fun _=>by rw[<-HBZ.out];rfl)) ?_)|first|refine xLd H ?_|(refine xEf H ?_;clear H;intro b A' w H))
  refine xR1 H ?_
  replace H:Sep F0 w0 w (zh 114 26 (.slice none 0 0) 0 (zd Letter.cells [])::_):=Sep.mk_row_nil (e:=114) (size:=26) H
  exact⟨.slice none 0 0,_,rfl,rfl,H.sub sba⟩
 |true=>
  rw[if_neg (by decide)]at hrec
  have hW:∀w,Calls Tryz.prog 110 #[.int .i64 now] w fun e w'=>e= .returned (.int .i64 (zv now))/\w=w':=z2K now
  obtain⟨t,ht⟩:=xG (zv now)
  rw[ht]at hrec hW
  have hwi:=PInv.waked (n:=199) hi t
  have hS:=zby p s t (by have:=hi.opn;omega)
  have hG:=fun n=>z9f p s t n (hi.ok.less (by omega))
  have hL:=z0q p s t (hi.ok.less (by omega))
  unfold PilotM.waked at hrec hwi
  obtain⟨⟨sn,sb'⟩,hsf⟩:∃x,z25 s.N (s.calls.late t)=x:=⟨_,rfl⟩
  rw[hsf]at hrec hwi hS
  dsimp only at hrec hwi hS
  obtain⟨n,hn⟩:=xG (s.calls.opn.length)
  have hOP:=fun c=>z2s c s.calls
  rw[hn]at hOP hrec hwi
  obtain⟨lz,hlz⟩:=xG (s.work.leasing)
  rw[hlz]at hrec hwi
  obtain⟨s1,h1⟩:=xG (s.gone t sn)
  obtain⟨s2,h2⟩:=xG (s.enterLease t)
  have hG1:=hG sn
  rw[h1]at hG1 hrec hwi
  rw[h2]at hL hrec hwi
  have HS:=Lib.hid hS
  have HG:=Lib.hid hG1
  have HL:=Lib.hid hL
  have HW:=Lib.hid hW
  have HOP:=Lib.hid hOP
  have HLZ:=Lib.hid hlz
  clear hS hG hG1 hL hW hOP hsf hn h1 h2 hlz ht hbz hi
  cases sb' with
  |true=>
   rw[if_pos rfl]at hrec hwi
   have hA:=fun c=>z49 c s1.calls t (by have:=hwi.opn;omega)
   obtain⟨⟨ca,cl⟩,hag⟩:∃x,s1.calls.again t=x:=⟨_,rfl⟩
   have hal:=z3O s1.calls t
   unfold PilotM.resent at hrec
   rw[hag]at hA hrec hal
   dsimp only at hA hrec hal
   rw[hrec]
   obtain⟨n7,hn7⟩:=xG (cl.length)
   obtain⟨n6,hn6⟩:=xG (s1.asked.length)
   have hm7:n7<=64:=by have:=hwi.opn;omega
   have hm6:n6<=1000000000:=by have:=hwi.ok.few;omega
   rw[hn7]at hA
   have HAG:=Lib.hid hA
   have HN6:=Lib.hid hn6
   have HNN:=Lib.hid (show(s1.asked++cl).length=n6+n7 by rw[List.length_append,hn6,hn7])
   have HO:=Lib.hid (z0X z6N cl)
   clear hA hag hrec hal hwi hn6 hn7
   go_enter Tryz.func80,Tryz.ntmps80
   go_upto_region 9 with(first|(refine ldp H (v:=.bool true) (hh:=zj pk (fun _=>by rw[<-HBZ.out];rfl)) ?_)|(go_at_call 110;refine(HW.out _).mono ?_;rintro e w' ⟨rfl,rfl⟩)|(go_at_call 111;refine xT2 (HS.out) H ?_;clear H;intro w H)|(go_at_call 112;refine xT2 (HG.out) H ?_;clear H;intro w H)|first|refine xLd H ?_|(refine xEf H ?_;clear H;intro b A' w H))
   obtain⟨bc,kn,re,rd,wv,up,as_,H⟩:=zy.parts pk H
   rw[HN6.out]at H
   obtain⟨A6,c6,rfl⟩:=zt (v:=as_) H pk
   refine xRg [1,7,8] (fun L=>[[z7 p z4I (s1.cells p ⟨bc,kn,re,rd,wv,up,.slice A6 n6 c6⟩)],[z7 p z4I ((s1.cells p ⟨bc,kn,re,rd,wv,up,.slice A6 n6 c6⟩).set 69 (.slice none 0 0))],[],[]]) H ?_
   clear H;intro w H
   have HS:Sep _ _ _ [z7 p z4I (s1.cells p ⟨bc,kn,re,rd,wv,up,.slice A6 n6 c6⟩)]:=H.sub sb
   refine xO 0 0 HS ?_
   refine xO 2 0 HS ?_
   refine xO 3 0 HS ?_
   refine xO 4 0 HS ?_
   refine xL 5 0 HS ?_ (hin:=(.go (zc pk (by rfl)) (.stop (n:=10) (zc pk (by rfl)) (by kernel_rfl))))
   refine xO 6 0 HS ?_
   refine xC 1 1 (z2M p s1 _) H ?_
   clear H HS;intro w H HS
   clear HS
   refine tk1 7 2 (fun K' hK=>?_)
   go_simp;revert H;refine zi.use (HAG.out _) pks ?_;rintro _ _ w ⟨A7,c7,rfl,rfl⟩ H;try simp only[xNf]at H
   refine hK _ _ (H.sub sbn) (fun HS=>?_)
   clear hK K'
   try simp only[xPt]
   clear HS
   refine tk1 8 3 (fun K' hK=>?_)
   (refine zn7 H ?_ (h1:=HO.out);clear H;intro A8 k8 w H)
   refine hK _ _ (H.sub sbn) (fun HS=>?_)
   clear hK K'
   try simp only[xPt]
   refine xO 9 3 HS ?_
   refine xD ?_
   all_goals
    go_wp2
    refine xR1 H ?_
    have H3:Sep F0 w0 _ (zy p {s1 with calls:=ca,asked:=[]}::zh 114 26 (.slice A8 (n6+n7) k8) (n6+n7) (zd Letter.cells s1.asked++zd Letter.cells cl)::R):=zy.join bc kn re rd wv up (.slice none 0 0) ((Sep.mk_row_nil (e:=114) (size:=26) H).sub sba) (by kernel_rfl)
    rw[<-z0L]at H3
    refine⟨.slice A8 (n6+n7) k8,_,rfl,rfl, ?_⟩
    rw[HNN.out]
    exact H3.sub sba
  |false=>
   rw[if_neg (by decide)]at hrec hwi
   have hc:(lz&&n==0)=true\/(lz&&n==0)=false:=by cases (lz&&n==0)<;>simp
   cases lz with
   |false=>
    rw[Bool.false_and,if_neg (by decide)]at hrec hwi
    have hA:=fun c=>z49 c s.calls t (by have:=hwi.opn;omega)
    obtain⟨⟨ca,cl⟩,hag⟩:∃x,s.calls.again t=x:=⟨_,rfl⟩
    have hal:=z3O s.calls t
    unfold PilotM.resent at hrec
    rw[hag]at hA hrec hal
    dsimp only at hA hrec hal
    rw[hrec]
    obtain⟨n7,hn7⟩:=xG (cl.length)
    obtain⟨n6,hn6⟩:=xG (s.asked.length)
    have hm7:n7<=64:=by have:=hwi.opn;omega
    have hm6:n6<=1000000000:=by have:=hwi.ok.few;omega
    rw[hn7]at hA
    have HAG:=Lib.hid hA
    have HN6:=Lib.hid hn6
    have HNN:=Lib.hid (show(s.asked++cl).length=n6+n7 by rw[List.length_append,hn6,hn7])
    have HO:=Lib.hid (z0X z6N cl)
    clear hA hag hrec hal hwi hn6 hn7
    go_enter Tryz.func80,Tryz.ntmps80
    go_upto_region 9 with(first|(go_at_call 110;refine(HW.out _).mono ?_;rintro e w' ⟨rfl,rfl⟩)|(go_at_call 111;refine xT2 (HS.out) H ?_;clear H;intro w H)|(refine ldp H (v:=.bool true) (o:=43) (hh:=zj pk (fun _=>by rw[<-HBZ.out];rfl)) ?_)|(refine ldp H (v:=.bool false) (o:=50) (hh:=zj pk (fun _=>by rw[<-HLZ.out];rfl)) ?_)|first|refine xLd H ?_|(refine xEf H ?_;clear H;intro b A' w H))
    obtain⟨bc,kn,re,rd,wv,up,as_,H⟩:=zy.parts pk H
    rw[HN6.out]at H
    obtain⟨A6,c6,rfl⟩:=zt (v:=as_) H pk
    refine xRg [1,7,8] (fun L=>[[z7 p z4I (s.cells p ⟨bc,kn,re,rd,wv,up,.slice A6 n6 c6⟩)],[z7 p z4I ((s.cells p ⟨bc,kn,re,rd,wv,up,.slice A6 n6 c6⟩).set 69 (.slice none 0 0))],[],[]]) H ?_
    clear H;intro w H
    have HS:Sep _ _ _ [z7 p z4I (s.cells p ⟨bc,kn,re,rd,wv,up,.slice A6 n6 c6⟩)]:=H.sub sb
    refine xO 0 0 HS ?_
    refine xO 2 0 HS ?_
    refine xO 3 0 HS ?_
    refine xO 4 0 HS ?_
    refine xL 5 0 HS ?_ (hin:=(.go (zc pk (by rfl)) (.stop (n:=10) (zc pk (by rfl)) (by kernel_rfl))))
    refine xO 6 0 HS ?_
    refine xC 1 1 (z2M p s _) H ?_
    clear H HS;intro w H HS
    clear HS
    refine tk1 7 2 (fun K' hK=>?_)
    go_simp;revert H;refine zi.use (HAG.out _) pks ?_;rintro _ _ w ⟨A7,c7,rfl,rfl⟩ H;try simp only[xNf]at H
    refine hK _ _ (H.sub sbn) (fun HS=>?_)
    clear hK K'
    try simp only[xPt]
    clear HS
    refine tk1 8 3 (fun K' hK=>?_)
    (refine zn7 H ?_ (h1:=HO.out);clear H;intro A8 k8 w H)
    refine hK _ _ (H.sub sbn) (fun HS=>?_)
    clear hK K'
    try simp only[xPt]
    refine xO 9 3 HS ?_
    refine xD ?_
    all_goals
     go_wp2
     refine xR1 H ?_
     have H3:Sep F0 w0 _ (zy p {s with calls:=ca,asked:=[]}::zh 114 26 (.slice A8 (n6+n7) k8) (n6+n7) (zd Letter.cells s.asked++zd Letter.cells cl)::R):=zy.join bc kn re rd wv up (.slice none 0 0) ((Sep.mk_row_nil (e:=114) (size:=26) H).sub sba) (by kernel_rfl)
     rw[<-z0L]at H3
     refine⟨.slice A8 (n6+n7) k8,_,rfl,rfl, ?_⟩
     rw[HNN.out]
     exact H3.sub sba
   |true=>
    rw[Bool.true_and]at hrec hwi
    cases d0:(n==0)with
    |true=>
     rw[d0,if_pos rfl]at hrec hwi
     have d00:((n:Int)==0)=true:=by simp at d0⊢;omega
     have hA:=fun c=>z49 c s2.calls t (by have:=hwi.opn;omega)
     obtain⟨⟨ca,cl⟩,hag⟩:∃x,s2.calls.again t=x:=⟨_,rfl⟩
     have hal:=z3O s2.calls t
     unfold PilotM.resent at hrec
     rw[hag]at hA hrec hal
     dsimp only at hA hrec hal
     rw[hrec]
     obtain⟨n7,hn7⟩:=xG (cl.length)
     obtain⟨n6,hn6⟩:=xG (s2.asked.length)
     have hm7:n7<=64:=by have:=hwi.opn;omega
     have hm6:n6<=1000000000:=by have:=hwi.ok.few;omega
     rw[hn7]at hA
     have HAG:=Lib.hid hA
     have HN6:=Lib.hid hn6
     have HNN:=Lib.hid (show(s2.asked++cl).length=n6+n7 by rw[List.length_append,hn6,hn7])
     have HO:=Lib.hid (z0X z6N cl)
     clear hA hag hrec hal hwi hn6 hn7
     go_enter Tryz.func80,Tryz.ntmps80
     go_upto_region 7 with(first|(refine ldp H (v:=.bool true) (o:=43) (hh:=zj pk (fun _=>by rw[<-HBZ.out];rfl)) ?_)|(go_at_call 110;refine(HW.out _).mono ?_;rintro e w' ⟨rfl,rfl⟩)|(go_at_call 111;refine xT2 (HS.out) H ?_;clear H;intro w H)|first|refine xLd H ?_|(refine xEf H ?_;clear H;intro b A' w H))
     obtain⟨bc,kn,re,rd,wv,up,as_,H⟩:=zy.parts pk H
     go_upto_region 8 with(first|(refine ld1 H (v:=.bool true) (o:=50) (hh:=zc pk (by rw[<-HLZ.out];rfl)) ?_)|(go_at_call 113;refine xT2 (HOP.out _) H ?_;clear H;intro w H)|first|refine xLd H ?_|(refine xEf H ?_;clear H;intro b A' w H))
     have H3:Sep F0 w0 _ (zy p s::R):=zy.join bc kn re rd wv up as_ (H.sub sba) rfl
     clear H
     have H:=H3
     clear H3
     go_upto_region 9 with(first|(go_at_call 114;refine xT2 (HL.out) H ?_;clear H;intro w H)|first|refine xLd H ?_|(refine xEf H ?_;clear H;intro b A' w H))
     obtain⟨bc,kn,re,rd,wv,up,as_,H⟩:=zy.parts pk H
     rw[HN6.out]at H
     obtain⟨A6,c6,rfl⟩:=zt (v:=as_) H pk
     refine xRg [1,7,8] (fun L=>[[z7 p z4I (s2.cells p ⟨bc,kn,re,rd,wv,up,.slice A6 n6 c6⟩)],[z7 p z4I ((s2.cells p ⟨bc,kn,re,rd,wv,up,.slice A6 n6 c6⟩).set 69 (.slice none 0 0))],[],[]]) H ?_
     clear H;intro w H
     have HS:Sep _ _ _ [z7 p z4I (s2.cells p ⟨bc,kn,re,rd,wv,up,.slice A6 n6 c6⟩)]:=H.sub sb
     refine xO 0 0 HS ?_
     refine xO 2 0 HS ?_
     refine xO 3 0 HS ?_
     refine xO 4 0 HS ?_
     refine xL 5 0 HS ?_ (hin:=(.go (zc pk (by rfl)) (.stop (n:=10) (zc pk (by rfl)) (by kernel_rfl))))
     refine xO 6 0 HS ?_
     refine xC 1 1 (z2M p s2 _) H ?_
     clear H HS;intro w H HS
     clear HS
     refine tk1 7 2 (fun K' hK=>?_)
     go_simp;revert H;refine zi.use (HAG.out _) pks ?_;rintro _ _ w ⟨A7,c7,rfl,rfl⟩ H;try simp only[xNf]at H
     refine hK _ _ (H.sub sbn) (fun HS=>?_)
     clear hK K'
     try simp only[xPt]
     clear HS
     refine tk1 8 3 (fun K' hK=>?_)
     (refine zn7 H ?_ (h1:=HO.out);clear H;intro A8 k8 w H)
     refine hK _ _ (H.sub sbn) (fun HS=>?_)
     clear hK K'
     try simp only[xPt]
     refine xO 9 3 HS ?_
     refine xD ?_
     all_goals
      go_wp2
      refine xR1 H ?_
      have H3:Sep F0 w0 _ (zy p {s2 with calls:=ca,asked:=[]}::zh 114 26 (.slice A8 (n6+n7) k8) (n6+n7) (zd Letter.cells s2.asked++zd Letter.cells cl)::R):=zy.join bc kn re rd wv up (.slice none 0 0) ((Sep.mk_row_nil (e:=114) (size:=26) H).sub sba) (by kernel_rfl)
      rw[<-z0L]at H3
      refine⟨.slice A8 (n6+n7) k8,_,rfl,rfl, ?_⟩
      rw[HNN.out]
      exact H3.sub sba
    |false=>
     rw[d0,if_neg (by decide)]at hrec hwi
     have d00:((n:Int)==0)=false:=by simp at d0⊢;omega
     have hA:=fun c=>z49 c s.calls t (by have:=hwi.opn;omega)
     obtain⟨⟨ca,cl⟩,hag⟩:∃x,s.calls.again t=x:=⟨_,rfl⟩
     have hal:=z3O s.calls t
     unfold PilotM.resent at hrec
     rw[hag]at hA hrec hal
     dsimp only at hA hrec hal
     rw[hrec]
     obtain⟨n7,hn7⟩:=xG (cl.length)
     obtain⟨n6,hn6⟩:=xG (s.asked.length)
     have hm7:n7<=64:=by have:=hwi.opn;omega
     have hm6:n6<=1000000000:=by have:=hwi.ok.few;omega
     rw[hn7]at hA
     have HAG:=Lib.hid hA
     have HN6:=Lib.hid hn6
     have HNN:=Lib.hid (show(s.asked++cl).length=n6+n7 by rw[List.length_append,hn6,hn7])
     have HO:=Lib.hid (z0X z6N cl)
     clear hA hag hrec hal hwi hn6 hn7
     go_enter Tryz.func80,Tryz.ntmps80
     go_upto_region 7 with(first|(refine ldp H (v:=.bool true) (o:=43) (hh:=zj pk (fun _=>by rw[<-HBZ.out];rfl)) ?_)|(go_at_call 110;refine(HW.out _).mono ?_;rintro e w' ⟨rfl,rfl⟩)|(go_at_call 111;refine xT2 (HS.out) H ?_;clear H;intro w H)|first|refine xLd H ?_|(refine xEf H ?_;clear H;intro b A' w H))
     obtain⟨bc,kn,re,rd,wv,up,as_,H⟩:=zy.parts pk H
     go_upto_region 9 with(first|(refine ld1 H (v:=.bool true) (o:=50) (hh:=zc pk (by rw[<-HLZ.out];rfl)) ?_)|(go_at_call 113;refine xT2 (HOP.out _) H ?_;clear H;intro w H)|first|refine xLd H ?_|(refine xEf H ?_;clear H;intro b A' w H))
     have H3:Sep F0 w0 _ (zy p s::R):=zy.join bc kn re rd wv up as_ (H.sub sba) rfl
     clear H
     have H:=H3
     clear H3
     obtain⟨bc,kn,re,rd,wv,up,as_,H⟩:=zy.parts pk H
     rw[HN6.out]at H
     obtain⟨A6,c6,rfl⟩:=zt (v:=as_) H pk
     refine xRg [1,7,8] (fun L=>[[z7 p z4I (s.cells p ⟨bc,kn,re,rd,wv,up,.slice A6 n6 c6⟩)],[z7 p z4I ((s.cells p ⟨bc,kn,re,rd,wv,up,.slice A6 n6 c6⟩).set 69 (.slice none 0 0))],[],[]]) H ?_
     clear H;intro w H
     have HS:Sep _ _ _ [z7 p z4I (s.cells p ⟨bc,kn,re,rd,wv,up,.slice A6 n6 c6⟩)]:=H.sub sb
     refine xO 0 0 HS ?_
     refine xO 2 0 HS ?_
     refine xO 3 0 HS ?_
     refine xO 4 0 HS ?_
     refine xL 5 0 HS ?_ (hin:=(.go (zc pk (by rfl)) (.stop (n:=10) (zc pk (by rfl)) (by kernel_rfl))))
     refine xO 6 0 HS ?_
     refine xC 1 1 (z2M p s _) H ?_
     clear H HS;intro w H HS
     clear HS
     refine tk1 7 2 (fun K' hK=>?_)
     go_simp;revert H;refine zi.use (HAG.out _) pks ?_;rintro _ _ w ⟨A7,c7,rfl,rfl⟩ H;try simp only[xNf]at H
     refine hK _ _ (H.sub sbn) (fun HS=>?_)
     clear hK K'
     try simp only[xPt]
     clear HS
     refine tk1 8 3 (fun K' hK=>?_)
     (refine zn7 H ?_ (h1:=HO.out);clear H;intro A8 k8 w H)
     refine hK _ _ (H.sub sbn) (fun HS=>?_)
     clear hK K'
     try simp only[xPt]
     refine xO 9 3 HS ?_
     refine xD ?_
     all_goals
      go_wp2
      refine xR1 H ?_
      have H3:Sep F0 w0 _ (zy p {s with calls:=ca,asked:=[]}::zh 114 26 (.slice A8 (n6+n7) k8) (n6+n7) (zd Letter.cells s.asked++zd Letter.cells cl)::R):=zy.join bc kn re rd wv up (.slice none 0 0) ((Sep.mk_row_nil (e:=114) (size:=26) H).sub sba) (by kernel_rfl)
      rw[<-z0L]at H3
      refine⟨.slice A8 (n6+n7) k8,_,rfl,rfl, ?_⟩
      rw[HNN.out]
      exact H3.sub sba
theorem zjD (s:CallsM) (t:Int):∀l∈(s.again t).2,l.say=SayM.nil:=by
 intro l hl
 unfold CallsM.again at hl
 simp only[List.mem_map]at hl
 obtain⟨o,_,rfl⟩:=hl
 rfl
theorem z4H.nil {l:Letter} (h:l.say=SayM.nil):z4H l:=by
 unfold z4H
 rw[h]
 decide
theorem zka {N S:Int} {n:Nat} {p:PilotM} (h:PInv N S (n+1) p) (now:Int):∀l∈(p.step now).2,z4H l:=by
 intro l hl
 unfold PilotM.step at hl
 split at hl
 ·cases hl
 ·have h1:=(h.waked (zv now)).ak
  rcases List.mem_append.1 hl with hl|hl
  ·exact z4H.nil (h1 l hl)
  ·exact z4H.nil (zjD _ _ l hl)
theorem zdu {N S:Int} {n:Nat} {p:PilotM} (h:PInv N S (n+128) p) (now:Int) (x:Letter):(p.receive now x).2.length<=1000000000/\∀l∈(p.receive now x).2,z4H l:=by
 unfold PilotM.receive
 split
 ·exact⟨Nat.zero_le _,fun l hl=>(by cases hl)⟩
 ·split
  ·exact⟨Nat.zero_le _,fun l hl=>(by cases hl)⟩
  ·split
   ·exact⟨Nat.zero_le _,fun l hl=>(by cases hl)⟩
   ·rename_i h3
    obtain⟨j,o,ho,hod,hca⟩:=z4G (by simpa using h3:(p.calls.answer x).2.2=true)
    have hti:PInv N S (n+128) {p with calls:=(p.calls.answer x).1}:=by
     rw[hca]
     exact⟨⟨h.ok.last,h.ok.few,h.ok.st0,h.ok.st8⟩,h.right,h.st,h.col0,h.col1,h.kind,h.kn,h.rl,h.rd,h.wr,h.rc,h.up,Nat.le_trans (List.length_eraseIdx_le _ _) h.opn,fun _=>h.nx (List.ne_nil_of_mem (List.mem_of_getElem? ho)),h.fe,h.pu,fun o' ho'=>h.dst o' (List.mem_of_mem_eraseIdx ho'),h.ds,h.ak,h.gN,h.gS⟩
    have hr:=hti.react (zv now) x.frm (p.calls.answer x).2.1 x.say
    exact⟨by have:=hr.ok.few;show(PilotM.react _ _ _ _ _).asked.length<=_;omega,fun l hl=>z4H.nil (hr.ak l hl)⟩
theorem zkb {N S:Int} {n:Nat} {p:PilotM} (h:PInv N S (n+1) p) (now:Int):(p.step now).2.length<=1000000064:=by
 unfold PilotM.step
 split
 ·exact Nat.zero_le _
 ·have h1:=h.waked (zv now)
  have h2:=z3O (p.waked (zv now)).calls (zv now)
  have h3:=h1.opn
  have h4:=h1.ok.few
  show((p.waked (zv now)).asked++_).length<=_
  rw[List.length_append]
  omega
theorem PInv.step {N S:Int} {n:Nat} {p:PilotM} (h:PInv N S (n+1) p) (now:Int):PInv N S n (p.step now).1:=by
 unfold PilotM.step
 split
 ·exact h.less (by omega)
 ·have h1:=h.waked (zv now)
  have h2:PInv N S n {p.waked (zv now)with asked:=[]}:=h1.sent (by have:=h1.ok.few;omega)
  have hl:((p.waked (zv now)).calls.again (zv now)).1.opn.length=(p.waked (zv now)).calls.opn.length/\(∀o∈((p.waked (zv now)).calls.again (zv now)).1.opn,∃o'∈(p.waked (zv now)).calls.opn,o.dst=o'.dst):=by
   unfold CallsM.again
   refine⟨List.length_map ..,fun o ho=>?_⟩
   obtain⟨o',h1,rfl⟩:=List.mem_map.1 ho
   refine⟨o',h1, ?_⟩
   split<;>rfl
  refine⟨⟨h2.ok.last,h2.ok.few,h2.ok.st0,h2.ok.st8⟩,h2.right,h2.st,h2.col0,h2.col1,h2.kind,h2.kn,h2.rl,h2.rd,h2.wr,h2.rc,h2.up, ?_, ?_,h2.fe,h2.pu, ?_,h2.ds,h2.ak,h2.gN,h2.gS⟩
  ·show((p.waked (zv now)).calls.again (zv now)).1.opn.length<=8
   rw[hl.1]
   exact h2.opn
  ·intro hne
   refine h2.nx fun h0=>hne ?_
   refine List.eq_nil_of_length_eq_zero ?_
   show((p.waked (zv now)).calls.again (zv now)).1.opn.length=0
   rw[hl.1]
   exact List.length_eq_zero_iff.2 h0
  ·intro o ho hn
   obtain⟨o',h3,h4⟩:=hl.2 o ho
   rw[h4]
   exact h2.dst o' h3 hn
section
abbrev ClusM.setP (s:ClusM) (i:Nat) (q:PilotM):ClusM:={s with ctl:=upC s.ctl i {s.ctl i with pil:=some q}}
def ClusM.step (s:ClusM) (i:Nat):ClusM:=match (s.ctl i).pil with
 |none=>s
 |some p=>ClusM.goOn ((s.setP i (p.step s.time).1).sends (p.step s.time).2) i
def ClusM.receive (s:ClusM) (i:Nat) (l:Letter):ClusM:=match (s.ctl i).pil with
 |none=>s
 |some p=>ClusM.goOn ((s.setP i (p.receive s.time l).1).sends (p.receive s.time l).2) i
theorem GInv.hid {i m:Nat} {s:ClusM} {p:PilotM} (h:GInv i m s p):(s.ctl i).doing=true\/p.busy=false:=by
 cases hd:(s.ctl i).doing with
 |true=>exact .inl rfl
 |false=>exact .inr (h.idle hd)
theorem GInv.setP {i m k:Nat} {s:ClusM} {p q:PilotM} (h:GInv i m s p) (hq:PInv s.N s.S k q) (hb:p.busy=false->q.busy=false) (hk:k<=m) (net:NetM):GInv i k {s.setP i q with net:=net} q:=by
 refine⟨?_,hq, ?_, ?_,h.h0,by have:=h.h1;show s.hist.given+k<=_;omega, ?_, ?_, ?_⟩
 ·show(upC s.ctl i _ i).pil=_
  rw[yv]
 ·show(upC s.ctl i _ i).doing=false->_
  rw[yv]
  exact fun hd=>hb (h.idle hd)
 ·show ∀o∈(upC s.ctl i _ i).queue,OpOk s.N s.S o
  rw[yv]
  exact h.ops
 ·show(upC s.ctl i {s.ctl i with pil:=some q} i).errs.length+(upC s.ctl i {s.ctl i with pil:=some q} i).queue.length+(if(upC s.ctl i {s.ctl i with pil:=some q} i).doing=true then 1 else 0)<=1000
  rw[yv]
  exact h.er
 ·show(upC s.ctl i _ i).data.length=(upC s.ctl i _ i).errs.length
  rw[yv]
  exact h.da
 ·show ∀d∈(upC s.ctl i _ i).data,d.size<=16
  rw[yv]
  exact h.ds
section
variable {i m:Nat} {s:ClusM} {p:PilotM}
theorem GInv.stepP (h:GInv i (m+201) s p):GInv i m ((s.setP i (p.step s.time).1).sends (p.step s.time).2) (p.step s.time).1:=
 h.setP ((h.inv.less (m:=m+1) (by omega)).step s.time) (fun hb=>by unfold PilotM.step;rw[if_pos hb];exact hb) (by omega) _
theorem GInv.receiveP (h:GInv i (m+201) s p) (l:Letter):GInv i m ((s.setP i (p.receive s.time l).1).sends (p.receive s.time l).2) (p.receive s.time l).1:=
 h.setP ((h.inv.less (m:=m+128) (by omega)).receive s.time l) (fun hb=>by unfold PilotM.receive;rw[if_pos hb];exact hb) (by omega) _
theorem GInv.stepL (h:GInv i (m+201) s p):(p.step s.time).2.length<=1000000064/\∀l∈(p.step s.time).2,z4H l:=⟨zkb (h.inv.less (m:=m+1) (by omega)) _,zka (h.inv.less (m:=m+1) (by omega)) _⟩
theorem GInv.receiveL (h:GInv i (m+201) s p) (l:Letter):(p.receive s.time l).2.length<=1000000000/\∀l'∈(p.receive s.time l).2,z4H l':=zdu (h.inv.less (m:=m+128) (by omega)) _ l
end
theorem zgJ (c i m:Nat) (s:ClusM) (p:PilotM) (hi:i<2) (hg:GInv i (m+130*(s.ctl i).queue.length+202) s p) (hN:z2Z s.net):
  zi Tryz.prog 51 #[.pointer (some ⟨c,0,none⟩),.int .i64 i] [ym c s] fun r K=>r= .tuple #[]/\K=[ym c (s.step i)]:=by
 intro F0 w0 w R H
 try simp only[xNf]at H
 have hI:(i:Int)<2:=by omega
 have hs:s.step i=ClusM.goOn ((s.setP i (p.step s.time).1).sends (p.step s.time).2) i:=by unfold ClusM.step;rw[hg.pil]
 have hP:=fun pb=>zg7 pb p s.time (hg.inv.less (m:=200) (by omega))
 have hgp:=hg.stepP
 have hlt:=hg.stepL
 obtain⟨⟨q,ls⟩,hq⟩:∃x,p.step s.time=x:=⟨_,rfl⟩
 rw[hq]at hs hP hgp hlt
 dsimp only at hs hP hgp hlt
 have hG:=z81 c i m ((s.setP i q).sends ls) q hi (hgp.less (by show m+130*(upC s.ctl i _ i).queue.length+1<=_;rw[yv];show m+130*(s.ctl i).queue.length+1<=_;omega)) hgp.hid
 rw[hs]
 obtain⟨out,hout⟩:=xG (ClusM.goOn ((s.setP i q).sends ls) i)
 rw[hout]at hG⊢
 obtain⟨n,hn⟩:=xG (ls.length)
 have hS:=fun v=>zbi c (s.setP i q) ls n v hn (by have:=hlt.1;omega) hN hlt.2
 rw[hn]at hP
 obtain⟨mv,ke,nb,hb,ch,zs,hz,H⟩:=ym.ctl hi .head H
 have HZ:=Lib.hid hz
 have hsp:s.setP i q={s with ctl:=upC s.ctl i {s.ctl i with pil:=some q}}:=rfl
 have hpil:=hg.pil
 obtain⟨x,hx⟩:=xG (s.ctl i)
 rw[hx]at hpil H hsp
 obtain⟨xp,xs,xq,xd,xe,xr,xt,xa,xo⟩:=x
 dsimp only at hpil
 subst hpil
 obtain⟨⟨pb,qu,er,da⟩,hch⟩:∃x,ch i=x:=⟨_,rfl⟩
 rw[hch]at H
 simp only[zaV]at H
 obtain⟨oc,hoc⟩:=xG (s.ctl (1-i))
 obtain⟨och,hoch⟩:=xG (ch (1-i))
 rw[hoc,hoch]at H
 rw[show CtlM.cells ⟨some p,xs,xq,xd,xe,xr,xt,xa,xo⟩ ⟨pb,qu,er,da⟩=[.pointer (some ⟨pb,0,none⟩),.int .i64 xs,qu,.bool xd,.int .i64 xe,er,da,.string xa,.bool xo]from rfl]at H
 have HPO:zy pb q=zaV pb (some q):=rfl
 have HOC:=Lib.hid hoc
 have HOCH:=Lib.hid hoch
 have HSP:=Lib.hid hsp
 have HP:=Lib.hid (hP pb)
 have HS:=Lib.hid hS
 have HG:=Lib.hid hG
 clear hz hx hch hoc hoch hP hS hG hgp hlt hq hs hout hn hsp hg hN
 skip
 go_enter Tryz.func51,Tryz.ntmps51
 go_upto_region 2 with(first|(refine xNt 114 H ?_;clear H;intro bl w H)|first|refine ld1 H (hh:=hdx) ?_|refine xLd H ?_|(refine zr (by rfl) (fun K' hK=>?_);(first|refine jo H (ht:=yy pk (by assumption)) ?_|refine jo H (ht:=yt pk (by assumption)) ?_);clear H;intro w H;try dsimp only[List.set]at H;refine hK _ _ ?_;clear hK K')|(refine xEf H ?_;clear H;intro b A' w H))
 refine xRg [9,10] (fun L=>[L,[],[]]) H ?_
 clear H;intro w H
 have HS:=H
 refine xO 0 0 HS ?_
 refine xO 1 0 HS ?_
 refine xO 2 0 HS ?_
 refine xO 3 0 HS ?_
 refine xL 4 0 HS ?_ (hin:=(.stop (n:=11) hdx (by kernel_rfl)))
 refine xO 5 0 HS ?_
 refine xO 6 0 HS ?_
 refine xO 7 0 HS ?_
 refine xL 8 0 HS ?_ (hin:=(.stop (n:=11) hdx (by kernel_rfl)))
 clear HS
 refine tk1 9 1 (fun K' hK=>?_)
 go_simp;revert H;refine zi.use HP.out pks ?_;rintro v1 _ w rfl H;try simp only[xNf]at H;obtain⟨A7,c7,rfl⟩:=zt (v:=v1) H .head
 refine hK _ _ (H.sub sbn) (fun HS=>?_)
 clear hK K'
 try simp only[xPt]
 clear HS
 refine tk1 10 2 (fun K' hK=>?_)
 go_simp;have H2:=ym.ctl_join (s:=s) mv ke nb hb ch zs ⟨some q,xs,xq,xd,xe,xr,xt,xa,xo⟩ ⟨pb,qu,er,da⟩ hi (po:=some q) (by rw[HOC.out,HOCH.out,<-HPO];exact H.sub sba) (by rfl) HZ.out;replace H2:=HSP.out.symm▸H2;clear H;revert H2;refine zi.use (HS.out _) pks ?_;rintro _ _ w ⟨rfl,rfl⟩ H;try simp only[xNf]at H
 refine hK _ _ (H.sub sbn) (fun HS=>?_)
 clear hK K'
 try simp only[xPt]
 refine xD ?_
 go_wp2_with (first|(go_at_call 81;refine xT2 (HG.out) H ?_;clear H;intro w H)|first|refine xLd H ?_|(refine xEf H ?_;clear H;intro b A' w H))
 refine xRe ?_
 exact xF H
theorem zaJ (c i m:Nat) (s:ClusM) (p:PilotM) (l:Letter) (hi:i<2) (hg:GInv i (m+130*(s.ctl i).queue.length+202) s p) (hN:z2Z s.net) (hl:z4H l):
  zi Tryz.prog 62 #[.pointer (some ⟨c,0,none⟩),.int .i64 i,l.v] [ym c s] fun r K=>r= .tuple #[]/\K=[ym c (s.receive i l)]:=by
 intro F0 w0 w R H
 try simp only[xNf]at H
 have hI:(i:Int)<2:=by omega
 have hs:s.receive i l=ClusM.goOn ((s.setP i (p.receive s.time l).1).sends (p.receive s.time l).2) i:=by unfold ClusM.receive;rw[hg.pil]
 have hP:=fun pb=>zas pb p s.time l (hg.inv.less (m:=200) (by omega)) hl.1 hl.2
 have hgp:=hg.receiveP l
 have hlt:=hg.receiveL l
 obtain⟨⟨q,ls⟩,hq⟩:∃x,p.receive s.time l=x:=⟨_,rfl⟩
 rw[hq]at hs hP hgp hlt
 dsimp only at hs hP hgp hlt
 have hG:=z81 c i m ((s.setP i q).sends ls) q hi (hgp.less (by show m+130*(upC s.ctl i _ i).queue.length+1<=_;rw[yv];show m+130*(s.ctl i).queue.length+1<=_;omega)) hgp.hid
 rw[hs]
 obtain⟨out,hout⟩:=xG (ClusM.goOn ((s.setP i q).sends ls) i)
 rw[hout]at hG⊢
 obtain⟨n,hn⟩:=xG (ls.length)
 have hS:=fun v=>zbi c (s.setP i q) ls n v hn (by have:=hlt.1;omega) hN hlt.2
 rw[hn]at hP
 obtain⟨mv,ke,nb,hb,ch,zs,hz,H⟩:=ym.ctl hi .head H
 have HZ:=Lib.hid hz
 have hsp:s.setP i q={s with ctl:=upC s.ctl i {s.ctl i with pil:=some q}}:=rfl
 have hpil:=hg.pil
 obtain⟨x,hx⟩:=xG (s.ctl i)
 rw[hx]at hpil H hsp
 obtain⟨xp,xs,xq,xd,xe,xr,xt,xa,xo⟩:=x
 dsimp only at hpil
 subst hpil
 obtain⟨⟨pb,qu,er,da⟩,hch⟩:∃x,ch i=x:=⟨_,rfl⟩
 rw[hch]at H
 simp only[zaV]at H
 obtain⟨oc,hoc⟩:=xG (s.ctl (1-i))
 obtain⟨och,hoch⟩:=xG (ch (1-i))
 rw[hoc,hoch]at H
 rw[show CtlM.cells ⟨some p,xs,xq,xd,xe,xr,xt,xa,xo⟩ ⟨pb,qu,er,da⟩=[.pointer (some ⟨pb,0,none⟩),.int .i64 xs,qu,.bool xd,.int .i64 xe,er,da,.string xa,.bool xo]from rfl]at H
 have HPO:zy pb q=zaV pb (some q):=rfl
 have HOC:=Lib.hid hoc
 have HOCH:=Lib.hid hoch
 have HSP:=Lib.hid hsp
 have HP:=Lib.hid (hP pb)
 have HS:=Lib.hid hS
 have HG:=Lib.hid hG
 clear hz hx hch hoc hoch hP hS hG hgp hlt hq hs hout hn hsp hg hN
 obtain⟨lf,lt,li,la,lq,ly⟩:=l
 go_enter Tryz.func62,Tryz.ntmps62
 go_upto_region 3 with(first|(refine xNt 114 H ?_;clear H;intro bl w H)|first|refine ld1 H (hh:=hdx) ?_|refine xLd H ?_|(refine zr (by rfl) (fun K' hK=>?_);(first|refine jo H (ht:=yy pk (by assumption)) ?_|refine jo H (ht:=yt pk (by assumption)) ?_);clear H;intro w H;try dsimp only[List.set]at H;refine hK _ _ ?_;clear hK K')|(refine xEf H ?_;clear H;intro b A' w H))
 refine xRg [10,11] (fun L=>[L,[],[]]) H ?_
 clear H;intro w H
 have HS:=H
 refine xO 0 0 HS ?_
 refine xO 1 0 HS ?_
 refine xO 2 0 HS ?_
 refine xO 3 0 HS ?_
 refine xL 4 0 HS ?_ (hin:=(.stop (n:=12) hdx (by kernel_rfl)))
 refine xO 5 0 HS ?_
 refine xO 6 0 HS ?_
 refine xO 7 0 HS ?_
 refine xL 8 0 HS ?_ (hin:=(.stop (n:=12) hdx (by kernel_rfl)))
 refine xV 9 0 HS ?_ (hin:=(.stop (n:=12) hdV (by kernel_rfl)))
 clear HS
 refine tk1 10 1 (fun K' hK=>?_)
 go_simp;revert H;refine zi.use HP.out pks ?_;rintro v1 _ w rfl H;try simp only[xNf]at H;obtain⟨A7,c7,rfl⟩:=zt (v:=v1) H .head
 refine hK _ _ (H.sub sbn) (fun HS=>?_)
 clear hK K'
 try simp only[xPt]
 clear HS
 refine tk1 11 2 (fun K' hK=>?_)
 go_simp;have H2:=ym.ctl_join (s:=s) mv ke nb hb ch zs ⟨some q,xs,xq,xd,xe,xr,xt,xa,xo⟩ ⟨pb,qu,er,da⟩ hi (po:=some q) (by rw[HOC.out,HOCH.out,<-HPO];exact H.sub sba) (by rfl) HZ.out;replace H2:=HSP.out.symm▸H2;clear H;revert H2;refine zi.use (HS.out _) pks ?_;rintro _ _ w ⟨rfl,rfl⟩ H;try simp only[xNf]at H
 refine hK _ _ (H.sub sbn) (fun HS=>?_)
 clear hK K'
 try simp only[xPt]
 refine xD ?_
 go_wp2_with (first|(go_at_call 81;refine xT2 (HG.out) H ?_;clear H;intro w H)|first|refine xLd H ?_|(refine xEf H ?_;clear H;intro b A' w H))
 refine xRe ?_
 exact xF H
end
end Go.Proofs.YtmfincpagnpkjaaGreat
