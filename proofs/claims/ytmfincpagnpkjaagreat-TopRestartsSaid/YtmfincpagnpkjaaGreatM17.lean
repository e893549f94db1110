/- Part of the proof. -/
import Derived.Test.YtmfincpagnpkjaaGreatM02
import Derived.Test.YtmfincpagnpkjaaGreatM04
import Derived.Test.YtmfincpagnpkjaaGreatM08
import Derived.Test.YtmfincpagnpkjaaGreatM16
set_option linter.all false
set_option maxRecDepth 100000
set_option maxHeartbeats 100000000
namespace Go.Proofs.YtmfincpagnpkjaaGreat
open Go.RowKit
def z1i (r:Rec) (q:AskM):List Value:=r.cells++q.cells++[.int .i64 q.epoch,.int .i64 q.seq]
def z5W (r:Rec) (q:AskM):FuncId:=
 if q.kind=1 then 183 else if q.epoch≠r.fence then 184 else if q.kind=7 then 185 else if r.used=false then 186
 else if q.kind=2 then 187 else if q.kind=4 then 188 else if q.kind=5 then 189 else if q.kind=6 then 190 else 191
theorem zcu (u o:Bool) (f de ds ie iq m:Int) (b s:ByteArray) (qst qe qs qm qn oe oq:Int) (qb:ByteArray):zi Tryz.prog 140 #[.agg (z1i ⟨u,f,de,ds,b,o,ie,iq,m,s⟩ ⟨1,qst,qe,qs,qm,qn,oe,oq,qb⟩).toArray] [] fun v K=>v= .func (.func 183) #[.agg (z1i ⟨u,f,de,ds,b,o,ie,iq,m,s⟩ ⟨1,qst,qe,qs,qm,qn,oe,oq,qb⟩).toArray] #[]/\K=[]:=by
 intro F0 w0 w R H
 try simp only[xNf]at H
 go_enter Tryz.func140,Tryz.ntmps140
 go_wp2_with (first|refine xLd H ?_|(refine xEf H ?_;clear H;intro b A' w H))
 refine xR1 H ?_
 exact xF H
theorem zct (u o:Bool) (f de ds ie iq m:Int) (b s:ByteArray) (qk qst qe qs qm qn oe oq:Int) (qb:ByteArray) (hk1:(qk==1)=false) (he:(qe !=f)=true):zi Tryz.prog 140 #[.agg (z1i ⟨u,f,de,ds,b,o,ie,iq,m,s⟩ ⟨qk,qst,qe,qs,qm,qn,oe,oq,qb⟩).toArray] [] fun v K=>v= .func (.func 184) #[.agg (z1i ⟨u,f,de,ds,b,o,ie,iq,m,s⟩ ⟨qk,qst,qe,qs,qm,qn,oe,oq,qb⟩).toArray] #[]/\K=[]:=by
 intro F0 w0 w R H
 try simp only[xNf]at H
 go_enter Tryz.func140,Tryz.ntmps140
 go_wp2_with (first|refine xLd H ?_|(refine xEf H ?_;clear H;intro b A' w H))
 refine xR1 H ?_
 exact xF H
theorem zgN (u o:Bool) (f de ds ie iq m:Int) (b s:ByteArray) (qst qe qs qm qn oe oq:Int) (qb:ByteArray) (he:(qe !=f)=false):zi Tryz.prog 140 #[.agg (z1i ⟨u,f,de,ds,b,o,ie,iq,m,s⟩ ⟨7,qst,qe,qs,qm,qn,oe,oq,qb⟩).toArray] [] fun v K=>v= .func (.func 185) #[.agg (z1i ⟨u,f,de,ds,b,o,ie,iq,m,s⟩ ⟨7,qst,qe,qs,qm,qn,oe,oq,qb⟩).toArray] #[]/\K=[]:=by
 intro F0 w0 w R H
 try simp only[xNf]at H
 go_enter Tryz.func140,Tryz.ntmps140
 go_wp2_with (first|refine xLd H ?_|(refine xEf H ?_;clear H;intro b A' w H))
 refine xR1 H ?_
 exact xF H
theorem zcw (o:Bool) (f de ds ie iq m:Int) (b s:ByteArray) (qk qst qe qs qm qn oe oq:Int) (qb:ByteArray) (hk1:(qk==1)=false) (he:(qe !=f)=false) (hk7:(qk==7)=false):zi Tryz.prog 140 #[.agg (z1i ⟨false,f,de,ds,b,o,ie,iq,m,s⟩ ⟨qk,qst,qe,qs,qm,qn,oe,oq,qb⟩).toArray] [] fun v K=>v= .func (.func 186) #[.agg (z1i ⟨false,f,de,ds,b,o,ie,iq,m,s⟩ ⟨qk,qst,qe,qs,qm,qn,oe,oq,qb⟩).toArray] #[]/\K=[]:=by
 intro F0 w0 w R H
 try simp only[xNf]at H
 go_enter Tryz.func140,Tryz.ntmps140
 go_wp2_with (first|refine xLd H ?_|(refine xEf H ?_;clear H;intro b A' w H))
 refine xR1 H ?_
 exact xF H
theorem zeh (o:Bool) (f de ds ie iq m:Int) (b s:ByteArray) (qst qe qs qm qn oe oq:Int) (qb:ByteArray) (he:(qe !=f)=false):zi Tryz.prog 140 #[.agg (z1i ⟨true,f,de,ds,b,o,ie,iq,m,s⟩ ⟨2,qst,qe,qs,qm,qn,oe,oq,qb⟩).toArray] [] fun v K=>v= .func (.func 187) #[.agg (z1i ⟨true,f,de,ds,b,o,ie,iq,m,s⟩ ⟨2,qst,qe,qs,qm,qn,oe,oq,qb⟩).toArray] #[]/\K=[]:=by
 intro F0 w0 w R H
 try simp only[xNf]at H
 go_enter Tryz.func140,Tryz.ntmps140
 go_wp2_with (first|refine xLd H ?_|(refine xEf H ?_;clear H;intro b A' w H))
 refine xR1 H ?_
 exact xF H
theorem z8R (o:Bool) (f de ds ie iq m:Int) (b s:ByteArray) (qst qe qs qm qn oe oq:Int) (qb:ByteArray) (he:(qe !=f)=false):zi Tryz.prog 140 #[.agg (z1i ⟨true,f,de,ds,b,o,ie,iq,m,s⟩ ⟨4,qst,qe,qs,qm,qn,oe,oq,qb⟩).toArray] [] fun v K=>v= .func (.func 188) #[.agg (z1i ⟨true,f,de,ds,b,o,ie,iq,m,s⟩ ⟨4,qst,qe,qs,qm,qn,oe,oq,qb⟩).toArray] #[]/\K=[]:=by
 intro F0 w0 w R H
 try simp only[xNf]at H
 go_enter Tryz.func140,Tryz.ntmps140
 go_wp2_with (first|refine xLd H ?_|(refine xEf H ?_;clear H;intro b A' w H))
 refine xR1 H ?_
 exact xF H
theorem zaL (o:Bool) (f de ds ie iq m:Int) (b s:ByteArray) (qst qe qs qm qn oe oq:Int) (qb:ByteArray) (he:(qe !=f)=false):zi Tryz.prog 140 #[.agg (z1i ⟨true,f,de,ds,b,o,ie,iq,m,s⟩ ⟨5,qst,qe,qs,qm,qn,oe,oq,qb⟩).toArray] [] fun v K=>v= .func (.func 189) #[.agg (z1i ⟨true,f,de,ds,b,o,ie,iq,m,s⟩ ⟨5,qst,qe,qs,qm,qn,oe,oq,qb⟩).toArray] #[]/\K=[]:=by
 intro F0 w0 w R H
 try simp only[xNf]at H
 go_enter Tryz.func140,Tryz.ntmps140
 go_wp2_with (first|refine xLd H ?_|(refine xEf H ?_;clear H;intro b A' w H))
 refine xR1 H ?_
 exact xF H
theorem zaK (o:Bool) (f de ds ie iq m:Int) (b s:ByteArray) (qst qe qs qm qn oe oq:Int) (qb:ByteArray) (he:(qe !=f)=false):zi Tryz.prog 140 #[.agg (z1i ⟨true,f,de,ds,b,o,ie,iq,m,s⟩ ⟨6,qst,qe,qs,qm,qn,oe,oq,qb⟩).toArray] [] fun v K=>v= .func (.func 190) #[.agg (z1i ⟨true,f,de,ds,b,o,ie,iq,m,s⟩ ⟨6,qst,qe,qs,qm,qn,oe,oq,qb⟩).toArray] #[]/\K=[]:=by
 intro F0 w0 w R H
 try simp only[xNf]at H
 go_enter Tryz.func140,Tryz.ntmps140
 go_wp2_with (first|refine xLd H ?_|(refine xEf H ?_;clear H;intro b A' w H))
 refine xR1 H ?_
 exact xF H
theorem zcv (o:Bool) (f de ds ie iq m:Int) (b s:ByteArray) (qk qst qe qs qm qn oe oq:Int) (qb:ByteArray) (hk1:(qk==1)=false) (he:(qe !=f)=false) (hk7:(qk==7)=false) (hk2:(qk==2)=false) (hk4:(qk==4)=false) (hk5:(qk==5)=false) (hk6:(qk==6)=false):zi Tryz.prog 140 #[.agg (z1i ⟨true,f,de,ds,b,o,ie,iq,m,s⟩ ⟨qk,qst,qe,qs,qm,qn,oe,oq,qb⟩).toArray] [] fun v K=>v= .func (.func 191) #[.agg (z1i ⟨true,f,de,ds,b,o,ie,iq,m,s⟩ ⟨qk,qst,qe,qs,qm,qn,oe,oq,qb⟩).toArray] #[]/\K=[]:=by
 intro F0 w0 w R H
 try simp only[xNf]at H
 go_enter Tryz.func140,Tryz.ntmps140
 go_wp2_with (first|refine xLd H ?_|(refine xEf H ?_;clear H;intro b A' w H))
 refine xR1 H ?_
 exact xF H
theorem zeg (r:Rec) (q:AskM):zi Tryz.prog 140 #[.agg (z1i r q).toArray] [] fun v K=>v= .func (.func (z5W r q)) #[.agg (z1i r q).toArray] #[]/\K=[]:=by
 obtain⟨u,f,de,ds,b,o,ie,iq,m,s⟩:=r
 obtain⟨qk,qst,qe,qs,qm,qn,oe,oq,qb⟩:=q
 have n0:∀k:Int,qk≠k->(qk==k)=false:=fun k h=>by simpa using h
 unfold z5W
 simp only
 by_cases k1:qk=1
 ·rw[if_pos k1]
  subst k1
  exact zcu _ _ _ _ _ _ _ _ _ _ _ _ _ _ _ _ _ _
 rw[if_neg k1]
 by_cases he:qe≠f
 ·rw[if_pos he]
  exact zct _ _ _ _ _ _ _ _ _ _ _ _ _ _ _ _ _ _ _ (n0 _ k1) (by simpa using he)
 rw[if_neg he]
 have he:(qe !=f)=false:=by simpa using he
 by_cases k7:qk=7
 ·rw[if_pos k7]
  subst k7
  exact zgN _ _ _ _ _ _ _ _ _ _ _ _ _ _ _ _ _ _ (he)
 rw[if_neg k7]
 by_cases hu:u=false
 ·rw[if_pos hu]
  subst hu
  exact zcw _ _ _ _ _ _ _ _ _ _ _ _ _ _ _ _ _ _ (n0 _ k1) (he) (n0 _ k7)
 rw[if_neg hu]
 obtain rfl:u=true:=by simpa using hu
 by_cases k2:qk=2
 ·rw[if_pos k2]
  subst k2
  exact zeh _ _ _ _ _ _ _ _ _ _ _ _ _ _ _ _ _ (he)
 rw[if_neg k2]
 by_cases k4:qk=4
 ·rw[if_pos k4]
  subst k4
  exact z8R _ _ _ _ _ _ _ _ _ _ _ _ _ _ _ _ _ (he)
 rw[if_neg k4]
 by_cases k5:qk=5
 ·rw[if_pos k5]
  subst k5
  exact zaL _ _ _ _ _ _ _ _ _ _ _ _ _ _ _ _ _ (he)
 rw[if_neg k5]
 by_cases k6:qk=6
 ·rw[if_pos k6]
  subst k6
  exact zaK _ _ _ _ _ _ _ _ _ _ _ _ _ _ _ _ _ (he)
 rw[if_neg k6]
 exact zcv _ _ _ _ _ _ _ _ _ _ _ _ _ _ _ _ _ _ (n0 _ k1) (he) (n0 _ k7) (n0 _ k2) (n0 _ k4) (n0 _ k5) (n0 _ k6)
def zaU (r:Rec) (st:Int):Rec×SayM:=(r,⟨st,r.fence,0,Rec.nil⟩)
def zmn (r:Rec):Rec:=⟨r.used,r.fence,r.de,r.ds,r.block,false,0,0,0,noB⟩
def zmV (r:Rec):Rec:=⟨r.used,r.fence,r.ie,r.iq,r.staged,false,0,0,0,noB⟩
def zco (r:Rec) (q:AskM):Rec×SayM:=
 if q.epoch<r.fence then zaU r 2
 else(⟨r.used,q.epoch,r.de,r.ds,r.block,r.opn,r.ie,r.iq,r.mask,r.staged⟩,⟨1,q.epoch,0,⟨r.used,q.epoch,r.de,r.ds,r.block,r.opn,r.ie,r.iq,r.mask,r.staged⟩⟩)
def zlM (r:Rec):Rec×SayM:=(r,⟨1,r.fence,0,⟨r.used,r.fence,r.de,r.ds,r.block,false,0,0,0,noB⟩⟩)
def zmH (r:Rec) (q:AskM):Rec×SayM:=
 if r.used=true/\(r.de==q.epoch&&r.ds==q.seq)=true then zaU r 1
 else if r.used=true/\z0A r.de r.ds q.epoch q.seq=false then zaU r 4
 else zaU ⟨true,r.fence,q.epoch,q.seq,q.block,false,0,0,0,noB⟩ 1
def z4V (r:Rec) (q:AskM):Rec×SayM:=
 if(r.de==q.epoch&&r.ds==q.seq)=true then zaU r 1
 else if z0A r.de r.ds q.epoch q.seq=false then zaU r 4
 else if r.opn=true/\(r.ie==q.epoch&&r.iq==q.seq)=true then zaU r 1
 else if r.opn=true then zaU r 3
 else zaU ⟨r.used,r.fence,r.de,r.ds,r.block,true,q.epoch,q.seq,q.mask,q.block⟩ 1
def z8c (r:Rec) (q:AskM):Rec×SayM:=
 if r.opn=true/\(r.ie==q.epoch&&r.iq==q.seq)=true then zaU (zmV r) 1
 else if(r.de==q.epoch&&r.ds==q.seq)=true then zaU r 1
 else zaU r 4
def z7h (r:Rec) (q:AskM):Rec×SayM:=
 if ¬(r.opn=true/\(r.ie==q.oe&&r.iq==q.oq)=true)then zaU r 1
 else if q.mask=1 then zaU (zmV r) 1
 else zaU (zmn r) 1
def zb7 (r:Rec) (q:AskM):Rec×SayM:=
 if q.kind=1 then zco r q else if q.epoch≠r.fence then zaU r 2 else if q.kind=7 then zmH r q else if r.used=false then zaU r 5
 else if q.kind=2 then zlM r else if q.kind=4 then z4V r q else if q.kind=5 then z8c r q else if q.kind=6 then z7h r q else zaU r 1
def z3N (r:Rec) (q:AskM):Rec×SayM:=if jg r=true/\yb q=true/\q.kind<=7 then zb7 r q else(r,⟨6,0,0,Rec.nil⟩)
def zbF (x:Rec×SayM):Value:=.tuple #[x.1.v,x.2.v]
abbrev Way (F:FuncId) (r:Rec) (q:AskM) (x:Rec×SayM):Prop:=zi Tryz.prog F #[.agg (z1i r q).toArray] [] fun v K=>v=zbF x/\K=[]
theorem zj7 (r:Rec) (q:AskM):Way 183 r q (zco r q):=by
 unfold zco
 by_cases h:q.epoch<r.fence
 ·rw[if_pos h]
  exact zm fun w=>zgH _ _ _ _ _ _ _ _ _ _ _ _ _ _ _ _ _ _ _ w h
 ·rw[if_neg h]
  exact zm fun w=>zld _ _ _ _ _ _ _ _ _ _ _ _ _ _ _ _ _ _ _ w (by omega)
theorem zlN (r:Rec) (q:AskM):Way 185 r q (zmH r q):=by
 unfold zmH
 obtain⟨u,f,de,ds,b,o,ie,iq,m,s⟩:=r
 simp only
 cases u
 ·rw[if_neg (by simp),if_neg (by simp)]
  exact zm fun w=>zi9 _ _ _ _ _ _ _ _ _ _ _ _ _ _ _ _ _ _ w
 ·by_cases h:(de==q.epoch&&ds==q.seq)=true
  ·rw[if_pos ⟨rfl,h⟩]
   exact zm fun w=>zkI _ _ _ _ _ _ _ _ _ _ _ _ _ _ _ _ _ _ w h
  ·rw[if_neg (fun x=>h x.2)]
   have h:=Bool.eq_false_iff.2 h
   by_cases hb:z0A de ds q.epoch q.seq=false
   ·rw[if_pos ⟨rfl,hb⟩]
    exact zm fun w=>zlO _ _ _ _ _ _ _ _ _ _ _ _ _ _ _ _ _ _ w h hb
   ·rw[if_neg (fun x=>hb x.2)]
    exact zm fun w=>zlP _ _ _ _ _ _ _ _ _ _ _ _ _ _ _ _ _ _ w h (by simpa using hb)
theorem zdw (r:Rec) (q:AskM):Way 188 r q (z4V r q):=by
 unfold z4V
 obtain⟨u,f,de,ds,b,o,ie,iq,m,s⟩:=r
 simp only
 by_cases h:(de==q.epoch&&ds==q.seq)=true
 ·rw[if_pos h]
  exact zm fun w=>zbz _ _ _ _ _ _ _ _ _ _ _ _ _ _ _ _ _ _ _ w h
 rw[if_neg h]
 have h:=Bool.eq_false_iff.2 h
 by_cases hb:z0A de ds q.epoch q.seq=false
 ·rw[if_pos hb]
  exact zm fun w=>zdx _ _ _ _ _ _ _ _ _ _ _ _ _ _ _ _ _ _ _ w h hb
 rw[if_neg hb]
 have hb:z0A de ds q.epoch q.seq=true:=by simpa using hb
 cases o
 ·rw[if_neg (by simp),if_neg (by simp)]
  exact zm fun w=>zdy _ _ _ _ _ _ _ _ _ _ _ _ _ _ _ _ _ _ w h hb
 ·by_cases h2:(ie==q.epoch&&iq==q.seq)=true
  ·rw[if_pos ⟨rfl,h2⟩]
   exact zm fun w=>zan _ _ _ _ _ _ _ _ _ _ _ _ _ _ _ _ _ _ w h h2 hb
  ·rw[if_neg (fun x=>h2 x.2),if_pos rfl]
   exact zm fun w=>zbA _ _ _ _ _ _ _ _ _ _ _ _ _ _ _ _ _ _ w h (Bool.eq_false_iff.2 h2) hb
theorem zgL (r:Rec) (q:AskM):Way 189 r q (z8c r q):=by
 unfold z8c
 obtain⟨u,f,de,ds,b,o,ie,iq,m,s⟩:=r
 simp only
 cases o
 ·rw[if_neg (by simp)]
  by_cases h2:(de==q.epoch&&ds==q.seq)=true
  ·rw[if_pos h2]
   exact zm fun w=>z6F _ _ _ _ _ _ _ _ _ _ _ _ _ _ _ _ _ _ w h2
  ·rw[if_neg h2]
   exact zm fun w=>z6G _ _ _ _ _ _ _ _ _ _ _ _ _ _ _ _ _ _ w (Bool.eq_false_iff.2 h2)
 ·by_cases h:(ie==q.epoch&&iq==q.seq)=true
  ·rw[if_pos ⟨rfl,h⟩]
   exact zm fun w=>zee _ _ _ _ _ _ _ _ _ _ _ _ _ _ _ _ _ _ w h
  ·rw[if_neg (fun x=>h x.2)]
   by_cases h2:(de==q.epoch&&ds==q.seq)=true
   ·rw[if_pos h2]
    exact zm fun w=>z5T _ _ _ _ _ _ _ _ _ _ _ _ _ _ _ _ _ _ w (Bool.eq_false_iff.2 h) h2
   ·rw[if_neg h2]
    exact zm fun w=>z5U _ _ _ _ _ _ _ _ _ _ _ _ _ _ _ _ _ _ w (Bool.eq_false_iff.2 h) (Bool.eq_false_iff.2 h2)
theorem zfI (r:Rec) (q:AskM):Way 190 r q (z7h r q):=by
 unfold z7h
 obtain⟨u,f,de,ds,b,o,ie,iq,m,s⟩:=r
 simp only
 cases o
 ·rw[if_pos (by simp)]
  exact zm fun w=>zdm _ _ _ _ _ _ _ _ _ _ _ _ _ _ _ _ _ _ w
 ·by_cases h:(ie==q.oe&&iq==q.oq)=true
  ·rw[if_neg (fun x=>x ⟨rfl,h⟩)]
   by_cases hm:q.mask=1
   ·rw[if_pos hm]
    exact zm fun w=>zdn _ _ _ _ _ _ _ _ _ _ _ _ _ _ _ _ _ _ w h (by simpa using hm)
   ·rw[if_neg hm]
    exact zm fun w=>za0 _ _ _ _ _ _ _ _ _ _ _ _ _ _ _ _ _ _ w h (by simpa using hm)
  ·rw[if_pos (fun x=>h x.2)]
   exact zm fun w=>zbf _ _ _ _ _ _ _ _ _ _ _ _ _ _ _ _ _ _ w (Bool.eq_false_iff.2 h)
theorem zk3 (r:Rec) (q:AskM):Way (z5W r q) r q (zb7 r q):=by
 unfold z5W zb7
 by_cases k1:q.kind=1
 ·rw[if_pos k1,if_pos k1]
  exact zj7 r q
 rw[if_neg k1,if_neg k1]
 by_cases he:q.epoch≠r.fence
 ·rw[if_pos he,if_pos he]
  exact zm fun w=>zhF _ _ _ _ _ _ _ _ _ _ _ _ _ _ _ _ _ _ _ w
 rw[if_neg he,if_neg he]
 by_cases k7:q.kind=7
 ·rw[if_pos k7,if_pos k7]
  exact zlN r q
 rw[if_neg k7,if_neg k7]
 by_cases hu:r.used=false
 ·rw[if_pos hu,if_pos hu]
  exact zm fun w=>zmq _ _ _ _ _ _ _ _ _ _ _ _ _ _ _ _ _ _ _ w
 rw[if_neg hu,if_neg hu]
 by_cases k2:q.kind=2
 ·rw[if_pos k2,if_pos k2]
  exact zm fun w=>zmG _ _ _ _ _ _ _ _ _ _ _ _ _ _ _ _ _ _ _ w
 rw[if_neg k2,if_neg k2]
 by_cases k4:q.kind=4
 ·rw[if_pos k4,if_pos k4]
  exact zdw r q
 rw[if_neg k4,if_neg k4]
 by_cases k5:q.kind=5
 ·rw[if_pos k5,if_pos k5]
  exact zgL r q
 rw[if_neg k5,if_neg k5]
 by_cases k6:q.kind=6
 ·rw[if_pos k6,if_pos k6]
  exact zfI r q
 rw[if_neg k6,if_neg k6]
 exact zm fun w=>zmo _ _ _ _ _ _ _ _ _ _ _ _ _ _ _ _ _ _ _ w
theorem jy (q:AskM):zi Tryz.prog 93 #[q.v] [] fun v K=>v= .bool (yb q)/\K=[]:=zm fun w=>zkp _ _ _ _ _ _ _ _ _ w
theorem zhY (r:Rec) (hb:r.block.size<=9223372036854775807) (hs:r.staged.size<=9223372036854775807):zi Tryz.prog 107 #[r.v] [] fun v K=>v= .bool (jg r)/\K=[]:=zm fun w=>z1P r w hb hs
section
theorem zgP (r:Rec) (q:AskM) (W:World):(Instr.build 256 #[(0,.agg r.cells.toArray),(1,.agg q.cells.toArray),(2,.agg #[.int .i64 q.epoch,.int .i64 q.seq])]).run Tryz.prog W= .ok (.agg (z1i r q).toArray) W:=by kernel_rfl
theorem zhb:(Tryz.prog.info? 256).bind (·.zero)=some (.agg (z1i Rec.nil AskM.nil).toArray):=by kernel_rfl
theorem z5l (W:World):(Instr.build 112 #[(0,.int .i64 6)]).run Tryz.prog W= .ok (.agg (SayM.mk 6 0 0 Rec.nil).cells.toArray) W:=by kernel_rfl
def zaH:Option Func->Bool
 |none=>false
 |some fn=>fn.name != "runtime.NumGoroutine" &&fn.body.isSome
theorem zmU {F:FuncId} (h:zaH Tryz.prog.funcs[F]?=true) (args:Array Value) (w:World):(callFunc F args).run Tryz.prog w= .ok (.enter F args) w:=by
 cases hf:Tryz.prog.funcs[F]? with
 |none=>simp[zaH,hf]at h
 |some fn=>
  simp only[zaH,hf,Bool.and_eq_true,bne_iff_ne,ne_eq]at h
  obtain⟨c,hb⟩:=Option.isSome_iff_exists.1 h.2
  simp[callFunc,program,hf,h.1,hb,Sem.run]
theorem z8S (r:Rec) (q:AskM):zaH Tryz.prog.funcs[z5W r q]?=true:=by
 unfold z5W
 repeat' split
 all_goals kernel_rfl
section
variable (r:Rec) (q:AskM)
theorem zgZ (hb:r.block.size<=9223372036854775807) (hs:r.staged.size<=9223372036854775807) (h1:jg r=true) (h2:yb q=true) (h3:q.kind<=7):
  zi Tryz.prog 95 #[r.v,q.v] [] fun v K=>v=zbF (zb7 r q)/\K=[]:=by
 intro F0 w0 w R H
 try simp only[xNf]at H
 have d3:decide ((7:Int)<q.kind)=false:=by simp;omega
 have en:=zmU (z8S r q)
 go_enter Tryz.func95,Tryz.ntmps95
 go_upto_region 3 with(first
  |(go_at_call 107;revert H;refine zi.use (zhY r hb hs) pks ?_;rintro _ _ w ⟨rfl,rfl⟩ H;try simp only[xNf]at H;rw[h1])
  |(go_at_call 93;revert H;refine zi.use (jy q) pks ?_;rintro _ _ w ⟨rfl,rfl⟩ H;try simp only[xNf]at H;rw[h2])
  |first|refine xLd H ?_|(refine xEf H ?_;clear H;intro b A' w H))
 go_upto_region 5 with(first
  |(go_at_call 140;revert H;refine zi.use (zeg r q) pks ?_;rintro _ _ w ⟨rfl,rfl⟩ H;try simp only[xNf]at H)
  |(refine z8 (v:=.agg (z1i r q).toArray) (by rfl) (zb (t:=256) rfl ?_) ?_;(·simp only[List.map_cons,List.map_nil];exact zgP r q _))
  |first|refine xLd H ?_|(refine xEf H ?_;clear H;intro b A' w H))
 go_wp2_with (first
  |(revert H;with_reducible refine zi.use (zk3 r q) pks ?_;rintro _ _ w ⟨rfl,rfl⟩ H;try simp only[xNf]at H;unfold zbF)
  |first|refine xLd H ?_|(refine xEf H ?_;clear H;intro b A' w H))
 refine xR2 H ?_
 exact xF H
theorem zjB (hb:r.block.size<=9223372036854775807) (hs:r.staged.size<=9223372036854775807) (h:jg r=false\/jg r=true/\(yb q=false\/yb q=true/\7<q.kind)):
  zi Tryz.prog 95 #[r.v,q.v] [] fun v K=>v=zbF (r,⟨6,0,0,Rec.nil⟩)/\K=[]:=by
 have hc:jg r=false\/jg r=true/\(yb q=false\/yb q=true/\decide ((7:Int)<q.kind)=true):=by simpa using h
 clear h
 intro F0 w0 w R H
 try simp only[xNf]at H
 rcases hc with h1|⟨h1,h2|⟨h2,d3⟩⟩
 all_goals
  have h2':=h1
  go_enter Tryz.func95,Tryz.ntmps95
  go_wp2_with (first
   |(go_at_call 107;revert H;refine zi.use (zhY r hb hs) pks ?_;rintro _ _ w ⟨rfl,rfl⟩ H;try simp only[xNf]at H;rw[h1])
   |(go_at_call 93;revert H;refine zi.use (jy q) pks ?_;rintro _ _ w ⟨rfl,rfl⟩ H;try simp only[xNf]at H;rw[h2])
   |(refine z8 (v:=.agg (SayM.mk 6 0 0 Rec.nil).cells.toArray) (by rfl) (zb (t:=112) rfl ?_) ?_;(·simp only[List.map_cons,List.map_nil];exact z5l _))
   |first|refine xLd H ?_|(refine xEf H ?_;clear H;intro b A' w H))
  refine xR2 H ?_
  exact xF H
theorem zgY (hb:r.block.size<=9223372036854775807) (hs:r.staged.size<=9223372036854775807):zi Tryz.prog 95 #[r.v,q.v] [] fun v K=>v=zbF (z3N r q)/\K=[]:=by
 unfold z3N
 by_cases h:jg r=true/\yb q=true/\q.kind<=7
 ·rw[if_pos h]
  exact zgZ r q hb hs h.1 h.2.1 h.2.2
 ·rw[if_neg h]
  refine zjB r q hb hs ?_
  by_cases h1:jg r=true
  ·refine .inr ⟨h1, ?_⟩
   by_cases h2:yb q=true
   ·exact .inr ⟨h2,by(have:¬q.kind<=7:=fun h3=>h ⟨h1,h2,h3⟩);omega⟩
   ·exact .inl (by simpa using h2)
  ·exact .inl (by simpa using h1)
end
end
section
section
variable {F0:Nat->Prop} {w0 w w':World} {A B:Assn} {L L' K:List Assn}
theorem Sep.old (H:Sep F0 w0 w (A::L)):∃F:Nat->Prop,A.holds F w/\(∀k,F k->k<w.heap.size)/\(∀B L',Pick B L L'->∃G:Nat->Prop,B.holds G w/\(∀k,G k->k<w.heap.size)/\∀k,G k->¬F k)/\
  ∀(K:List Assn) (w':World),w'.os=w.os->w'.tape=w.tape->w'.output=w.output->w.heap.size<=w'.heap.size->(∀k,k<w.heap.size->¬F k->w'.heap[k]?=w.heap[k]?)->
   (∃F':Nat->Prop,z3h K F' w'/\∀k,F' k->k<w'.heap.size/\(F k\/w.heap.size<=k))->Sep F0 w0 w' (K++L):=by
 obtain⟨F,⟨F1,F2,h1,h2,h3,h4,h5⟩,h6⟩:=H.parts
 refine⟨F1,h4,fun k hk=>(h6 k (h1 k hk)).1,fun B L' hp=>?_,fun K w' hos htape hout hsz g3 ⟨F',g1,g2⟩=>?_⟩
 ·obtain⟨G1,G2,g1,g2,g3,g4,g5⟩:=h5.pick hp
  exact⟨G1,g4,fun k hk=>(h6 k (h2 k (g1 k hk))).1,fun k hk hk'=>h3 k hk' (g1 k hk)⟩
 ·refine⟨⟨fun k=>F' k\/F2 k,z3h.append g1 (h5.loc (fun k hk=>g3 k (h6 k (h2 k hk)).1 (fun h'=>h3 k h' hk))) ?_ (fun k=>.inl) (fun k=>.inr), ?_⟩,hos.trans H.os,htape.trans H.tape,hout.trans H.output,Nat.le_trans H.size hsz, ?_⟩
  ·intro k hk hk'
   rcases(g2 k hk).2 with h'|h'
   ·exact h3 k h' hk'
   ·have:=(h6 k (h2 k hk')).1;omega
  ·rintro k (hk|hk)
   ·refine⟨(g2 k hk).1, ?_⟩
    rcases(g2 k hk).2 with h'|h'
    ·exact(h6 k (h1 k h')).2
    ·exact .inr (Nat.le_trans H.size h')
   ·exact⟨Nat.lt_of_lt_of_le (h6 k (h2 k hk)).1 hsz,(h6 k (h2 k hk)).2⟩
  ·intro k hk hk'
   rw[g3 k (Nat.lt_of_lt_of_le hk H.size) (fun h'=>?_),H.block k hk hk']
   rcases(h6 k (h1 k h')).2 with h''|h''
   ·exact hk' h''
   ·omega
theorem z4P {F:Nat->Prop} (h:A.holds F w):z3h [A] F w:=⟨F,fun _=>False,fun _ h=>h,fun _ h=>h.elim,fun _ _ h=>h,h,trivial⟩
end
def yz (p:Nat) (d:List ByteArray):Assn:=⟨fun F w=>∃own:Nat->Nat,(∀k,own k=1->F k)/\jv w own 1 p d,fun {F w w'} ⟨own,h1,h2⟩ hk=>⟨own,h1,h2.same (fun k _ ho=>hk k (h1 k ho)) (Ext.refl _ _)⟩⟩
abbrev z0Q (s p k:Nat):Assn:=z7 s 220 [.pointer (some ⟨p,0,none⟩),.int .i64 k]
def z0g (q p k:Nat):Assn:=exA fun s=>zaN [z7 q 165 [.pointer (some ⟨s,0,none⟩),.int .i64 k],z0Q s p k]
section
variable {F0:Nat->Prop} {w0 w w':World} {own own':Nat->Nat} {κ κ' p q s k:Nat} {d:List ByteArray} {L R:List Assn}
theorem z0g.open' (H:Sep F0 w0 w (z0g q p k::L)):∃s,Sep F0 w0 w (z7 q 165 [.pointer (some ⟨s,0,none⟩),.int .i64 k]::z0Q s p k::L):=by
 obtain⟨s,H⟩:=H.ex
 exact⟨s,H.unbag⟩
theorem z0g.mk (s:Nat) (H:Sep F0 w0 w (z7 q 165 [.pointer (some ⟨s,0,none⟩),.int .i64 k]::z0Q s p k::L)):Sep F0 w0 w (z0g q p k::L):=Sep.mk_ex s (Sep.bag (K:=[_,_]) H)
theorem jv.recol (h:jv w own κ p d) (hc:∀k,own k=κ->own' k=κ'):jv w own' κ' p d:=by
 obtain⟨m,g,acts,clock,⟨h1,h2,h3,h4,h5⟩⟩:=h
 exact⟨m,g,acts,clock,⟨⟨h1.1,hc _ h1.2⟩,⟨h2.1,hc _ h2.2⟩,h3,hc _ h4,h5⟩⟩
theorem z8a {P:Program} {f:FuncId} {args:Array Value} {v:Value} {d':List ByteArray}
  (h:∀(w:World) (own:Nat->Nat),jv w own 1 p d->Calls P f args w fun e w'=>e= .returned v/\jv w' own 1 p d'/\Mod own (fun c=>c=1) w w'):zi P f args [yz p d] fun r K=>r=v/\K=[yz p d']:=fun F0 w0 w R H=>by
 obtain⟨F,⟨own,h1,h2⟩,h3,_,h5⟩:=Sep.old (A:=yz p d) H
 refine(h w own h2).mono ?_
 rintro e w' ⟨rfl,k1,k2⟩
 refine⟨v,_,rfl,⟨rfl,rfl⟩,h5 [yz p d'] w' k2.os k2.tape k2.output k2.size (fun k hk hF=>k2.block k hk (fun ho=>hF (h1 k ho))) ⟨fun k=>own k=1,z4P ⟨own,fun _ h=>h,k1⟩,fun k hk=>⟨Nat.lt_of_lt_of_le (h3 k (h1 k hk)) k2.size,.inl (h1 k hk)⟩⟩⟩
theorem z96 {P:Program} {f:FuncId} {args:Array Value} {v:Value} {d':List ByteArray}
  (h:∀(w:World) (own:Nat->Nat),z0O w own 2 s p k->jv w own 1 p d->Calls P f args w fun e w'=>e= .returned v/\jv w' own 1 p d'/\Mod own (fun c=>c=1) w w'):zi P f args [yz p d,z0Q s p k] fun r K=>r=v/\K=[yz p d',z0Q s p k]:=fun F0 w0 w R H=>by
 have hs:=H.heap (b:=s) (.tail .head)
 obtain⟨F,⟨own,h1,h2⟩,h3,h4,h5⟩:=Sep.old (A:=yz p d) H
 obtain⟨G,⟨g1,_⟩,_,g2⟩:=h4 _ _ .head
 have hsF:¬F s:=g2 s g1
 refine(h w (fun k=>if k=s then 2 else if own k=1 then 1 else 0) ⟨hs,by simp⟩ (h2.recol (fun k hk=>?_))).mono ?_
 ·rw[if_neg (by rintro rfl;exact hsF (h1 _ hk)),if_pos hk]
 rintro e w' ⟨rfl,k1,k2⟩
 have hone:∀k,(if k=s then 2 else if own k=1 then 1 else 0)=1->own k=1:=by
  intro k hk
  split at hk
  ·omega
  ·split at hk
   ·assumption
   ·omega
 refine⟨v,_,rfl,⟨rfl,rfl⟩,h5 [yz p d'] w' k2.os k2.tape k2.output k2.size (fun k hk hF=>k2.block k hk (fun ho=>hF (h1 k (hone k ho)))) ⟨fun k=>own k=1,z4P ⟨own,fun _ h=>h,k1.recol (fun k hk=>hone k hk)⟩,fun k hk=>⟨Nat.lt_of_lt_of_le (h3 k (h1 k hk)) k2.size,.inl (h1 k hk)⟩⟩⟩
theorem zic:zi Tryz.prog 66 #[.pointer (some ⟨p,0,none⟩)] [yz p d] fun r K=>r= .bool false/\K=[yz p d]:=
 z8a fun w own h=>(zg4 h).mono fun e w' ⟨h1,h2⟩=>⟨h1,h2▸h,h2▸Mod.refl _ _ _⟩
theorem zal:zi Tryz.prog 109 #[.pointer (some ⟨p,0,none⟩)] [yz p d] fun r K=>r= .int .i64 d.length/\K=[yz p d]:=
 z8a fun w own h=>(z8C h).mono fun e w' ⟨h1,h2⟩=>⟨h1,h2▸h,h2▸Mod.refl _ _ _⟩
theorem zam (keep:Value):zi Tryz.prog 55 #[.pointer (some ⟨p,0,none⟩),keep] [yz p d] fun r K=>r= .tuple #[]/\K=[yz p d]:=
 z8a fun w own h=>z8D keep h
theorem zhP (n:Nat) (hk:d.length=k) (hn:n<k):zi Tryz.prog 94 #[.pointer (some ⟨s,0,none⟩),.int .i64 n] [yz p d,z0Q s p k] fun r K=>r= .tuple #[(z2j d n).v,.int .i64 0]/\K=[yz p d,z0Q s p k]:=
 z96 fun w own hs hd=>(zfH n hs hd hk hn).mono fun e w' ⟨h1,h2⟩=>⟨h1,hd.same (zcO.ofBelow h2) (Ext.refl _ _),Mod.ofBelow h2⟩
theorem zhG (n:Nat) (r:Rec) (hk:d.length=k) (hn:n<k) (hb:r.block.size<=9223372036854775807) (hg:r.staged.size<=9223372036854775807):zi Tryz.prog 96 #[.pointer (some ⟨s,0,none⟩),.int .i64 n,r.v] [yz p d,z0Q s p k] fun v K=>v= .int .i64 (z4v n r)/\K=[yz p (setD d n r),z0Q s p k]:=
 z96 fun w own hs hd=>z95 n r hs hd hk hn hb hg
theorem zid (k:Nat) (h1:1<=k) (h8:k<=8):zi Tryz.prog 46 #[.int .i64 k] [] fun v K=>∃p,v= .tuple #[.pointer (some ⟨p,0,none⟩),.int .i64 0]/\K=[yz p (z6R k)]:=fun F0 w0 w R H=>by
 obtain⟨F,_,h3,_,h5⟩:=Sep.old (A:=z0w True) (Sep.mk_pure trivial H)
 refine(zg5 k (fun _=>0) 1 w h1 h8).mono ?_
 rintro e w' ⟨rfl,k1,k2,_⟩
 refine⟨_,_,rfl,⟨_,rfl,rfl⟩,h5 [yz _ (z6R k)] w' k2.os k2.tape k2.output k2.size (fun k hk _=>k2.block k hk) ⟨fun k=>dye (fun _=>0) w.heap.size w'.heap.size 1 k=1,z4P ⟨_,fun _ h=>h,k1⟩,fun k hk=>?_⟩⟩
 have hk:(if w.heap.size<=k/\k<w'.heap.size then 1 else 0)=1:=hk
 split at hk
 ·rename_i h;exact⟨h.2,.inr h.1⟩
 ·cases hk
theorem zhM (hk:d.length=k) (h1:1<=k) (h8:k<=8):zi Tryz.prog 78 #[.pointer (some ⟨p,0,none⟩),.int .i64 k] [yz p d] fun v K=>∃s,v= .tuple #[.pointer (some ⟨s,0,none⟩),.int .i64 0]/\K=[z0Q s p k,yz p d]:=by
 intro F0 w0 w R H
 try simp only[xNf]at H
 subst hk
 have d1:decide ((d.length:Int)<1)=false:=by simp;omega
 have d2:decide ((8:Int)<(d.length:Int))=false:=by simp;omega
 have d3:decide ((d.length:Int)<(d.length:Int))=false:=by simp
 go_enter Tryz.func78,Tryz.ntmps78
 go_wp2_with (first|(go_at_call 109;refine xT2 (zal) H ?_;clear H;intro w H)|first|refine xLd H ?_|(refine xSt H ?_;clear H;intro w H;try dsimp only[List.set]at H)|(refine xNw H ?_;clear H;intro b w H)|(refine xAp H ?_;clear H;intro A' k' w H))
 refine xR2 H ?_
 exact⟨_,_,rfl,⟨_,rfl,rfl⟩,H.sub sba⟩
theorem zbT (hk:d.length=k) (h1:1<=k) (h8:k<=8):zi Tryz.prog 47 #[.pointer (some ⟨p,0,none⟩),.int .i64 k] [yz p d] fun v K=>∃q,v= .tuple #[.pointer (some ⟨q,0,none⟩),.int .i64 0]/\K=[z0g q p k,yz p d]:=by
 intro F0 w0 w R H
 try simp only[xNf]at H
 go_enter Tryz.func47,Tryz.ntmps47
 go_wp2_with (first|(go_at_call 78;revert H;refine zi.use (zhM hk h1 h8) pks ?_;rintro _ _ w ⟨s,rfl,rfl⟩ H;try simp only[xNf]at H)|first|refine xLd H ?_|(refine xSt H ?_;clear H;intro w H;try dsimp only[List.set]at H)|(refine xNw H ?_;clear H;intro b w H)|(refine xAp H ?_;clear H;intro A' k' w H))
 refine xR2 H ?_
 exact⟨_,_,rfl,⟨_,rfl,rfl⟩,z0g.mk _ (H.sub sba)⟩
theorem zbW (hk:d.length=k) (h8:k<=8):zi Tryz.prog 48 #[.pointer (some ⟨q,0,none⟩)] [yz p d,z0g q p k] fun v K=>v= .int .i64 0/\K=[yz p (zeV d k),z0g q p k]:=fun F0 w0 w R H=>by
 replace H:=z0g.open' (H.sub (K:=z0g q p k::yz p d::R) (.cons (.tail .head) .refl))
 obtain⟨s,H⟩:=H
 have H:=H.sub (K:=yz p d::z7 q 165 [.pointer (some ⟨s,0,none⟩),.int .i64 k]::z0Q s p k::R) (.cons (.tail (.tail .head)) .refl)
 have hq:=H.heap (b:=q) (.tail .head)
 have hs:=H.heap (b:=s) (.tail (.tail .head))
 obtain⟨F,⟨own,h1,h2⟩,h3,h4,h5⟩:=Sep.old (A:=yz p d) H
 obtain⟨G,⟨g1,_⟩,g0,g2⟩:=h4 _ _ .head
 obtain⟨G',⟨g1',_⟩,g0',g2'⟩:=h4 _ _ (.tail .head)
 have hqF:¬F q:=g2 q g1
 have hsF:¬F s:=g2' s g1'
 have hlq:=g0 q g1
 have hls:=g0' s g1'
 refine(zax (own:=fun k=>if own k=1 then 1 else if k=q\/k=s then 2 else 0) (κ:=1) (κs:=2) (d:=d) (q:=q) (p:=p) ⟨s,⟨hq, ?_⟩,⟨hs, ?_⟩⟩ (h2.recol (fun k hk=>by rw[if_pos hk])) hk h8 (fun k hk=>?_) (by omega) (by omega)).mono ?_
 ·simp only[or_true,true_or,if_true]
  rw[if_neg (fun h=>hqF (h1 _ h))]
 ·simp only[or_true,if_true]
  rw[if_neg (fun h=>hsF (h1 _ h))]
 ·show(if own k=1 then 1 else if k=q\/k=s then 2 else 0)=0
  rw[if_neg (fun h=>by have:=h3 k (h1 k h);omega),if_neg (by omega)]
 rintro e w' ⟨rfl,k1,k2⟩
 have hone:∀j,(if own j=1 then 1 else if j=q\/j=s then 2 else 0)=1->own j=1:=by
  intro j hj
  split at hj
  ·assumption
  ·split at hj<;>omega
 have H':=h5 [yz p (zeV d k)] w' k2.os k2.tape k2.output k2.size (fun k hk hF=>k2.block k hk (fun ho=>hF (h1 k (hone k ho)))) ⟨fun k=>own k=1,z4P ⟨own,fun _ h=>h,k1.recol (fun k hk=>hone k hk)⟩,fun k hk=>⟨Nat.lt_of_lt_of_le (h3 k (h1 k hk)) k2.size,.inl (h1 k hk)⟩⟩
 refine⟨_,_,rfl,⟨rfl,rfl⟩, ?_⟩
 have H2:=z0g.mk s (H'.sub (K:=z7 q 165 [.pointer (some ⟨s,0,none⟩),.int .i64 k]::z0Q s p k::yz p (zeV d k)::R) (.cons (.tail .head) (.cons (.tail .head) .refl)))
 exact H2.sub (.cons (.tail .head) .refl)
end
end
section
def zaO:SayM:=⟨6,0,-1,Rec.nil⟩
def zjz (l:LeaseM) (now frm:Int) (q:AskM):LeaseM×Int:=
 if q.kind=8 then z1D l now frm else if q.kind=9 then zbJ l now frm q.epoch q.node else if q.kind=10 then inL l frm q.epoch else(l,6)
def z2f (ls:List LeaseM) (now frm:Int) (q:AskM):List LeaseM×SayM:=
 if yb q=false\/(ls.length:Int)<=q.stripe then(ls,zaO)
 else match ls[q.stripe.toNat]? with
  |none=>(ls,zaO)
  |some l=>(ls.set q.stripe.toNat (zjz l now frm q).1,if(zjz l now frm q).2=6 then zaO else⟨(zjz l now frm q).2,(zjz l now frm q).1.ep,(zjz l now frm q).1.out,Rec.nil⟩)
section
variable {P:Program} {f:FuncId} {args:Array Value} {v:Value} {b:Nat} {t:TypeId} {l l':List Value}
theorem z8e (h:∀w,w.heap[b]?=some (.cells l.toArray t (0,0))->Calls P f args w fun e w'=>e= .returned v/\w'.heap[b]?=some (.cells l'.toArray t (0,0))/\Mod id (fun c=>c=b) w w'):zi P f args [z7 b t l] fun r K=>r=v/\K=[z7 b t l']:=fun F0 w0 w R H=>by
 obtain⟨F,⟨h1,h2⟩,h3,_,h5⟩:=Sep.old (A:=z7 b t l) H
 refine(h w h2).mono ?_
 rintro e w' ⟨rfl,k1,k2⟩
 exact⟨v,_,rfl,⟨rfl,rfl⟩,h5 [z7 b t l'] w' k2.os k2.tape k2.output k2.size (fun k hk hF=>k2.block k hk (fun ho=>hF (by rw[show k=b from ho];exact h1))) ⟨F,z4P ⟨h1,k1⟩,fun k hk=>⟨Nat.lt_of_lt_of_le (h3 k hk) k2.size,.inl hk⟩⟩⟩
end
section
variable {g K n:Nat} {t:TypeId} {ls:List LeaseM}
theorem z82 (i:Nat) (l:LeaseM) (now frm:Int) (hi:ls[i]?=some l):zi Tryz.prog 134 #[.pointer (some ⟨g,i*4,none⟩),.int .i64 now,.int .i64 frm] [z7 g t (zd LeaseM.cells ls)] fun v K=>v= .int .i64 (z1D l now frm).2/\K=[z7 g t (zd LeaseM.cells (ls.set i (z1D l now frm).1))]:=
 z8e fun w h=>(zce (own:=fun _=>0) (κ:=0) i l now frm ⟨h,rfl⟩ hi).mono fun _ _ ⟨h1,h2,h3⟩=>⟨h1,h2.1,h3⟩
theorem zcd (i:Nat) (l:LeaseM) (now frm:Int) (q:AskM) (hi:ls[i]?=some l):zi Tryz.prog 135 #[.pointer (some ⟨g,i*4,none⟩),.int .i64 now,.int .i64 frm,q.v] [z7 g t (zd LeaseM.cells ls)] fun v K=>v= .int .i64 (zbJ l now frm q.epoch q.node).2/\K=[z7 g t (zd LeaseM.cells (ls.set i (zbJ l now frm q.epoch q.node).1))]:=
 z8e fun w h=>(zgz (own:=fun _=>0) (κ:=0) i l now frm _ _ _ _ _ _ _ _ _ ⟨h,rfl⟩ hi).mono fun _ _ ⟨h1,h2,h3⟩=>⟨h1,h2.1,h3⟩
theorem zeU (i:Nat) (l:LeaseM) (frm:Int) (q:AskM) (hi:ls[i]?=some l):zi Tryz.prog 136 #[.pointer (some ⟨g,i*4,none⟩),.int .i64 frm,q.v] [z7 g t (zd LeaseM.cells ls)] fun v K=>v= .int .i64 (inL l frm q.epoch).2/\K=[z7 g t (zd LeaseM.cells (ls.set i (inL l frm q.epoch).1))]:=
 z8e fun w h=>(ziZ (own:=fun _=>0) (κ:=0) i l frm _ _ _ _ _ _ _ _ _ ⟨h,rfl⟩ hi).mono fun _ _ ⟨h1,h2,h3⟩=>⟨h1,h2.1,h3⟩
theorem z0b (W:World):(Instr.build 112 #[(0,.int .i64 6),(2,.int .i64 (-1))]).run Tryz.prog W= .ok (.agg zaO.cells.toArray) W:=by kernel_rfl
theorem z5Y (st e o:Int) (W:World):(Instr.build 112 #[(0,.int .i64 st),(1,.int .i64 e),(2,.int .i64 o)]).run Tryz.prog W= .ok (.agg (SayM.mk st e o Rec.nil).cells.toArray) W:=by kernel_rfl
variable {rest:List Value}
theorem zh2 (now frm:Int) (q:AskM) (h2:yb q=false):zi Tryz.prog 92 #[.pointer (some ⟨K,0,none⟩),.int .i64 now,.int .i64 frm,q.v] [z7 K 158 (.slice (some ⟨g,0,none⟩) n n::rest),z7 g t (zd LeaseM.cells ls)] fun v L=>v=zaO.v/\L=[z7 K 158 (.slice (some ⟨g,0,none⟩) n n::rest),z7 g t (zd LeaseM.cells ls)]:=by
 intro F0 w0 w R H
 try simp only[xNf]at H
 go_enter Tryz.func92,Tryz.ntmps92
 go_upto_region 2 with(first|(refine z8 (v:=.agg zaO.cells.toArray) (by rfl) (zb (t:=112) rfl ?_) ?_;(·simp only[List.map_cons,List.map_nil];exact z0b _))|first|refine xLd H ?_|(refine xEf H ?_;clear H;intro b A' w H))
 refine xRg [] (fun L=>[L]) H ?_
 clear H;intro w H
 have HS:=H
 refine xV 0 0 HS ?_
 refine xC 1 0 (jy q) H ?_
 clear H HS;intro w H HS;rw[h2]
 refine xO 2 0 HS ?_
 refine xO 3 0 HS ?_
 refine xN 4 0 HS ?_
 refine xN 5 0 HS ?_
 refine xN 6 0 HS ?_
 refine xN 7 0 HS ?_
 refine xN 8 0 HS ?_
 refine xN 9 0 HS ?_
 refine xN 10 0 HS ?_
 refine xN 11 0 HS ?_
 refine xO 12 0 HS ?_
 refine xD ?_
 go_wp2_with (first|refine xLd H ?_|(refine xEf H ?_;clear H;intro b A' w H))
 refine xR1 H ?_
 exact xF H
theorem zaR (now frm:Int) (q:AskM) (h2:yb q=true) (hb:(n:Int)<=q.stripe):zi Tryz.prog 92 #[.pointer (some ⟨K,0,none⟩),.int .i64 now,.int .i64 frm,q.v] [z7 K 158 (.slice (some ⟨g,0,none⟩) n n::rest),z7 g t (zd LeaseM.cells ls)] fun v L=>v=zaO.v/\L=[z7 K 158 (.slice (some ⟨g,0,none⟩) n n::rest),z7 g t (zd LeaseM.cells ls)]:=by
 intro F0 w0 w R H
 try simp only[xNf]at H
 have d4:decide ((n:Int)<=q.stripe)=true:=by simpa using hb
 go_enter Tryz.func92,Tryz.ntmps92
 go_upto_region 2 with(first|(refine z8 (v:=.agg zaO.cells.toArray) (by rfl) (zb (t:=112) rfl ?_) ?_;(·simp only[List.map_cons,List.map_nil];exact z0b _))|first|refine xLd H ?_|(refine xEf H ?_;clear H;intro b A' w H))
 refine xRg [] (fun L=>[L]) H ?_
 clear H;intro w H
 have HS:=H
 refine xV 0 0 HS ?_
 refine xC 1 0 (jy q) H ?_
 clear H HS;intro w H HS;rw[h2]
 refine xO 2 0 HS ?_
 refine xO 3 0 HS ?_
 refine xO 4 0 HS ?_
 refine xL 5 0 HS ?_
 refine xO 6 0 HS ?_
 refine xO 7 0 HS ?_
 refine xO 8 0 HS ?_
 refine xL 9 0 HS ?_
 refine xO 10 0 HS ?_
 refine xO 11 0 HS ?_
 refine xO 12 0 HS ?_
 refine xD ?_
 go_wp2_with (first|refine xLd H ?_|(refine xEf H ?_;clear H;intro b A' w H))
 refine xR1 H ?_
 exact xF H
end
end
end Go.Proofs.YtmfincpagnpkjaaGreat
