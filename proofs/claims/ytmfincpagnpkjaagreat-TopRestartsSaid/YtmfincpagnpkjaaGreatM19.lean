/- Part of the proof. -/
import Derived.Test.YtmfincpagnpkjaaGreatM17
set_option linter.all false
set_option maxRecDepth 100000
set_option maxHeartbeats 100000000
namespace Go.Proofs.YtmfincpagnpkjaaGreat
open Go.RowKit
section
def z2i (k:Nat) (d:List ByteArray) (q:AskM):List ByteArray×SayM×Bool:=
 if yb q=false\/7<q.kind\/(k:Int)<=q.stripe then(d,⟨6,0,0,Rec.nil⟩,true)
 else
  let r:=z2j d q.stripe.toNat
  let x:=z3N r q
  if x.1=r then(d,x.2,true)
  else if z4v q.stripe.toNat x.1=0 then(setD d q.stripe.toNat x.1,x.2,true)
  else(setD d q.stripe.toNat x.1,SayM.nil,false)
theorem jk (W:World):(Instr.build 112 #[]).run Tryz.prog W= .ok (.agg SayM.nil.cells.toArray) W:=by kernel_rfl
theorem yg {P:Program} {op:Oper} {a:Act} {w w':World} {o:BinOp} {t t2:TypeId} {x y:Operand} {v1 v2 v:Value} (ho:op.op= .binOp o t x y t2) (hx:a.eval x=v1) (hy:a.eval y=v2) (hr:(do eqGuard o t x y v1 v2;binOp o t v1 v2:Sem Value).run P w= .ok v w'):(execOp a.eval op).run P w= .ok (.value v) w':=by
 subst hx hy
 unfold execOp
 simp only[ho]
 rw[Sem.run_bind,hr]
 rfl
theorem z7O (a b:Rec) (x y:Operand) (W:World):(do eqGuard .neq 54 x y (.agg a.cells.toArray) (.agg b.cells.toArray);binOp .neq 54 (.agg a.cells.toArray) (.agg b.cells.toArray):Sem Value).run Tryz.prog W= .ok (.bool (!(a.same b))) W:=by
 obtain⟨u,f,de,ds,b1,o,ie,iq,m,s⟩:=a
 obtain⟨u',f',de',ds',b',o',ie',iq',m',s'⟩:=b
 simp only[Rec.cells,Rec.same]
 go_simp
 repeat' split
 all_goals simp_all
theorem z4S {q:AskM} (h:yb q=true):0<=q.stripe/\q.stripe<=7:=by
 unfold yb at h
 simp only[Bool.and_eq_true,yx,decide_eq_true_eq]at h
 exact h.1
theorem z6c {q:AskM} (h:yb q=true):q.block.size<=16:=by
 have e:∀b:ByteArray,b.toList=noB.toList->b.size<=16:=fun b hb=>by
  rw[z0N hb]
  decide
 unfold yb at h
 simp only[Bool.and_eq_true]at h
 have h:=h.2
 repeat' split at h
 all_goals first
  |(cases h;done)
  |(exact e _ (by simp only[rk1,rk2,rk3,zlL,rk8,rk5,rk6,rk9,Bool.and_eq_true,beq_iff_eq]at h;simp_all))
  |(have h2:(q.block.size:Int)=16:=(by simp only[rk4,rk7,Bool.and_eq_true,beq_iff_eq]at h;simp_all);omega)
theorem z6b {r:Rec} (h:jg r=true):r.block.size<=16/\r.staged.size<=16:=by
 unfold jg z0h at h
 simp only[Bool.and_eq_true]at h
 exact⟨z6Q h.2.1.1.2.1,z6Q h.2.1.1.2.2⟩
theorem z4t (d:List ByteArray) (n:Nat):(z2j d n).block.size<=16/\(z2j d n).staged.size<=16:=by
 have hn:Rec.nil.block.size<=16/\Rec.nil.staged.size<=16:=by decide
 unfold z2j jc
 split
 ·exact hn
 ·split
  ·exact hn
  ·split
   ·rename_i h
    have h:=h.1
    unfold z1B at h
    simp only[Bool.and_eq_true]at h
    exact z6b h.2
   ·exact hn
def OkB (B:Nat) (x:Rec×SayM):Prop:=x.1.block.size<=B/\x.1.staged.size<=B
theorem OkB.ite {B:Nat} {c:Prop} [Decidable c] {x y:Rec×SayM} (hx:OkB B x) (hy:OkB B y):OkB B (if c then x else y):=by
 split
 ·exact hx
 ·exact hy
theorem zd3 {r:Rec} {q:AskM} {B:Nat} (h1:r.block.size<=B) (h2:r.staged.size<=B) (h3:q.block.size<=B):OkB B (zb7 r q):=by
 have h0:noB.size<=B:=by simp[noB,ByteArray.size]
 unfold zb7 zco zmH zlM z4V z8c z7h
 repeat' (first|exact OkB.ite (by assumption) (by assumption)|apply OkB.ite)
 all_goals exact⟨by assumption,by assumption⟩
theorem zcH {r:Rec} {q:AskM} {B:Nat} (h1:r.block.size<=B) (h2:r.staged.size<=B) (h3:q.block.size<=B):(z3N r q).1.block.size<=B/\(z3N r q).1.staged.size<=B:=by
 unfold z3N
 split
 ·exact zd3 h1 h2 h3
 ·exact⟨h1,h2⟩
section
variable {n p k:Nat} {d:List ByteArray}
theorem zhQ (q:AskM) (h:yb q=false\/7<q.kind\/(k:Int)<=q.stripe):zi Tryz.prog 65 #[.pointer (some ⟨n,0,none⟩),q.v] [yz p d,z0g n p k] fun v K=>v= .tuple #[(SayM.mk 6 0 0 Rec.nil).v,.bool true]/\K=[yz p d,z0g n p k]:=by
 have hc:yb q=false\/yb q=true/\(decide ((7:Int)<q.kind)=true\/decide ((7:Int)<q.kind)=false/\decide ((k:Int)<=q.stripe)=true):=by
  by_cases hq:yb q=true
  ·refine .inr ⟨hq, ?_⟩
   simp only[decide_eq_true_eq,decide_eq_false_iff_not]
   rcases h with h|h|h
   ·rw[hq]at h
    cases h
   ·exact .inl h
   ·by_cases h7:7<q.kind
    ·exact .inl h7
    ·exact .inr ⟨h7,h⟩
  ·exact .inl (by simpa using hq)
 clear h
 intro F0 w0 w R H
 try simp only[xNf]at H
 replace H:=z0g.open' (H.sub (K:=z0g n p k::yz p d::R) (.cons (.tail .head) .refl))
 obtain⟨s,H⟩:=H
 rcases hc with h2|⟨h2,d3|⟨d3,d4⟩⟩
 ·go_enter Tryz.func65,Tryz.ntmps65
  go_upto_region 1 with(first|refine xLd H ?_|(refine xEf H ?_;clear H;intro b A' w H))
  refine xRg [] (fun L=>[L]) H ?_
  clear H;intro w H
  have HS:=H
  refine xV 0 0 HS ?_
  refine xC 1 0 (jy q) H ?_
  clear H HS;intro w H HS;rw[h2]
  refine xO 2 0 HS ?_
  refine xO 3 0 HS ?_
  refine xN 4 0 HS ?_
  refine xN 5 0 HS ?_
  refine xN 6 0 HS ?_
  refine xO 7 0 HS ?_
  refine xO 8 0 HS ?_
  refine xN 9 0 HS ?_
  refine xN 10 0 HS ?_
  refine xN 11 0 HS ?_
  refine xN 12 0 HS ?_
  refine xN 13 0 HS ?_
  refine xN 14 0 HS ?_
  refine xN 15 0 HS ?_
  refine xO 16 0 HS ?_
  refine xD ?_
  go_wp2_with (first|(refine z8 (v:=.agg (SayM.mk 6 0 0 Rec.nil).cells.toArray) (by rfl) (zb (t:=112) rfl ?_) ?_;(·simp only[List.map_cons,List.map_nil];exact z5l _))|first|refine xLd H ?_|(refine xEf H ?_;clear H;intro b A' w H))
  refine xR2 H ?_
  have H:=z0g.mk s (H.sub (K:=z7 n 165 [.pointer (some ⟨s,0,none⟩),.int .i64 k]::z0Q s p k::yz p d::R) sb)
  exact xF H
 ·go_enter Tryz.func65,Tryz.ntmps65
  go_upto_region 1 with(first|refine xLd H ?_|(refine xEf H ?_;clear H;intro b A' w H))
  refine xRg [] (fun L=>[L]) H ?_
  clear H;intro w H
  have HS:=H
  refine xV 0 0 HS ?_
  refine xC 1 0 (jy q) H ?_
  clear H HS;intro w H HS;rw[h2]
  refine xO 2 0 HS ?_
  refine xO 3 0 HS ?_
  refine xO 4 0 HS ?_
  refine xL 5 0 HS ?_
  refine xO 6 0 HS ?_
  refine xO 7 0 HS ?_
  refine xO 8 0 HS ?_
  refine xN 9 0 HS ?_
  refine xN 10 0 HS ?_
  refine xN 11 0 HS ?_
  refine xN 12 0 HS ?_
  refine xN 13 0 HS ?_
  refine xN 14 0 HS ?_
  refine xN 15 0 HS ?_
  refine xO 16 0 HS ?_
  refine xD ?_
  go_wp2_with (first|(refine z8 (v:=.agg (SayM.mk 6 0 0 Rec.nil).cells.toArray) (by rfl) (zb (t:=112) rfl ?_) ?_;(·simp only[List.map_cons,List.map_nil];exact z5l _))|first|refine xLd H ?_|(refine xEf H ?_;clear H;intro b A' w H))
  refine xR2 H ?_
  have H:=z0g.mk s (H.sub (K:=z7 n 165 [.pointer (some ⟨s,0,none⟩),.int .i64 k]::z0Q s p k::yz p d::R) sb)
  exact xF H
 ·go_enter Tryz.func65,Tryz.ntmps65
  go_upto_region 1 with(first|refine xLd H ?_|(refine xEf H ?_;clear H;intro b A' w H))
  refine xRg [] (fun L=>[L]) H ?_
  clear H;intro w H
  have HS:=H
  refine xV 0 0 HS ?_
  refine xC 1 0 (jy q) H ?_
  clear H HS;intro w H HS;rw[h2]
  refine xO 2 0 HS ?_
  refine xO 3 0 HS ?_
  refine xO 4 0 HS ?_
  refine xL 5 0 HS ?_
  refine xO 6 0 HS ?_
  refine xO 7 0 HS ?_
  refine xO 8 0 HS ?_
  refine xO 9 0 HS ?_
  refine xL 10 0 HS ?_
  refine xO 11 0 HS ?_
  refine xO 12 0 HS ?_
  refine xO 13 0 HS ?_
  refine xL 14 0 HS ?_
  refine xO 15 0 HS ?_
  refine xO 16 0 HS ?_
  refine xD ?_
  go_wp2_with (first|(refine z8 (v:=.agg (SayM.mk 6 0 0 Rec.nil).cells.toArray) (by rfl) (zb (t:=112) rfl ?_) ?_;(·simp only[List.map_cons,List.map_nil];exact z5l _))|first|refine xLd H ?_|(refine xEf H ?_;clear H;intro b A' w H))
  refine xR2 H ?_
  have H:=z0g.mk s (H.sub (K:=z7 n 165 [.pointer (some ⟨s,0,none⟩),.int .i64 k]::z0Q s p k::yz p d::R) sb)
  exact xF H
theorem zfM (m:Nat) (q:AskM) (hq:q.stripe=(m:Int)) (hk:d.length=k) (hm:m<k) (h2:yb q=true) (h3:q.kind<=7) (r':Rec) (a:SayM) (he:z3N (z2j d m) q=(r',a)):
  zi Tryz.prog 65 #[.pointer (some ⟨n,0,none⟩),q.v] [yz p d,z0g n p k] fun v K=>
   v=(if r'=z2j d m then .tuple #[a.v,.bool true]else if z4v m r'=0 then .tuple #[a.v,.bool true]else .tuple #[SayM.nil.v,.bool false])/\K=[yz p (if r'=z2j d m then d else setD d m r'),z0g n p k]:=by
 have hb:=z4t d m
 have hb':=zcH (B:=16) hb.1 hb.2 (z6c h2)
 rw[he]at hb'
 have hb1:r'.block.size<=16:=hb'.1
 have hb2:r'.staged.size<=16:=hb'.2
 have hT:=zgY (z2j d m) q (by omega) (by omega)
 rw[he]at hT
 have hG:=fun(s:Nat)=>zhP (s:=s) (p:=p) m hk hm
 have hS:=fun(s:Nat)=>zhG (s:=s) (p:=p) m r' hk hm (Nat.le_trans hb1 (by omega)) (Nat.le_trans hb2 (by omega))
 obtain⟨r,hr⟩:=xG (z2j d m)
 rw[hr]at hT hG⊢
 obtain⟨e0,hE⟩:=xG (z4v m r')
 rw[hE]at hS⊢
 obtain⟨d',hd'⟩:∃d',setD d m r'=d':=⟨_,rfl⟩
 rw[hd']at hS⊢
 have HG:=Lib.hid hG
 have HS0:=Lib.hid hS
 have HT:=Lib.hid hT
 have d3:decide ((7:Int)<q.kind)=false:=by simp;omega
 have d4:decide ((k:Int)<=(m:Int))=false:=by simp;omega
 have d4':decide (k<=m)=false:=by simp;omega
 clear hG hS hT hb hb' hb1 hb2 he hE hd' hr h3
 obtain⟨qk,qst,qe,qs,qm,qn,oe,oq,qb⟩:=q
 simp only at hq
 subst hq
 intro F0 w0 w R H
 try simp only[xNf]at H
 replace H:=z0g.open' (H.sub (K:=z0g n p k::yz p d::R) (.cons (.tail .head) .refl))
 obtain⟨s,H⟩:=H
 by_cases hsame:r'=r
 ·subst hsame
  rw[if_pos rfl,if_pos rfl]
  have hn:r'.same r'=true:=Rec.same_iff.2 rfl
  go_enter Tryz.func65,Tryz.ntmps65
  go_upto_region 1 with(first|refine xLd H ?_|(refine xEf H ?_;clear H;intro b A' w H))
  refine xRg [] (fun L=>[L]) H ?_
  clear H;intro w H
  have HS:=H
  refine xV 0 0 HS ?_
  refine xC 1 0 (jy _) H ?_
  clear H HS;intro w H HS;rw[h2]
  refine xO 2 0 HS ?_
  refine xO 3 0 HS ?_
  refine xO 4 0 HS ?_
  refine xL 5 0 HS ?_
  refine xO 6 0 HS ?_
  refine xO 7 0 HS ?_
  refine xO 8 0 HS ?_
  refine xO 9 0 HS ?_
  refine xL 10 0 HS ?_
  refine xO 11 0 HS ?_
  refine xO 12 0 HS ?_
  refine xO 13 0 HS ?_
  refine xL 14 0 HS ?_
  refine xO 15 0 HS ?_
  refine xO 16 0 HS ?_
  refine xD ?_
  go_upto_region 3 with(first|refine xLd H ?_|(refine xEf H ?_;clear H;intro b A' w H))
  refine xRg [11] (fun L=>[L,[]]) H ?_
  clear H;intro w H
  have HS:=H
  refine xO 0 0 HS ?_
  refine xO 1 0 HS ?_
  refine xO 2 0 HS ?_
  refine xL 3 0 HS ?_ (hin:=(.stop (n:=13) hd (by kernel_rfl)))
  refine xO 4 0 HS ?_
  refine xL 5 0 HS ?_ (hin:=(.stop (n:=13) hd (by kernel_rfl)))
  clear HS
  refine tk2 6 10 0 0 (fun K' hK=>?_) (fun K' hK=>?_)
  go_simp;revert H;refine zi.use (HG.out s) pks ?_;rintro _ _ w ⟨rfl,rfl⟩ H;try simp only[xNf]at H
  refine hK _ _ (H.sub sbn) (fun HS=>?_)
  clear hK K'
  try simp only[xPt]
  refine xO 7 0 HS ?_
  refine xO 8 0 HS ?_
  refine xO 9 0 HS ?_
  refine xM 10 0 H ?_
  clear H HS;intro b _ w H HS
  refine xM 11 1 H ?_
  clear H HS;intro _ _ w H HS
  refine xO 12 1 HS ?_
  refine xD ?_
  rotate_left
  (refine wEf H ?_;clear H;intro b _ w H)
  refine hK _ _ (H.sub sbn) (fun HS=>?_)
  clear hK K'
  try simp only[xPt]
  refine xC 6 0 (HG.out s) H ?_
  clear H HS;intro w H HS
  refine xO 7 0 HS ?_
  refine xO 8 0 HS ?_
  refine xO 9 0 HS ?_
  refine xM 11 1 H ?_
  clear H HS;intro _ _ w H HS
  refine xO 12 1 HS ?_
  refine xD ?_
  rotate_left
  all_goals
   go_upto_region 7 with(first|(go_at_call 95;revert H;refine zi.use HT.out pks ?_;rintro _ _ w ⟨rfl,rfl⟩ H;try simp only[xNf]at H;unfold zbF)|first|refine xLd H ?_|(refine xEf H ?_;clear H;intro b A' w H))
   refine xRg [] (fun L=>[L]) H ?_
   clear H;intro w H
   have HS:=H
   refine xV 0 0 HS ?_
   refine xV 1 0 HS ?_
   refine xO 2 0 HS ?_ (v:=(.bool false)) (hy:=by(intro W;have hh:=z7O r' r' (.tmp 47) (.tmp 48) W;rw[hn]at hh;exact yg rfl rfl rfl hh))
   refine xO 3 0 HS ?_
   refine xN 4 0 HS ?_
   refine xN 5 0 HS ?_
   refine xN 6 0 HS ?_
   refine xN 7 0 HS ?_
   refine xN 8 0 HS ?_
   refine xN 9 0 HS ?_
   refine xN 10 0 HS ?_
   refine xN 11 0 HS ?_
   refine xN 12 0 HS ?_
   refine xO 13 0 HS ?_
   refine xD ?_
   go_wp2_with (first|refine xLd H ?_|(refine xEf H ?_;clear H;intro b A' w H))
   refine xR2 H ?_
   have H:=z0g.mk s (H.sub (K:=z7 n 165 [.pointer (some ⟨s,0,none⟩),.int .i64 k]::z0Q s p k::yz p d::R) sb)
   exact xF H
 ·rw[if_neg hsame,if_neg hsame]
  have hn:r'.same r=false:=by
   cases h:r'.same r
   ·rfl
   ·exact absurd (Rec.same_iff.1 h) hsame
  by_cases he0:e0=0
  ·subst he0
   rw[if_pos rfl]
   go_enter Tryz.func65,Tryz.ntmps65
   go_upto_region 1 with(first|refine xLd H ?_|(refine xEf H ?_;clear H;intro b A' w H))
   refine xRg [] (fun L=>[L]) H ?_
   clear H;intro w H
   have HS:=H
   refine xV 0 0 HS ?_
   refine xC 1 0 (jy _) H ?_
   clear H HS;intro w H HS;rw[h2]
   refine xO 2 0 HS ?_
   refine xO 3 0 HS ?_
   refine xO 4 0 HS ?_
   refine xL 5 0 HS ?_
   refine xO 6 0 HS ?_
   refine xO 7 0 HS ?_
   refine xO 8 0 HS ?_
   refine xO 9 0 HS ?_
   refine xL 10 0 HS ?_
   refine xO 11 0 HS ?_
   refine xO 12 0 HS ?_
   refine xO 13 0 HS ?_
   refine xL 14 0 HS ?_
   refine xO 15 0 HS ?_
   refine xO 16 0 HS ?_
   refine xD ?_
   go_upto_region 3 with(first|refine xLd H ?_|(refine xEf H ?_;clear H;intro b A' w H))
   refine xRg [11] (fun L=>[L,[]]) H ?_
   clear H;intro w H
   have HS:=H
   refine xO 0 0 HS ?_
   refine xO 1 0 HS ?_
   refine xO 2 0 HS ?_
   refine xL 3 0 HS ?_ (hin:=(.stop (n:=13) hd (by kernel_rfl)))
   refine xO 4 0 HS ?_
   refine xL 5 0 HS ?_ (hin:=(.stop (n:=13) hd (by kernel_rfl)))
   clear HS
   refine tk2 6 10 0 0 (fun K' hK=>?_) (fun K' hK=>?_)
   go_simp;revert H;refine zi.use (HG.out s) pks ?_;rintro _ _ w ⟨rfl,rfl⟩ H;try simp only[xNf]at H
   refine hK _ _ (H.sub sbn) (fun HS=>?_)
   clear hK K'
   try simp only[xPt]
   refine xO 7 0 HS ?_
   refine xO 8 0 HS ?_
   refine xO 9 0 HS ?_
   refine xM 10 0 H ?_
   clear H HS;intro b _ w H HS
   refine xM 11 1 H ?_
   clear H HS;intro _ _ w H HS
   refine xO 12 1 HS ?_
   refine xD ?_
   rotate_left
   (refine wEf H ?_;clear H;intro b _ w H)
   refine hK _ _ (H.sub sbn) (fun HS=>?_)
   clear hK K'
   try simp only[xPt]
   refine xC 6 0 (HG.out s) H ?_
   clear H HS;intro w H HS
   refine xO 7 0 HS ?_
   refine xO 8 0 HS ?_
   refine xO 9 0 HS ?_
   refine xM 11 1 H ?_
   clear H HS;intro _ _ w H HS
   refine xO 12 1 HS ?_
   refine xD ?_
   rotate_left
   all_goals
    go_upto_region 7 with(first|(go_at_call 95;revert H;refine zi.use HT.out pks ?_;rintro _ _ w ⟨rfl,rfl⟩ H;try simp only[xNf]at H;unfold zbF)|first|refine xLd H ?_|(refine xEf H ?_;clear H;intro b A' w H))
    refine xRg [11] (fun L=>[L,[]]) H ?_
    clear H;intro w H
    have HS:=H
    refine xV 0 0 HS ?_ (hin:=(.stop (n:=14) hdV (by kernel_rfl)))
    refine xV 1 0 HS ?_ (hin:=(.stop (n:=14) hdV (by kernel_rfl)))
    refine xO 2 0 HS ?_ (v:=(.bool true)) (hy:=by(intro W;have hh:=z7O r' r (.tmp 47) (.tmp 48) W;rw[hn]at hh;exact yg rfl rfl rfl hh))
    refine xO 3 0 HS ?_
    refine xO 4 0 HS ?_
    refine xO 5 0 HS ?_
    refine xO 6 0 HS ?_
    refine xL 7 0 HS ?_ (hin:=(.stop (n:=14) hd (by kernel_rfl)))
    refine xO 8 0 HS ?_
    refine xL 9 0 HS ?_ (hin:=(.stop (n:=14) hd (by kernel_rfl)))
    refine xV 10 0 HS ?_ (hin:=(.stop (n:=14) hdV (by kernel_rfl)))
    refine xC 11 1 (HS0.out s) H ?_
    clear H HS;intro w H HS
    refine xO 12 1 HS ?_
    refine xO 13 1 HS ?_
    refine xD ?_
    go_wp2_with (first|refine xLd H ?_|(refine xEf H ?_;clear H;intro b A' w H))
    refine xR2 H ?_
    have H:=z0g.mk s (H.sub (K:=z7 n 165 [.pointer (some ⟨s,0,none⟩),.int .i64 k]::z0Q s p k::yz p d'::R) sb)
    exact xF H
  ·rw[if_neg he0]
   have hne:(e0 !=0)=true:=by simpa using he0
   go_enter Tryz.func65,Tryz.ntmps65
   go_upto_region 1 with(first|refine xLd H ?_|(refine xEf H ?_;clear H;intro b A' w H))
   refine xRg [] (fun L=>[L]) H ?_
   clear H;intro w H
   have HS:=H
   refine xV 0 0 HS ?_
   refine xC 1 0 (jy _) H ?_
   clear H HS;intro w H HS;rw[h2]
   refine xO 2 0 HS ?_
   refine xO 3 0 HS ?_
   refine xO 4 0 HS ?_
   refine xL 5 0 HS ?_
   refine xO 6 0 HS ?_
   refine xO 7 0 HS ?_
   refine xO 8 0 HS ?_
   refine xO 9 0 HS ?_
   refine xL 10 0 HS ?_
   refine xO 11 0 HS ?_
   refine xO 12 0 HS ?_
   refine xO 13 0 HS ?_
   refine xL 14 0 HS ?_
   refine xO 15 0 HS ?_
   refine xO 16 0 HS ?_
   refine xD ?_
   go_upto_region 3 with(first|refine xLd H ?_|(refine xEf H ?_;clear H;intro b A' w H))
   refine xRg [11] (fun L=>[L,[]]) H ?_
   clear H;intro w H
   have HS:=H
   refine xO 0 0 HS ?_
   refine xO 1 0 HS ?_
   refine xO 2 0 HS ?_
   refine xL 3 0 HS ?_ (hin:=(.stop (n:=13) hd (by kernel_rfl)))
   refine xO 4 0 HS ?_
   refine xL 5 0 HS ?_ (hin:=(.stop (n:=13) hd (by kernel_rfl)))
   clear HS
   refine tk2 6 10 0 0 (fun K' hK=>?_) (fun K' hK=>?_)
   go_simp;revert H;refine zi.use (HG.out s) pks ?_;rintro _ _ w ⟨rfl,rfl⟩ H;try simp only[xNf]at H
   refine hK _ _ (H.sub sbn) (fun HS=>?_)
   clear hK K'
   try simp only[xPt]
   refine xO 7 0 HS ?_
   refine xO 8 0 HS ?_
   refine xO 9 0 HS ?_
   refine xM 10 0 H ?_
   clear H HS;intro b _ w H HS
   refine xM 11 1 H ?_
   clear H HS;intro _ _ w H HS
   refine xO 12 1 HS ?_
   refine xD ?_
   rotate_left
   (refine wEf H ?_;clear H;intro b _ w H)
   refine hK _ _ (H.sub sbn) (fun HS=>?_)
   clear hK K'
   try simp only[xPt]
   refine xC 6 0 (HG.out s) H ?_
   clear H HS;intro w H HS
   refine xO 7 0 HS ?_
   refine xO 8 0 HS ?_
   refine xO 9 0 HS ?_
   refine xM 11 1 H ?_
   clear H HS;intro _ _ w H HS
   refine xO 12 1 HS ?_
   refine xD ?_
   rotate_left
   all_goals
    go_upto_region 7 with(first|(go_at_call 95;revert H;refine zi.use HT.out pks ?_;rintro _ _ w ⟨rfl,rfl⟩ H;try simp only[xNf]at H;unfold zbF)|first|refine xLd H ?_|(refine xEf H ?_;clear H;intro b A' w H))
    refine xRg [11] (fun L=>[L,[]]) H ?_
    clear H;intro w H
    have HS:=H
    refine xV 0 0 HS ?_ (hin:=(.stop (n:=14) hdV (by kernel_rfl)))
    refine xV 1 0 HS ?_ (hin:=(.stop (n:=14) hdV (by kernel_rfl)))
    refine xO 2 0 HS ?_ (v:=(.bool true)) (hy:=by(intro W;have hh:=z7O r' r (.tmp 47) (.tmp 48) W;rw[hn]at hh;exact yg rfl rfl rfl hh))
    refine xO 3 0 HS ?_
    refine xO 4 0 HS ?_
    refine xO 5 0 HS ?_
    refine xO 6 0 HS ?_
    refine xL 7 0 HS ?_ (hin:=(.stop (n:=14) hd (by kernel_rfl)))
    refine xO 8 0 HS ?_
    refine xL 9 0 HS ?_ (hin:=(.stop (n:=14) hd (by kernel_rfl)))
    refine xV 10 0 HS ?_ (hin:=(.stop (n:=14) hdV (by kernel_rfl)))
    refine xC 11 1 (HS0.out s) H ?_
    clear H HS;intro w H HS
    refine xO 12 1 HS ?_
    refine xO 13 1 HS ?_
    refine xD ?_
    go_wp2_with (first|(refine z8 (v:=.agg SayM.nil.cells.toArray) (by rfl) (zb (t:=112) rfl ?_) ?_;(·simp only[List.map_cons,List.map_nil];exact jk _))|first|refine xLd H ?_|(refine xEf H ?_;clear H;intro b A' w H))
    refine xR2 H ?_
    have H:=z0g.mk s (H.sub (K:=z7 n 165 [.pointer (some ⟨s,0,none⟩),.int .i64 k]::z0Q s p k::yz p d'::R) sb)
    exact xF H
end
end
section
section
variable {n p k:Nat} {d:List ByteArray}
theorem zfL (q:AskM) (hk:d.length=k):zi Tryz.prog 65 #[.pointer (some ⟨n,0,none⟩),q.v] [yz p d,z0g n p k] fun v K=>v= .tuple #[(z2i k d q).2.1.v,.bool (z2i k d q).2.2]/\K=[yz p (z2i k d q).1,z0g n p k]:=by
 unfold z2i
 by_cases h:yb q=false\/7<q.kind\/(k:Int)<=q.stripe
 ·rw[if_pos h]
  exact zhQ q h
 ·rw[if_neg h]
  have h2:yb q=true:=by
   cases hq:yb q
   ·exact absurd (.inl hq) h
   ·rfl
  have hs:=z4S h2
  have h3:¬(k:Int)<=q.stripe:=fun x=>h (.inr (.inr x))
  have h4:¬7<q.kind:=fun x=>h (.inr (.inl x))
  obtain⟨x,hx⟩:=xG (z3N (z2j d q.stripe.toNat) q)
  have:=zfM (n:=n) (p:=p) q.stripe.toNat q (by omega) hk (by omega) h2 (by omega) x.1 x.2 hx
  simp only[hx]
  split
  ·rename_i e
   rw[if_pos e,if_pos e]at this
   exact this
  ·rename_i e
   rw[if_neg e,if_neg e]at this
   split
   ·rename_i e2
    rw[if_pos e2]at this
    exact this
   ·rename_i e2
    rw[if_neg e2]at this
    exact this
end
end
end Go.Proofs.YtmfincpagnpkjaaGreat
