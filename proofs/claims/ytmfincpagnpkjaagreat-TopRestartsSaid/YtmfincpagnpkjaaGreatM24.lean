/- Part of the proof. -/
import Derived.Deep.Cut
import Derived.Test.YtmfincpagnpkjaaGreatM08
import Derived.Test.YtmfincpagnpkjaaGreatM11
set_option linter.all false
set_option maxRecDepth 100000
set_option maxHeartbeats 100000000
namespace Go.Proofs.YtmfincpagnpkjaaGreat
open Go.RowKit
section
attribute [local go_sem] Oper.semAt_some
def zn4 (P:Program) (n l:Nat) (args:Array Value) (pre:List Assn) (Q:Bool->List Assn->Prop):Prop:=
 ∀(F0:Nat->Prop) (w0 W:World) (R:List Assn),Sep F0 w0 W (pre++R)->YieldAt Fence.wide n P l args W fun e W'=>∃t K,e= .returned (.bool t)/\Q t K/\Sep F0 w0 W' (K++R)
def zn6 {α:Type} (P:Program) (gf:Nat) (lb:Array Value) (encs:α->Array Value) (G:List α->α->Prop) (B Bx:List α->List Assn) (S Sp:List α->Prop):Prop:=
 ∀(n l:Nat) (X Y:List Assn),(∀pre x,G pre x->zn4 P n l (encs x) (B pre++X) fun t K=>(t=true/\K=B (pre++[x])++X)\/(t=false/\K=Bx (pre++[x])++Y))->
 ∀(F0:Nat->Prop) (w0 W:World) (R:List Assn),Sep F0 w0 W (B []++(X++R))->CallsIn Fence.wide (n+1) P gf (#[.func (.yield l) #[] #[]]++lb) W fun e W'=>
  (∃v,e= .returned v)/\((∃xs,S xs/\Sep F0 w0 W' (B xs++(X++R)))\/∃xs,Sp xs/\Sep F0 w0 W' (Bx xs++(Y++R)))
def zmE (F0:Nat->Prop) (w0:World) (c:Code) (K Kx:List Assn):Exit->Act->World->Prop
 | .normal,_,W=>Sep F0 w0 W K
 | .ret,_,W=>c= .ret/\Sep F0 w0 W Kx
 | .exit id,_,W=>c= .exit id/\Sep F0 w0 W Kx
 | .goto t,_,W=>c= .goto t/\Sep F0 w0 W Kx
 | .panic _,_,_=>False
 | .outgrown,_,_=>False
section
variable {P:Program} {Q:Exit->Act->World->Prop} {a:Act} {w w0:World} {F0:Nat->Prop} {L R:List Assn} {A:Assn}
theorem z11:∀{M L:List Assn},Pick A (M++A::L) (M++L)
 |[],_=>.head
 |_::_,_=>.tail z11
theorem zhD {M L:List Assn}:Sub (A::(M++L)) (M++A::L):=.cons z11 .refl
theorem z7d:∀{M L:List Assn},Sub (M++A::L) (A::(M++L))
 |[],_=>.refl
 |_::_,_=>.cons (.tail .head) z7d
theorem zcF {p d id n l:Nat} {ty:TypeId} {pos:String} {tm:Array Value} {v:Value} {K:Act->World->Prop} (hv:(Act.mk tm []).eval (.tmp p)=v) (hK:K ⟨tm.setIfInBounds d v,[]⟩ w):
  (Code.region id #[{dst:=some d,op:=.assign (.tmp p),type:=ty,pos:=pos,after:=#[],guard:=none}] false).wpIn (Fence.wide.inRound l) n P (Exit.then K (fun _ _ _=>False)) ⟨tm,[]⟩ w:=by
 gi_wp2
 have hv':tm[p]?.getD undef=v:=by simpa [Act.eval]using hv
 rw[hv']
 exact hK
theorem z1c {α:Type} {g:Operand} {p d id:Nat} {ty:TypeId} {pos:String} {body c:Code} {gf:Nat} {lb:Array Value} {e:α->Value} {G:List α->α->Prop} {B Bx:List α->List Assn} {S Sp:List α->Prop} {tm:Array Value}
  (hg:(Act.mk tm []).eval g= .func (.func gf) #[] lb) (eg:∀args w,(callFunc gf args).run P w= .ok (.enter gf args) w) (hp:p<tm.size) (n:Nat)
  (hit:zn6 P gf lb (fun x=>#[e x]) G B Bx S Sp)
  (hbody:∀(l:Nat) (pre:List α) (x:α) (F0:Nat->Prop) (w0 W:World) (R:List Assn),G pre x->Sep F0 w0 W (B pre++R)->
   body.wpIn (Fence.wide.inRound l) n P (zmE F0 w0 c (B (pre++[x])++R) (Bx (pre++[x])++R)) ⟨(tm.setIfInBounds p (e x)).setIfInBounds d (e x),[]⟩ W)
  (hdone:∀(D:Nat) (xs:List α) (W:World),S xs->Sep F0 w0 W (z4J D (.deferred (some []))::(B xs++R))->Q .normal ⟨tm,[{target:=.collected D,args:=#[]}]⟩ W)
  (hstop:∀(D:Nat) (xs:List α) (W:World),Sp xs->Sep F0 w0 W (z4J D (.deferred (some []))::(Bx xs++R))->c.wpIn Fence.wide (n+1+1) P Q ⟨tm,[{target:=.collected D,args:=#[]}]⟩ W)
  (H:Sep F0 w0 w (B []++R)):(Code.rangeFunc g #[p] (Code.region id #[{dst:=some d,op:=.assign (.tmp p),type:=ty,pos:=pos,after:=#[],guard:=none}] false) body).wpIn Fence.wide (n+1+1) P Q ⟨tm,[]⟩ w:=by
 refine wpIn_rangeFunc ?_
 intro fn hfn
 obtain⟨rec,hrec⟩:∃rec:LoopState->Option Code->Loop,rec=fun st pe=>{state:=st,pending:=pe,fn,tmps:=tm,params:=#[p],assign:=Code.region id #[{dst:=some d,op:=.assign (.tmp p),type:=ty,pos:=pos,after:=#[],guard:=none}] false,body,defers:=w.heap.size}:=⟨_,rfl⟩
 have H1:=(H.new (.deferred (some []))).new (.loop (rec .ready none))
 rw[World.size_alloc]at H1
 obtain⟨D,hD⟩:=xG (w.heap.size)
 obtain⟨W1,hW1⟩:=xG ((w.alloc (.deferred (some []))).alloc (.loop (rec .ready none)))
 rw[hW1,hD]at H1
 refine⟨D+1,[{target:=.collected D,args:=#[]}],W1,{target:=.fn (.func gf) lb,args:=#[.func (.yield (D+1)) #[] #[]]},W1,gf,
  #[.func (.yield (D+1)) #[] #[]]++lb,W1, ?_, ?_, ?_, ?_,fun h=>by simp[Fence.wide]at h, ?_⟩
 ·rw[<-hW1,hrec,<-hD];exact run_enterLoop_outer _ _ _ _ _
 ·simp only[resolve,hg]
  simp[go_sem]
 ·intro f' hf';trivial
 ·simp[invoke,go_sem,eg]
 rw[hD]at hrec
 have H2:Sep F0 w0 W1 (B []++([z4J (D+1) (.loop (rec .ready none))]++(z4J D (.deferred (some []))::R))):=(H1.sub (.cons .head z7d)).sub z7d
 refine(hit n (D+1) [z4J (D+1) (.loop (rec .ready none))] [z4J (D+1) (.loop (rec .done (some c)))] ?_ F0 w0 W1 _ H2).mono ?_
 ·intro pre x hG F0 w0 W R HW
  have HA:Sep F0 w0 W (B pre++(z4J (D+1) (.loop (rec .ready none))::R)):=by simpa using HW
  have hl:=HA.heapO (b:=D+1) z11
  have hy:=run_yield (P:=P) (args:=#[e x]) hl (by rw[hrec];rfl)
  rw[hrec]at hy
  refine⟨fn,_,_,body,hy,roundIn_of_wpIn trivial ?_⟩
  have hv:(Act.mk (tm.setIfInBounds p (e x)) []).eval (.tmp p)=e x:=by simp[Act.eval,hp]
  have hf:(#[p].zip #[e x]).foldl (fun t (x:Nat×Value)=>t.setIfInBounds x.1 x.2) tm=tm.setIfInBounds p (e x):=by simp
  show Code.wpIn _ _ _ _ _ ⟨(#[p].zip #[e x]).foldl (fun t (x:Nat×Value)=>t.setIfInBounds x.1 x.2) tm,[]⟩ W
  rw[hf]
  refine zcF hv ?_
  refine⟨_,run_beginRound hl (by rw[hrec]), ?_⟩
  have HB:=(HA.put z11 (.loop {rec .ready none with state:=.busy})).sub (K:=B pre++(z4J (D+1) (.loop {rec .ready none with state:=.busy})::R)) z7d
  refine wpIn_mono (hbody (D+1) pre x F0 w0 _ _ hG HB) ?_
  have fin:∀(jump:Option Code) (K:List Assn) (W3:World),Sep F0 w0 W3 (K++(z4J (D+1) (.loop {rec .ready none with state:=.busy})::R))->
    (Instr.endRound (D+1) jump).run P W3= .ok (.bool jump.isNone) (W3.putObj (D+1) (.loop (rec (if jump.isNone then .ready else .done) jump)))/\
    Sep F0 w0 (W3.putObj (D+1) (.loop (rec (if jump.isNone then .ready else .done) jump))) (K++(z4J (D+1) (.loop (rec (if jump.isNone then .ready else .done) jump))::R)):=fun jump K W3 H3=>by
   have hl3:=H3.heapO (b:=D+1) z11
   have:=run_endRound (P:=P) jump hl3
   rw[hrec]at this⊢
   refine⟨this, ?_⟩
   rw[hrec]at H3
   exact(H3.put z11 _).sub z7d
  have app:∀(K:List Assn) (o:Loop),(K++[z4J (D+1) (.loop o)])++R=K++(z4J (D+1) (.loop o)::R):=fun K o=>by simp
  rintro e3 a3 W3 hp3
  cases e3 with
  |normal=>
   obtain⟨hr,H4⟩:=fin none _ W3 hp3
   exact⟨_,_,hr,true,_,rfl,.inl ⟨rfl,rfl⟩,by rw[app];exact H4⟩
  |ret=>
   obtain⟨rfl,hp3⟩:=hp3
   obtain⟨hr,H4⟩:=fin (some .ret) _ W3 hp3
   exact⟨_,_,hr,false,_,rfl,.inr ⟨rfl,rfl⟩,by rw[app];exact H4⟩
  |exit id=>
   obtain⟨rfl,hp3⟩:=hp3
   obtain⟨hr,H4⟩:=fin (some (.exit id)) _ W3 hp3
   exact⟨_,_,hr,false,_,rfl,.inr ⟨rfl,rfl⟩,by rw[app];exact H4⟩
  |goto t=>
   obtain⟨rfl,hp3⟩:=hp3
   obtain⟨hr,H4⟩:=fin (some (.goto t)) _ W3 hp3
   exact⟨_,_,hr,false,_,rfl,.inr ⟨rfl,rfl⟩,by rw[app];exact H4⟩
  |panic ch=>exact hp3.elim
  |outgrown=>exact hp3.elim
 ·rintro e W2 ⟨⟨v,rfl⟩,(⟨xs,hS,H3⟩|⟨xs,hSp,H3⟩)⟩
  ·have H3:Sep F0 w0 W2 (B xs++(z4J (D+1) (.loop (rec .ready none))::(z4J D (.deferred (some []))::R))):=H3
   have hl:=H3.heapO (b:=D+1) z11
   refine⟨none,_,by have:=run_endLoop (P:=P) hl (by rw[hrec];simp);rw[hrec]at this;exact this,hdone D xs _ hS ?_⟩
   exact(H3.put z11 _).sub (.skip zhD)
  ·have H3:Sep F0 w0 W2 (Bx xs++(z4J (D+1) (.loop (rec .done (some c)))::(z4J D (.deferred (some []))::R))):=H3
   have hl:=H3.heapO (b:=D+1) z11
   refine⟨some c,_,by have:=run_endLoop (P:=P) hl (by rw[hrec];simp);rw[hrec]at this;exact this,hstop D xs _ hSp ?_⟩
   exact(H3.put z11 _).sub (.skip zhD)
theorem z2X {F:Fence} {n D:Nat} {fn:Func} {tm:Array Value} {v:Value} {R':Ending->World->Prop} (H:Sep F0 w0 w (z4J D (.deferred (some []))::L))
  (h:∀w',Sep F0 w0 w' L->(results fn tm).run P w'= .ok v w'/\R' (.returned v) w'):bodyPostM F n P fn R' .ret ⟨tm,[{target:=.collected D,args:=#[]}]⟩ w:=by
 have hK:=H.heapO (b:=D) .head
 obtain⟨h1,h2⟩:=h _ ((H.put .head (.deferred none)).sub (.skip .refl))
 exact⟨by simp,.inl ⟨_,_,rfl,run_takeDeferred hK,⟨v,h1,h2⟩⟩⟩
theorem z21 {ops:Array Oper} {n l:Nat} (hQ:¬LetsOut Q):∀(rest:List Oper),(∀o∈rest,∀c,o.op≠ .defer c)->∀(a:Act) (w:World),wpList P ops Q rest a w->wpListIn (Fence.wide.inRound l) n P ops Q rest a w
 |[],_,_,_,h=>h
 |o::rest,hr,a,w,h=>by
  unfold wpList at h
  unfold wpListIn
  split at h
  ·rename_i hw
   simp only[hw,if_true]
   exact Oper.wpIn_mono (fun a w h=>z21 hQ rest (fun o ho=>hr o (List.mem_cons_of_mem _ ho)) a w h) (z8X (hr o (List.mem_cons_self ..)) (h.resolve_right fun h=>hQ h.2))
  ·rename_i hw
   simp only[hw]
   exact⟨fun _ _=>trivial,z21 hQ rest (fun o ho=>hr o (List.mem_cons_of_mem _ ho)) _ _ h⟩
theorem z4L {l:List Oper} {id n k:Nat} (hd:z7N l.toArray=true) (hQ:¬LetsOut Q) (h:wpList P l.toArray Q l a w):(Code.region id l.toArray false).wpIn (Fence.wide.inRound k) n P Q a w:=
 wpIn_region_lit (z21 hQ l (fun o ho c hc=>by
  obtain⟨i,hi⟩:=List.getElem?_of_mem ho
  exact z9n hd (i:=i) (by simpa using hi) c hc) a w h)
theorem z1h {ops:Array Oper} {id n k:Nat} (es:List Nat) (Kf:List Assn->List (List Assn)) (hm:P.follows .mixedOrders=true) (hd:z7N ops=true) (hQ:¬LetsOut Q)
  (h:∀w,Sep F0 w0 w L->yp P .any ops Q (yf F0 w0 es (Kf L)) ops.size (Array.replicate ops.size false) a w):Sep F0 w0 w L->(Code.region id ops true).wpIn (Fence.wide.inRound k) n P Q a w:=fun H=>
 wpIn_region_any hm (z0F hd hQ _ _ _ _ (z5p _ _ _ _ (h _ H.drew)))
end
end
section
theorem z2H {P:Program} (x y:Int) (ats:Array TypeId) (t:TypeId) (W:World):(Builtin.max_ ats t #[.int .i64 x,.int .i64 y]).run P W= .ok (.int .i64 (max x y)) W:=by
 have e:max x y=if x<y then y else x:=by split<;>omega
 rw[e]
 simp[Builtin.max_,Builtin.max2]
theorem z0u {P:Program} (x y:Int) (ats:Array TypeId) (t:TypeId) (W:World):(Builtin.min_ ats t #[.int .i64 x,.int .i64 y]).run P W= .ok (.int .i64 (min x y)) W:=by
 have e:min x y=if y<x then y else x:=by split<;>omega
 rw[e]
 simp[Builtin.min_,Builtin.min2]
def zv (n:Int):Int:=min (max n 0) 1099511627776
theorem z1o (n:Int) (w:World):Calls Tryz.prog 121 #[.int .i64 n] w fun e w'=>e= .returned (.int .i64 (zv n))/\w=w':=by
 have h1:=fun ats t W=>z2H (P:=Tryz.prog) n 0 ats t W
 have h2:=fun ats t W=>z0u (P:=Tryz.prog) (max n 0) 1099511627776 ats t W
 go_enter Tryz.func121,Tryz.ntmps121
 go_wp2
 go_ret
 exact⟨rfl,rfl⟩
theorem z2K (n:Int) (w:World):Calls Tryz.prog 110 #[.int .i64 n] w fun e w'=>e= .returned (.int .i64 (zv n))/\w=w':=by
 have h1:=fun ats t W=>z2H (P:=Tryz.prog) n 0 ats t W
 have h2:=fun ats t W=>z0u (P:=Tryz.prog) (max n 0) 1099511627776 ats t W
 go_enter Tryz.func110,Tryz.ntmps110
 go_wp2
 go_ret
 exact⟨rfl,rfl⟩
theorem OneM.cells_length (o:OneM):o.cells.length=13:=rfl
theorem zm4:(Tryz.prog.info? 278).map (fun i=>(i.size,i.bytes))=some (13,112):=by kernel_rfl
structure CallsM where
 frm:Int
 last:Int
 opn:List OneM
def yk (c:Nat) (s:CallsM):Assn:=exA fun v=>zaN [z7 c 231 [.int .i64 s.frm,.int .i64 s.last,v],zh 278 13 v s.opn.length (zd OneM.cells s.opn)]
section
variable {F0:Nat->Prop} {w0 w:World} {L:List Assn} {c:Nat} {s:CallsM}
theorem yk.open' (H:Sep F0 w0 w (yk c s::L)):∃v,Sep F0 w0 w (z7 c 231 [.int .i64 s.frm,.int .i64 s.last,v]::zh 278 13 v s.opn.length (zd OneM.cells s.opn)::L):=by
 obtain⟨v,H⟩:=H.ex
 exact⟨v,H.unbag⟩
theorem yk.mk {v:Value} {n:Nat} {xs:List Value} (H:Sep F0 w0 w (z7 c 231 [.int .i64 s.frm,.int .i64 s.last,v]::zh 278 13 v n xs::L)) (hn:n=s.opn.length) (hx:xs=zd OneM.cells s.opn):Sep F0 w0 w (yk c s::L):=by
 subst hn hx
 exact Sep.mk_ex v (Sep.bag (K:=[_,_]) H)
end
def CallsM.drop (s:CallsM):CallsM:={s with opn:=[]}
def z2e (frm:Int) (o:OneM):Letter:=⟨frm,o.dst,o.id,false,o.q,SayM.nil⟩
theorem zjc (c:Nat) (f l v:Value):zi Tryz.prog 201 #[.pointer (some ⟨c,0,none⟩)] [z7 c 231 [f,l,v]] fun r K=>r= .tuple #[]/\K=[z7 c 231 [f,l,.slice none 0 0]]:=by
 intro F0 w0 w R H
 try simp only[xNf]at H
 go_enter Tryz.func201,Tryz.ntmps201
 go_wp2_with (first|refine xLd H ?_|(refine xEf H ?_;clear H;intro b A' w H))
 go_end0
 exact⟨_,_,rfl,⟨rfl,rfl⟩,H⟩
theorem zcz (frm:Int) (o:OneM) (W:World):(Instr.build 114 #[(0,.int .i64 frm),(1,.int .i64 o.dst),(2,.int .i64 o.id),(4,.agg o.q.cells.toArray)]).run Tryz.prog W= .ok (.agg (z2e frm o).cells.toArray) W:=by kernel_rfl
theorem z7U (c:Nat) (frm:Int) (l v:Value) (o:OneM):zi Tryz.prog 162 #[.pointer (some ⟨c,0,none⟩),o.v] [z7 c 231 [.int .i64 frm,l,v]] fun r K=>r=(z2e frm o).v/\K=[z7 c 231 [.int .i64 frm,l,v]]:=by
 intro F0 w0 w R H
 try simp only[xNf]at H
 go_enter Tryz.func162,Tryz.ntmps162
 go_wp2_with (first|refine xLd H ?_|(refine xEf H ?_;clear H;intro b A' w H))
 refine xRg [11] (fun L=>[L,[]]) H ?_
 clear H;intro w H
 have HS:=H
 refine xO 0 0 HS ?_
 refine xO 1 0 HS ?_
 refine xO 2 0 HS ?_
 refine xL 3 0 HS ?_ (hin:=(.stop (n:=12) hd (by kernel_rfl)))
 refine xO 4 0 HS ?_
 refine xL 5 0 HS ?_ (hin:=(.stop (n:=12) hd (by kernel_rfl)))
 refine xO 6 0 HS ?_
 refine xL 7 0 HS ?_ (hin:=(.stop (n:=12) hd (by kernel_rfl)))
 refine xO 8 0 HS ?_
 refine xV 9 0 HS ?_ (hin:=(.stop (n:=12) (by first|exact z0y pk (ze (by rfl))|exact zg (cs:=o.q.cells) 9 pk (by rfl) (ze (by rfl))|exact z0V (cs:=o.q.cells) 9 pk (by rfl) (ze (by rfl))) (by kernel_rfl)))
 refine xO 10 0 HS ?_ (v:=(.agg (z2e frm o).cells.toArray)) (hy:=by(intro W;exact zb rfl (zcz frm o W)))
 refine xM 11 1 H ?_
 clear H HS;intro _ _ w H HS
 refine xD ?_
 go_wp2
 refine xR1 H ?_
 exact xF H
def CallsM.ask (s:CallsM) (now dst:Int) (q:AskM):CallsM×Letter×Bool:=
 if 8<=s.opn.length\/1099511627776<=s.last\/dst<0\/202<=dst then(s,Letter.nil,false)
 else
  let o:OneM:=⟨dst,s.last+1,q,zv now,zv now⟩
  ({s with last:=s.last+1,opn:=s.opn++[o]},z2e s.frm o,true)
theorem zjn (dst last now:Int) (q:AskM) (W:World):(Instr.build 278 #[(0,.int .i64 dst),(1,.int .i64 last),(2,.agg q.cells.toArray),(3,.int .i64 now),(4,.int .i64 now)]).run Tryz.prog W= .ok (.agg (OneM.mk dst last q now now).cells.toArray) W:=by kernel_rfl
theorem zms (c:Nat) (s:CallsM) (now dst:Int) (q:AskM) (h1:s.opn.length<8) (h0:0<=s.last) (h2:s.last<1099511627776) (h3:0<=dst) (h4:dst<202):
  zi Tryz.prog 203 #[.pointer (some ⟨c,0,none⟩),.int .i64 now,.int .i64 dst,q.v] [yk c s] fun r K=>r= .tuple #[(s.ask now dst q).2.1.v,.bool (s.ask now dst q).2.2]/\K=[yk c (s.ask now dst q).1]:=by
 intro F0 w0 w R H
 try simp only[xNf]at H
 replace H:=yk.open' H
 obtain⟨v,H⟩:=H
 have hs:s.ask now dst q=({s with last:=s.last+1,opn:=s.opn++[⟨dst,s.last+1,q,zv now,zv now⟩]},z2e s.frm ⟨dst,s.last+1,q,zv now,zv now⟩,true):=by
  unfold CallsM.ask
  rw[if_neg (by omega)]
 rw[hs]
 have d1:decide ((8:Int)<=(s.opn.length:Int))=false:=by simp;omega
 have d2:decide ((1099511627776:Int)<=s.last)=false:=by simp;omega
 have d3:decide (dst<0)=false:=by simp;omega
 have d4:decide ((202:Int)<=dst)=false:=by simp;omega
 obtain⟨frm,last,opn⟩:=s
 simp only at*
 clear hs
 go_enter Tryz.func203,Tryz.ntmps203
 obtain⟨A,k,rfl⟩:=zt H pk
 go_wp2_with (first|(go_at_call 121;refine(z1o now _).mono ?_;rintro e w' ⟨rfl,rfl⟩)|first|refine xLd H ?_|(refine xEf H ?_;clear H;intro b A' w H))
 refine xRg [10] (fun L=>[L,[]]) H ?_
 clear H;intro w H
 have HS:=H
 refine xO 0 0 HS ?_
 refine xO 1 0 HS ?_
 refine xO 2 0 HS ?_
 refine xO 3 0 HS ?_
 refine xL 4 0 HS ?_ (hin:=(.stop (n:=11) hd (by kernel_rfl)))
 refine xV 5 0 HS ?_ (hin:=(.stop (n:=11) hdV (by kernel_rfl)))
 refine xO 6 0 HS ?_
 refine xO 7 0 HS ?_
 refine xO 8 0 HS ?_ (v:=(.agg (OneM.mk dst (last+1) q (zv now) (zv now)).cells.toArray)) (hy:=by(intro W;exact zb rfl (zjn _ _ _ _ W)))
 refine xM 9 0 H ?_
 clear H HS;intro b _ w H HS
 refine xM 10 1 H ?_
 clear H HS;intro _ _ w H HS
 refine xD ?_
 go_wp2
 refine xRg [7,10] (fun L=>[L,[],[]]) H ?_
 clear H;intro w H
 have HS:=H
 refine xO 0 0 HS ?_
 refine xO 1 0 HS ?_
 refine xO 2 0 HS ?_
 refine xO 3 0 HS ?_
 refine xL 4 0 HS ?_ (hin:=(.stop (n:=11) hd (by kernel_rfl)))
 refine xV 5 0 HS ?_ (hin:=(.stop (n:=11) hdV (by kernel_rfl)))
 refine xM 6 0 H ?_
 clear H HS;intro b _ w H HS
 refine xM 7 1 H ?_
 clear H HS;intro k' A' w H HS
 refine xO 8 1 HS ?_
 refine xO 9 1 HS ?_
 refine xM 10 2 H ?_
 clear H HS;intro _ _ w H HS
 refine xD ?_
 go_wp2_with (first|(go_at_call 162;refine xT2 (z7U c frm _ _ ⟨dst,last+1,q,zv now,zv now⟩) H ?_;clear H;intro w H)|first|refine xLd H ?_|(refine xEf H ?_;clear H;intro b A' w H))
 refine xR2 H ?_
 exact⟨_,_,rfl,⟨rfl,rfl⟩,yk.mk (H.sub sb) (by simp) (z0a _ _).symm⟩
theorem zn2 (c:Nat) (s:CallsM) (now dst:Int) (q:AskM) (h:8<=s.opn.length\/1099511627776<=s.last\/dst<0\/202<=dst):
  zi Tryz.prog 203 #[.pointer (some ⟨c,0,none⟩),.int .i64 now,.int .i64 dst,q.v] [yk c s] fun r K=>r= .tuple #[(s.ask now dst q).2.1.v,.bool (s.ask now dst q).2.2]/\K=[yk c (s.ask now dst q).1]:=by
 intro F0 w0 w R H
 try simp only[xNf]at H
 replace H:=yk.open' H
 obtain⟨v,H⟩:=H
 have hs:s.ask now dst q=(s,Letter.nil,false):=by
  unfold CallsM.ask
  rw[if_pos h]
 rw[hs]
 have hc:decide ((8:Int)<=(s.opn.length:Int))=true\/decide ((8:Int)<=(s.opn.length:Int))=false/\(decide ((1099511627776:Int)<=s.last)=true\/decide ((1099511627776:Int)<=s.last)=false/\(decide (dst<0)=true\/decide (dst<0)=false/\decide ((202:Int)<=dst)=true)):=by
  simp only[decide_eq_true_eq,decide_eq_false_iff_not]
  omega
 obtain⟨frm,last,opn⟩:=s
 simp only at*
 clear hs h
 obtain⟨A,k,rfl⟩:=zt H pk
 rcases hc with d1|⟨d1,d2|⟨d2,d3|⟨d3,d4⟩⟩⟩
 all_goals
  go_enter Tryz.func203,Tryz.ntmps203
  go_wp2_with (first|first|refine xLd H ?_|(refine xEf H ?_;clear H;intro b A' w H))
  refine xR2 H ?_
  exact⟨_,_,rfl,⟨rfl,rfl⟩,yk.mk (H.sub sb) rfl rfl⟩
theorem zlk (c:Nat) (s:CallsM) (now dst:Int) (q:AskM) (h0:0<=s.last):
  zi Tryz.prog 203 #[.pointer (some ⟨c,0,none⟩),.int .i64 now,.int .i64 dst,q.v] [yk c s] fun r K=>r= .tuple #[(s.ask now dst q).2.1.v,.bool (s.ask now dst q).2.2]/\K=[yk c (s.ask now dst q).1]:=by
 by_cases h:8<=s.opn.length\/1099511627776<=s.last\/dst<0\/202<=dst
 ·exact zn2 c s now dst q h
 ·exact zms c s now dst q (by omega) h0 (by omega) (by omega) (by omega)
end
section
attribute [local go_sem] Oper.semAt_some
section
variable {P:Program} {Q:Exit->Act->World->Prop} {ops:Array Oper} {rest:List Oper} {op:Oper} {a:Act} {w w0:World} {F0:Nat->Prop} {L:List Assn} {n b o:Nat} {ty:TypeId} {x:Operand} {v:Value} {cs:List Value} {K':Act->World->Prop}
theorem zhZ {row:String} {args:Array Value} {w:World} {R:Value->World->Prop} (h:Rows P row args w R):RowsIn Fence.wide n P row args w R:=fun c cs _=>by
 obtain⟨v,w',hr,hs⟩:=h c cs
 exact⟨v,w',hr,stepsIn_wide.2 hs⟩
theorem zfj {o:Oper} {a:Act} {w:World} {K:Act->World->Prop} (h:o.wp P a w K Q):o.wpIn Fence.wide n P a w K Q:=by
 refine⟨fun _ _=>trivial, ?_⟩
 have hs:o.semAt Fence.wide.round a.eval=execOp a.eval o:=Oper.semAt_none _ _
 rw[hs]
 unfold Oper.wp at h
 generalize (execOp a.eval o).run P w=r at*
 cases r with
 |ok x w'=>
  cases x<;>simp only[Oper.upon,Oper.uponIn]at h⊢
  case value v=>exact h
  case skip=>exact h
  case defer d=>exact h
  case enter f args=>exact⟨fun h=>by simp[Fence.wide]at h,callsIn_wide.2 h⟩
  case row row args=>exact⟨fun h=>by simp[Fence.wide]at h,zhZ h⟩
 |halt x w'=>cases x<;>simp only[Oper.upon,Oper.uponIn]at h⊢<;>exact h
theorem inW (hw:Region.wanted op (yielded ops a.tmps)=true) (h:∀K':Act->World->Prop,(∀a w,wpListIn Fence.wide n P ops Q rest a w->K' a w)->op.wp P a w K' Q):wpListIn Fence.wide n P ops Q (op::rest) a w:=by
 unfold wpListIn
 simp only[hw,if_true]
 exact zfj (h _ fun _ _ h=>h)
theorem znB (H:Sep F0 w0 w L) (h:K' (a.put op.dst v) w) (ho:op.op= .load ty x:=by exact rfl) (hu:(z4w.testBit ty&&ty.blt 400)=true:=by rfl) (hx:a.eval x= .pointer (some ⟨b,o,none⟩):=by exact rfl) (hh:jz L b o v:=by exact hd):op.wp Tryz.prog a w K' Q:=
 jp (z5S ho hx (z4Z hu) (hh _ _ _ H)) h
theorem znA (H:Sep F0 w0 w L) (h:K' (a.put op.dst (.agg cs.toArray)) w) (ho:op.op= .load ty x:=by exact rfl) (hu:(szT ty !=0)=true:=by rfl) (hx:a.eval x= .pointer (some ⟨b,o,none⟩):=by exact rfl) (hh:jm Tryz.prog ty L b o cs:=by exact hdV):op.wp Tryz.prog a w K' Q:=
 jp (z5R ho hx (hh.1 _ _ _ H) (z0p hu) hh.2) h
end
theorem zjh (frm last:Int):zi Tryz.prog 82 #[.int .i64 frm,.int .i64 last] [] fun v K=>∃c,v= .pointer (some ⟨c,0,none⟩)/\K=[yk c ⟨frm,zv last,[]⟩]:=by
 intro F0 w0 w R H
 try simp only[xNf]at H
 go_enter Tryz.func82,Tryz.ntmps82
 go_wp2_with (first|(go_at_call 121;refine(z1o last _).mono ?_;rintro e w' ⟨rfl,rfl⟩)|first|refine xLd H ?_|(refine xEf H ?_;clear H;intro b A' w H))
 refine xR1 H ?_
 have H:=Sep.mk_row_nil (e:=278) (size:=13) H
 exact⟨_,_,rfl,⟨_,rfl,rfl⟩,yk.mk (H.sub sba) (by rfl) (by rfl)⟩
theorem z5G (c:Nat) (okf:FuncId) (okc:Array Value):zi Tryz.prog 160 #[.pointer (some ⟨c,0,none⟩),.func (.func okf) #[] okc] [] fun v K=>∃cb okb,v= .func (.func 204) #[] #[.pointer (some ⟨cb,0,none⟩),.pointer (some ⟨okb,0,none⟩)]/\K=[z7 cb 167 [.pointer (some ⟨c,0,none⟩)],z7 okb 279 [.func (.func okf) #[] okc]]:=by
 intro F0 w0 w R H
 try simp only[xNf]at H
 go_enter Tryz.func160,Tryz.ntmps160
 go_wp2_with (first|first|refine xLd H ?_|(refine xEf H ?_;clear H;intro b A' w H))
 refine xR1 H ?_
 exact⟨_,_,rfl,⟨_,_,rfl,rfl⟩,H.sub sba⟩
def z1x (f:OneM->Bool) (ls:List OneM) (k:Nat):List Nat:=(List.range k).filter fun i=>match ls[i]? with|some o=>f o|none=>false
section
variable {f:OneM->Bool} {ls:List OneM} {k:Nat} {o:OneM}
theorem z4Q (ho:ls[k]?=some o) (hf:f o=true):z1x f ls (k+1)=z1x f ls k++[k]:=by
 unfold z1x
 rw[List.range_succ,List.filter_append]
 simp[ho,hf]
theorem za3 (ho:ls[k]?=some o) (hf:f o=false):z1x f ls (k+1)=z1x f ls k:=by
 unfold z1x
 rw[List.range_succ,List.filter_append]
 simp[ho,hf]
theorem z2F (f:OneM->Bool) (ls:List OneM) (k:Nat):(z1x f ls k).length<=k:=by
 unfold z1x
 refine Nat.le_trans (List.length_filter_le _ _) ?_
 simp
end
abbrev z3w (c cb okb:Nat) (frm last okv:Value) (A:Option Addr) (n k:Nat) (OK:Assn) (C:List Nat->Assn) (st:List Nat->List OneM) (pre:List Nat):List Assn:=
 [z7 cb 167 [.pointer (some ⟨c,0,none⟩)],z7 okb 279 [okv],z7 c 231 [frm,last,.slice A n k],zh 278 13 (.slice A n k) n (zd OneM.cells (st pre)),OK,C pre]
theorem z5H (c cb okb:Nat) (frm last:Value) (okf:FuncId) (okc:Array Value) (A:Option Addr) (n k:Nat) (ls:List OneM) (hn:ls.length=n) (hmax:n<=64) (f:OneM->Bool) (OK:Assn) (C:List Nat->Assn) (st:List Nat->List OneM) (Bx:List Nat->List Assn)
  (hst:∀i,i<n->(st (z1x f ls i))[i]?=ls[i]?) (hok:∀o:OneM,zi Tryz.prog okf (#[o.v]++okc) [OK] fun v K=>v= .bool (f o)/\K=[OK])
  (eg:∀args w,(callFunc okf args).run Tryz.prog w= .ok (.enter okf args) w):
  zn6 Tryz.prog 204 #[.pointer (some ⟨cb,0,none⟩),.pointer (some ⟨okb,0,none⟩)] (fun x:Nat=>#[.int .i64 x]) (fun pre x=>∃o,ls[x]?=some o/\f o=true/\pre=z1x f ls x)
   (z3w c cb okb frm last (.func (.func okf) #[] okc) A n k OK C st) Bx (fun xs=>xs=z1x f ls n) (fun xs=>∃x o,ls[x]?=some o/\f o=true/\xs=z1x f ls x++[x]):=by
 intro m l X Y hY F0 w0 w R H
 refine callsIn_wide.2 ?_
 unfold z3w at*
 try simp only[xNf]at H
 go_enter Tryz.func204,Tryz.ntmps204
 go_wp2_with (first|refine xLd H ?_|(refine xEf H ?_;clear H;intro b A' w H))
 go_loopw [11] (fun i wr=>∃j:Nat,j<=n/\i= .int .i64 j/\Sep F0 w0 wr (z7 cb 167 [.pointer (some ⟨c,0,none⟩)]::z7 okb 279 [.func (.func okf) #[] okc]::z7 c 231 [frm,last,.slice A n k]::zh 278 13 (.slice A n k) n (zd OneM.cells (st (z1x f ls j)))::OK::C (z1x f ls j)::(X++R))) (fun i _=>n-(intOf i).toNat)
 case atStart=>
  refine⟨0,Nat.zero_le _,rfl, ?_⟩
  rw[show z1x f ls 0=[]from rfl]
  exact H.sub sb
 case round=>
  clear H
  obtain⟨j,hj,rfl,H⟩:=hrel
  by_cases hlt:j<n
  ·obtain⟨o,hx⟩:∃o,ls[j]?=some o:=⟨_,List.getElem?_eq_getElem (by omega)⟩
   have hy:=(hst j hlt).trans hx
   obtain⟨g,c',hA⟩:=zz (n:=n) (v:=.slice A n k) H pk (by omega)
   cases hA
   have HX:=Lib.hid hx
   have HY:=Lib.hid hy
   have HO:=Lib.hid (hok o)
   clear hx hy hst hok
   by_cases hf:f o=true
   ·go_upto_region 3 with(first|(refine ldr H (hh:=(by first|exact yd pk (by first|exact HY.out) OneM.cells_length (by rfl) (ze (by rfl))|exact yq pk (by first|exact HY.out) OneM.cells_length (by rfl) (ze (by rfl)))) ?_)|first|refine xLd H ?_|(refine xEf H ?_;clear H;intro b A' w H))
    refine(wpIn_wide (n:=m+1)).1 ?_
    refine wpIn_region_lit ?_
    refine inW (by rfl) (fun K' hK=>znB H (hK _ _ ?_))
    clear hK K'
    refine inW (by rfl) (fun K' hK=>znA H (hK _ _ ?_))
    clear hK K'
    gi_wp2
    refine⟨trivial,callsIn_wide.2 ?_⟩
    revert H
    refine zi.use HO.out pks ?_
    rintro _ _ w ⟨rfl,rfl⟩ H
    try simp only[xNf]at H
    simp only[hf]
    have hS:=hY (z1x f ls j) j ⟨o,HX.out,hf,rfl⟩ F0 w0 w R (by simp only[List.append_assoc,List.cons_append,List.nil_append];exact H.sub sb)
    obtain⟨fn,tmps,assign,body,hy,hR⟩:=hS
    gi_wp2
    refine hR.mono ?_
    rintro e W' ⟨t,K,rfl,(⟨rfl,rfl⟩|⟨rfl,rfl⟩),H'⟩
    ·gi_wp2
     go_wp2
     go_roundw
     case rel=>
      refine⟨j+1,by omega,by go_num, ?_⟩
      rw[z4Q HX.out hf]
      simpa only[List.append_assoc,List.cons_append,List.nil_append]using H'
     case measure=>simp[intOf];omega
    ·gi_wp2
     go_wp2
     refine xRz ?_
     exact⟨⟨_,rfl⟩,.inr ⟨_,⟨j,o,HX.out,hf,rfl⟩,by simpa only[List.append_assoc]using H'⟩⟩
   ·have hf:f o=false:=by simpa using hf
    go_upto_region 3 with(first|(refine ldr H (hh:=(by first|exact yd pk (by first|exact HY.out) OneM.cells_length (by rfl) (ze (by rfl))|exact yq pk (by first|exact HY.out) OneM.cells_length (by rfl) (ze (by rfl)))) ?_)|first|refine xLd H ?_|(refine xEf H ?_;clear H;intro b A' w H))
    refine(wpIn_wide (n:=m+1)).1 ?_
    refine wpIn_region_lit ?_
    refine inW (by rfl) (fun K' hK=>znB H (hK _ _ ?_))
    clear hK K'
    refine inW (by rfl) (fun K' hK=>znA H (hK _ _ ?_))
    clear hK K'
    gi_wp2
    refine⟨trivial,callsIn_wide.2 ?_⟩
    revert H
    refine zi.use HO.out pks ?_
    rintro _ _ w ⟨rfl,rfl⟩ H
    try simp only[xNf]at H
    simp only[hf]
    gi_wp2
    refine⟨fun _ h=>(by cases h), ?_⟩
    gi_wp2
    go_wp2
    go_roundw
    case rel=>
     refine⟨j+1,by omega,by go_num, ?_⟩
     rw[za3 HX.out hf]
     exact H.sub sb
    case measure=>simp[intOf];omega
  ·obtain rfl:j=n:=by omega
   clear hst hok
   go_wp2
   refine xRe ?_
   exact⟨⟨_,rfl⟩,.inl ⟨_,rfl,H.sub sba⟩⟩
end
end Go.Proofs.YtmfincpagnpkjaaGreat
