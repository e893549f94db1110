/- Part of the proof of one statement: what the program's functions compute. -/
import Derived.MapKept
import Derived.Test.YtmfincpagnpkjaaGreatM01
import Derived.Test.YtmfincpagnpkjaaGreatM06
set_option linter.all false
set_option maxRecDepth 100000
set_option maxHeartbeats 100000000
namespace Go.Proofs.YtmfincpagnpkjaaGreat
open Go.RowKit
section
section
variable {P:Program} {ops:Array Oper} {Q:Exit->Act->World->Prop} {md:Region.Mode} {S:Array Bool->World->Prop}
def yp (P:Program) (md:Region.Mode) (ops:Array Oper) (Q:Exit->Act->World->Prop) (S:Array Bool->World->Prop):Nat->Array Bool->Act->World->Prop
 |0,listed,a,w=>Region.ready md ops listed=[]/\Q .normal a w
 |fuel+1,listed,a,w=>
  (Region.ready md ops listed=[]->Q .normal a w)/\
  ∀i∈Region.ready md ops listed,wpOp P ops Q i (fun a' w'=>S (listed.setIfInBounds i true) w'/\yp P md ops Q S fuel (listed.setIfInBounds i true) a' w') a w
theorem z5p:∀(fuel:Nat) (listed:Array Bool) (a:Act) (w:World),yp P md ops Q S fuel listed a w->wpAny P md ops Q fuel listed a w
 |0,_,_,_,h=>h
 |fuel+1,_,_,_,h=>⟨h.1,fun i hi=>wpOp_mono (fun a' w' h'=>z5p fuel _ a' w' h'.2) (h.2 i hi)⟩
def zcN (md:Region.Mode) (ops:Array Oper) (listed:Array Bool):Prop:=∀(j:Nat) (o:Oper),ops[j]?=some o->listed.getD j false=true->∀e∈o.after,Region.binds md e=true->listed.getD e.on false=true
def dep (md:Region.Mode) (ops:Array Oper) (i:Nat):Nat->Nat->Bool
 |0,_=>false
 |n+1,j=>match ops[j]? with
  |none=>false
  |some o=>o.after.any fun e=>Region.binds md e&&(e.on==i||dep md ops i n e.on)
theorem z9B {i:Nat} {listed:Array Bool} (hs:zcN md ops listed):∀(n j:Nat),dep md ops i n j=true->listed.getD j false=true->listed.getD i false=true
 |0,_,h,_=>by simp[dep]at h
 |n+1,j,h,hj=>by
  unfold dep at h
  cases ho:ops[j]? with
  |none=>simp[ho]at h
  |some o=>
   simp only[ho]at h
   obtain⟨e,he,h2⟩:=Array.any_eq_true'.1 h
   simp only[Bool.and_eq_true,Bool.or_eq_true,beq_iff_eq]at h2
   have h3:=hs j o ho hj e he h2.1
   rcases h2.2 with h4|h4
   ·rw[<-h4];exact h3
   ·exact z9B hs n _ h4 h3
theorem zcN.set {j:Nat} {listed:Array Bool} (hs:zcN md ops listed) (hj:j∈Region.ready md ops listed):zcN md ops (listed.setIfInBounds j true):=fun k o ho hk e he hb=>by
 by_cases hkj:j=k
 ·subst hkj
  obtain⟨_,o',ho',hall⟩:=mem_ready.1 hj
  rw[ho]at ho'
  cases ho'
  exact getD_set_true (hall e he hb)
 ·rw[getD_set_ne false hkj]at hk
  exact getD_set_true (hs k o ho hk e he hb)
def zn5 (md:Region.Mode) (ops:Array Oper) (S:Array Bool->World->Prop) (i:Nat) (listed0:Array Bool) (w:World):Prop:=∃listed,zcN md ops listed/\listed.getD i true=false/\(∀j,listed0.getD j false=true->listed.getD j false=true)/\S listed w
theorem zb3 {i:Nat} {oi:Oper} {v:Value} {listed0:Array Bool} (hi:ops[i]?=some oi) (hsel:∀(j:Nat) (o:Oper) cs b,ops[j]?=some o->o.op≠ .select cs b)
  (hQ:∀c a w,Q (.panic c) (a.put oi.dst v) w->Q (.panic c) a w) (hind:∀listed w,S (listed.setIfInBounds i true) w↔S listed w):
  ∀(fuel:Nat) (listed:Array Bool) (a:Act) (w:World),(∀j,listed0.getD j false=true->listed.getD j false=true)->
   (∀j oj,ops[j]?=some oj->j≠i->listed.getD j true=false->(∀e∈oj.after,Region.binds md e=true->e.on≠i)->oi.apart ops oj=true)->
   i∈Region.ready md ops listed->zcN md ops listed->YieldsIf P ops (zn5 md ops S i listed0) oi v a->S listed w->
   yp P md ops Q S fuel (listed.setIfInBounds i true) (a.put oi.dst v) w->yp P md ops Q S (fuel+1) listed a w:=by
 intro fuel
 induction fuel with
 |zero=>
  intro listed a w hsup _ hr hs hy hS H
  refine⟨fun h=>(by rw[h]at hr;cases hr),fun j hj=>?_⟩
  by_cases hji:j=i
  ·subst hji;exact hy.wpOp hi ⟨listed,hs,(mem_ready.1 hr).1,hsup,hS⟩ ⟨(hind _ _).2 hS,H⟩
  ·have:=ready_mono hj hji
   rw[H.1]at this
   cases this
 |succ fuel ih=>
  intro listed a w hsup hfree hr hs hy hS H
  have hun:=(mem_ready.1 hr).1
  refine⟨fun h=>(by rw[h]at hr;cases hr),fun j hj=>?_⟩
  by_cases hji:j=i
  ·subst hji;exact hy.wpOp hi ⟨listed,hs,hun,hsup,hS⟩ ⟨(hind _ _).2 hS,H⟩
  ·have h1:=H.2 j (ready_mono hj hji)
   obtain⟨hjun,oj,hoj,hall⟩:=mem_ready.1 hj
   have hnot:∀e∈oj.after,Region.binds md e=true->e.on≠i:=fun e he hb heq=>by
    have h1:=hall e he hb
    rw[heq]at h1
    rcases Nat.lt_or_ge i listed.size with h'|h'
    ·simp[h']at hun h1;rw[hun]at h1;cases h1
    ·simp[Array.getElem?_eq_none h']at h1
   have h2:=wpOp_putIf hoj (hfree j oj hoj hji hjun hnot) (fun cs b=>hsel i oi cs b hi) (fun cs b=>hsel j oj cs b hoj) hQ hy h1
   have hfree':∀k ok,ops[k]?=some ok->k≠i->(listed.setIfInBounds j true).getD k true=false->
     (∀e∈ok.after,Region.binds md e=true->e.on≠i)->oi.apart ops ok=true:=fun k ok hk hki hun hno=>by
    refine hfree k ok hk hki ?_ hno
    by_cases hjk:j=k
    ·subst hjk;exact hjun
    ·rw[getD_set_ne true hjk]at hun;exact hun
   refine wpOp_mono (fun a' w' h3=>?_) h2
   have hS':S (listed.setIfInBounds j true) w':=by
    have:=h3.2.1
    rw[Array.setIfInBounds_comm _ _ (Ne.symm hji)]at this
    exact(hind _ _).1 this
   refine⟨hS',ih (listed.setIfInBounds j true) a' w' (fun k hk=>getD_set_true (hsup k hk)) hfree' (ready_mono hr (Ne.symm hji)) (hs.set hj) h3.1 hS' ?_⟩
   rw[Array.setIfInBounds_comm _ _ hji]
   exact h3.2.2
def yo:List Nat->Array Bool->Nat
 |[],_=>0
 |e::r,listed=>if listed.getD e false then yo r listed+1 else 0
def z2x:List (List Assn)->Nat->List Assn
 |[],_=>[]
 |K::_,0=>K
 |_::r,n+1=>z2x r n
def yf (F0:Nat->Prop) (w0:World) (es:List Nat) (Ks:List (List Assn)) (listed:Array Bool) (w:World):Prop:=Sep F0 w0 w (z2x Ks (yo es listed))
inductive InAll (md:Region.Mode) (ops:Array Oper) (i:Nat) (G:List Assn->Prop):List Nat->List (List Assn)->Prop
 |last {K:List Assn} {Ks:List (List Assn)} (h:G K):InAll md ops i G [] (K::Ks)
 |stop {e n:Nat} {K:List Assn} {r:List Nat} {Ks:List (List Assn)} (h:G K) (hd:dep md ops i n e=true):InAll md ops i G (e::r) (K::Ks)
 |go {e:Nat} {K:List Assn} {r:List Nat} {Ks:List (List Assn)} (h:G K) (hr:InAll md ops i G r Ks):InAll md ops i G (e::r) (K::Ks)
variable {F0:Nat->Prop} {w0 w:World} {es es2:List Nat} {Ks Ks2:List (List Assn)} {K L:List Assn} {listed listed0:Array Bool} {i n:Nat} {oi:Oper} {a:Act} {fuel b o:Nat} {ty:TypeId} {x:Operand} {v:Value} {cs:List Value}
theorem InAll.some {G:List Assn->Prop} (h:InAll md ops i G es Ks) (hs:zcN md ops listed) (hu:listed.getD i true=false) (hS:yf F0 w0 es Ks listed w):∃K',G K'/\Sep F0 w0 w K':=by
 unfold yf at hS
 induction h with
 |last h=>exact⟨_,h,hS⟩
 |stop h hd=>
  unfold yo at hS
  split at hS
  ·rename_i he
   have h1:=z9B hs _ _ hd he
   rcases Nat.lt_or_ge i listed.size with h'|h'
   ·simp[h']at hu h1;rw[hu]at h1;cases h1
   ·simp[Array.getElem?_eq_none h']at h1
  ·exact⟨_,h,hS⟩
 |go h _ ih=>
  unfold yo at hS
  split at hS
  ·exact ih hS
  ·exact⟨_,h,hS⟩
theorem zbR:∀(n m:Nat) (Ks:List (List Assn)),z2x Ks (m+n)=z2x (Ks.drop n) m
 |0,_,_=>rfl
 |n+1,m,[]=>by cases m<;>rfl
 |n+1,m,_::r=>zbR n m r
theorem z69:∀(n:Nat) (es:List Nat),n<=yo es listed->yo es listed=yo (es.drop n) listed+n
 |0,_,_=>rfl
 |n+1,[],h=>by simp[yo]at h
 |n+1,e::r,h=>by
  have e1:yo (e::r) listed=if listed.getD e false then yo r listed+1 else 0:=rfl
  rw[e1]at h⊢
  split at h
  ·rename_i he
   have:=z69 n r (by omega)
   rw[if_pos he,List.drop_succ_cons]
   omega
  ·omega
theorem z68 (hsup:∀j,listed0.getD j false=true->listed.getD j false=true):∀(es:List Nat),yo es listed0<=yo es listed
 |[]=>Nat.le_refl _
 |e::r=>by
  unfold yo
  split
  ·rename_i he
   rw[if_pos (hsup e he)]
   have:=z68 hsup r
   omega
  ·omega
theorem zdi (hsup:∀j,listed0.getD j false=true->listed.getD j false=true) (hn:yo es listed0=n) (hS:yf F0 w0 es Ks listed w):yf F0 w0 (es.drop n) (Ks.drop n) listed w:=by
 unfold yf at*
 rw[<-zbR,<-z69 n es (by rw[<-hn];exact z68 hsup es)]
 exact hS
theorem zfC (hne:∀x∈es,x≠i) (listed:Array Bool) (w:World):yf F0 w0 es Ks (listed.setIfInBounds i true) w↔yf F0 w0 es Ks listed w:=by
 have key:∀es:List Nat,(∀x∈es,x≠i)->yo es (listed.setIfInBounds i true)=yo es listed:=by
  intro es
  induction es with
  |nil=>exact fun _=>rfl
  |cons e r ih=>
   intro hne
   unfold yo
   rw[getD_set_ne false (fun he=>hne e (List.mem_cons_self ..) he.symm),ih (fun x hx=>hne x (List.mem_cons_of_mem _ hx))]
 unfold yf
 rw[key es hne]
theorem z3Q (n:Nat) (hn:yo es listed=n) (H:Sep F0 w0 w (z2x Ks n)):yf F0 w0 es Ks listed w:=by
 unfold yf
 rw[hn]
 exact H
def z1a (i:Nat):List Nat->Bool
 |[]=>true
 |e::r=>e !=i&&z1a i r
theorem z8h:∀{es:List Nat},z1a i es=true->∀x∈es,x≠i
 |[],_,_,h=>by cases h
 |e::r,h,x,hx=>by
  simp only[z1a,Bool.and_eq_true,bne_iff_ne]at h
  rcases List.mem_cons.1 hx with rfl|hx
  ·exact h.1
  ·exact z8h h.2 x hx
def zlK (md:Region.Mode) (ops:Array Oper) (listed:Array Bool):Bool:=(List.range ops.size).all fun j=>match ops[j]? with
 |none=>true
 |some o=>!listed.getD j false||o.after.all fun e=>!Region.binds md e||listed.getD e.on false
theorem zfG (h:zlK md ops listed=true):zcN md ops listed:=fun j o ho hj e he hb=>by
 simp only[zlK,List.all_eq_true,List.mem_range]at h
 have h1:=h j (Array.getElem?_eq_some_iff.1 ho).1
 simp only[ho,hj,Bool.not_true,Bool.false_or]at h1
 have h2:=Array.all_eq_true_iff_forall_mem.1 h1 e he
 simpa [hb]using h2
def z0z (md:Region.Mode) (ops:Array Oper) (listed:Array Bool) (i:Nat):Bool:=Region.noSelect ops&&(Region.free md ops listed i&&((Region.ready md ops listed).contains i&&zlK md ops listed))
theorem zlI (i:Nat) {oi:Oper} {v:Value} (hi:z5A ops.toList i=some oi) (hc:z0z md ops listed i=true) (hap:z1a i es=true)
  (hQ:∀c a w,Q (.panic c) (a.put oi.dst v) w->Q (.panic c) a w) (hy:YieldsIf P ops (zn5 md ops (yf F0 w0 es Ks) i listed) oi v a) (hS:yf F0 w0 es Ks listed w)
  (h:yp P md ops Q (yf F0 w0 es Ks) fuel (listed.setIfInBounds i true) (a.put oi.dst v) w):yp P md ops Q (yf F0 w0 es Ks) (fuel+1) listed a w:=by
 simp only[z0z,Bool.and_eq_true]at hc
 obtain⟨h1,h2,h3,h4⟩:=hc
 exact zb3 (z2O hi) (Region.noSelect_spec h1) hQ (zfC (z8h hap)) fuel listed a w (fun _ h=>h) (Region.free_spec (z2O hi) h2) (by simpa using h3) (zfG h4) hy hS h
theorem zk7 (i:Nat) {oi:Oper} {v:Value} (hi:z5A ops.toList i=some oi) (hc:z0z md ops listed i=true) (hap:z1a i es=true)
  (hQ:∀c a w,Q (.panic c) (a.put oi.dst v) w->Q (.panic c) a w) (hw:Region.wanted oi (yielded ops a.tmps)=true) (hy:∀W,(execOp a.eval oi).run P W= .ok (.value v) W) (hS:yf F0 w0 es Ks listed w)
  (h:yp P md ops Q (yf F0 w0 es Ks) fuel (listed.setIfInBounds i true) (a.put oi.dst v) w):yp P md ops Q (yf F0 w0 es Ks) (fuel+1) listed a w:=
 zlI i hi hc hap hQ (.inl ⟨hw,fun W _=>hy W⟩) hS h
theorem zk8 (i:Nat) {oi:Oper} (hi:z5A ops.toList i=some oi) (hc:z0z md ops listed i=true) (hap:z1a i es=true)
  (hQ:∀c a w,Q (.panic c) (a.put oi.dst undef) w->Q (.panic c) a w) (hw:Region.wanted oi (yielded ops a.tmps)=false) (hS:yf F0 w0 es Ks listed w)
  (h:yp P md ops Q (yf F0 w0 es Ks) fuel (listed.setIfInBounds i true) (a.put oi.dst undef) w):yp P md ops Q (yf F0 w0 es Ks) (fuel+1) listed a w:=
 zlI i hi hc hap hQ (.inr ⟨hw,rfl⟩) hS h
theorem zex (i:Nat) {oi:Oper} (hi:z5A ops.toList i=some oi) (hc:z0z md ops listed i=true) (hap:z1a i es=true)
  (hQ:∀c a w,Q (.panic c) (a.put oi.dst v) w->Q (.panic c) a w) (hw:Region.wanted oi (yielded ops a.tmps)=true) (n:Nat) (hn:yo es listed=n) (he:es.drop n=es2) (hk:Ks.drop n=Ks2) {G:List Assn->Prop}
  (hin:InAll md ops i G es2 Ks2) (hy:∀K' W,G K'->Sep F0 w0 W K'->(execOp a.eval oi).run P W= .ok (.value v) W) (H:Sep F0 w0 w (z2x Ks n))
  (h:yp P md ops Q (yf F0 w0 es Ks) fuel (listed.setIfInBounds i true) (a.put oi.dst v) w):yp P md ops Q (yf F0 w0 es Ks) (fuel+1) listed a w:=
 zlI i hi hc hap hQ (.inl ⟨hw,fun W ⟨_,h1,h2,h3,h4⟩=>by
  have h5:=zdi h3 hn h4
  rw[he,hk]at h5
  obtain⟨K',hG,hK⟩:=hin.some h1 h2 h5
  exact hy K' W hG hK⟩) (z3Q n hn H) h
theorem zfw (i:Nat) {oi:Oper} (hi:z5A ops.toList i=some oi) (hc:z0z md ops listed i=true) (hap:z1a i es=true)
  (hQ:∀c a w,Q (.panic c) (a.put oi.dst v) w->Q (.panic c) a w) (hw:Region.wanted oi (yielded ops a.tmps)=true) (ho:oi.op= .load ty x) (hx:a.eval x= .pointer (some ⟨b,o,none⟩)) (n:Nat) (hn:yo es listed=n) (he:es.drop n=es2) (hk:Ks.drop n=Ks2)
  (hin:InAll md ops i (fun K=>jz K b o v) es2 Ks2) (hu:(P.underlying ty).map TypeDesc.isRow=some false) (H:Sep F0 w0 w (z2x Ks n))
  (h:yp P md ops Q (yf F0 w0 es Ks) fuel (listed.setIfInBounds i true) (a.put oi.dst v) w):yp P md ops Q (yf F0 w0 es Ks) (fuel+1) listed a w:=
 zex i hi hc hap hQ hw n hn he hk hin (fun _ _ hG hK=>z5S ho hx hu (hG _ _ _ hK)) H h
theorem zdc (i:Nat) {oi:Oper} (hi:z5A ops.toList i=some oi) (hc:z0z md ops listed i=true) (hap:z1a i es=true)
  (hQ:∀c a w,Q (.panic c) (a.put oi.dst (.agg cs.toArray)) w->Q (.panic c) a w) (hw:Region.wanted oi (yielded ops a.tmps)=true) (ho:oi.op= .load ty x) (hx:a.eval x= .pointer (some ⟨b,o,none⟩)) (n:Nat) (hn:yo es listed=n) (he:es.drop n=es2) (hk:Ks.drop n=Ks2)
  (hin:InAll md ops i (fun K=>jm P ty K b o cs) es2 Ks2) (hu:(P.underlying ty).map TypeDesc.isRow=some true) (H:Sep F0 w0 w (z2x Ks n))
  (h:yp P md ops Q (yf F0 w0 es Ks) fuel (listed.setIfInBounds i true) (a.put oi.dst (.agg cs.toArray)) w):yp P md ops Q (yf F0 w0 es Ks) (fuel+1) listed a w:=
 zex i hi hc hap hQ hw n hn he hk hin (fun _ _ hG hK=>z5R ho hx (hG.1 _ _ _ hK) hu hG.2) H h
theorem zfv (i n:Nat) {oi:Oper} (hi:z5A ops.toList i=some oi) (hr:Region.ready md ops listed=[i]) (hw:Region.wanted oi (yielded ops a.tmps)=true) (hn:yo es (listed.setIfInBounds i true)=n)
  (h:∀K':Act->World->Prop,Shut (∀a w,Sep F0 w0 w (z2x Ks n)->(Sep F0 w0 w (z2x Ks n)->yp P md ops Q (yf F0 w0 es Ks) fuel (listed.setIfInBounds i true) a w)->K' a w)->Oper.wp P oi a w K' Q):yp P md ops Q (yf F0 w0 es Ks) (fuel+1) listed a w:=by
 refine⟨fun h0=>(by rw[hr]at h0;cases h0),fun j hj=>?_⟩
 rw[hr,List.mem_singleton]at hj
 subst hj
 unfold wpOp
 simp only[z2O hi,hw,if_true]
 exact .inl (h _ (fun a w h1 h2=>⟨z3Q n hn h1,h2 h1⟩))
theorem zhz (i j n m:Nat) {oi oj:Oper} (hi:z5A ops.toList i=some oi) (hj:z5A ops.toList j=some oj) (hr:Region.ready md ops listed=[i,j]) (hw:Region.wanted oi (yielded ops a.tmps)=true) (hv:Region.wanted oj (yielded ops a.tmps)=true)
  (hn:yo es (listed.setIfInBounds i true)=n) (hm:yo es (listed.setIfInBounds j true)=m)
  (h:∀K':Act->World->Prop,Shut (∀a w,Sep F0 w0 w (z2x Ks n)->(Sep F0 w0 w (z2x Ks n)->yp P md ops Q (yf F0 w0 es Ks) fuel (listed.setIfInBounds i true) a w)->K' a w)->Oper.wp P oi a w K' Q)
  (h':∀K':Act->World->Prop,Shut (∀a w,Sep F0 w0 w (z2x Ks m)->(Sep F0 w0 w (z2x Ks m)->yp P md ops Q (yf F0 w0 es Ks) fuel (listed.setIfInBounds j true) a w)->K' a w)->Oper.wp P oj a w K' Q):yp P md ops Q (yf F0 w0 es Ks) (fuel+1) listed a w:=by
 refine⟨fun h0=>(by rw[h0]at hr;cases hr),fun k hk=>?_⟩
 rw[hr]at hk
 simp only[List.mem_cons,List.not_mem_nil,or_false]at hk
 unfold wpOp
 rcases hk with rfl|rfl
 ·simp only[z2O hi,hw,if_true]
  exact .inl (h _ (fun a w h1 h2=>⟨z3Q n hn h1,h2 h1⟩))
 ·simp only[z2O hj,hv,if_true]
  exact .inl (h' _ (fun a w h1 h2=>⟨z3Q m hm h1,h2 h1⟩))
theorem zl (hr:Region.ready md ops listed=[]) (h:Q .normal a w):∀fuel,yp P md ops Q S fuel listed a w
 |0=>⟨hr,h⟩
 |_+1=>⟨fun _=>h,by rw[hr];simp⟩
theorem z6 {id:Nat} (es:List Nat) (Kf:List Assn->List (List Assn)) (hm:P.follows .mixedOrders=true)
  (h:∀w,Sep F0 w0 w L->yp P .any ops Q (yf F0 w0 es (Kf L)) ops.size (Array.replicate ops.size false) a w):Sep F0 w0 w L->(Code.region id ops true).wp P Q a w:=fun H=>
 wp_region_any hm (z5p _ _ _ _ (h _ H.drew))
end
end
def zkq:List (Nat×Nat):=[(23,2),(34,5),(37,5),(52,2),(54,10),(69,9),(70,18),(74,25),(79,2),(89,2),(110,9),(112,13),(114,26),(127,2),(147,5),(149,64),(152,2),(155,14),(156,28),(158,29),(160,4),(165,2),(170,5),(171,40),(173,3),(178,6),(181,25),(183,73),(220,2),(231,3),(234,8),(256,21),(278,13),(286,3),(288,3),(294,3),(357,7),(359,4),(373,1)]
def zlV:List Nat:=[1,2,3,4,5,9,15,16,17,24,25,26,27,28,29,30,31,32,35,38,40,41,43,44,45,46,47,48,50,55,56,57,59,60,61,62,63,64,65,66,67,71,72,75,76,77,80,81,82,83,85,86,87,90,91,92,93,95,97,99,100,101,102,103,104,105,106,107,108,116,117,118,119,120,122,123,124,125,128,129,131,133,134,135,136,137,138,139,140,141,142,143,144,145,150,153,161,163,166,167,168,174,175,176,177,179,184,185,187,188,189,191,192,193,194,195,196,197,199,200,201,202,203,204,205,207,208,209,215,216,217,218,221,223,224,225,226,227,228,229,232,236,237,239,241,242,243,244,245,247,249,250,251,252,253,254,257,258,259,260,261,263,266,267,268,269,270,271,272,273,274,275,276,279,280,282,283,285,290,295,296,297,298,299,300,302,303,306,307,308,309,310,311,313,314,315,316,319,320,321,322,323,324,325,326,327,328,329,330,331,332,333,334,335,336,338,340,342,343,344,345,346,347,348,349,350,351,352,353,354,355,360,362,363,364,365,366,367,368,369,370,371,374,375,376,377,378,391]
def z4w:Nat:=5044659240042023825555503782471329070050228145067543564735796452270831344723481409313656119152993862650464354712126014
def zkT:List (Nat×Nat)->Nat->Nat
 |[],_=>0
 |(a,n)::l,k=>if a==k then n else zkT l k
def szT (t:Nat):Nat:=zkT zkq t
theorem z7S:∀{l:List (Nat×Nat)} {k n:Nat},zkT l k=n->n≠0->(k,n)∈l
 |[],_,_,h,h0=>absurd h.symm h0
 |(a,m)::l,k,n,h,h0=>by
  unfold zkT at h
  split at h
  ·rename_i he
   rw[beq_iff_eq.1 he,h]
   exact List.mem_cons_self ..
  ·exact List.mem_cons_of_mem _ (z7S h h0)
theorem zeC:(zkq.all fun x=>(Tryz.prog.info? x.1).map (·.size)==some x.2&&(Tryz.prog.underlying x.1).map TypeDesc.isRow==some true&&x.2 !=0)=true:=by kernel_rfl
theorem zeM:(zlV.all fun t=>(Tryz.prog.info? t).map (·.size)==some 1&&(Tryz.prog.underlying t).map TypeDesc.isRow==some false)=true:=by kernel_rfl
theorem zij:(List.range 400).all (fun t=>!z4w.testBit t||zlV.contains t)=true:=by kernel_rfl
theorem ze {ty:TypeId} {cs:List Value} (h:cs.length=szT ty) (h0:(szT ty !=0)=true:=by rfl):(Tryz.prog.info? ty).map (·.size)=some cs.length:=by
 have hm:=z7S (l:=zkq) (k:=ty) rfl (bne_iff_ne.1 h0)
 have:=List.all_eq_true.1 zeC _ hm
 simp only[Bool.and_eq_true,beq_iff_eq]at this
 rw[h]
 exact this.1.1
theorem z0p {ty:TypeId} (h0:(szT ty !=0)=true):(Tryz.prog.underlying ty).map TypeDesc.isRow=some true:=by
 have hm:=z7S (l:=zkq) (k:=ty) rfl (bne_iff_ne.1 h0)
 have:=List.all_eq_true.1 zeC _ hm
 simp only[Bool.and_eq_true,beq_iff_eq]at this
 exact this.1.2
theorem zeL {ty:TypeId} (h:(z4w.testBit ty&&ty.blt 400)=true):ty∈zlV:=by
 simp only[Bool.and_eq_true]at h
 have h1:=List.all_eq_true.1 zij ty (List.mem_range.2 (by have:=h.2;simpa [Nat.blt_eq]using this))
 rw[h.1]at h1
 simpa using h1
theorem zbO {ty:TypeId} (h:(z4w.testBit ty&&ty.blt 400)=true):(Tryz.prog.info? ty).map (·.size)=some 1:=by
 have:=List.all_eq_true.1 zeM _ (zeL h)
 simp only[Bool.and_eq_true,beq_iff_eq]at this
 exact this.1
theorem z4Z {ty:TypeId} (h:(z4w.testBit ty&&ty.blt 400)=true):(Tryz.prog.underlying ty).map TypeDesc.isRow=some false:=by
 have:=List.all_eq_true.1 zeM _ (zeL h)
 simp only[Bool.and_eq_true,beq_iff_eq]at this
 exact this.2
theorem zcS:(Tryz.prog.info? 114).bind (·.zero)=some (.agg Letter.nil.cells.toArray):=by kernel_rfl
theorem zjO:(Tryz.prog.info? 110).bind (·.zero)=some (.agg AskM.nil.cells.toArray):=by kernel_rfl
theorem zjJ:(Tryz.prog.info? 112).bind (·.zero)=some (.agg SayM.nil.cells.toArray):=by kernel_rfl
theorem zjK:(Tryz.prog.info? 54).bind (·.zero)=some (.agg Rec.nil.cells.toArray):=by kernel_rfl
structure OneM where
 dst:Int
 id:Int
 q:AskM
 asked:Int
 sent:Int
def OneM.cells (o:OneM):List Value:=[.int .i64 o.dst,.int .i64 o.id]++o.q.cells++[.int .i64 o.asked,.int .i64 o.sent]
def OneM.v (o:OneM):Value:=.agg o.cells.toArray
def OneM.nil:OneM:=⟨0,0,AskM.nil,0,0⟩
theorem zjL:(Tryz.prog.info? 278).bind (·.zero)=some (.agg OneM.nil.cells.toArray):=by kernel_rfl
theorem zfd:(Tryz.prog.info? 220).bind (·.zero)=some (.agg [.pointer none,.int .i64 0].toArray):=by kernel_rfl
theorem zhe:(Tryz.prog.info? 165).bind (·.zero)=some (.agg [.pointer none,.int .i64 0].toArray):=by kernel_rfl
theorem zjI:(Tryz.prog.info? 3).bind (·.zero)=some (.int .i64 0):=by kernel_rfl
theorem zcR:(Tryz.prog.info? 9).bind (·.zero)=some (.string ⟨#[]⟩):=by kernel_rfl
theorem zh9:(Tryz.prog.info? 4).bind (·.zero)=some (.bool false):=by kernel_rfl
theorem zjZ:Tryz.prog.underlying 229=some (.slice 278):=Tryz.underlying229
section
section
variable {P:Program} {w:World} {m:Nat} {clock:Nat}
theorem z0T {es:Array MapEntry} (hm:w.heap[m]?=some (.map es clock)):(getObj m).run P w= .ok (.map es clock) w:=by simp[getObj,Sem.run,hm]
theorem z97 {es:Array MapEntry} (o:Obj) (hm:w.heap[m]?=some (.map es clock)):(setObj m o).run P w= .ok () (w.putObj m o):=by simp[setObj,Sem.run,hm,World.putObj]
theorem z36 (b:Bool) {kt:TypeId} {k:IntKind} (hk:P.underlying kt=some (.int k)) (a:Int):(Instr.checkKey b 10000 kt (.int k a)).run P w= .ok () w:=by
 rw[show(10000:Nat)=9999+1 from rfl,Instr.checkKey]
 simp[run_underlying hk]
theorem z4r {t kt et:TypeId} (h:P.underlying t=some (.map kt et)) {k:IntKind} (hk:P.underlying kt=some (.int k)) (hm:w.heap[m]?=some (.map #[] clock)) (a:Int) (v:Value):
  (Instr.mapUpdate t (.map (some m)) (.int k a) v).run P w= .ok () (w.putObj m (.map #[{key:=.int k a,val:=v,born:=clock}] (clock+1))):=by
 simp[Instr.mapUpdate,run_underlying h,z0T hm,z36 _ hk,run_underlying hk,Instr.findKey,Instr.findNow,z97 _ hm]
theorem z6w {t kt et:TypeId} (h:P.underlying t=some (.map kt et)) {k:IntKind} (hk:P.underlying kt=some (.int k)) (hm:w.heap[m]?=some (.map #[] clock)) (a:Int) (z:Value) (hz:(zeroValue et).run P w= .ok z w):
  (Instr.lookup t (.map (some m)) (.int k a) true).run P w= .ok (.tuple #[z,.bool false]) w:=by
 simp[Instr.lookup,run_underlying h,z0T hm,z36 _ hk,run_underlying hk,Instr.findKey,Instr.findNow,hz]
theorem z4f {t kt et ty:TypeId} {es:Array MapEntry} (h:P.underlying t=some (.map kt et)) (hm:w.heap[m]?=some (.map es clock)):
  (Builtin.clear_ #[t] ty #[.map (some m)]).run P w= .ok (.tuple #[]) (w.putObj m (.map #[] clock)):=by
 simp[Builtin.clear_,run_underlying h,z0T hm,z97 _ hm]
section
variable {r:Nat} {e:MapEntry} {since c0:Nat}
theorem z2I {seen:Array Nat} (hr:w.heap[r]?=some (.mapIter (some m) since seen c0)):(getObj r).run P w= .ok (.mapIter (some m) since seen c0) w:=by simp[getObj,Sem.run,hr]
theorem zdp {seen:Array Nat} (o:Obj) (hr:w.heap[r]?=some (.mapIter (some m) since seen c0)):(setObj r o).run P w= .ok () (w.putObj r o):=by simp[setObj,Sem.run,hr,World.putObj]
theorem zbk (hm:w.heap[m]?=some (.map #[e] clock)) (hr:w.heap[r]?=some (.mapIter (some m) since #[] c0)) (hb:e.born<since) (ty:TypeId):
  (Instr.next (.pointer (some ⟨r,0,none⟩)) false ty).run P w= .ok (.tuple #[.bool true,e.key,e.val]) (w.putObj r (.mapIter (some m) since #[e.born] clock)):=by
 have hf:(Question.mapNext 1).forced=true:=rfl
 simp[Instr.next,z2I hr,z0T hm,hb,Nat.not_le.2 hb,hf,zdp _ hr]
theorem za7 (hm:w.heap[m]?=some (.map #[e] clock)) (hr:w.heap[r]?=some (.mapIter (some m) since #[e.born] c0)) (hb:e.born<c0) (ty:TypeId):
  (Instr.next (.pointer (some ⟨r,0,none⟩)) false ty).run P w= .ok (.tuple #[.bool false]) w:=by
 have hf:(Question.mapNext 1).forced=true:=rfl
 simp[Instr.next,z2I hr,z0T hm,Nat.not_le.2 hb,hf]
theorem za8 (hm:w.heap[m]?=some (.map #[e] clock)) (hr:w.heap[r]?=some (.mapIter (some m) since #[e.born] clock)):
  (Instr.entry (.pointer (some ⟨r,0,none⟩))).run P w= .ok (.tuple #[e.key,e.val]) w:=by
 simp[Instr.entry,z2I hr,z0T hm]
end
end
end
section
def zmu:List Value->Nat->List Value->List Value
 |l,_,[]=>l
 |l,o,v::vs=>zmu (l.set o v) (o+1) vs
theorem zdk:∀(vs l:List Value) (o:Nat),o+vs.length<=l.length->zmu l o vs=l.take o++vs++l.drop (o+vs.length)
 |[],l,o,_=>by simp[zmu]
 |v::vs,l,o,h=>by
  rw[List.length_cons]at h
  rw[zmu,zdk vs _ _ (by rw[List.length_set];omega)]
  have e1:(l.set o v).take (o+1)=l.take o++[v]:=by
   rw[List.take_succ_eq_append_getElem (by rw[List.length_set];omega),List.getElem_set_self,List.take_set_of_le (Nat.le_refl _)]
  have e2:(l.set o v).drop (o+1+vs.length)=l.drop (o+(v::vs).length):=by
   rw[List.drop_set_of_lt (by omega),List.length_cons]
   congr 1
   omega
  rw[e1,e2]
  simp
def z3f (d:List ByteArray):List Value:=d.flatMap fun s=>zx s.data.toList
theorem z4B (a b:List ByteArray):z3f (a++b)=z3f a++z3f b:=by simp[z3f]
theorem z3L (s:ByteArray) (d:List ByteArray):z3f (s::d)=zx s.data.toList++z3f d:=rfl
theorem z1I {z:Nat}:∀{d:List ByteArray},(∀s∈d,s.size=z)->(z3f d).length=d.length*z
 |[],_=>by simp[z3f]
 |s::d,h=>by
  rw[z3L,List.length_append,ye,zf,h s (by simp),z1I (fun x hx=>h x (by simp[hx])),List.length_cons,Nat.succ_mul,Nat.add_comm]
theorem zlb {z:Nat} {d:List ByteArray} (h:∀s∈d,s.size=z) {n:Nat} (hn:n<d.length) {s:ByteArray} (hs:s.size=z):zmu (z3f d) (n*z) (zx s.data.toList)=z3f (d.set n s):=by
 have e0:d=d.take n++d[n]::d.drop (n+1):=by rw[List.getElem_cons_drop,List.take_append_drop]
 have hl:=z1I h
 have ht:(z3f (d.take n)).length=n*z:=by
  rw[z1I (fun s hs=>h s (List.mem_of_mem_take hs)),List.length_take,Nat.min_eq_left (Nat.le_of_lt hn)]
 have hc:(zx s.data.toList).length=z:=by rw[ye,zf,hs]
 have hx:(zx d[n].data.toList).length=z:=by rw[ye,zf,h _ (List.getElem_mem hn)]
 have hle:n*z+z<=d.length*z:=by
  rw[<-Nat.succ_mul]
  exact Nat.mul_le_mul_right z hn
 rw[zdk _ _ _ (by rw[hl,hc];exact hle),hc]
 have e1:z3f d=z3f (d.take n)++(zx d[n].data.toList++z3f (d.drop (n+1))):=by
  conv=>lhs;rw[e0]
  rw[z4B,z3L]
 have e2:(z3f d).drop (n*z+z)=z3f (d.drop (n+1)):=by
  rw[e1,List.drop_append,List.drop_of_length_le (by omega),ht,List.nil_append,show n*z+z-n*z=z by omega,List.drop_left' hx]
 have e3:(z3f d).take (n*z)=z3f (d.take n):=by rw[e1,List.take_left' ht]
 rw[e2,e3,List.set_eq_take_append_cons_drop,if_pos hn,z4B,z3L,List.append_assoc]
theorem zj4 {z:Nat} {d:List ByteArray} (h:∀s∈d,s.size=z) {n:Nat} (hn:n<d.length) {j:Nat} {u:Value} (hu:(zx d[n].data.toList)[j]?=some u):(z3f d)[n*z+j]?=some u:=by
 have e0:d=d.take n++d[n]::d.drop (n+1):=by rw[List.getElem_cons_drop,List.take_append_drop]
 have ht:(z3f (d.take n)).length=n*z:=by
  rw[z1I (fun s hs=>h s (List.mem_of_mem_take hs)),List.length_take,Nat.min_eq_left (Nat.le_of_lt hn)]
 have e1:z3f d=z3f (d.take n)++(zx d[n].data.toList++z3f (d.drop (n+1))):=by
  conv=>lhs;rw[e0]
  rw[z4B,z3L]
 have hj:=(List.getElem?_eq_some_iff.1 hu).1
 rw[e1,List.getElem?_append_right (by omega),ht,show n*z+j-n*z=j by omega,List.getElem?_append_left hj]
 exact hu
section
variable {w:World} {own:Nat->Nat} {κ b:Nat} {t:TypeId}
theorem Ob.setCells:∀(vs l:List Value) (o:Nat) {w:World},Ob w own κ b t l->Ob (w.setCells b o vs) own κ b t (zmu l o vs)
 |[],_,_,_,h=>h
 |v::vs,l,o,_,h=>Ob.setCells vs (l.set o v) (o+1) (h.set o v)
theorem Mod.setCells {C:Nat->Prop} {w0:World} (hb:b<w0.heap.size->C (own b)):∀(vs:List Value) (o:Nat) {w:World},Mod own C w0 w->Mod own C w0 (w.setCells b o vs)
 |[],_,_,h=>h
 |v::vs,o,_,h=>Mod.setCells hb vs (o+1) (h.setCell ⟨b,o,none⟩ v hb)
end
end
section
section
variable {α:Type} {f:α->List Value} {z:Nat}
def zd (f:α->List Value) (ls:List α):List Value:=ls.flatMap f
theorem je (x:α) (ls:List α):zd f (x::ls)=f x++zd f ls:=rfl
theorem z18 (hz:∀x,(f x).length=z):∀ls:List α,(zd f ls).length=ls.length*z
 |[]=>by simp[zd]
 |x::ls=>by rw[je,List.length_append,hz,z18 hz ls,List.length_cons,Nat.succ_mul,Nat.add_comm]
theorem z2V (hz:∀x,(f x).length=z):∀{ls:List α} {i j:Nat} {x:α} {u:Value},ls[i]?=some x->(f x)[j]?=some u->(zd f ls)[i*z+j]?=some u
 |[],i,_,_,_,h,_=>by simp at h
 |y::ls,0,j,x,u,h,hu=>by
  simp only[List.getElem?_cons_zero,Option.some.injEq]at h
  subst h
  have hj:=(List.getElem?_eq_some_iff.1 hu).1
  rw[je,Nat.zero_mul,Nat.zero_add,List.getElem?_append_left hj]
  exact hu
 |y::ls,i+1,j,x,u,h,hu=>by
  rw[List.getElem?_cons_succ]at h
  rw[je,List.getElem?_append_right (by rw[hz,Nat.succ_mul];omega),hz,Nat.succ_mul,show i*z+z+j-z=i*z+j by omega]
  exact z2V hz h hu
theorem z5f (hz:∀x,(f x).length=z):∀{ls:List α} {i j:Nat} {x y:α} {v:Value},ls[i]?=some x->j<z->f y=(f x).set j v->(zd f ls).set (i*z+j) v=zd f (ls.set i y)
 |[],i,_,_,_,_,h,_,_=>by simp at h
 |x0::ls,0,j,x,y,v,h,hj,hy=>by
  simp only[List.getElem?_cons_zero,Option.some.injEq]at h
  subst h
  rw[je,Nat.zero_mul,Nat.zero_add,List.set_append_left _ _ (by rw[hz];exact hj),List.set_cons_zero,je,hy]
 |x0::ls,i+1,j,x,y,v,h,hj,hy=>by
  rw[List.getElem?_cons_succ]at h
  rw[je,List.set_append_right _ _ (by rw[hz,Nat.succ_mul];omega),hz,Nat.succ_mul,show i*z+z+j-z=i*z+j by omega,z5f hz h hj hy,List.set_cons_succ,je]
end
section
variable {α:Type} {f:α->List Value} {z:Nat} {w:World} {own:Nat->Nat} {κ b:Nat} {t:TypeId} {ls:List α}
theorem Ob.field (h:Ob w own κ b t (zd f ls)) (hz:∀x,(f x).length=z) {i:Nat} {x:α} (hi:ls[i]?=some x) (j:Nat) (u:Value) (hu:(f x)[j]?=some u):w.cell? ⟨b,i*z+j,none⟩=some u:=h.cell _ _ (z2V hz hi hu)
theorem Ob.setField (h:Ob w own κ b t (zd f ls)) (hz:∀x,(f x).length=z) {i:Nat} {x y:α} (hi:ls[i]?=some x) {j:Nat} {v:Value} (hj:j<z) (hy:f y=(f x).set j v):Ob (w.setCell ⟨b,i*z+j,none⟩ v) own κ b t (zd f (ls.set i y)):=by
 have:=h.set (i*z+j) v
 rwa [z5f hz hi hj hy]at this
end
end
section
theorem Sep.mk_row_nil {F0:Nat->Prop} {w0 w:World} {L:List Assn} {e:TypeId} {size:Nat} (H:Sep F0 w0 w L):Sep F0 w0 w (zh e size (.slice none 0 0) 0 []::L):=Sep.conv (A:=z0w True) (fun _ _ _=>⟨World.ownsRow_nil _ _ _ _,fun g h=>by cases h⟩) (Sep.mk_pure trivial H)
section
variable {P:Program} {op:Oper} {a:Act} {w w0:World} {F0:Nat->Prop} {Q:Exit->Act->World->Prop} {K':Act->World->Prop} {L:List Assn} {ty:TypeId} {y:Operand} {v z:Value}
theorem zcX (ho:op.op= .alloc ty) (hz:(P.info? ty).bind (·.zero)=some z) (h1:z.oneCell'=true)
  (h:∀b w',Sep F0 w0 w' (z7 b ty [z]::L)->K' (a.put op.dst (.pointer (some ⟨b,0,none⟩))) w'):Sep F0 w0 w L->op.wp P a w K' Q:=
 zfi ho hz (by cases z<;>simp_all [Value.oneCell',Value.cells]) h
theorem zhm (ho:op.op= .box ty y) (hy:a.eval y=v) (h1:v.oneCell'=true)
  (h:∀b w',Sep F0 w0 w' (z7 b ty [v]::L)->K' (a.put op.dst (.pointer (some ⟨b,0,none⟩))) w'):Sep F0 w0 w L->op.wp P a w K' Q:=
 zjR ho hy (by cases v<;>simp_all [Value.oneCell',Value.cells]) h
end
theorem z0a {α:Type} {f:α->List Value} (ls:List α) (x:α):zd f (ls++[x])=zd f ls++f x:=by simp[zd]
theorem z47 {α:Type} {f:α->List Value} {z:Nat} (hz:∀x,(f x).length=z):∀{ls:List α} {i:Nat} {x:α},ls[i]?=some x->((zd f ls).drop (i*z)).take z=f x
 |[],_,_,h=>by simp at h
 |y::ls,0,x,h=>by
  simp only[List.getElem?_cons_zero,Option.some.injEq]at h
  subst h
  rw[Nat.zero_mul,List.drop_zero,je,<-hz y,List.take_left]
 |y::ls,i+1,x,h=>by
  rw[List.getElem?_cons_succ]at h
  rw[je,Nat.succ_mul,Nat.add_comm,<-List.drop_drop,List.drop_left' (hz y)]
  exact z47 hz h
section
variable {α:Type} {f:α->List Value} {z:Nat} {ls:List α} {i j:Nat} {x y:α} {L L':List Assn} {e:TypeId} {size g b n c o:Nat} {t:TypeId} {v:Value} {P:Program} {ty:TypeId}
theorem yr (hp:Pick (zh e size (.slice (some ⟨g,0,none⟩) n c) n (zd f ls)) L L') (hx:ls[i]?=some x) (hz:∀x,(f x).length=z) (ho:o=i*z+j) (hv:(f x)[j]?=some v):jz L g o v:=by
 subst ho
 exact zn hp (z2V hz hx hv)
theorem yu (hp:Pick (zh e size (.slice (some ⟨g,0,none⟩) n c) n (zd f ls)) L L') (hx:ls[i]?=some x) (hz:∀x,(f x).length=z) (ho:o=i*z) (hv:(f x)[0]?=some v):jz L g o v:=by
 subst ho
 exact zn hp (z2V (j:=0) hz hx hv)
theorem j0 (hp:Pick (z7 b t (zd f ls)) L L') (hx:ls[i]?=some x) (hz:∀x,(f x).length=z) (ho:o=i*z+j) (hv:(f x)[j]?=some v):jz L b o v:=by
 subst ho
 exact zc hp (z2V hz hx hv)
theorem j3 (hp:Pick (z7 b t (zd f ls)) L L') (hx:ls[i]?=some x) (hz:∀x,(f x).length=z) (ho:o=i*z) (hv:(f x)[0]?=some v):jz L b o v:=by
 subst ho
 exact zc hp (z2V (j:=0) hz hx hv)
theorem yd (hp:Pick (zh e size (.slice (some ⟨g,0,none⟩) n c) n (zd f ls)) L L') (hx:ls[i]?=some x) (hz:∀x,(f x).length=z) (ho:o=i*z) (hn:(P.info? ty).map (·.size)=some (f x).length):jm P ty L g o (f x):=by
 subst ho
 exact⟨z1s z hp (z47 hz hx),hn⟩
theorem yq (hp:Pick (z7 b t (zd f ls)) L L') (hx:ls[i]?=some x) (hz:∀x,(f x).length=z) (ho:o=i*z) (hn:(P.info? ty).map (·.size)=some (f x).length):jm P ty L b o (f x):=by
 subst ho
 exact⟨z1X z hp (z47 hz hx),hn⟩
theorem z3I (k:Nat) {cs:List Value} (hp:Pick (zh e size (.slice (some ⟨g,0,none⟩) n c) n (zd f ls)) L L') (hx:ls[i]?=some x) (hz:∀x,(f x).length=z) (ho:o=i*z+j) (hcs:((f x).drop j).take k=cs) (hn:(P.info? ty).map (·.size)=some cs.length):jm P ty L g o cs:=by
 subst ho
 refine⟨fun F0 w0 w H m u hu=>?_,hn⟩
 subst hcs
 have h1:=z1s z hp (z47 hz hx) F0 w0 w H
 rw[List.getElem?_take]at hu
 split at hu
 ·rw[List.getElem?_drop]at hu
  have:=h1 (j+m) u hu
  rwa [<-Nat.add_assoc]at this
 ·cases hu
theorem zj3 (hz:∀x,(f x).length=z) (hx:ls[i]?=some x) (hj:j<z):i*z+j<(zd f ls).length:=by
 have hi:=(List.getElem?_eq_some_iff.1 hx).1
 rw[z18 hz]
 have h2:(i+1)*z<=ls.length*z:=Nat.mul_le_mul_right z hi
 rw[Nat.succ_mul]at h2
 omega
theorem jw (y:α) (hp:Pick (zh e size (.slice (some ⟨g,0,none⟩) n c) n (zd f ls)) L L') (hx:ls[i]?=some x) (hz:∀x,(f x).length=z) (ho:o=i*z+j) (hj:j<z) (hy:f y=(f x).set j v):z0m L g o v (zh e size (.slice (some ⟨g,0,none⟩) n c) n (zd f (ls.set i y))::L'):=by
 subst ho
 rw[<-z5f hz hx hj hy]
 exact z2h hp (zj3 hz hx hj)
theorem z0r (y:α) (hp:Pick (zh e size (.slice (some ⟨g,0,none⟩) n c) n (zd f ls)) L L') (hx:ls[i]?=some x) (hz:∀x,(f x).length=z) (ho:o=i*z) (hj:0<z) (hy:f y=(f x).set 0 v):z0m L g o v (zh e size (.slice (some ⟨g,0,none⟩) n c) n (zd f (ls.set i y))::L'):=jw y hp hx hz (by simpa using ho) hj hy
theorem z02 (y:α) (hp:Pick (z7 b t (zd f ls)) L L') (hx:ls[i]?=some x) (hz:∀x,(f x).length=z) (ho:o=i*z+j) (hj:j<z) (hy:f y=(f x).set j v):z0m L b o v (z7 b t (zd f (ls.set i y))::L'):=by
 subst ho
 rw[<-z5f hz hx hj hy]
 exact z2B hp (zj3 hz hx hj)
theorem z01 (y:α) (hp:Pick (z7 b t (zd f ls)) L L') (hx:ls[i]?=some x) (hz:∀x,(f x).length=z) (ho:o=i*z) (hj:0<z) (hy:f y=(f x).set 0 v):z0m L b o v (z7 b t (zd f (ls.set i y))::L'):=z02 y hp hx hz (by simpa using ho) hj hy
end
end
end Go.Proofs.YtmfincpagnpkjaaGreat
