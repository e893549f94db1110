/- Part of the proof. -/
import Derived.ArgAppend
import Derived.Sort.OwnSortedInts
import Derived.Test.YtmfincpagnpkjaaGreatM13
import Derived.Test.YtmfincpagnpkjaaGreatM24
set_option linter.all false
set_option maxRecDepth 100000
set_option maxHeartbeats 100000000
namespace Go.Proofs.YtmfincpagnpkjaaGreat
open Go.RowKit
section
section
variable {P:Program} {op:Oper} {a:Act} {w w0:World} {F0:Nat->Prop} {Q:Exit->Act->World->Prop} {K':Act->World->Prop} {L L':List Assn} {t e:TypeId} {x s:Operand} {v z:Value} {size g n c o:Nat} {xs cs news:List Value}
theorem z4s (H:Sep F0 w0 w L) (hp:Pick (zh e size (.slice (some ⟨g,0,none⟩) n c) n xs) L L'):n<=c:=by
 rcases(H.row hp).2 with⟨h,_⟩|⟨g',cap,cur,hv,_,_,h,_⟩
 ·cases h
 ·cases hv;exact h
theorem zdr (H:Sep F0 w0 w L) (hp:Pick (zh e size v n xs) L L'):xs.length=n*size:=(H.row hp).1
theorem z0Z:∀(cs xs:List Value) (o:Nat),(setFrom xs o cs).length=xs.length
 |[],_,_=>rfl
 |v::cs,xs,o=>by rw[setFrom,z0Z cs,List.length_set]
theorem z5t (hp:Pick (zh e size (.slice (some ⟨g,0,none⟩) n c) n xs) L L') (hl:o+cs.length<=xs.length):z1Z L g o cs (zh e size (.slice (some ⟨g,0,none⟩) n c) n (setFrom xs o cs)::L'):=by
 intro F0 w0 w H
 refine⟨fun j hj=>?_, ?_⟩
 ·exact((z2h (v:=undef) (o:=o+j) hp (by omega)) F0 w0 w H).1
 ·replace H:=H.pick hp
  clear hp
  induction cs generalizing xs w o with
  |nil=>exact H
  |cons v cs ih=>
   simp only[List.length_cons]at hl
   exact ih (o:=o+1) (xs:=xs.set o v) (w:=w.setCell ⟨g,o,none⟩ v) (by rw[List.length_set];omega) ((z2h (v:=v) .head (by omega)) F0 w0 w H).2
theorem z6T {i j m c2 bytes q:Nat} (ho:op.op= .call {callee:=.builtin .append,args:=#[s,x],argTypes:=#[t,t]}) (ht:P.underlying t=some (.slice e)) (hi:(P.info? e).map (fun i=>(i.size,i.bytes))=some (size,bytes))
  (hs:a.eval s= .slice (some ⟨g,0,none⟩) i c) (hx:a.eval x= .slice (some ⟨g,q,none⟩) m c2) (hq:m=0\/q=j*size) (hp:Pick (zh e size (.slice (some ⟨g,0,none⟩) n c) n xs) L L') (hn:i+m<=n) (hj:j+m<=n) (h1:xs.all (·.oneCell')=true)
  (h:∀w',Sep F0 w0 w' (zh e size (.slice (some ⟨g,0,none⟩) n c) n (setFrom xs (i*size) ((xs.drop (j*size)).take (m*size)))::L')->K' (a.put op.dst (.slice (some ⟨g,0,none⟩) (i+m) c)) w'):Sep F0 w0 w L->op.wp P a w K' Q:=fun H=>by
 cases hpi:P.info? e with
 |none=>simp[hpi]at hi
 |some inf=>
  have hi:inf.size=size/\inf.bytes=bytes:=by simpa [hpi]using hi
  have hlen:=zdr H hp
  have hcap:=z4s H hp
  have hjm:j*size+m*size<=n*size:=by rw[<-Nat.add_mul];exact Nat.mul_le_mul_right _ hj
  have him:i*size+m*size<=n*size:=by rw[<-Nat.add_mul];exact Nat.mul_le_mul_right _ hn
  have hnl:((xs.drop (j*size)).take (m*size)).length=m*size:=by rw[List.length_take,List.length_drop];omega
  have hT:=(z5t (o:=i*size) (cs:=(xs.drop (j*size)).take (m*size)) hp (by rw[hnl];omega)) F0 w0 w H
  have hR:=(z1s (o:=j*size) (m*size) hp rfl) F0 w0 w H
  have hrun:=run_append_room_cells (P:=P) w t op.type e inf ht hpi g 0 i c ⟨g,q,none⟩ m c2 ((xs.drop (j*size)).take (m*size)) (by rw[hi.1];exact hnl) (fun k u hu=>by
    rcases hq with rfl|rfl
    ·simp at hu
    ·rw[Addr.add_mid];exact hR k u hu)
   (fun u hu=>List.all_eq_true.1 h1 u (List.mem_of_mem_drop (List.mem_of_mem_take hu))) (by omega) (fun k hk=>by rw[hi.1,Nat.zero_add];exact(hT.1 k hk).1) (fun k hk=>by rw[hi.1,Nat.zero_add];exact(hT.1 k hk).2)
  rw[hi.1,Nat.zero_add]at hrun
  refine jp ?_ (h _ hT.2)
  unfold execOp
  simp[ho,resolve,invoke,builtin,hs,hx,hrun]
theorem za9 {ty:TypeId} (ht:P.underlying t=some (.slice e)) (hz:(P.info? e).bind (·.zero)=some (.agg cs.toArray)) (h1:cs.all (·.oneCell')=true) (hT:w.there g o cs.length) (h0:0<cs.length):
  (Builtin.clear_ #[t] ty #[.slice (some ⟨g,o,none⟩) 1 c]).run P w= .ok (.tuple #[]) (w.setCells g o cs):=by
 cases hq:P.info? e with
 |none=>simp[hq]at hz
 |some inf=>
  have hz:inf.zero=some (.agg cs.toArray):=by simpa [hq]using hz
  have hv:(zeroValue e).run P w= .ok (.agg cs.toArray) w:=by simp[zeroValue,typeInfo,hq,hz]
  have hzc:(Builtin.zeroCells cs.toArray 1).toList=cs:=by
   simp[Builtin.zeroCells]
   apply List.ext_getElem
   ·simp
   ·intro i h1 h2
    simp[Nat.mod_eq_of_lt h2,h2]
  have hst:=run_storeCells_cells (P:=P) g o cs 0 w (by simpa using fun j hj=>(hT j hj).1) (by simpa using fun j hj=>(hT j hj).2) (fun u hu=>List.all_eq_true.1 h1 u hu)
  simp only[Nat.add_zero]at hst
  simp[Builtin.clear_,run_underlying ht,hv,Value.cells,hzc,hst]
theorem z98 (m:Nat) (hm:m<=n) (H:Sep F0 w0 w (zh e size (.slice (some ⟨g,0,none⟩) n c) n xs::L)):Sep F0 w0 w (zh e size (.slice (some ⟨g,0,none⟩) m c) m (xs.take (m*size))::L):=by
 refine Sep.conv ?_ H
 rintro F w ⟨⟨h1,h2⟩,h3⟩
 have hms:m*size<=n*size:=Nat.mul_le_mul_right _ hm
 refine⟨⟨by rw[List.length_take,h1];omega, ?_⟩,h3⟩
 rcases h2 with⟨h,_⟩|⟨g',cap,cur,hv,hb,hh,k1,k2,k3,k4⟩
 ·cases h
 ·cases hv
  refine .inr ⟨g,c,cur,rfl,hb,hh,by omega,k2,k3, ?_⟩
  rw[<-k4,List.take_take,Nat.min_eq_left hms]
end
theorem z1Q:∀(cs xs:List Value) (o:Nat),o+cs.length<=xs.length->setFrom xs o cs=xs.take o++cs++xs.drop (o+cs.length)
 |[],xs,o,h=>by simp[setFrom]
 |v::cs,xs,o,h=>by
  simp only[List.length_cons]at h
  rw[setFrom,z1Q cs _ (o+1) (by rw[List.length_set];omega),List.take_succ_eq_append_getElem (by rw[List.length_set];omega),List.getElem_set_self,List.take_set_of_le (Nat.le_refl _),List.drop_set_of_lt (by omega)]
  simp[Nat.add_assoc,Nat.add_comm 1]
theorem ze6 {α:Type} {f:α->List Value} {z:Nat} (hz:∀x,(f x).length=z) {ls:List α} {i:Nat} (hi:i<ls.length) (zs:List Value) (hzs:zs.length=z):
  (setFrom (setFrom (zd f ls) (i*z) (((zd f ls).drop ((i+1)*z)).take ((ls.length-(i+1))*z))) ((ls.length-1)*z) zs).take ((ls.length-1)*z)=zd f (ls.eraseIdx i):=by
 have hl:=z18 (f:=f) hz ls
 have h1:(i+1)*z<=ls.length*z:=Nat.mul_le_mul_right _ hi
 have h2:(i+1)*z=i*z+z:=Nat.succ_mul i z
 have h3:(ls.length-1)*z+z=ls.length*z:=by rw[<-Nat.succ_mul];congr 1;omega
 have h4:(ls.length-(i+1))*z=ls.length*z-(i+1)*z:=Nat.sub_mul _ _ _
 have h5:((zd f ls).drop ((i+1)*z)).take ((ls.length-(i+1))*z)=(zd f ls).drop ((i+1)*z):=List.take_of_length_le (by rw[List.length_drop,hl,h4];omega)
 rw[h5]
 obtain⟨T,hT⟩:∃T,T=setFrom (zd f ls) (i*z) ((zd f ls).drop ((i+1)*z)):=⟨_,rfl⟩
 have hTl:T.length=ls.length*z:=by rw[hT,z0Z,hl]
 rw[<-hT,z1Q _ _ _ (by rw[hTl,hzs];omega),List.append_assoc,List.take_left' (by rw[List.length_take,hTl];omega),hT,z1Q _ _ _ (by rw[List.length_drop,hl];omega)]
 rw[List.take_left' (by rw[List.length_append,List.length_take,List.length_drop,hl];omega),List.eraseIdx_eq_take_drop_succ]
 have e1:∀(k:Nat) (ls:List α),zd f (ls.take k)=(zd f ls).take (k*z):=by
  intro k
  induction k with
  |zero=>intro ls;simp[zd]
  |succ k ih=>
   intro ls
   cases ls with
   |nil=>simp[zd]
   |cons x ls=>rw[List.take_succ_cons,je,je,ih,Nat.succ_mul,Nat.add_comm (k*z),<-hz x,List.take_length_add_append]
 have e2:∀(k:Nat) (ls:List α),zd f (ls.drop k)=(zd f ls).drop (k*z):=by
  intro k
  induction k with
  |zero=>intro ls;simp
  |succ k ih=>
   intro ls
   cases ls with
   |nil=>simp[zd]
   |cons x ls=>rw[List.drop_succ_cons,je,ih,Nat.succ_mul,Nat.add_comm (k*z),<-hz x,List.drop_length_add_append]
 have e3:∀(a b:List α),zd f (a++b)=zd f a++zd f b:=by intro a b;simp[zd]
 rw[e3,e1,e2]
theorem z0X {α:Type} {f:α->List Value} (hf:∀x,(f x).all (·.oneCell')=true):∀ls:List α,(zd f ls).all (·.oneCell')=true
 |[]=>rfl
 |x::ls=>by rw[je,List.all_append,hf,z0X hf ls];rfl
theorem OneM.ones (o:OneM):o.cells.all (·.oneCell')=true:=rfl
theorem zbj (ls:List OneM) (i g c:Nat) (hi:i<ls.length) (hmax:ls.length<=64):zi Tryz.prog 181 #[.slice (some ⟨g,0,none⟩) ls.length c,.int .i64 i,.int .i64 (i+1:Nat)] [zh 278 13 (.slice (some ⟨g,0,none⟩) ls.length c) ls.length (zd OneM.cells ls)]
  fun v K=>∃g c,v= .slice (some ⟨g,0,none⟩) (ls.length-1) c/\K=[zh 278 13 (.slice (some ⟨g,0,none⟩) (ls.length-1) c) (ls.length-1) (zd OneM.cells (ls.eraseIdx i))]:=by
 intro F0 w0 w R H
 try simp only[xNf]at H
 have hc:=z4s H pk
 obtain⟨n,hn⟩:=xG (ls.length)
 obtain⟨xs,hxs⟩:=xG (zd OneM.cells ls)
 rw[hn]at hi hmax hc
 rw[hn,hxs]at H
 rw[hn]
 have d1:((i:Int)==((i+1:Nat):Int))=false:=beq_eq_false_iff_ne.2 (by omega)
 have hall:xs.all (·.oneCell')=true:=by rw[<-hxs];exact z0X OneM.ones ls
 obtain⟨q,hq1,hq2⟩:∃q,(if c=i+1 then(some ⟨g,0,none⟩:Option Addr)else some ⟨g,(i+1)*13,none⟩)=some ⟨g,q,none⟩/\(n-(i+1)=0\/q=(i+1)*13):=by
  split
  ·exact⟨0,rfl,.inl (by omega)⟩
  ·exact⟨_,rfl,.inr rfl⟩
 have HN:=Lib.hid hn
 have HXS:=Lib.hid hxs
 clear hn hxs
 go_enter Tryz.func181,Tryz.ntmps181
 go_wp2_with (first|refine xLd H ?_|(refine xEf H ?_;clear H;intro b A' w H))
 refine xRg [6] (fun L=>[L,zh 278 13 (.slice (some ⟨g,0,none⟩) n c) n (setFrom xs (i*13) ((xs.drop ((i+1)*13)).take ((n-(i+1))*13)))::L.drop 1]) H ?_
 clear H;intro w H
 simp only[List.drop_succ_cons,List.drop_zero]
 have HS:=H
 refine xO 0 0 HS ?_
 refine xO 1 0 HS ?_
 refine xO 2 0 HS ?_ (hy:=by(intro W;go_simp;rw[if_pos (by omega)]);try with_reducible rfl)
 refine xO 3 0 HS ?_
 refine xO 4 0 HS ?_
 refine xO 5 0 HS ?_ (hy:=by(intro W;go_simp;rw[if_pos (by omega)]);try with_reducible rfl)
 clear HS
 refine tk1 6 1 (fun K' hK=>?_)
 (refine z6T (size:=13) (bytes:=112) (i:=i) (j:=i+1) (m:=n-(i+1)) rfl und inf rfl rfl hq2 pk (by omega) (by omega) hall ?_ H;clear H;intro w H)
 refine hK _ _ (H.sub sbn) (fun HS=>?_)
 clear hK K'
 try simp only[xPt]
 refine xO 7 1 HS ?_
 refine xD ?_
 go_wp2_with (first|refine xLd H ?_|(refine xEf H ?_;clear H;intro b A' w H))
 clear HS
 have e1:i+(n-(i+1))=n-1:=by omega
 have e2:n-(n-1)=1:=by omega
 have hlen:=zdr H pk
 rw[z0Z]at hlen
 have hT:=(z5t (o:=(n-1)*13) (cs:=OneM.nil.cells) pk (by rw[z0Z];show _+13<=_;omega)) F0 w0 w H
 rw[e1,e2,za9 und z9L rfl hT.1 (by decide)]
 obtain⟨w2,hw2⟩:∃w2,w2=w.setCells g ((n-1)*13) OneM.nil.cells:=⟨_,rfl⟩
 have H2:=hT.2
 rw[<-hw2]at H2⊢
 clear hT hw2 H
 have H3:=z98 (n-1) (by omega) H2
 have hi':i<ls.length:=by rw[HN.out];exact hi
 have hfin:=ze6 OneM.cells_length hi' OneM.nil.cells rfl
 rw[HN.out,HXS.out]at hfin
 rw[hfin]at H3
 have HFIN:=Lib.hid H3
 clear hfin H3 H2 hq1 hq2 hall
 go_wp2
 refine bodyPost_ret (zag rfl (by first|exact rsc H|exact rfl)) rfl ?_
 exact⟨_,_,rfl,⟨g,c,rfl,rfl⟩,HFIN.out⟩
end
section
abbrev z09 (x:Int):Value:=.int .i64 x
section
variable {w w' w0:World} {F0:Nat->Prop} {L L':List Assn} {e:TypeId} {size n n' g c c':Nat} {xs ys:List Value}
theorem Sep.turnRow (hp:Pick (zh e size (.slice (some ⟨g,0,none⟩) n c) n xs) L L') (H:Sep F0 w0 w L) (hg:w.grownBy w' (some g)) (ho:w'.ownsRow 0 e size (.slice (some ⟨g,0,none⟩) n' c') n' ys):Sep F0 w0 w' (zh e size (.slice (some ⟨g,0,none⟩) n' c') n' ys::L'):=by
 refine Sep.turn (K:=[zh e size (.slice (some ⟨g,0,none⟩) n' c') n' ys]) (H.pick hp) hg.os hg.tape hg.output hg.size ?_
 rintro F ⟨h1,h2⟩ hF
 have hFg:=h2 g rfl
 refine⟨F,⟨F,fun _=>False,fun _ h=>h,fun _ h=>h.elim,fun _ _ h=>h,⟨ho,fun k hk=>by cases hk;exact hFg⟩,trivial⟩,fun k hk=>⟨Nat.lt_of_lt_of_le (hF k hk) hg.size,.inl hk⟩,fun k hk hFk=>hg.block k hk (fun e=>by cases e;exact hFk hFg)⟩
end
open Go.Sort in
theorem zfD (v:Value) (zs:List Int) (hmax:zs.length<=1000):zi Tryz.prog 125 #[v] [zh 3 1 v zs.length (zs.map z09)] fun r K=>r= .tuple #[]/\K=[zh 3 1 v zs.length ((zs.mergeSort fun x y=>decide (x<=y)).map z09)]:=by
 intro F0 w0 w R H
 have hrow:=H.row (v:=v) .head
 rcases hrow.2 with⟨rfl,h0⟩|⟨g,cap,cur,rfl,hbase,hb,h1,h2,h3,h4⟩
 ·have hz:zs=[]:=List.eq_nil_of_length_eq_zero h0
  subst hz
  refine(Tryz.slices_Sort_int_none none 0 w).mono ?_
  rintro e w' ⟨rfl,rfl⟩
  exact⟨_,_,rfl,⟨rfl,rfl⟩,by rw[List.mergeSort_nil];exact H⟩
 ·refine(Tryz.slices_Sort_int g 0 cap zs w (holds_of_blockI hb (by simpa using h4)) (Array.getElem?_eq_some_iff.1 hb).1 (by omega)).mono ?_
  rintro e w' ⟨rfl,k,os,rfl⟩
  exact⟨_,_,rfl,⟨rfl,rfl⟩,Sep.turnRow .head H (grownBy_sortedI _) (ownsRow_sortedI (List.length_mergeSort zs) (Nat.zero_le _) hb h1 h2 h3)⟩
open Go.Sort in
theorem za4 (v:Value) (zs:List Int) (hmax:zs.length<=1000):zi Tryz.prog 199 #[v] [zh 3 1 v zs.length (zs.map z09)] fun r K=>∃A c,r= .slice A (Lib.compact zs).length c/\K=[zh 3 1 (.slice A (Lib.compact zs).length c) (Lib.compact zs).length ((Lib.compact zs).map z09)]:=by
 intro F0 w0 w R H
 have hrow:=H.row (v:=v) .head
 rcases hrow.2 with⟨rfl,h0⟩|⟨g,cap,cur,rfl,hbase,hb,h1,h2,h3,h4⟩
 ·have hz:zs=[]:=List.eq_nil_of_length_eq_zero h0
  subst hz
  refine(Tryz.slices_Compact_int_empty none 0 w).mono ?_
  rintro e w' ⟨rfl,rfl⟩
  exact⟨_,_,rfl,⟨none,0,rfl,rfl⟩,H⟩
 ·refine(Tryz.slices_Compact_int g 0 cap zs w (holds_of_blockI hb (by simpa using h4)) (by omega) h1).mono ?_
  rintro e w' ⟨rfl,q,rfl⟩
  have hle:(Lib.compact zs).length<=zs.length:=Lib.compact_length_le zs
  have hgr:=grownBy_sortedI (w:=w) (g:=g) (n:=q) (os:=#[]) (Lib.compact zs++List.replicate (zs.length-(Lib.compact zs).length) 0).toArray
  have hown:=ownsRow_sortedI (w:=w) (n:=q) (os:=#[]) (ss:=zs) (ts:=Lib.compact zs++List.replicate (zs.length-(Lib.compact zs).length) 0) (by simp;omega) (Nat.zero_le g) hb h1 h2 h3
  rw[grow_empty]at hgr hown
  have H':=Sep.turnRow .head H hgr hown
  have H2:=z98 (Lib.compact zs).length hle H'
  rw[Nat.mul_one,List.map_append,List.take_left' (by simp)]at H2
  exact⟨_,_,rfl,⟨_,_,rfl,rfl⟩,H2⟩
theorem zhU (v:Value) (zs:List Int) (n:Nat) (hn:zs.length=n) (hmax:n<=1000):zi Tryz.prog 199 #[v] [zh 3 1 v n (zs.map z09)] fun r K=>∃A c,r= .slice A (Lib.compact zs).length c/\K=[zh 3 1 (.slice A (Lib.compact zs).length c) (Lib.compact zs).length ((Lib.compact zs).map z09)]:=by
 subst hn
 exact za4 v zs hmax
theorem zmC (v:Value) (zs:List Int) (n:Nat) (hn:zs.length=n) (hmax:n<=1000):zi Tryz.prog 125 #[v] [zh 3 1 v n (zs.map z09)] fun r K=>r= .tuple #[]/\K=[zh 3 1 v n ((zs.mergeSort fun x y=>decide (x<=y)).map z09)]:=by
 subst hn
 exact zfD v zs hmax
end
section
attribute [local go_sem] Oper.semAt_some
def zbU:Option Value->Bool
 |some (.slice none 0 0)=>true
 |_=>false
theorem z8I:∀{o:Option Value},zbU o=true->o=some (.slice none 0 0)
 |some (.slice none 0 0),_=>rfl
def ziw:Option Value->Bool
 |some (.pointer none)=>true
 |_=>false
theorem zbV:∀{o:Option Value},ziw o=true->o=some (.pointer none)
 |some (.pointer none),_=>rfl
def zhN:List Nat:=[24,25,30,41,64,67,81,101,118,144,150,153,176,177,229,237,297,355,360]
def zbD:List Nat:=[15,16,17,28,65,66,71,72,86,87,103,106,140,141,161,167,179,194,209,244,250,267,310,311,336,363,377]
theorem zfE:(zhN.all fun t=>zbU ((Tryz.prog.info? t).bind (·.zero)))=true:=by kernel_rfl
theorem zbC:(zbD.all fun t=>ziw ((Tryz.prog.info? t).bind (·.zero)))=true:=by kernel_rfl
theorem z9K {t:TypeId} (h:zhN.contains t=true:=by rfl):(Tryz.prog.info? t).bind (·.zero)=some (.slice none 0 0):=
 z8I (List.all_eq_true.1 zfE t (by simpa using h))
theorem zlB {t:TypeId} (h:zbD.contains t=true:=by rfl):(Tryz.prog.info? t).bind (·.zero)=some (.pointer none):=
 zbV (List.all_eq_true.1 zbC t (by simpa using h))
def z7g (k now t:Int):Bool:=decide (k<=wrap64 (now-t))
theorem zgk (nb:Nat) (now:Int) (o:OneM):zi Tryz.prog 198 (#[o.v]++#[.pointer (some ⟨nb,0,none⟩)]) [z7 nb 3 [.int .i64 now]] fun v K=>v= .bool (z7g 8 now o.asked)/\K=[z7 nb 3 [.int .i64 now]]:=by
 intro F0 w0 w R H
 try simp only[xNf]at H
 show Calls _ _ #[o.v,.pointer (some ⟨nb,0,none⟩)] w _
 go_enter Tryz.func198,Tryz.ntmps198
 go_wp2_with (first|refine xLd H ?_|(refine xSt H ?_;clear H;intro w H;try dsimp only[List.set]at H)|(refine xNw H ?_;clear H;intro b w H)|(refine xAp H ?_;clear H;intro A' k' w H))
 refine xR1 H ?_
 exact xF H
theorem zer (nb:Nat) (now:Int) (o:OneM):zi Tryz.prog 161 (#[o.v]++#[.pointer (some ⟨nb,0,none⟩)]) [z7 nb 3 [.int .i64 now]] fun v K=>v= .bool (z7g 2 now o.sent)/\K=[z7 nb 3 [.int .i64 now]]:=by
 intro F0 w0 w R H
 try simp only[xNf]at H
 show Calls _ _ #[o.v,.pointer (some ⟨nb,0,none⟩)] w _
 go_enter Tryz.func161,Tryz.ntmps161
 go_wp2_with (first|refine xLd H ?_|(refine xSt H ?_;clear H;intro w H;try dsimp only[List.set]at H)|(refine xNw H ?_;clear H;intro b w H)|(refine xAp H ?_;clear H;intro A' k' w H))
 refine xR1 H ?_
 exact xF H
section
variable {F0:Nat->Prop} {w0 w:World} {L L' K:List Assn} {α:Type} {f:α->Assn}
theorem Sep.unbagP (hp:Pick (zaN K) L L') (H:Sep F0 w0 w L):Sep F0 w0 w (K++L'):=(H.pick hp).unbag
end
def zaI (ls:List OneM) (i:Nat):Int:=match ls[i]? with|some o=>o.dst|none=>0
theorem zkk (f:OneM->Bool) (ls:List OneM):(z1x f ls ls.length).map (zaI ls)=(ls.filter f).map (·.dst):=by
 have key:∀(b a:List OneM),(z1x f (a++b) a.length).map (zaI (a++b))=(a.filter f).map (·.dst)->(z1x f (a++b) (a++b).length).map (zaI (a++b))=((a++b).filter f).map (·.dst):=by
  intro b
  induction b with
  |nil=>intro a h;simpa using h
  |cons o b ih=>
   intro a h
   have ho:(a++o::b)[a.length]?=some o:=by simp
   have e:a++o::b=(a++[o])++b:=by simp
   rw[e]
   refine ih (a++[o]) ?_
   rw[<-e,List.length_append,List.length_singleton,List.filter_append,List.map_append,<-h]
   by_cases hf:f o=true
   ·rw[z4Q ho hf,List.map_append]
    congr 1
    simp[zaI,hf]
   ·have hf:f o=false:=by simpa using hf
    rw[za3 ho hf]
    simp[hf]
 have:=key ls [] (by simp[z1x])
 simpa using this
def CallsM.late (s:CallsM) (now:Int):List Int:=Lib.compact (((s.opn.filter fun o=>z7g 8 (zv now) o.asked).map (·.dst)).mergeSort fun x y=>decide (x<=y))
abbrev z6E (c bc ab:Nat) (ls:List OneM) (pre:List Nat):Assn:=exA fun x:Option Addr×Nat=>zaN [z7 bc 167 [.pointer (some ⟨c,0,none⟩)],z7 ab 25 [.slice x.1 pre.length x.2],zh 3 1 (.slice x.1 pre.length x.2) pre.length ((pre.map (zaI ls)).map z09)]
section
variable {F0:Nat->Prop} {w0 w:World} {L:List Assn} {c bc ab m k:Nat} {ls:List OneM} {pre:List Nat} {A:Option Addr} {xs:List Value}
theorem z6E.mk (H:Sep F0 w0 w (z7 bc 167 [.pointer (some ⟨c,0,none⟩)]::z7 ab 25 [.slice A m k]::zh 3 1 (.slice A m k) m xs::L)) (hm:m=pre.length) (hx:xs=(pre.map (zaI ls)).map z09):Sep F0 w0 w (z6E c bc ab ls pre::L):=by
 subst hm hx
 exact Sep.mk_ex (A,k) (Sep.bag (K:=[_,_,_]) H)
theorem z6E.open' (H:Sep F0 w0 w (z6E c bc ab ls pre::L)):∃A k,Sep F0 w0 w (z7 bc 167 [.pointer (some ⟨c,0,none⟩)]::z7 ab 25 [.slice A pre.length k]::zh 3 1 (.slice A pre.length k) pre.length ((pre.map (zaI ls)).map z09)::L):=by
 obtain⟨⟨A,k⟩,H⟩:=H.ex
 exact⟨A,k,H.unbag⟩
end
theorem ziJ (c:Nat) (s:CallsM) (now:Int) (hmax:s.opn.length<=64):zi Tryz.prog 153 #[.pointer (some ⟨c,0,none⟩),.int .i64 now] [yk c s] fun v K=>∃A k,v= .slice A (s.late now).length k/\K=[zh 3 1 (.slice A (s.late now).length k) (s.late now).length ((s.late now).map z09),yk c s]:=by
 intro F0 w0 w R H
 try simp only[xNf]at H
 replace H:=yk.open' H
 obtain⟨v,H⟩:=H
 obtain⟨A,k,rfl⟩:=zt H pk
 obtain⟨frm,last,ls⟩:=s
 simp only at*
 obtain⟨n,hn⟩:=xG (ls.length)
 rw[hn]at H hmax
 obtain⟨f,hf⟩:∃f:OneM->Bool,f=fun o=>z7g 8 (zv now) o.asked:=⟨_,rfl⟩
 have hz:=zkk f ls
 rw[hn]at hz
 obtain⟨zs,hzs⟩:∃zs,zs=(ls.filter f).map (·.dst):=⟨_,rfl⟩
 obtain⟨m,hm⟩:=xG ((z1x f ls n).length)
 have hm':zs.length=m:=by rw[hzs,<-hz,List.length_map,hm]
 have hm64:m<=1000:=by have:=z2F f ls n;omega
 have hlate:CallsM.late ⟨frm,last,ls⟩ now=Lib.compact (zs.mergeSort fun x y=>decide (x<=y)):=by
  unfold CallsM.late
  rw[hzs,hf]
 rw[hlate]
 have HS:=Lib.hid (fun A1 k1=>zmC (.slice A1 m k1) zs m hm' hm64)
 have HC:=Lib.hid (fun A1 k1=>zhU (.slice A1 m k1) (zs.mergeSort fun x y=>decide (x<=y)) m (by rw[List.length_mergeSort];exact hm') hm64)
 obtain⟨ys,hys⟩:∃ys,ys=zs.mergeSort fun x y=>decide (x<=y):=⟨_,rfl⟩
 rw[<-hys]at HS HC⊢
 have HZ:=Lib.hid (show(z1x f ls n).map (zaI ls)=zs/\(z1x f ls n).length=m from⟨hz.trans hzs.symm,hm⟩)
 have hok:∀nb o,zi Tryz.prog 198 (#[o.v]++#[.pointer (some ⟨nb,0,none⟩)]) [z7 nb 3 [.int .i64 (zv now)]] fun v K=>v= .bool (f o)/\K=[z7 nb 3 [.int .i64 (zv now)]]:=by
  rw[hf]
  exact fun nb o=>zgk nb (zv now) o
 have HOK:=Lib.hid hok
 have HN:=Lib.hid hn
 clear hn hys hlate hm64 hm' hm hzs hz hf hok
 refine(callsIn_wide (n:=3)).1 (callsIn_of_wp_marks Tryz.func153 rfl trivial ?_ rfl)
 simp only[Tryz.ntmps153,List.size_toArray,List.length_cons,List.length_nil,Nat.reduceAdd,Nat.reduceSub,Array.replicate_succ,Array.replicate_zero,List.push_toArray,List.append_toArray,List.nil_append,List.cons_append]
 refine wpIn_wide.2 ?_
 go_wp2_with (first|(go_at_call 121;refine(z1o now _).mono ?_;rintro e w' ⟨rfl,rfl⟩)|(go_at_call 160;revert H;refine zi.use (z5G c 198 _) pks ?_;rintro _ _ w ⟨cb,okb,rfl,rfl⟩ H;try simp only[xNf]at H)|(refine xNt 167 H ?_;clear H;intro bc w H)|(refine xNt 3 H ?_;clear H;intro nb w H)|(refine xNt 25 H ?_;clear H;intro ab w H)|first|refine xLd H ?_|(refine xSt H ?_;clear H;intro w H;try dsimp only[List.set]at H)|(refine xNw H ?_;clear H;intro b w H)|(refine xAp H ?_;clear H;intro A' k' w H))
 replace H:=Sep.mk_row_nil (e:=3) (size:=1) H
 refine(wpIn_wide (n:=2)).1 (z1c (F0:=F0) (w0:=w0) (R:=R) (c:=.ret) rfl (enters_of Tryz.func204 (by kernel_rfl) rfl) (by simp) 0
  (z5H c cb okb (.int .i64 frm) (.int .i64 last) 198 #[.pointer (some ⟨nb,0,none⟩)] A n k ls HN.out hmax f (z7 nb 3 [.int .i64 (zv now)]) (z6E c bc ab ls) (fun _=>ls) (fun _=>[z0w False])
   (fun _ _=>rfl) (HOK.out nb) (enters_of Tryz.func198 (by kernel_rfl) rfl)) ?body ?done ?stop ?start)
 case start=>
  have H2:Sep F0 w0 w (z6E c bc ab ls []::_):=z6E.mk (m:=0) (A:=none) (k:=0) (xs:=[]) (H.sub (.cons pk (.cons pk (.cons pk .refl)))) rfl rfl
  exact H2.sub sba
 case stop=>
  rintro D xs W-HD
  exact((HD.sub (K:=[z0w False]) (.cons (.tail .head) .nil)).pure).1.elim
 case body=>
  rintro l pre x F1 w1 W R1 ⟨o,hx,hf,hpre⟩ H
  have hlen:pre.length<=x:=by rw[hpre];exact z2F _ _ _
  clear hpre hf
  have hxn:x<n:=by rw[<-HN.out];exact(List.getElem?_eq_some_iff.1 hx).1
  simp only[z3w]at H
  try simp only[xNf]at H
  replace H:=H.sub (K:=z6E c bc ab ls pre::_) (.cons (by repeat (first|with_reducible exact Pick.head|apply Pick.tail)) .refl)
  replace H:=z6E.open' H
  obtain⟨A1,k1,H⟩:=H
  obtain⟨g,c',hA⟩:=zz (n:=n) (v:=.slice A n k) H pk (by omega)
  cases hA
  have HX:=Lib.hid hx
  have b0:(0:Int)<=(x:Int):=by omega
  have b1:(x:Int)<(n:Int):=by omega
  clear hx
  refine wpIn_block ?_
  revert H
  refine z1h [10,11] (fun L=>[L,[],[]]) (by kernel_rfl) (by kernel_rfl) (fun⟨_,_,h⟩=>h) ?_
  intro w H
  have HS:=H
  refine xL 0 0 HS ?_ (hin:=(.stop (n:=12) hd (by kernel_rfl)))
  refine xL 1 0 HS ?_ (hin:=(.stop (n:=12) hd (by kernel_rfl)))
  refine xO 2 0 HS ?_
  refine xO 3 0 HS ?_
  refine xL 4 0 HS ?_ (hin:=(.stop (n:=12) hd (by kernel_rfl)))
  refine xO 5 0 HS ?_
  refine xO 6 0 HS ?_
  refine xO 7 0 HS ?_
  refine xL 8 0 HS ?_ (hin:=(.stop (n:=12) (by exact yu pk HX.out OneM.cells_length (by rfl) (by rfl)) (by kernel_rfl)))
  refine xM 9 0 H ?_
  clear H HS;intro b _ w H HS
  refine xM 10 1 H ?_
  clear H HS;intro k' A' w H HS
  refine xM 11 2 H ?_
  clear H HS;intro _ _ w H HS
  refine xD ?_
  have H2:=z6E.mk (pre:=pre++[x]) (ls:=ls) (m:=pre.length+1) (A:=A') (k:=k') (H.sub (.cons pk (.cons pk (.cons pk .refl)))) (by simp) (by simp[zaI,HX.out])
  exact H2.sub sba
 case done=>
  rintro D xs W rfl H
  simp only[z3w]at H
  try simp only[xNf]at H
  replace H:=H.sub (K:=z6E c bc ab ls (z1x f ls n)::_) (.cons (by repeat (first|with_reducible exact Pick.head|apply Pick.tail)) .refl)
  replace H:=z6E.open' H
  obtain⟨A1,k1,H⟩:=H
  rw[HZ.out.1,HZ.out.2]at H
  simp only[Exit.inBlock,Exit.then]
  go_wp2_with (first|(go_at_call 125;refine xT2 (HS.out _ _) H ?_;clear H;intro w H)|(go_at_call 199;refine xTr (HC.out _ _) H ?_;clear H;rintro _ _ w ⟨A4,k4,rfl,rfl⟩ H;try simp only[xNf]at H)|first|refine xLd H ?_|(refine xSt H ?_;clear H;intro w H;try dsimp only[List.set]at H)|(refine xNw H ?_;clear H;intro b w H)|(refine xAp H ?_;clear H;intro A' k' w H))
  refine z2X (D:=D) (H.sub (K:=z4J D (.deferred (some []))::_) (.cons pk .refl)) (fun w' H=>⟨zag rfl rfl, ?_⟩)
  have H2:=yk.mk (c:=c) (s:=⟨frm,last,ls⟩) (n:=n) (H.sub (.cons pk (.cons pk .refl))) HN.out.symm rfl
  exact⟨_,_,rfl,⟨_,_,rfl,rfl⟩,H2.sub sba⟩
end
end Go.Proofs.YtmfincpagnpkjaaGreat
