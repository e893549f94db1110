/- Part of the proof. -/
import Derived.Laws.ComplexArith
import Derived.Laws.FloatArith
import Derived.Test.YtmfincpagnpkjaaGreatM23
import Derived.Test.YtmfincpagnpkjaaGreatM30
set_option linter.all false
set_option maxRecDepth 100000
set_option maxHeartbeats 100000000
namespace Go.Proofs.YtmfincpagnpkjaaGreat
abbrev fb (n:Nat):Nat:=floatOfInt .f64 (n:Int)
theorem zj8:fb 0=0:=by kernel_rfl
theorem ze8:((List.range 12).all fun n=>floatToIntVal .f64 (floatOfInt .f64 (n:Int)) .i64==some (n:Int))=true:=by kernel_rfl
theorem zcq:((List.range 12).all fun n=>floatBits .add .f64 (floatOfInt .f64 (n:Int)) 0==some (floatOfInt .f64 (n:Int)))=true:=by kernel_rfl
theorem zcp:((List.range 12).all fun n=>floatBits .add .f64 (floatOfInt .f64 (n:Int)) 4607182418800017408==some (floatOfInt .f64 ((n+1:Nat):Int)))=true:=by kernel_rfl
theorem zme {n:Nat} (h:n<12):floatToIntVal .f64 (fb n) .i64=some (n:Int):=eq_of_beq (List.all_eq_true.1 ze8 n (List.mem_range.2 h))
theorem zle {n:Nat} (h:n<12):floatBits .add .f64 (fb n) 0=some (fb n):=eq_of_beq (List.all_eq_true.1 zcq n (List.mem_range.2 h))
theorem zeX {n:Nat} (h:n<12):floatBits .add .f64 (fb n) 4607182418800017408=some (fb (n+1)):=eq_of_beq (List.all_eq_true.1 zcp n (List.mem_range.2 h))
end Go.Proofs.YtmfincpagnpkjaaGreat
namespace Go.Proofs.YtmfincpagnpkjaaGreat
open Go.RowKit
abbrev Pc:=Nat×Nat×Nat
def z0x:List Pc->List Value
 |[]=>[]
 |p::l=>.int .i64 (p.1:Int):: .int .i64 (p.2.1:Int):: .int .i64 (p.2.2:Int)::z0x l
theorem z12 (l:List Pc):(z0x l).length=l.length*3:=by
 induction l with
 |nil=>rfl
 |cons p l ih=>simp only[z0x,List.length_cons,ih];omega
theorem z0i (a b:List Pc):z0x (a++b)=z0x a++z0x b:=by
 induction a with
 |nil=>rfl
 |cons p l ih=>simp only[z0x,List.cons_append,ih]
structure Run where
 l:List Pc
 s:Nat
 c:Nat
def Run.step (N:Nat) (r:Run):Run:=
 let l:=if r.l=[]\/r.c=0 then r.l++[(r.s,r.c,0)]else r.l
 let l':=l.dropLast++(l.getLast?.map fun p=>(p.1,p.2.1,p.2.2+1)).toList
 if r.c+1=N-1 then⟨l',r.s+1,0⟩else⟨l',r.s,r.c+1⟩
def Run.steps (N:Nat):Nat->Run->Run
 |0,r=>r
 |k+1,r=>(Run.steps N k r).step N
def zey (N at_ count:Nat):List Pc:=(Run.steps N count ⟨[],at_/ (N-1),at_ % (N-1)⟩).l
theorem zdE {w:World} {base g n cap:Nat} {e:TypeId} {M:List Pc} {ps pc pn:Nat} (h:w.ownsRow base e 3 (.slice (some ⟨g,0,none⟩) n cap) n (z0x (M++[(ps,pc,pn)]))) (hn:n=M.length+1):
  w.cell? ⟨g,M.length*3+2,none⟩=some (.int .i64 (pn:Int))/\w.frozen? ⟨g,M.length*3+2,none⟩=false:=by
 refine⟨?_,h.frozenAt _⟩
 rw[h.cellAt _ (by omega),z0i,List.getElem?_append_right (by rw[z12];omega),z12]
 simp[z0x]
theorem z7E {w:World} {base g n cap:Nat} {e:TypeId} {M:List Pc} {ps pc pn:Nat} (h:w.ownsRow base e 3 (.slice (some ⟨g,0,none⟩) n cap) n (z0x (M++[(ps,pc,pn)]))) (v:Int) (hv:v=((pn+1:Nat):Int)):
  (w.setCell ⟨g,M.length*3+2,none⟩ (.int .i64 v)).ownsRow base e 3 (.slice (some ⟨g,0,none⟩) n cap) n (z0x (M++[(ps,pc,pn+1)])):=by
 have h1:=(h.stored (M.length*3+2) (.int .i64 v)).1
 subst hv
 rw[z0i,List.set_append_right _ _ (by rw[z12];omega),z12]at h1
 rw[z0i]
 have e:M.length*3+2-M.length*3=2:=by omega
 rw[e]at h1
 exact h1
theorem zhE {N:Nat} {r:Run} {M:List Pc} {ps pc pn:Nat} (h:(if r.l=[]\/r.c=0 then r.l++[(r.s,r.c,0)]else r.l)=M++[(ps,pc,pn)]):
  r.step N=if r.c+1=N-1 then⟨M++[(ps,pc,pn+1)],r.s+1,0⟩else⟨M++[(ps,pc,pn+1)],r.s,r.c+1⟩:=by
 unfold Run.step
 simp only[h]
 simp
theorem zlQ:(Tryz.prog.info? 294).map (fun i=>(i.zero,i.size,i.bytes))=some (some (.agg #[.int .i64 0,.int .i64 0,.int .i64 0]),3,24):=by kernel_rfl
theorem zhW (s c:Nat) (t:TypeId) (hs:s<12) (hc:c<12) (W:World):(binOp .add t (.complex .f64 (fb s) (fb c)) (.complex .f64 0 4607182418800017408)).run Tryz.prog W= .ok (.complex .f64 (fb s) (fb (c+1))) W:=
 run_complex_sum W .add (Or.inl rfl) t .f64 _ _ _ _ _ _ (by unfold cSumBits;rw[zle hs,zeX hc];rfl)
theorem znM (N S a q r:Nat) (w:World) (hq:q=a/ (N-1)) (hr:r=a % (N-1)) (h1:3<=N) (h2:N<=6) (h3:1<=S) (h4:S<=8) (b2:(a:Int)<(S:Int)*((N:Int)-1)):
  Calls Tryz.prog 173 #[.agg #[.int .i64 N,.int .i64 S],.int .i64 a] w fun e w'=>∃d:Int,e= .returned (.tuple #[.agg #[.int .i64 q,.int .i64 r,.int .i64 d],.int .i64 0])/\Below w.heap.size w w':=by
 refine(zlr N S a w (by omega) (by omega) (by omega) (by omega) (by omega) b2).mono ?_
 rintro e w' ⟨rfl,hk⟩
 refine⟨((a:Int) % ((N:Int)-1)+(a:Int) / ((N:Int)-1)) % (N:Int), ?_,hk⟩
 have e1:(N:Int)-1=((N-1:Nat):Int):=by omega
 rw[e1,hq,hr,Int.natCast_ediv,Int.natCast_emod]
theorem zhV (s:Nat) (t:TypeId) (hs:s<12) (W:World):(binOp .add t (.float .f64 (fb s)) (.float .f64 4607182418800017408)).run Tryz.prog W= .ok (.float .f64 (fb (s+1))) W:=
 run_float_arith W .add t .f64 _ _ _ (zeX hs)
theorem z7k (s:Nat) (hs:s<12) (W:World):(convert 292 3 (.float .f64 (fb s))).run Tryz.prog W= .ok (.int .i64 (s:Int)) W:=
 run_convert_float_int W 292 3 .f64 .i64 (fb s) s (by rw[Tryz.underlying292];rfl) Tryz.underlying3 (zme hs)
theorem zhJ (N S:Nat) (a:Nat) (k:Nat) (w:World) (h1:3<=N) (h2:N<=6) (h3:1<=S) (h4:S<=8) (k1:1<=k) (k2:k<=4) (ha:a+k<=S*(N-1)):
  Calls Tryz.prog 124 #[.agg #[.int .i64 N,.int .i64 S],.int .i64 a,.int .i64 k] w fun e w'=>∃(A:Option Addr) (c:Nat),e= .returned (.tuple #[.slice A (zey N a k).length c,.int .i64 0])/\Rd w' w'.heap.size A (z0x (zey N a k))/\Below w.heap.size w w':=by
 obtain⟨iP,hiP,hzP,hsP,hbP⟩:=info_parts zlQ
 have hSN:(S:Int)*((N:Int)-1)=((S*(N-1):Nat):Int):=by
  rw[show(N:Int)-1=((N-1:Nat):Int) by omega]
  exact(Int.natCast_mul S (N-1)).symm
 have hp:=z4u (N:=(N:Int)) (S:=(S:Int)) (by omega) (by omega) (by omega) (by omega)
 obtain⟨T,hT⟩:∃T:Nat,T=S*(N-1):=⟨_,rfl⟩
 rw[<-hT]at hSN ha
 rw[hSN]at hp
 obtain⟨q,hq⟩:∃q:Nat,q=a/ (N-1):=⟨_,rfl⟩
 obtain⟨r,hr⟩:∃r:Nat,r=a % (N-1):=⟨_,rfl⟩
 have HSN:=Lib.hid hSN
 have HQ:=Lib.hid hq
 have HR:=Lib.hid hr
 have hin:(a:Int)<(S:Int)*((N:Int)-1):=by rw[hSN];omega
 have HIN:=Lib.hid hin
 have d1:decide ((k:Int)<1)=false:=decide_eq_false (by omega)
 have d2:decide ((4:Int)<(k:Int))=false:=decide_eq_false (by omega)
 have d3:decide ((T:Int)-(k:Int)<(a:Int))=false:=decide_eq_false (by omega)
 clear hT hq hr hin hSN
 go_enter Tryz.func124,Tryz.ntmps124
 go_wp2_with (first
  |(go_at_call 172;refine(z61 N S _ (by omega) (by omega) (by omega) (by omega)).mono ?_;rw[HSN.out];rintro e w1 ⟨rfl,hk⟩;have hG:Below (w.alloc (jb N S)).heap.size (w.alloc (jb N S)) w1:=hk;have r0:=ze2 hG;have r1:=zgA hG;clear hk)
  |(go_at_call 173;refine(znM N S a q r _ HQ.out HR.out h1 h2 h3 h4 HIN.out).mono ?_;rintro e w2 ⟨d,rfl,hk⟩;replace hG:=zw hG hk;clear hk))
 have hr5:r<N-1:=by rw[HR.out];exact Nat.mod_lt _ (by omega)
 have hq8:q<8:=by
  rw[HQ.out]
  have h5:(a:Int)<((S*(N-1):Nat):Int):=by
   have:=HIN.out
   rw[show(N:Int)-1=((N-1:Nat):Int) by omega,<-Int.natCast_mul]at this
   exact this
  exact Nat.lt_of_lt_of_le (Nat.div_lt_of_lt_mul (by rw[Nat.mul_comm];omega)) h4
 have hb:=za (ja hG) (zeI q r d)
 clear hb
 replace hG:=za hG (zeI q r d)
 go_loopw [10,11,45] (fun v z i wr=>∃(j:Nat) (L:List Pc) (x y:Nat),j<=k/\i= .int .i64 j/\Run.steps N j ⟨[],q,r⟩=⟨L,x,y⟩/\z= .complex .f64 (fb x) (fb y)/\L.length<=j/\(∀p∈L,p.2.2<=j)/\x<=q+j/\y<N-1/\wr.ownsRow (w.alloc (jb N S)).heap.size 294 3 v L.length (z0x L)/\Below (w.alloc (jb N S)).heap.size (w.alloc (jb N S)) wr) (fun _ _ i _=>k-(intOf i).toNat)
 case atStart=>exact⟨0,[],q,r,by omega,rfl,rfl,rfl,by simp,by simp,by omega,hr5,World.ownsRow_nil _ _ _ _,hG⟩
 case round=>
  clear hG
  obtain⟨j,L,x,y,hj,rfl,hrun,rfl,hLj,hpj,hx,hy,hown,hG⟩:=hrel
  have g0:=ze2 hG
  have g1:=zgA hG
  have HRUN:=Lib.hid hrun
  have HO:=Lib.hid hown
  clear hrun hown
  by_cases hlt:j<k
  ·have hjk:(j:Int)<(k:Int):=by omega
   have fx:=z7k x (by omega)
   have fy:=z7k y (by omega)
   have fy1:=z7k (y+1) (by omega)
   have cp:=zhW x y 291 (by omega) (by omega)
   have fp:=zhV x 292 (by omega)
   by_cases hA:L=[]\/y=0
   ·obtain⟨A0,cA,rfl,-,-⟩:=z0I HO.out
    have hstep:=zhE (N:=N) (r:=⟨L,x,y⟩) (M:=L) (ps:=x) (pc:=y) (pn:=0) (by rw[if_pos hA])
    have HST:=Lib.hid hstep
    have hap:∀z∈L++[(x,y,0+1)],z.2.2<=j+1:=by
     intro z hz
     rcases List.mem_append.1 hz with h|h
     ·exact Nat.le_succ_of_le (hpj z h)
     ·rw[List.mem_singleton.1 h];exact Nat.succ_le_succ (Nat.zero_le _)
    have HAP:=Lib.hid hap
    have ht:((L.length:Int)==0)=true\/(((L.length:Int)==0)=false/\((y:Int)==0)=true):=by
     by_cases hl:L.length=0
     ·exact Or.inl (by rw[beq_iff_eq];omega)
     ·refine Or.inr ⟨by rw[beq_eq_false_iff_ne];omega, ?_⟩
      rcases hA with h|h
      ·rw[h]at hl;simp at hl
      ·rw[beq_iff_eq];omega
    clear hstep hap hA hpj
    rcases ht with ht|⟨ht,hty⟩
    all_goals
     by_cases hB:y+1=N-1
     ·have hyN:((y:Int)+1==(N:Int)-1)=true:=by rw[beq_iff_eq];omega
      have HB:=Lib.hid hB
      clear hB
      go_wp2_with (first
       |(at_builtin;refine z0n rfl (.tmp 60) (.tmp 64) 237 rfl (w.alloc (jb N S)).heap.size 294 iP _ 3 24 Tryz.underlying237 hiP hzP hsP hbP rfl (by decide) _ _ _ rfl (HO.out.alloc _) _ _ 1 1 _ rfl (Rd.new _ _ _ (0,0)) rfl (by simp[Value.oneCell']) (by unfold maxLen;omega) (by omega) (Nat.le_trans hG.size (by simp)) ?_;intro v3 w3 hown3 hg3;have hG3:=(hG.alloc hG.size _).grown hg3 (Nat.le_trans hG.size (by simp)) (fun i hi=>(HO.out.lt i hi).1);have ho:w3.ownsRow (w.alloc (jb N S)).heap.size 294 3 v3 (L.length+1) (z0x (L++[(x,y,0)])):=(by rw[z0i];exact hown3);obtain⟨g,cc,rfl,hg1,hg2,hcc1,hcc2⟩:=z4X ho (by omega);obtain⟨hc,hf⟩:=zdE ho rfl;have hG2:=hG3.setCell (p:=⟨g,L.length*3+2,none⟩) hg1 (.int .i64 1);have s0:=ze2 hG2;have s1:=zgA hG2;have HO3:=Lib.hid (z7E ho 1 (by omega));clear ho hown3 hg3)
       |(go_at_call 174;refine(z0U N S _ (by omega) (by omega) (by omega) (by omega)).mono ?_;rintro e w5 ⟨rfl,hk⟩;have hG5:=zw hG2 hk;have HK:=Lib.hid hk;clear hk))
      go_roundw
      case rel=>
       refine⟨j+1,L++[(x,y,0+1)],x+1,0,by omega,by go_num, ?_,by rw[zj8],by rw[List.length_append,List.length_singleton];omega,HAP.out,by omega,by omega, ?_,hG5⟩
       ·rw[Run.steps,HRUN.out,HST.out,if_pos HB.out]
       ·rw[List.length_append];exact z0j HO3.out HK.out (Nat.le_refl _)
      case measure=>simp[intOf];omega
     ·have hyN:((y:Int)+1==(N:Int)-1)=false:=by rw[beq_eq_false_iff_ne];omega
      have HB:=Lib.hid hB
      have hy2:y+1<N-1:=by omega
      clear hB
      go_wp2_with (first
       |(at_builtin;refine z0n rfl (.tmp 60) (.tmp 64) 237 rfl (w.alloc (jb N S)).heap.size 294 iP _ 3 24 Tryz.underlying237 hiP hzP hsP hbP rfl (by decide) _ _ _ rfl (HO.out.alloc _) _ _ 1 1 _ rfl (Rd.new _ _ _ (0,0)) rfl (by simp[Value.oneCell']) (by unfold maxLen;omega) (by omega) (Nat.le_trans hG.size (by simp)) ?_;intro v3 w3 hown3 hg3;have hG3:=(hG.alloc hG.size _).grown hg3 (Nat.le_trans hG.size (by simp)) (fun i hi=>(HO.out.lt i hi).1);have ho:w3.ownsRow (w.alloc (jb N S)).heap.size 294 3 v3 (L.length+1) (z0x (L++[(x,y,0)])):=(by rw[z0i];exact hown3);obtain⟨g,cc,rfl,hg1,hg2,hcc1,hcc2⟩:=z4X ho (by omega);obtain⟨hc,hf⟩:=zdE ho rfl;have hG2:=hG3.setCell (p:=⟨g,L.length*3+2,none⟩) hg1 (.int .i64 1);have s0:=ze2 hG2;have s1:=zgA hG2;have HO3:=Lib.hid (z7E ho 1 (by omega));clear ho hown3 hg3)
       |(go_at_call 174;refine(z0U N S _ (by omega) (by omega) (by omega) (by omega)).mono ?_;rintro e w5 ⟨rfl,hk⟩;have hG5:=zw hG2 hk;have HK:=Lib.hid hk;clear hk))
      go_roundw
      case rel=>
       refine⟨j+1,L++[(x,y,0+1)],x,y+1,by omega,by go_num, ?_,rfl,by rw[List.length_append,List.length_singleton];omega,HAP.out,by omega,by omega, ?_,hG5⟩
       ·rw[Run.steps,HRUN.out,HST.out,if_neg HB.out]
       ·rw[List.length_append];exact z0j HO3.out HK.out (Nat.le_refl _)
      case measure=>simp[intOf];omega
   ·obtain⟨M,p,hMp⟩:∃M p,L=M++[p]:=by
     rcases List.eq_nil_or_concat L with h|⟨M,p,h⟩
     ·exact absurd (Or.inl h) hA
     ·exact⟨M,p,by rw[h,List.concat_eq_append]⟩
    obtain⟨ps,pc,pn⟩:=p
    subst hMp
    have hpn:pn<=j:=hpj (ps,pc,pn) (by simp)
    have hlen:(M++[(ps,pc,pn)]).length=M.length+1:=by rw[List.length_append];rfl
    have ho:=HO.out
    rw[hlen]at ho
    obtain⟨g,cc,rfl,hg1,hg2,hcc1,hcc2⟩:=z4X ho (by omega)
    obtain⟨hc,hf⟩:=zdE ho rfl
    have HO2:=Lib.hid ho
    have HP:=Lib.hid hpj
    have hy0:((y:Int)==0)=false:=by rw[beq_eq_false_iff_ne];intro h;exact hA (Or.inr (by omega))
    have hM0:(((M.length+1:Nat):Int)==0)=false:=by rw[beq_eq_false_iff_ne];omega
    have hstep:=zhE (N:=N) (r:=⟨M++[(ps,pc,pn)],x,y⟩) (M:=M) (ps:=ps) (pc:=pc) (pn:=pn) (by rw[if_neg hA])
    have HST:=Lib.hid hstep
    clear ho hpj hA hstep
    have hG2:=hG.setCell (p:=⟨g,M.length*3+2,none⟩) hg1 (.int .i64 ((pn:Int)+1))
    have s0:=ze2 hG2
    have s1:=zgA hG2
    have HO3:=Lib.hid (z7E HO2.out ((pn:Int)+1) (by omega))
    have hap:∀z∈M++[(ps,pc,pn+1)],z.2.2<=j+1:=by
     intro z hz
     rcases List.mem_append.1 hz with h|h
     ·exact Nat.le_succ_of_le (HP.out z (List.mem_append_left _ h))
     ·rw[List.mem_singleton.1 h];exact Nat.succ_le_succ hpn
    have HAP:=Lib.hid hap
    clear hap
    have hlen2:(M++[(ps,pc,pn+1)]).length=M.length+1:=by rw[List.length_append];rfl
    have HL2:=Lib.hid hlen2
    have hLj2:M.length+1<=j:=by rw[<-hlen];exact hLj
    clear hlen2 hlen hLj
    by_cases hB:y+1=N-1
    ·have hyN:((y:Int)+1==(N:Int)-1)=true:=by rw[beq_iff_eq];omega
     have HB:=Lib.hid hB
     clear hB
     go_wp2_with (go_at_call 174;refine(z0U N S _ (by omega) (by omega) (by omega) (by omega)).mono ?_;rintro e w5 ⟨rfl,hk⟩;have hG5:=zw hG2 hk;have HK:=Lib.hid hk;clear hk)
     go_roundw
     case rel=>
      refine⟨j+1,M++[(ps,pc,pn+1)],x+1,0,by omega,by go_num, ?_,by rw[zj8],by rw[HL2.out];omega,HAP.out,by omega,by omega, ?_,hG5⟩
      ·rw[Run.steps,HRUN.out,HST.out,if_pos HB.out]
      ·rw[HL2.out];exact z0j HO3.out HK.out (Nat.le_refl _)
     case measure=>simp[intOf];omega
    ·have hyN:((y:Int)+1==(N:Int)-1)=false:=by rw[beq_eq_false_iff_ne];omega
     have HB:=Lib.hid hB
     have hy2:y+1<N-1:=by omega
     clear hB
     go_wp2_with (go_at_call 174;refine(z0U N S _ (by omega) (by omega) (by omega) (by omega)).mono ?_;rintro e w5 ⟨rfl,hk⟩;have hG5:=zw hG2 hk;have HK:=Lib.hid hk;clear hk)
     go_roundw
     case rel=>
      refine⟨j+1,M++[(ps,pc,pn+1)],x,y+1,by omega,by go_num, ?_,rfl,by rw[HL2.out];omega,HAP.out,by omega,by omega, ?_,hG5⟩
      ·rw[Run.steps,HRUN.out,HST.out,if_neg HB.out]
      ·rw[HL2.out];exact z0j HO3.out HK.out (Nat.le_refl _)
     case measure=>simp[intOf];omega
  ·obtain rfl:j=k:=by omega
   have hjk:decide ((j:Int)<(j:Int))=false:=decide_eq_false (by omega)
   have hsp:zey N a j=L:=by unfold zey;rw[<-HQ.out,<-HR.out,HRUN.out]
   have HSP:=Lib.hid hsp
   obtain⟨A,c,rfl,-,-⟩:=z0I HO.out
   clear hsp
   go_wp2
   go_ret2
   exact⟨A,c,by rw[HSP.out];rfl,by rw[HSP.out];exact Rd.of_own HO.out,ja hG⟩
theorem z7J {n:Nat} {c:Int} (h1:n<=6) (c1:0<=c) (c2:c<n):(ji n c).length=n-1:=by
 rcases(show n=0\/n=1\/n=2\/n=3\/n=4\/n=5\/n=6 by omega)with rfl|rfl|rfl|rfl|rfl|rfl|rfl<;>
  rcases(show c=0\/c=1\/c=2\/c=3\/c=4\/c=5 by omega)with rfl|rfl|rfl|rfl|rfl|rfl<;>first|rfl|(exfalso;omega)
theorem zgG {N:Nat} {c o:Int} (h1:3<=N) (h2:N<=6) (c1:0<=c) (c2:c<(N:Int)-1):0<(z0c N c o).length:=by
 unfold z0c
 split
 ·rw[z7J h2 c1 (by omega)];omega
 ·simp
def z8J (N:Nat) (c o:Int) (R:List ByteArray) (data:ByteArray):List ByteArray:=
 if o=(N:Int)-1 then[data]else if o=c then[z1m data R]else[data,z9M (z9M (R.getD 1 ⟨#[]⟩) (R.getD 0 ⟨#[]⟩)) data]
theorem zjW {N:Nat} {c o:Int} (h1:3<=N) (h2:N<=6):(z6X N c o).length<=6:=by
 unfold z6X
 split
 ·simp
 ·split
  ·have:=z4i (N-1) c;omega
  ·simp
theorem z7I (n:Nat) (but:Int) (hn:n<=6):zi Tryz.prog 243 #[.int .i64 n,.int .i64 but] [] fun v K=>∃A c,v= .slice A (ji n but).length c/\K=[zh 3 1 (.slice A (ji n but).length c) (ji n but).length ((ji n but).map z09)]:=by
 intro F0 w0 w R H
 try simp only[xNf]at H
 go_enter Tryz.func243,Tryz.ntmps243
 go_wp2_with (first|refine xLd H ?_|(refine xEf H ?_;clear H;intro b A' w H))
 replace H:=Sep.mk_row_nil (e:=3) (size:=1) H
 go_loopw [5,8] (fun v5 v8 wr=>∃(k m:Nat) (A:Option Addr) (c:Nat) (xs:List Value),k<=n/\m=(ji k but).length/\xs=(ji k but).map z09/\v5= .slice A m c/\v8= .int .i64 k/\Sep F0 w0 wr (zh 3 1 (.slice A m c) m xs::R)) (fun _ v8 _=>n-(intOf v8).toNat)
 case atStart=>exact⟨0,0,none,0,[],Nat.zero_le _,rfl,rfl,rfl,rfl,H.sub sb⟩
 case round=>
  clear H
  obtain⟨k,m,A,c,xs,hk,hm,hxs,rfl,rfl,H⟩:=hrel
  have hL:=z4i k but
  have hm6:m<=6:=by omega
  by_cases hlt:k<n
  ·have hstep:=zbK k but
   have HM:=Lib.hid hm
   have HXS:=Lib.hid hxs
   clear hm hxs hL
   by_cases hq:(k:Int)=but
   ·have hq2:((k:Int) !=but)=false:=by rw[hq];exact bne_self_eq_false _
    rw[hq2]at hstep
    have HST:=Lib.hid hstep
    clear hq hstep
    go_wp2_with (first|refine xLd H ?_|(refine xEf H ?_;clear H;intro b A' w H))
    go_roundw
    case rel=>
     refine⟨k+1,m,_,_,xs,by omega, ?_, ?_,rfl,by go_num,H.sub sb⟩
     ·rw[HST.out,HM.out];simp
     ·rw[HST.out,HXS.out];simp
    case measure=>simp[intOf];omega
   ·have hq2:((k:Int) !=but)=true:=by simpa using hq
    rw[hq2]at hstep
    have HST:=Lib.hid hstep
    clear hq hstep
    go_wp2_with (first|refine xLd H ?_|(refine xEf H ?_;clear H;intro b A' w H))
    go_roundw
    case rel=>
     refine⟨k+1,m+1,_,_,_,by omega, ?_, ?_,rfl,by go_num,H.sub sb⟩
     ·rw[HST.out,HM.out];simp
     ·rw[HST.out,HXS.out];simp
    case measure=>simp[intOf];omega
  ·obtain rfl:k=n:=by omega
   subst hm hxs
   go_wp2_with (first|refine xLd H ?_|(refine xEf H ?_;clear H;intro b A' w H))
   refine xR1 H ?_
   exact⟨_,_,rfl,⟨_,_,rfl,rfl⟩,H.sub sba⟩
theorem z7A (N S c o:Int) (h1:3<=N) (h2:N<=6) (h3:1<=S) (h4:S<=8) (c1:0<=c) (c2:c<N-1) (o1:-1<=o) (o2:o<=N-1):zi Tryz.prog 242 #[.agg #[.int .i64 N,.int .i64 S],.int .i64 c,.int .i64 o] [] fun v K=>v= .bool true/\K=[]:=zm fun w=>zg3 N S c o w h1 h2 h3 h4 c1 c2 o1 o2
theorem z7G (N S:Int) (h1:3<=N) (h2:N<=6) (h3:1<=S) (h4:S<=8):zi Tryz.prog 174 #[.agg #[.int .i64 N,.int .i64 S]] [] fun v K=>v= .int .i64 (N-1)/\K=[]:=zm fun w=>z0U N S w h1 h2 h3 h4
theorem zjN:(Tryz.prog.info? 23).bind (·.zero)=some (.agg [.int .i64 0,.int .i64 0].toArray):=by kernel_rfl
theorem z9x (N:Nat) (S c o:Int) (h1:3<=N) (h2:N<=6) (h3:1<=S) (h4:S<=8) (c1:0<=c) (c2:c<(N:Int)-1) (o1:-1<=o) (o2:o<=(N:Int)-1):zi Tryz.prog 207 #[.agg #[.int .i64 N,.int .i64 S],.int .i64 c,.int .i64 o] []
  fun v K=>∃A a B b,v= .tuple #[.slice A (z0c N c o).length a,.slice B (z1J N c o).length b,.int .i64 0]/\K=[zh 3 1 (.slice A (z0c N c o).length a) (z0c N c o).length ((z0c N c o).map z09),zh 3 1 (.slice B (z1J N c o).length b) (z1J N c o).length ((z1J N c o).map z09)]:=by
 intro F0 w0 w R H
 try simp only[xNf]at H
 have HP:=Lib.hid (z7A N S c o (by omega) (by omega) h3 h4 c1 c2 o1 o2)
 have HO:=Lib.hid (z7I N c h2)
 have h1':(3:Int)<=(N:Int):=by omega
 have h2':(N:Int)<=6:=by omega
 rcases(show o=c\/(o≠c/\o= -1)\/(o≠c/\o≠-1) by omega)with g|⟨g,g2⟩|⟨g,g2⟩
 ·have e1:z0c N c o=ji N c:=by unfold z0c;rw[if_pos g]
  have e2:z1J N c o=[]:=by unfold z1J;rw[if_neg (by omega)]
  rw[e1,e2]
  simp only[List.map_nil,List.map_cons,List.length_nil,List.length_cons,Nat.zero_add]
  have d1:(o==c)=true:=by simpa using g
  subst g
  clear e1 e2
  go_enter Tryz.func207,Tryz.ntmps207
  go_wp2_with (first|(go_at_call 242;refine xT2 (HP.out) H ?_;clear H;intro w H)|(go_at_call 243;refine xTr (HO.out) H ?_;clear H;rintro _ _ w ⟨A5,c5,rfl,rfl⟩ H;try simp only[xNf]at H)|first|refine xLd H ?_|(refine xEf H ?_;clear H;intro b A' w H))
  (try simp only[Exit.inBlock,Exit.then]);refine bodyPost_ret (z2J rfl (by first|exact rsc H|exact rfl) (by first|exact rsc H|exact rfl) (by first|exact rsc H|exact rfl)) rfl ?_
  replace H:=Sep.mk_row_nil (e:=3) (size:=1) H
  exact⟨_,_,rfl,⟨_,_,none,0,rfl,rfl⟩,H.sub sba⟩
 ·have e1:z0c N c o=[c]:=by unfold z0c;rw[if_neg g]
  have e2:z1J N c o=[(c+1) % (N:Int)]:=by unfold z1J;rw[if_pos g2]
  rw[e1,e2]
  simp only[List.map_nil,List.map_cons,List.length_nil,List.length_cons,Nat.zero_add]
  have d1:(o==c)=false:=by simpa using g
  have d2:(o==-1)=true:=by simpa using g2
  have hm0:0<=(c+1) % (N:Int):=Int.emod_nonneg _ (by omega)
  clear e1 e2 g g2
  go_enter Tryz.func207,Tryz.ntmps207
  go_upto_region 7 with(first|(go_at_call 242;refine xT2 (HP.out) H ?_;clear H;intro w H)|(go_at_call 243;refine xTr (HO.out) H ?_;clear H;rintro _ _ w ⟨A5,c5,rfl,rfl⟩ H;try simp only[xNf]at H)|first|refine xLd H ?_|(refine xEf H ?_;clear H;intro b A' w H))
  refine xRg [] (fun L=>[L]) H ?_
  clear H;intro w H
  have HS:=H
  refine xO 0 0 HS ?_
  refine xO 2 0 HS ?_
  refine xO 3 0 HS ?_ (v:=(.int .i64 (c+1))) (hy:=by(intro W;go_simp;rw[IntWalk.i64_in (c+1) (by omega)]))
  refine xO 4 0 HS ?_
  refine xL 5 0 HS ?_
  refine xO 6 0 HS ?_ (v:=(.int .i64 ((c+1) % (N:Int)))) (hy:=by(intro W;go_simp;rw[if_neg (by omega),Int.tmod_eq_emod_of_nonneg (by omega)]))
  clear HS
  refine tk2 1 7 0 0 (fun K' hK=>?_) (fun K' hK=>?_)
  (refine z5o 1 H ?_;clear H;intro b4 w H)
  refine hK _ _ (H.sub sbn) (fun HS=>?_)
  clear hK K'
  try simp only[xPt]
  refine xO 8 0 HS ?_
  clear HS
  refine tk1 7 0 (fun K' hK=>?_)
  (refine z5o 1 H ?_;clear H;intro b5 w H)
  refine hK _ _ (H.sub sbn) (fun HS=>?_)
  clear hK K'
  try simp only[xPt]
  refine xO 9 0 HS ?_
  refine xO 10 0 HS ?_
  refine xD ?_
  rotate_left
  (refine z5o 1 H ?_;clear H;intro b5 w H)
  refine hK _ _ (H.sub sbn) (fun HS=>?_)
  clear hK K'
  try simp only[xPt]
  clear HS
  refine tk1 1 0 (fun K' hK=>?_)
  (refine z5o 1 H ?_;clear H;intro b4 w H)
  refine hK _ _ (H.sub sbn) (fun HS=>?_)
  clear hK K'
  try simp only[xPt]
  refine xO 8 0 HS ?_
  refine xO 9 0 HS ?_
  refine xO 10 0 HS ?_
  refine xD ?_
  rotate_left
  all_goals
   go_wp2_with (first|refine xLd H ?_|(refine xEf H ?_;clear H;intro b A' w H))
   (try simp only[Exit.inBlock,Exit.then]);refine bodyPost_ret (z2J rfl (by first|exact rsc H|exact rfl) (by first|exact rsc H|exact rfl) (by first|exact rsc H|exact rfl)) rfl ?_
   exact⟨_,_,rfl,⟨_,_,_,_,rfl,rfl⟩,H.sub sba⟩
 ·have e1:z0c N c o=[c]:=by unfold z0c;rw[if_neg g]
  have e2:z1J N c o=[]:=by unfold z1J;rw[if_neg g2]
  rw[e1,e2]
  simp only[List.map_nil,List.map_cons,List.length_nil,List.length_cons,Nat.zero_add]
  have d1:(o==c)=false:=by simpa using g
  have d2:(o==-1)=false:=by simpa using g2
  clear e1 e2 g g2
  go_enter Tryz.func207,Tryz.ntmps207
  go_wp2_with (first|(go_at_call 242;refine xT2 (HP.out) H ?_;clear H;intro w H)|(refine zp (by rfl) (fun K' hK=>?_);refine z5o 1 H ?_;clear H;intro b4 w H;refine hK _ _ ?_;clear hK K')|first|refine xLd H ?_|(refine xEf H ?_;clear H;intro b A' w H))
  (try simp only[Exit.inBlock,Exit.then]);refine bodyPost_ret (z2J rfl (by first|exact rsc H|exact rfl) (by first|exact rsc H|exact rfl) (by first|exact rsc H|exact rfl)) rfl ?_
  replace H:=Sep.mk_row_nil (e:=3) (size:=1) H
  exact⟨_,_,rfl,⟨_,_,none,0,rfl,rfl⟩,H.sub sba⟩
theorem z5v {e:TypeId} {size n g c:Nat} {xs:List Value} {F0:Nat->Prop} {w0 w:World} {L L':List Assn} (H:Sep F0 w0 w L) (hp:Pick (zh e size (.slice (some ⟨g,0,none⟩) n c) n xs) L L'):c<=maxLen:=by
 rcases(H.row hp).2 with⟨h,_⟩|⟨g',cap,cur,hv,_,_,_,h,_⟩
 ·cases h
 ·cases hv;exact h
theorem zbL (m:Int) (n:Nat) (but:Int) (hm:m=n) (hn:n<=6):zi Tryz.prog 243 #[.int .i64 m,.int .i64 but] [] fun v K=>∃A c,v= .slice A (ji n but).length c/\K=[zh 3 1 (.slice A (ji n but).length c) (ji n but).length ((ji n but).map z09)]:=by
 subst hm
 exact z7I n but hn
theorem z6W (N:Nat) (S c o:Int) (h1:3<=N) (h2:N<=6) (h3:1<=S) (h4:S<=8) (c1:0<=c) (c2:c<(N:Int)-1) (o1:-1<=o) (o2:o<=(N:Int)-1):zi Tryz.prog 209 #[.agg #[.int .i64 N,.int .i64 S],.int .i64 c,.int .i64 o] []
  fun v K=>∃A a B b,v= .tuple #[.slice A (z6X N c o).length a,.slice B (zcP N c o).length b,.int .i64 0]/\K=[zh 3 1 (.slice A (z6X N c o).length a) (z6X N c o).length ((z6X N c o).map z09),zh 3 1 (.slice B (zcP N c o).length b) (zcP N c o).length ((zcP N c o).map z09)]:=by
 intro F0 w0 w R H
 try simp only[xNf]at H
 have HP:=Lib.hid (z7A N S c o (by omega) (by omega) h3 h4 c1 c2 o1 o2)
 have HO:=Lib.hid (zbL ((N:Int)-1) (N-1) c (by omega) (by omega))
 have HY:=Lib.hid (z7G N S (by omega) (by omega) h3 h4)
 have h1':(3:Int)<=(N:Int):=by omega
 have h2':(N:Int)<=6:=by omega
 rcases(show o=(N:Int)-1\/(o≠(N:Int)-1/\o=c)\/(o≠(N:Int)-1/\o≠c) by omega)with g|⟨g,g2⟩|⟨g,g2⟩
 ·have e1:z6X N c o=[]:=by unfold z6X;rw[if_pos g]
  have e2:zcP N c o=[c]:=by unfold zcP;rw[if_pos g]
  rw[e1,e2]
  simp only[List.map_nil,List.map_cons,List.length_nil,List.length_cons,Nat.zero_add]
  have d1:(o==(N:Int)-1)=true:=by simpa using g
  clear e1 e2 g
  go_enter Tryz.func209,Tryz.ntmps209
  go_wp2_with (first|(go_at_call 242;refine xT2 (HP.out) H ?_;clear H;intro w H)|(go_at_call 174;refine xT2 (HY.out) H ?_;clear H;intro w H)|(refine zp (by rfl) (fun K' hK=>?_);refine z5o 1 H ?_;clear H;intro b4 w H;refine hK _ _ ?_;clear hK K')|first|refine xLd H ?_|(refine xEf H ?_;clear H;intro b A' w H))
  (try simp only[Exit.inBlock,Exit.then]);refine bodyPost_ret (z2J rfl (by first|exact rsc H|exact rfl) (by first|exact rsc H|exact rfl) (by first|exact rsc H|exact rfl)) rfl ?_
  replace H:=Sep.mk_row_nil (e:=3) (size:=1) H
  exact⟨_,_,rfl,⟨none,0,_,_,rfl,rfl⟩,H.sub sba⟩
 ·have e1:z6X N c o=ji (N-1) c:=by unfold z6X;rw[if_neg g,if_pos g2]
  have e2:zcP N c o=[(N:Int)-1]:=by unfold zcP;rw[if_neg g,if_pos g2]
  rw[e1,e2]
  simp only[List.map_nil,List.map_cons,List.length_nil,List.length_cons,Nat.zero_add]
  have d1:(o==(N:Int)-1)=false:=by simpa using g
  have d2:(o==c)=true:=by simpa using g2
  clear e1 e2 g g2
  go_enter Tryz.func209,Tryz.ntmps209
  go_wp2_with (first|(go_at_call 242;refine xT2 (HP.out) H ?_;clear H;intro w H)|(go_at_call 174;refine xT2 (HY.out) H ?_;clear H;intro w H)|(go_at_call 243;refine xTr (HO.out) H ?_;clear H;rintro _ _ w ⟨A5,c5,rfl,rfl⟩ H;try simp only[xNf]at H)|(refine zp (by rfl) (fun K' hK=>?_);refine z5o 1 H ?_;clear H;intro b4 w H;refine hK _ _ ?_;clear hK K')|first|refine xLd H ?_|(refine xEf H ?_;clear H;intro b A' w H))
  (try simp only[Exit.inBlock,Exit.then]);refine bodyPost_ret (z2J rfl (by first|exact rsc H|exact rfl) (by first|exact rsc H|exact rfl) (by first|exact rsc H|exact rfl)) rfl ?_
  exact⟨_,_,rfl,⟨_,_,_,_,rfl,rfl⟩,H.sub sba⟩
 ·have e1:z6X N c o=[c,(N:Int)-1]:=by unfold z6X;rw[if_neg g,if_neg g2]
  have e2:zcP N c o=[c,(N:Int)-1]:=by unfold zcP;rw[if_neg g,if_neg g2]
  rw[e1,e2]
  simp only[List.map_nil,List.map_cons,List.length_nil,List.length_cons,Nat.zero_add]
  have d1:(o==(N:Int)-1)=false:=by simpa using g
  have d2:(o==c)=false:=by simpa using g2
  clear e1 e2 g g2
  go_enter Tryz.func209,Tryz.ntmps209
  go_wp2_with (first|(go_at_call 242;refine xT2 (HP.out) H ?_;clear H;intro w H)|(go_at_call 174;refine xT2 (HY.out) H ?_;clear H;intro w H)|(refine zp (by rfl) (fun K' hK=>?_);refine z5o 2 H ?_;clear H;intro b4 w H;refine hK _ _ ?_;clear hK K')|first|refine xLd H ?_|(refine xEf H ?_;clear H;intro b A' w H))
  (try simp only[Exit.inBlock,Exit.then]);refine bodyPost_ret (z2J rfl (by first|exact rsc H|exact rfl) (by first|exact rsc H|exact rfl) (by first|exact rsc H|exact rfl)) rfl ?_
  exact⟨_,_,rfl,⟨_,_,_,_,rfl,rfl⟩,H.sub sba⟩
def z0M (R:List ByteArray) (m:Int):Bool:=(R.length:Int)==m&&R.all fun s=>s.size==16
theorem z8g (R0:List ByteArray) (v:Value) (n:Nat) (m:Int) (hn:R0.length=n):zi Tryz.prog 266 #[v,.int .i64 m] [zh 9 1 v n (R0.map Value.string)] fun r K=>r= .bool (z0M R0 m)/\K=[zh 9 1 v n (R0.map Value.string)]:=by
 intro F0 w0 w R H
 try simp only[xNf]at H
 obtain⟨A,c,rfl⟩:=zt H pk
 have hbk:z0M R0 m=((n:Int)==m&&R0.all fun s=>s.size==16):=by unfold z0M;rw[hn]
 rw[hbk]
 clear hbk
 by_cases hm:(n:Int)=m
 ·have d1:((n:Int) !=m)=false:=by simpa using hm
  have d1':((n:Int)==m)=true:=by simpa using hm
  rw[d1',Bool.true_and]
  have HN:=Lib.hid hn
  clear hm d1' hn
  obtain⟨res,hres⟩:=xG ((R0.all fun s=>s.size==16))
  rw[hres]
  go_enter Tryz.func266,Tryz.ntmps266
  go_wp2_with (first|refine xLd H ?_|(refine xEf H ?_;clear H;intro b A' w H))
  go_loopw [13] (fun v13 wr=>∃k:Nat,k<=n/\res=((R0.drop k).all fun s=>s.size==16)/\v13= .int .i64 k/\Sep F0 w0 wr (zh 9 1 (.slice A n c) n (R0.map Value.string)::R)) (fun v13 _=>n-(intOf v13).toNat)
  case atStart=>exact⟨0,Nat.zero_le _,by rw[List.drop_zero];exact hres.symm,rfl,H.sub sb⟩
  case round=>
   clear H hres
   obtain⟨k,hk,hr,rfl,H⟩:=hrel
   by_cases hlt:k<n
   ·obtain⟨x,hx⟩:∃x,R0[k]?=some x:=⟨_,List.getElem?_eq_getElem (by rw[HN.out];exact hlt)⟩
    have hd:R0.drop k=x::R0.drop (k+1):=by
     obtain⟨h1,rfl⟩:=List.getElem?_eq_some_iff.1 hx
     exact List.drop_eq_getElem_cons h1
    rw[hd,List.all_cons]at hr
    obtain⟨g,c',hA⟩:=zz (n:=n) (v:=.slice A n c) H pk (by omega)
    cases hA
    have hkM:=Nat.le_trans (z4s H pk) (z5v H pk)
    simp only[maxLen]at hkM
    have HX:=Lib.hid (z07 hx)
    clear hd hx
    by_cases h16:x.size=16
    ·have e16:(x.size==16)=true:=by simpa using h16
     rw[e16,Bool.true_and]at hr
     have d2:((x.size:Int) !=16)=false:=by simp;omega
     have HR:=Lib.hid hr
     clear hr h16 e16
     go_wp2_with (first|(refine ld1 H (hh:=(by first|exact zn pk HX.out|exact zc pk HX.out)) ?_)|first|refine xLd H ?_|(refine xEf H ?_;clear H;intro b A' w H))
     go_roundw
     case rel=>exact⟨k+1,by omega,HR.out,by go_num,H.sub sb⟩
     case measure=>simp[intOf];omega
    ·have e16:(x.size==16)=false:=by simpa using h16
     rw[e16,Bool.false_and]at hr
     subst hr
     have d2:((x.size:Int) !=16)=true:=by simp;omega
     clear h16 e16
     go_wp2_with (first|(refine ld1 H (hh:=(by first|exact zn pk HX.out|exact zc pk HX.out)) ?_)|first|refine xLd H ?_|(refine xEf H ?_;clear H;intro b A' w H))
     refine xR1 H ?_
     exact xF H
   ·obtain rfl:k=n:=by omega
    rw[List.drop_of_length_le (by rw[HN.out];exact Nat.le_refl _)]at hr
    have hr:res=true:=hr
    subst hr
    go_wp2_with (first|refine xLd H ?_|(refine xEf H ?_;clear H;intro b A' w H))
    refine xR1 H ?_
    exact xF H
 ·have d1:((n:Int) !=m)=true:=by simpa using hm
  have d1':((n:Int)==m)=false:=by simpa using hm
  rw[d1',Bool.false_and]
  clear hm d1' hn
  go_enter Tryz.func266,Tryz.ntmps266
  go_wp2_with (first|refine xLd H ?_|(refine xEf H ?_;clear H;intro b A' w H))
  refine xR1 H ?_
  exact xF H
end Go.Proofs.YtmfincpagnpkjaaGreat
