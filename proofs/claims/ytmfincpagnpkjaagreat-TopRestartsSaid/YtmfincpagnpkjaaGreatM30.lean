/- Part of the proof. -/
import Derived.Test.YtmfincpagnpkjaaGreatM29
set_option linter.all false
set_option maxRecDepth 100000
set_option maxHeartbeats 100000000
namespace Go.Proofs.YtmfincpagnpkjaaGreat
open Go.RowKit
theorem z3o (N S:Int) (w:World) (h1:3<=N) (h2:N<=6) (h3:1<=S) (h4:S<=8):
  Calls Tryz.prog 42 #[.agg #[.int .i64 N,.int .i64 S]] w fun e w'=>e= .returned (.bool true)/\Below w.heap.size w w':=by
 go_enter Tryz.func42,Tryz.ntmps42
 go_wp2
 go_ret
 exact⟨rfl,za (Below.refl _ _) _⟩
theorem zae (N S:Int) (w:World) (h:yn N S=false):
  Calls Tryz.prog 42 #[.agg #[.int .i64 N,.int .i64 S]] w fun e w'=>e= .returned (.bool false)/\Below w.heap.size w w':=by
 have h':=zbS h
 clear h
 rcases(show N<3\/6<N\/(3<=N/\N<=6/\S<1)\/(3<=N/\N<=6/\8<S) by omega)with g|g|⟨g1,g2,g⟩|⟨g1,g2,g⟩
 all_goals
  clear h'
  by_cases k1:S<1<;>by_cases k2:8<S
  all_goals first|(exfalso;omega)|skip
  all_goals
   go_enter Tryz.func42,Tryz.ntmps42
   go_wp2
   go_ret
   refine⟨?_,za (Below.refl _ _) _⟩
   first|rfl|(simp;omega)
theorem zds (N S:Int) (w:World):
  Calls Tryz.prog 42 #[.agg #[.int .i64 N,.int .i64 S]] w fun e w'=>e= .returned (.bool (yn N S))/\Below w.heap.size w w':=by
 cases h:yn N S with
 |true=>obtain⟨h1,h2,h3,h4⟩:=yc.1 h;exact z3o N S w h1 h2 h3 h4
 |false=>exact zae N S w h
def jb (N S:Int):Obj:=.cells #[.int .i64 N,.int .i64 S] 23
theorem ze2 {w w1:World} {N S:Int} (hb:Below (w.alloc (jb N S)).heap.size (w.alloc (jb N S)) w1):w1.cell? ⟨w.heap.size,0,none⟩=some (.int .i64 N):=
 (hb.cell (p:=⟨w.heap.size,0,none⟩) (by simp)).trans (World.cell?_alloc_mark w _ _ _ 0)
theorem zgA {w w1:World} {N S:Int} (hb:Below (w.alloc (jb N S)).heap.size (w.alloc (jb N S)) w1):w1.cell? ⟨w.heap.size,1,none⟩=some (.int .i64 S):=
 (hb.cell (p:=⟨w.heap.size,1,none⟩) (by simp)).trans (World.cell?_alloc_mark w _ _ _ 1)
theorem ja {w w1:World} {N S:Int} (hb:Below (w.alloc (jb N S)).heap.size (w.alloc (jb N S)) w1):Below w.heap.size w w1:=zw (za (Below.refl _ _) _) hb
theorem z61 (N S:Int) (w:World) (h1:3<=N) (h2:N<=6) (h3:1<=S) (h4:S<=8):
  Calls Tryz.prog 172 #[.agg #[.int .i64 N,.int .i64 S]] w fun e w'=>e= .returned (.int .i64 (S*(N-1)))/\Below w.heap.size w w':=by
 have k1:0<=S*(N-1):=Int.mul_nonneg (by omega) (by omega)
 have k2:S*(N-1)<=40:=Int.le_trans (Int.mul_le_mul h4 (show N-1<=5 by omega) (by omega) (by omega)) (by omega)
 go_enter Tryz.func172,Tryz.ntmps172
 go_wp2_with (go_at_call 42;refine(z3o N S _ h1 h2 h3 h4).mono ?_;rintro e w1 ⟨rfl,hb⟩;have hc0:=ze2 hb;have hc1:=zgA hb)
 go_ret
 exact⟨rfl,ja hb⟩
theorem zcC (N S:Int) (w:World):
  Calls Tryz.prog 172 #[.agg #[.int .i64 N,.int .i64 S]] w fun e w'=>e= .returned (.int .i64 (yl N S))/\Below w.heap.size w w':=by
 cases h:yn N S with
 |true=>obtain⟨h1,h2,h3,h4⟩:=yc.1 h;unfold yl;rw[if_pos h];exact z61 N S w h1 h2 h3 h4
 |false=>
  unfold yl
  rw[if_neg (by rw[h];simp)]
  go_enter Tryz.func172,Tryz.ntmps172
  go_wp2_with (go_at_call 42;refine(zae N S _ h).mono ?_;rintro e w1 ⟨rfl,hb⟩)
  go_ret
  exact⟨rfl,ja hb⟩
theorem z0U (N S:Int) (w:World) (h1:3<=N) (h2:N<=6) (h3:1<=S) (h4:S<=8):
  Calls Tryz.prog 174 #[.agg #[.int .i64 N,.int .i64 S]] w fun e w'=>e= .returned (.int .i64 (N-1))/\Below w.heap.size w w':=by
 go_enter Tryz.func174,Tryz.ntmps174
 go_wp2_with (go_at_call 42;refine(z3o N S _ h1 h2 h3 h4).mono ?_;rintro e w1 ⟨rfl,hb⟩;have hc0:=ze2 hb;have hc1:=zgA hb)
 go_ret
 exact⟨rfl,ja hb⟩
theorem ziW (N S s n:Int) (w:World) (h1:3<=N) (h2:N<=6) (h3:1<=S) (h4:S<=8) (s1:0<=s) (s2:s<S) (n1:0<=n) (n2:n<N):
  Calls Tryz.prog 250 #[.agg #[.int .i64 N,.int .i64 S],.int .i64 s,.int .i64 n] w fun e w'=>e= .returned (.bool true)/\Below w.heap.size w w':=by
 go_enter Tryz.func250,Tryz.ntmps250
 go_wp2_with (go_at_call 42;refine(z3o N S _ h1 h2 h3 h4).mono ?_;rintro e w1 ⟨rfl,hb⟩;have hc0:=ze2 hb;have hc1:=zgA hb)
 go_ret
 exact⟨rfl,ja hb⟩
theorem zls (N S s n:Int) (w:World) (hh:zl4 N S s n=false):
  Calls Tryz.prog 250 #[.agg #[.int .i64 N,.int .i64 S],.int .i64 s,.int .i64 n] w fun e w'=>e= .returned (.bool false)/\Below w.heap.size w w':=by
 have hh':=zlY hh
 clear hh
 cases h:yn N S with
 |false=>
  clear hh'
  go_enter Tryz.func250,Tryz.ntmps250
  go_wp2_with (go_at_call 42;refine(zae N S _ h).mono ?_;rintro e w1 ⟨rfl,hb⟩)
  go_ret
  exact⟨rfl,ja hb⟩
 |true=>
  obtain⟨h1,h2,h3,h4⟩:=yc.1 h
  clear h
  rcases(show s<0\/(0<=s/\S<=s)\/(0<=s/\s<S/\n<0)\/(0<=s/\s<S/\0<=n/\N<=n) by omega)with g|⟨g1,g⟩|⟨g1,g2,g⟩|⟨g1,g2,g3,g⟩
  all_goals
   clear hh'
   go_enter Tryz.func250,Tryz.ntmps250
   go_wp2_with (go_at_call 42;refine(z3o N S _ h1 h2 h3 h4).mono ?_;rintro e w1 ⟨rfl,hb⟩;have hc0:=ze2 hb;have hc1:=zgA hb)
   go_ret
   refine⟨?_,ja hb⟩
   first
    |rfl
    |(show Ending.returned (.bool (decide (n<N)))=_;rw[decide_eq_false (by omega)])
theorem zeP (N S s n:Int) (w:World) (h1:3<=N) (h2:N<=6) (h3:1<=S) (h4:S<=8) (s1:0<=s) (s2:s<S) (n1:0<=n) (n2:n<N):
  Calls Tryz.prog 213 #[.agg #[.int .i64 N,.int .i64 S],.int .i64 s,.int .i64 n] w fun e w'=>e= .returned (.int .i64 ((n+s) % N))/\Below w.heap.size w w':=by
 go_enter Tryz.func213,Tryz.ntmps213
 go_wp2_with (go_at_call 250;refine(ziW N S s n _ h1 h2 h3 h4 s1 s2 n1 n2).mono ?_;rintro e w1 ⟨rfl,hb⟩;have hc0:=ze2 hb)
 go_ret
 exact⟨rfl,ja hb⟩
theorem zgd (N S s n:Int) (w:World):
  Calls Tryz.prog 213 #[.agg #[.int .i64 N,.int .i64 S],.int .i64 s,.int .i64 n] w fun e w'=>e= .returned (.int .i64 (z3t N S s n))/\Below w.heap.size w w':=by
 cases h:zl4 N S s n with
 |true=>obtain⟨⟨h1,h2,h3,h4⟩,s1,s2,n1,n2⟩:=ze0.1 h;unfold z3t;rw[if_pos h];exact zeP N S s n w h1 h2 h3 h4 s1 s2 n1 n2
 |false=>
  unfold z3t
  rw[if_neg (by rw[h];simp)]
  go_enter Tryz.func213,Tryz.ntmps213
  go_wp2_with (go_at_call 250;refine(zls N S s n _ h).mono ?_;rintro e w1 ⟨rfl,hb⟩)
  go_ret
  exact⟨rfl,ja hb⟩
theorem zmm (N S s n:Int) (w:World) (h1:3<=N) (h2:N<=6) (h3:1<=S) (h4:S<=8) (s1:0<=s) (s2:s<S) (n1:0<=n) (n2:n<N):
  Calls Tryz.prog 239 #[.agg #[.int .i64 N,.int .i64 S],.int .i64 s,.int .i64 n] w fun e w'=>e= .returned (.int .i64 ((n+N-s % N) % N))/\Below w.heap.size w w':=by
 have q1:0<=s % N:=Int.emod_nonneg _ (by omega)
 have q2:s % N<N:=Int.emod_lt_of_pos _ (by omega)
 go_enter Tryz.func239,Tryz.ntmps239
 go_wp2_with (go_at_call 250;refine(ziW N S s n _ h1 h2 h3 h4 s1 s2 n1 n2).mono ?_;rintro e w1 ⟨rfl,hb⟩;have hc0:=ze2 hb)
 go_region
 go_wp2
 go_ret
 exact⟨rfl,(ja hb).drew⟩
theorem zjg (N S s n:Int) (w:World):
  Calls Tryz.prog 239 #[.agg #[.int .i64 N,.int .i64 S],.int .i64 s,.int .i64 n] w fun e w'=>e= .returned (.int .i64 (z4c N S s n))/\Below w.heap.size w w':=by
 cases h:zl4 N S s n with
 |true=>obtain⟨⟨h1,h2,h3,h4⟩,s1,s2,n1,n2⟩:=ze0.1 h;unfold z4c;rw[if_pos h];exact zmm N S s n w h1 h2 h3 h4 s1 s2 n1 n2
 |false=>
  unfold z4c
  rw[if_neg (by rw[h];simp)]
  go_enter Tryz.func239,Tryz.ntmps239
  go_wp2_with (go_at_call 250;refine(zls N S s n _ h).mono ?_;rintro e w1 ⟨rfl,hb⟩)
  go_ret
  exact⟨rfl,ja hb⟩
theorem zcD (N S b:Int) (h1:3<=N) (b1:0<=b) (b2:b<S*(N-1)):0<=b/ (N-1)/\b/ (N-1)<S/\0<=b % (N-1)/\b % (N-1)<N-1:=
 ⟨Int.ediv_nonneg b1 (by omega),Int.ediv_lt_of_lt_mul (by omega) b2,Int.emod_nonneg _ (by omega),Int.emod_lt_of_pos _ (by omega)⟩
def zeI (s c n:Int):Obj:=.cells #[.int .i64 s,.int .i64 c,.int .i64 n] 288
def j9 (w:World) (N S:Int):World:=(w.alloc (jb N S)).alloc (.cells #[.int .i64 0,.int .i64 0,.int .i64 0] 288)
theorem z1T (w:World) (N S:Int):(j9 w N S).heap.size=w.heap.size+2:=by simp[j9]
theorem zil {w w1:World} {N S:Int} (hb:Below (j9 w N S).heap.size (j9 w N S) w1):w1.cell? ⟨w.heap.size,0,none⟩=some (.int .i64 N):=by
 refine(hb.cell (p:=⟨w.heap.size,0,none⟩) (by rw[z1T];simp)).trans ?_
 unfold j9
 rw[World.cell?_alloc_lt _ _ _ (by simp)]
 exact World.cell?_alloc_mark w _ _ _ 0
theorem zik {w w1:World} {N S:Int} (hb:Below (j9 w N S).heap.size (j9 w N S) w1):w1.cell? ⟨w.heap.size,1,none⟩=some (.int .i64 S):=by
 refine(hb.cell (p:=⟨w.heap.size,1,none⟩) (by rw[z1T];simp)).trans ?_
 unfold j9
 rw[World.cell?_alloc_lt _ _ _ (by simp)]
 exact World.cell?_alloc_mark w _ _ _ 1
theorem z9l {w w1:World} {N S:Int} (hb:Below (j9 w N S).heap.size (j9 w N S) w1) (j:Nat) (hj:j<3):w1.cell? ⟨w.heap.size+1,j,none⟩=some (.int .i64 0):=by
 refine(hb.cell (p:=⟨w.heap.size+1,j,none⟩) (by rw[z1T];simp)).trans ?_
 unfold j9
 have h:=World.cell?_alloc_mark (w.alloc (jb N S)) #[.int .i64 0,.int .i64 0,.int .i64 0] 288 (0,0) j
 rw[World.size_alloc]at h
 rw[h]
 match j,hj with
 |0,_=>rfl
 |1,_=>rfl
 |2,_=>rfl
theorem z5B {w w1:World} {N S:Int} (hb:Below (j9 w N S).heap.size (j9 w N S) w1) (j:Nat):w1.frozen? ⟨w.heap.size+1,j,none⟩=false:=by
 refine(hb.frozen (p:=⟨w.heap.size+1,j,none⟩) (by rw[z1T];simp)).trans ?_
 unfold j9
 have h:=World.frozen?_alloc_mark (w.alloc (jb N S)) #[.int .i64 0,.int .i64 0,.int .i64 0] 288 0 0 j
 rw[World.size_alloc]at h
 rw[h]
 simp
theorem zeN {w w1:World} {N S:Int} (hb:Below (j9 w N S).heap.size (j9 w N S) w1):Below w.heap.size w w1:=
 zw (za (za (Below.refl _ _) _) _) hb
theorem zlr (N S b:Int) (w:World) (h1:3<=N) (h2:N<=6) (h3:1<=S) (h4:S<=8) (b1:0<=b) (b2:b<S*(N-1)):
  Calls Tryz.prog 173 #[.agg #[.int .i64 N,.int .i64 S],.int .i64 b] w fun e w'=>e= .returned (.tuple #[.agg #[.int .i64 (b/ (N-1)),.int .i64 (b % (N-1)),.int .i64 ((b % (N-1)+b/ (N-1)) % N)],.int .i64 0])/\Below w.heap.size w w':=by
 have k1:0<=S*(N-1):=Int.mul_nonneg (by omega) (by omega)
 have k2:S*(N-1)<=40:=Int.le_trans (Int.mul_le_mul h4 (show N-1<=5 by omega) (by omega) (by omega)) (by omega)
 obtain⟨q1,q2,q3,q4⟩:=zcD N S b h1 b1 b2
 have d1:decide (b<0)=false:=by simp;omega
 have d2:decide (S*(N-1)<=b)=false:=by simp;omega
 have hd0:¬N-1=0:=by omega
 have hd1:(N-1==0)=false:=by simp;omega
 have hw1:IntKind.i64.wrap (b.tdiv (N-1))=b/ (N-1):=IntWalk.i64_quo _ _ (by omega)
 have hw2:b.tmod (N-1)=b % (N-1):=IntWalk.rem_in _ _ b1
 go_enter Tryz.func173,Tryz.ntmps173
 go_wp2_with (first
  |(go_at_call 172;refine(z61 N S _ h1 h2 h3 h4).mono ?_;rintro e w1 ⟨rfl,hb⟩;have hbb:Below (j9 w N S).heap.size (j9 w N S) w1:=hb;clear hb))
 have hc0:=zil hbb
 have hc1:=zik hbb
 go_region_held3 (fun w'=>w'.cell? ⟨w.heap.size,0,none⟩=some (.int .i64 N)/\w'.cell? ⟨w.heap.size,1,none⟩=some (.int .i64 S)/\Below (j9 w N S).heap.size (j9 w N S) w')
  (first
   |exact⟨hc0,hc1,hbb.drew⟩
   |exact⟨hc0,hc1,hbb⟩
   |(refine⟨?_, ?_, ?_⟩<;>assumption))
  (first
   |(go_at_call 174;go_split_ands;refine(z0U N S _ h1 h2 h3 h4).mono ?_;rintro e w2 ⟨rfl,hk⟩;have hbk:=Below.trans (by assumption:Below (j9 w N S).heap.size (j9 w N S) _) (hk.mono (Below.size (by assumption:Below (j9 w N S).heap.size (j9 w N S) _)));have hck0:=zil hbk;have hck1:=zik hbk;clear hk))
 have hnode:IntKind.i64.wrap (b % (N-1)+b/ (N-1))=b % (N-1)+b/ (N-1):=IntWalk.i64_in _ (by omega)
 go_wp2_with (go_at_call 213;refine(zeP N S (b/ (N-1)) (b % (N-1)) _ h1 h2 h3 h4 q1 q2 q3 (by omega)).mono ?_;rintro e w3 ⟨rfl,hk⟩;have hbn:=hbk.trans (hk.mono hbk.size);have hr0:=z9l hbn 0 (by decide);have hr1:=z9l hbn 1 (by decide);have hr2:=z9l hbn 2 (by decide);have hf0:=z5B hbn 0;have hf1:=z5B hbn 1;have hf2:=z5B hbn 2;clear hk)
 refine bodyPost_ret (v:=.tuple #[.agg #[.int .i64 (b/ (N-1)),.int .i64 (b % (N-1)),.int .i64 ((b % (N-1)+b/ (N-1)) % N)],.int .i64 0]) (by simp[results,Tryz.results173,go_sem,hr0,hr1,hr2]) rfl ⟨rfl, ?_⟩
 have hfin:=zeN hbn
 exact((hfin.setCell (p:=⟨w.heap.size+1,0,none⟩) (by simp) _).setCell (p:=⟨w.heap.size+1,1,none⟩) (by simp) _).setCell (p:=⟨w.heap.size+1,2,none⟩) (by simp) _
theorem znm (N S b:Int) (w:World) (h:inZ N S b=false):
  Calls Tryz.prog 173 #[.agg #[.int .i64 N,.int .i64 S],.int .i64 b] w fun e w'=>e= .returned (.tuple #[.agg #[.int .i64 0,.int .i64 0,.int .i64 0],.int .i64 50])/\Below w.heap.size w w':=by
 have hn:¬(0<=b/\b<yl N S):=of_decide_eq_false h
 clear h
 by_cases b0:b<0
 ·clear hn
  go_enter Tryz.func173,Tryz.ntmps173
  go_wp2
  refine bodyPost_ret (v:=.tuple #[.agg #[.int .i64 0,.int .i64 0,.int .i64 0],.int .i64 50]) (by simp[results,Tryz.results173,go_sem]) rfl ⟨rfl, ?_⟩
  go_grown
 ·have hge:yl N S<=b:=by omega
  clear hn
  obtain⟨B,hB⟩:∃B,B=yl N S:=⟨_,rfl⟩
  have HB:=Lib.hid hB
  rw[<-hB]at hge
  clear hB
  have d1:decide (b<0)=false:=by simp;omega
  have d2:decide (B<=b)=true:=by simp;omega
  go_enter Tryz.func173,Tryz.ntmps173
  go_wp2_with (go_at_call 172;refine(zcC N S _).mono ?_;rintro e w1 ⟨rfl,hb⟩;rw[<-HB.out];have hbn:Below (j9 w N S).heap.size (j9 w N S) w1:=hb;have hr0:=z9l hbn 0 (by decide);have hr1:=z9l hbn 1 (by decide);have hr2:=z9l hbn 2 (by decide);have hf0:=z5B hbn 0;have hf1:=z5B hbn 1;have hf2:=z5B hbn 2;clear hb)
  refine bodyPost_ret (v:=.tuple #[.agg #[.int .i64 0,.int .i64 0,.int .i64 0],.int .i64 50]) (by simp[results,Tryz.results173,go_sem,hr0,hr1,hr2]) rfl ⟨rfl, ?_⟩
  have hfin:=zeN hbn
  exact((hfin.setCell (p:=⟨w.heap.size+1,0,none⟩) (by simp) _).setCell (p:=⟨w.heap.size+1,1,none⟩) (by simp) _).setCell (p:=⟨w.heap.size+1,2,none⟩) (by simp) _
theorem zj5 (a b:Int) (w:World) (a1:-9223372036854775808<=a) (a2:a<=9223372036854775807) (b1:-9223372036854775808<=b) (b2:b<=9223372036854775807):
  Calls Tryz.prog 6 #[.agg #[.int .i64 a,.int .i64 b]] w fun e w'=>∃N S:Int,3<=N/\N<=6/\1<=S/\S<=8/\e= .returned (.agg #[.int .i64 N,.int .i64 S])/\Below w.heap.size w w':=by
 obtain⟨k,hk⟩:∃k,k=z3q a 4:=⟨_,rfl⟩
 obtain⟨l,hl⟩:∃l,l=z3q b 8:=⟨_,rfl⟩
 have hkr:=z4W a 4 (by omega)
 have hlr:=z4W b 8 (by omega)
 have HK:=Lib.hid hk
 have HL:=Lib.hid hl
 rw[<-hk]at hkr
 rw[<-hl]at hlr
 obtain⟨hk1,hk2⟩:=hkr
 obtain⟨hl1,hl2⟩:=hlr
 clear hk hl
 have hwk:IntKind.i64.wrap (3+k)=3+k:=IntWalk.i64_in _ (by omega)
 have hwl:IntKind.i64.wrap (1+l)=1+l:=IntWalk.i64_in _ (by omega)
 go_enter Tryz.func6,Tryz.ntmps6
 go_wp2_with fail
 have hc0:((w.alloc (jb a b)).alloc (jb 0 0)).cell? ⟨w.heap.size,0,none⟩=some (.int .i64 a):=ze2 (za (Below.refl _ _) _)
 have hc1:((w.alloc (jb a b)).alloc (jb 0 0)).cell? ⟨w.heap.size,1,none⟩=some (.int .i64 b):=zgA (za (Below.refl _ _) _)
 go_region_held3 (fun w'=>w'.cell? ⟨w.heap.size,0,none⟩=some (.int .i64 a)/\w'.cell? ⟨w.heap.size,1,none⟩=some (.int .i64 b))
  (first
   |exact⟨hc0,hc1⟩
   |go_keep)
  (first
   |(go_at_call_of 19 (Value.int .i64 a);refine(z6h a 4 _ a1 a2 (by omega) (by omega)).mono ?_;rintro e w1 ⟨rfl,rfl⟩;rw[<-HK.out])
   |(go_at_call_of 19 (Value.int .i64 b);refine(z6h b 8 _ b1 b2 (by omega) (by omega)).mono ?_;rintro e w1 ⟨rfl,rfl⟩;rw[<-HL.out]))
 go_wp2
 refine bodyPost_ret (v:=.agg #[.int .i64 (3+k),.int .i64 (1+l)]) (by simp[results,Tryz.results6,go_sem]) rfl ⟨3+k,1+l,by omega,by omega,by omega,by omega,rfl, ?_⟩
 go_grown
def z1W (l:List Int):List Value:=l.map (Value.int .i64)
theorem zdV {l:List Int} {k:Nat} (h:k<l.length):(z1W l)[k]?=some (.int .i64 l[k]):=by simp[z1W,h]
theorem zg3 (N S c o:Int) (w:World) (h1:3<=N) (h2:N<=6) (h3:1<=S) (h4:S<=8) (c1:0<=c) (c2:c<N-1) (o1:-1<=o) (o2:o<=N-1):
  Calls Tryz.prog 242 #[.agg #[.int .i64 N,.int .i64 S],.int .i64 c,.int .i64 o] w fun e w'=>e= .returned (.bool true)/\Below w.heap.size w w':=by
 have d1:decide (0<=c)=true:=decide_eq_true c1
 have d2:decide (c<N-1)=true:=decide_eq_true c2
 have d3:decide (-1<=o)=true:=decide_eq_true o1
 have d4:decide (o<=N-1)=true:=decide_eq_true o2
 go_enter Tryz.func242,Tryz.ntmps242
 go_wp2_with (go_at_call 174;refine(z0U N S _ h1 h2 h3 h4).mono ?_;rintro e w1 ⟨rfl,hb⟩)
 go_ret
 exact⟨by rfl,ja hb⟩
def ji (n:Nat) (but:Int):List Int:=((List.range n).map fun k:Nat=>(k:Int)).filter (· !=but)
theorem zbK (k:Nat) (but:Int):ji (k+1) but=ji k but++(if(k:Int) !=but then[(k:Int)]else[]):=by
 unfold ji
 rw[List.range_succ,List.map_append,List.filter_append]
 congr 1
 simp only[List.map_cons,List.map_nil,List.filter_cons,List.filter_nil]
theorem z4i (n:Nat) (but:Int):(ji n but).length<=n:=by
 refine Nat.le_trans (List.length_filter_le _ _) ?_
 simp
def z0c (N:Nat) (c o:Int):List Int:=if o=c then ji N c else[c]
def z1J (N:Nat) (c o:Int):List Int:=if o= -1 then[(c+1) % (N:Int)]else[]
def z6X (N:Nat) (c o:Int):List Int:=if o=(N:Int)-1 then[]else if o=c then ji (N-1) c else[c,(N:Int)-1]
def zcP (N:Nat) (c o:Int):List Int:=if o=(N:Int)-1 then[c]else if o=c then[(N:Int)-1]else[c,(N:Int)-1]
def zlt (c o:Int) (R:List ByteArray):ByteArray:=if o=c then zjG 16 R else R.getD 0 ⟨#[]⟩
theorem z66 (first:ByteArray) (l:List ByteArray) (A:Option Addr) (n c:Nat) (w:World) (hr:Rd w w.heap.size A (l.map Value.string))
    (hl:∀s∈l,s.size=first.size) (hs:first.size<=maxLen) (hn:n<=maxLen) (hln:l.length=n):
    Calls Tryz.prog 279 #[.string first,.slice A n c] w fun e w'=>e= .returned (.string (z1m first l))/\Below w.heap.size w w':=by
  unfold maxLen at hs hn
  have hbs:=fun w=>run_bytes_of_string (P:=Tryz.prog) w 9 101 5 first Tryz.underlying9 Tryz.underlying101 Tryz.underlying5
  have HR:=Lib.hid hr
  have HL:=Lib.hid hl
  have HN:=Lib.hid hln
  clear hr hl hln
  go_enter Tryz.func279,Tryz.ntmps279
  go_wp2
  clear hbs
  go_loopw [13] (fun v wr=>∃k:Nat,k<=n/\v= .int .i64 k/\z1g wr w.heap.size (z1m first (l.take k)).data.toList/\Below w.heap.size w wr)
     (fun v _=>n-(intOf v).toNat)
  case atStart=>
    exact⟨0,Nat.zero_le _,rfl,(z1g.ofString w first _ _).drew,((Below.refl _ _).alloc (Nat.le_refl _) _).drew⟩
  case round=>
    obtain⟨k,hk,rfl,hrow,hb⟩:=hrel
    by_cases hlt:k<n
    · obtain⟨wo,rfl⟩:∃wo:World,wo=wr:=⟨_,rfl⟩
      have hkl:k<l.length:=by rw[HN.out];exact hlt
      obtain⟨b,off,rfl,_,hc⟩:=(HR.out.below hb).at_ (k:=k) (u:=.string l[k]) (by simp[hkl])
      have HAcc:Hid ((z1m first (l.take k)).size=first.size):=Lib.hid (z5O _ _ fun s hs=>HL.out s (List.mem_of_mem_take hs))
      have HSt:Hid (z1m first (l.take (k+1))=z9M (z1m first (l.take k)) l[k]):=Lib.hid (by
        rw[List.take_succ_eq_append_getElem hkl,zch];rfl)
      have HSz:Hid (l[k].size=first.size):=Lib.hid (HL.out _ (List.getElem_mem hkl))
      obtain⟨s,hs2⟩:∃s,s=l[k]:=⟨_,rfl⟩
      rw[<-hs2]at hc HSt HSz
      clear hs2
      go_wp2
      go_loopw [19] (fun v wr=>∃m:Nat,m<=first.size/\v= .int .i64 m/\z1g wr w.heap.size ((z8W (z1m first (l.take k)).data.toList s.data.toList).take m++(z1m first (l.take k)).data.toList.drop m)/\Below w.heap.size w wr)
        (fun v _=>first.size-(intOf v).toNat)
      case atStart=>exact⟨0,Nat.zero_le _,rfl,by simpa using hrow,hb⟩
      case round=>
        obtain⟨m,hm,rfl,hrow,hb⟩:=hrel
        by_cases hmt:m<first.size
        · have hacc:m<(z1m first (l.take k)).data.toList.length:=by rw[zf,HAcc.out];exact hmt
          have hsl:m<s.data.toList.length:=by rw[zf,HSz.out];exact hmt
          have hsz:m<s.size:=by rw[HSz.out];exact hmt
          obtain⟨x,hx⟩:∃x,(z1m first (l.take k)).data.toList[m]?=some x:=⟨_,List.getElem?_eq_getElem hacc⟩
          have hy:s.data.toList[m]?=some s[m]:=by rw[List.getElem?_eq_getElem hsl];rfl
          obtain⟨hc2,hf2⟩:=hrow m x (zno _ _ _ _ hx hsl)
          have Hrow:=Lib.hid hrow
          have Hstep:Hid _:=Lib.hid (zm1 _ _ _ _ _ hx hy)
          clear hrow hx hy
          go_wp2
          go_region
          go_wp2
          go_roundw
          case rel=>exact⟨m+1,by omega,by go_num,by
            rw[<-Hstep.out]
            exact(Hrow.out.set_ m (x^^^s[m]) _ (zni _ _)).drew,(hb.setCell (p:=⟨w.heap.size,m,none⟩) (Nat.le_refl _) _).drew⟩
          case measure=>simp[intOf];omega
        · have Hrow:=Lib.hid hrow
          clear hrow
          go_wp2
          go_roundw
          case rel=>exact⟨k+1,by omega,by go_num,by
            have h1:(z8W (z1m first (l.take k)).data.toList s.data.toList).length=m:=by
              rw[z2z,zf,zf,HAcc.out,HSz.out];omega
            have h2:(z1m first (l.take k)).data.toList.length=m:=by rw[zf,HAcc.out];omega
            have h3:=Hrow.out
            rw[List.take_of_length_le (by omega),List.drop_of_length_le (by omega),List.append_nil,<-z1v,<-HSt.out]at h3
            exact h3,hb⟩
          case measure=>simp[intOf];omega
    · have hkl:k=n:=by omega
      have hcv:=yw (P:=Tryz.prog) Tryz.underlying101 Tryz.underlying5 Tryz.underlying9 hrow first.size (grownCap w first.size 0 5) (by
        rw[zf];exact z5O _ _ fun s hs=>HL.out s (List.mem_of_mem_take hs))
      rw[z3v]at hcv
      have HK:=Lib.hid hkl
      clear hkl
      go_wp2
      go_ret
      refine⟨?_,hb⟩
      rw[HK.out,<-HN.out,List.take_length]
      rfl
theorem zkF (w:World) (l:List ByteArray) (t:TypeId):Rd (w.alloc (.cells (l.map Value.string).toArray t)) (w.alloc (.cells (l.map Value.string).toArray t)).heap.size (some ⟨w.heap.size,0,none⟩) (l.map Value.string):=by
 have:=Rd.new w (l.map Value.string).toArray t (0,0)
 rw[World.size_alloc]
 simpa using this
theorem z4x (first:ByteArray) (l:List ByteArray) (A:Option Addr) (n c:Nat) (w:World) (hr:Rd w w.heap.size A (l.map Value.string))
  (hs:first.size<=maxLen) (hn:n<=maxLen) (hln:l.length=n):
  Calls Tryz.prog 267 #[.string first,.slice A n c] w fun e w'=>e= .returned (.tuple #[.string (z6A first l).1,.int .i64 (z6A first l).2])/\Below w.heap.size w w':=by
 have HM:=Lib.hid hn
 have HS:=Lib.hid hs
 unfold maxLen at hs hn
 have HR:=Lib.hid hr
 have HN:=Lib.hid hln
 clear hr hln
 go_enter Tryz.func267,Tryz.ntmps267
 go_wp2
 go_loop [10] (fun v=>∃k:Nat,k<=n/\v= .int .i64 k/\∀s∈l.take k,s.size=first.size) (fun v=>n-(intOf v).toNat)
 case atStart=>exact⟨0,Nat.zero_le _,rfl,by simp⟩
 case round=>
  obtain⟨k,hk,rfl,hall⟩:=hrel
  have HA:=Lib.hid hall
  clear hall
  by_cases hlt:k<n
  ·have hkl:k<l.length:=by rw[HN.out];exact hlt
   obtain⟨b,off,rfl,_,hc⟩:=HR.out.at_ (k:=k) (u:=.string l[k]) (by simp[hkl])
   by_cases hsz:l[k].size=first.size
   ·have hb:((l[k].size:Int) !=(first.size:Int))=false:=by simp[hsz]
    have HZ:=Lib.hid hsz
    clear hsz
    go_wp2
    go_round
    case rel=>exact⟨k+1,by omega,by go_num,by
     intro s hs
     rw[List.take_succ_eq_append_getElem hkl]at hs
     rcases List.mem_append.1 hs with h|h
     ·exact HA.out s h
     ·rw[List.mem_singleton.1 h];exact HZ.out⟩
    case measure=>simp[intOf];omega
   ·have hb:((l[k].size:Int) !=(first.size:Int))=true:=by simp;omega
    have HF:Hid (z6A first l=(⟨#[]⟩,10)):=Lib.hid (zkQ fun h=>hsz (h _ (List.getElem_mem hkl)))
    clear hsz
    go_wp2
    go_ret2
    rw[HF.out]
    exact⟨rfl,Below.refl _ _⟩
  ·have HF:Hid (∀s∈l,s.size=first.size):=Lib.hid fun s hs=>HA.out s (by
    rw[List.take_of_length_le (by rw[HN.out];omega)];exact hs)
   go_wp2_with (go_at_call 279;refine(z66 first l A n c w HR.out HF.out HS.out HM.out HN.out).mono ?_;rintro e w' ⟨rfl,hb⟩)
   go_ret2
   rw[zaz HF.out]
   exact⟨rfl,hb⟩
theorem ziz (r first:ByteArray) (l:List ByteArray) (A:Option Addr) (n c:Nat) (w:World) (hv:z6A first l=(r,0)) (hr:Rd w w.heap.size A (l.map Value.string))
  (hs:first.size<=maxLen) (hn:n<=maxLen) (hln:l.length=n):
  Calls Tryz.prog 267 #[.string first,.slice A n c] w fun e w'=>e= .returned (.tuple #[.string r,.int .i64 0])/\Below w.heap.size w w':=by
 have h:=z4x first l A n c w hr hs hn hln
 rw[hv]at h
 exact h
theorem zll (first:ByteArray) (l:List ByteArray) (A:Option Addr) (n c:Nat) (w:World) (hr:Rd w w.heap.size A ((first::l).map Value.string))
  (hs:first.size<=maxLen) (hn:n<=c) (hc:c<=maxLen) (hln:l.length+1=n):
  Calls Tryz.prog 278 #[.slice A n c] w fun e w'=>e= .returned (.tuple #[.string (z6A first l).1,.int .i64 (z6A first l).2])/\Below w.heap.size w w':=by
 obtain⟨b,off,rfl,_,hcell⟩:=hr.at_ (k:=0) (u:=.string first) rfl
 rw[Nat.add_zero]at hcell
 have h0:0<n:=by omega
 have h1:(1:Int)<=n:=by omega
 have h3:(1:Int)<=c:=by omega
 have h4:(n:Int)<=c:=by omega
 have h2:((n:Int)==0)=false:=by simp;omega
 have HS:=Lib.hid hs
 have hrd:Rd w.drew w.drew.heap.size (if c=1 then some (⟨b,off,none⟩:Addr)else(some (⟨b,off,none⟩:Addr)).map (·.add 1)) (l.map Value.string):=
  (hr.tail 1 c (by intro h;simp only[List.length_map,List.length_cons];omega)).drew
 have HR:=Lib.hid hrd
 have HN:=Lib.hid hln
 have HM:=Lib.hid hc
 have hc2:=hc
 unfold maxLen at hs hc2
 clear hr hln hc hrd
 by_cases hc1:c=1
 ·subst hc1
  obtain rfl:n=1:=by omega
  obtain rfl:l=[]:=by
   have:=HN.out
   exact List.eq_nil_of_length_eq_zero (by omega)
  clear HN HR h0 h1 h3 h4 h2
  go_enter Tryz.func278,Tryz.ntmps278
  go_wp2
  go_region_with (go_at_call 267;refine(z4x first [] _ 0 0 w.drew (Rd.nil _ _ _) HS.out (Nat.zero_le _) rfl).mono ?_;rintro e w' ⟨rfl,hb⟩)
  all_goals (try go_wp2)
  all_goals (go_ret2;exact⟨rfl,(Below.refl w.heap.size w).drew.trans hb⟩)
 ·have HR2:Rd w.drew w.drew.heap.size (some ⟨b,off+1,none⟩) (l.map Value.string):=by
   have h:=HR.out
   rw[if_neg hc1,Option.map_some,Addr.add_lit]at h
   exact h
  go_enter Tryz.func278,Tryz.ntmps278
  go_wp2
  go_region_with (go_at_call 267;refine(z4x first l _ (n-1) (c-1) w.drew HR2 HS.out (by have:=HM.out;omega) (by have:=HN.out;omega)).mono ?_;rintro e w' ⟨rfl,hb⟩)
  all_goals (try go_wp2)
  all_goals (go_ret2;exact⟨rfl,(Below.refl w.heap.size w).drew.trans hb⟩)
theorem znw (n0:Nat) (L:List ByteArray) (A:Option Addr) (n c:Nat) (w:World) (hr:Rd w w.heap.size A (L.map Value.string)) (hsz:∀s∈L,s.size=n0) (hln:L.length=n) (h0:0<n) (hnc:n<=c) (hc:c<=maxLen) (hn0:n0<=maxLen):
  Calls Tryz.prog 278 #[.slice A n c] w fun e w'=>e= .returned (.tuple #[.string (zjG n0 L),.int .i64 0])/\Below w.heap.size w w':=by
 cases L with
 |nil=>simp at hln;omega
 |cons a l=>
  have h:=zll a l A n c w hr (by rw[hsz a (by simp)];exact hn0) hnc hc hln
  have e:z6A a l=(zjG n0 (a::l),0):=zmt (by simp) hsz
  rw[e]at h
  exact h
theorem ziy (a b c:ByteArray) (w:World) (h:b.size=a.size/\c.size=a.size) (hs:a.size<=maxLen):
  Calls Tryz.prog 268 #[.string a,.string b,.string c] w fun e w'=>e= .returned (.tuple #[.string (z9M (z9M a b) c),.int .i64 0])/\Below w.heap.size w w':=by
 have hb:((b.size:Int) !=(a.size:Int))=false:=by simp;omega
 have hc:((c.size:Int) !=(a.size:Int))=false:=by simp;omega
 have H:=Lib.hid h
 have HS:=Lib.hid hs
 clear h hs
 go_enter Tryz.func268,Tryz.ntmps268
 go_wp2_with (go_at_call 279;(refine(z66 a [b,c] (some ⟨w.heap.size,0,none⟩) 2 2 (w.alloc (.cells #[.string b,.string c] 9)) (zkF w [b,c] 9) (by intro s hs;rcases List.mem_cons.1 hs with h|h;(rw[h];exact H.out.1);(rw[List.mem_singleton.1 h];exact H.out.2)) HS.out (by decide) rfl).mono ?_);rintro e w' ⟨rfl,hbel⟩)
 go_ret2
 exact⟨rfl,(((Below.refl _ w).alloc (Nat.le_refl _) _).trans (hbel.mono (by simp)))⟩
theorem zm0 (r:ByteArray) (n:Nat) (a b c:ByteArray) (w:World) (hv:z9M (z9M a b) c=r) (ha:a.size=n) (hb:b.size=n) (hc:c.size=n) (hn:n<=maxLen):
  Calls Tryz.prog 268 #[.string a,.string b,.string c] w fun e w'=>e= .returned (.tuple #[.string r,.int .i64 0])/\Below w.heap.size w w':=by
 subst ha hv
 exact ziy a b c w ⟨hb,hc⟩ hn
def ze7 (long:Nat) (s:ByteArray):ByteArray:=⟨(s.data.toList.take long++(List.replicate long 0).drop s.size).toArray⟩
def z34 (raw:List ByteArray) (many long:Nat):List ByteArray:=(List.range many).map fun i=>if h:i<raw.length then ze7 long raw[i]else z6u long
theorem z5g (long:Nat) (s:ByteArray):(ze7 long s).size=long:=by
 rw[ze7,z1w,List.length_append,List.length_take,List.length_drop,List.length_replicate,zf]
 omega
theorem z9R (raw:List ByteArray) (many long:Nat):(z34 raw many long).length=many:=by simp[z34]
theorem zd6 (raw:List ByteArray) (many long:Nat):∀s∈z34 raw many long,s.size=long:=by
 intro s hs
 obtain⟨i,_,rfl⟩:=List.mem_map.1 hs
 split
 ·exact z5g _ _
 ·exact z5n _
theorem zd5 (raw:List ByteArray) (k long:Nat):z34 raw (k+1) long=z34 raw k long++[if h:k<raw.length then ze7 long raw[k]else z6u long]:=by
 simp[z34,List.range_succ]
theorem zbr {w wm w':World} {v v':Value} {k long:Nat} {raw:List ByteArray} {s:ByteArray}
  (hown':w'.ownsRow w.heap.size 9 1 v' (k+1) ((z34 raw k long).map Value.string++[.string s])) (hs:s=if h:k<raw.length then ze7 long raw[k]else z6u long)
  (hb:Below w.heap.size w wm) (hg:wm.grownBy w' v.ownBlock) (hv:∀k,v.ownBlock=some k->w.heap.size<=k):
  w'.ownsRow w.heap.size 9 1 v' (k+1) ((z34 raw (k+1) long).map Value.string)/\Below w.heap.size w w':=by
 subst hs
 rw[zd5,List.map_append]
 exact⟨hown',hb.grown hg hb.size hv⟩
theorem zd4 (raw:List ByteArray) (A:Option Addr) (n c many long:Nat) (w:World) (hr:Rd w w.heap.size A (raw.map Value.string)) (hln:raw.length=n) (hn:n<=maxLen) (hm:many<=4096) (hl:long<=65536):
  Calls Tryz.prog 50 #[.slice A n c,.int .i64 many,.int .i64 long] w fun e w'=>∃v,e= .returned v/\w'.ownsRow w.heap.size 9 1 v many ((z34 raw many long).map Value.string)/\Below w.heap.size w w':=by
 unfold maxLen at hn
 obtain⟨i8,hi8,hz8,hs8,hb8⟩:=info_parts z6Z
 obtain⟨iS,hiS,hzS,hsS,hbS⟩:=info_parts zdg
 have HR:=Lib.hid hr
 have HN:=Lib.hid hln
 have HB8:=Lib.hid hb8
 clear hr hln hb8
 go_enter Tryz.func50,Tryz.ntmps50
 go_wp2
 go_loopw [7,8] (fun v i wr=>∃k:Nat,k<=many/\i= .int .i64 k/\wr.ownsRow w.heap.size 9 1 v k ((z34 raw k long).map Value.string)/\Below w.heap.size w wr) (fun _ i _=>many-(intOf i).toNat)
 case atStart=>exact⟨0,Nat.zero_le _,rfl,by simpa [z34]using World.ownsRow_nil _ _ _ _,Below.refl _ _⟩
 case round=>
  obtain⟨k,hk,rfl,hown,hb⟩:=hrel
  have HW:=Lib.hid hown
  clear hown
  by_cases hlt:k<many
  ·by_cases hkn:k<n
   ·have hkl:k<raw.length:=by rw[HN.out];exact hkn
    obtain⟨b,off,rfl,hbB,hc⟩:=(HR.out.below hb).at_ (k:=k) (u:=.string raw[k]) (by simp[hkl])
    obtain⟨s,hs⟩:∃s,s=raw[k]:=⟨_,rfl⟩
    rw[<-hs]at hc
    have HS:=Lib.hid hs
    clear hs
    have hbsz:=hb.size
    go_wp2_with (first
     |(at_make;refine wpList_make_full _ rfl _ _ 101 rfl w.heap.size 5 i8 (.int .u8 0) 1 Tryz.underlying101 hi8 hz8 hs8 _ _ _ _ long rfl rfl rfl rfl (by rw[HB8.out];omega) (by unfold maxLen;omega) hbsz ?_;intro w1 hown1 hgrow1;rw[zmO]at hown1;have hc1:=hgrow1.cell hc (by simp);have hbw1:=hb.trans ((z3a hgrow1).mono hbsz);have HO1:=Lib.hid hown1;have HG1:=Lib.hid hgrow1;clear hown1 hgrow1)
     |(refine z6U rfl (.tmp 21) (.tmp 25) 101 9 rfl 5 Tryz.underlying101 zhr wr.heap.size long long rfl s rfl w.heap.size (List.replicate long 0) HO1.out ?_;intro w2 hown2 hgrow2;have hcv:(convert 101 9 (.slice (some ⟨wr.heap.size,0,none⟩) long long)).run Tryz.prog w2= .ok (.string (ze7 long s)) w2:=yw (P:=Tryz.prog) Tryz.underlying101 Tryz.underlying5 Tryz.underlying9 (z1g.of_own hown2) long long (by rw[<-z1w];exact z5g long s);have HO2:=Lib.hid hown2;have hbw2:=hbw1.trans (z80 hgrow2 hbsz hbw1.size);have HW2:=Lib.hid (zbI HW.out HG1.out hgrow2);clear hown2 hgrow2)
     |(at_builtin;(refine wpList_append_own _ rfl (.tmp 27) (.tmp 30) 30 rfl w.heap.size 9 iS _ 1 16 Tryz.underlying30 hiS hzS hsS hbS rfl (by decide) u7 k _ rfl (HW2.out.alloc _) ⟨w2.heap.size,0,none⟩ 1 1 [.string (ze7 long s)] rfl rfl (zay _ _ _) (zbP _) (by unfold maxLen;omega) (by omega) (by have:=hbw2.size;simp;omega) ?_);intro v3 w3 hown3 hgrow3 _;have HO3:=Lib.hid hown3;have HG3:=Lib.hid hgrow3;clear hown3 hgrow3))
    go_roundw
    case rel=>
     have hR:=zbr (w:=w) (s:=ze7 long s) HO3.out (by rw[dif_pos hkl,HS.out]) (hbw2.alloc hbw2.size _) HG3.out (fun j hj=>(HW.out.lt j hj).1)
     exact⟨k+1,by omega,by go_num,hR.1,hR.2⟩
    case measure=>simp[intOf];omega
   ·have hcn:¬((k:Int)<(n:Int)):=by omega
    have hbsz:=hb.size
    go_wp2_with (first
     |(at_make;refine wpList_make_full _ rfl _ _ 101 rfl w.heap.size 5 i8 (.int .u8 0) 1 Tryz.underlying101 hi8 hz8 hs8 _ _ _ _ long rfl rfl rfl rfl (by rw[HB8.out];omega) (by unfold maxLen;omega) hbsz ?_;intro w1 hown1 hgrow1;rw[zmO]at hown1;have hbw1:=hb.trans ((z3a hgrow1).mono hbsz);have HW1:=Lib.hid (HW.out.kept hgrow1 (by cases hv:u7.ownBlock<;>simp));have hcv:(convert 101 9 (.slice (some ⟨wr.heap.size,0,none⟩) long long)).run Tryz.prog w1= .ok (.string (z6u long)) w1:=yw (P:=Tryz.prog) Tryz.underlying101 Tryz.underlying5 Tryz.underlying9 (z1g.of_own hown1) long long (by simp);clear hown1 hgrow1)
     |(at_builtin;(refine wpList_append_own _ rfl (.tmp 27) (.tmp 30) 30 rfl w.heap.size 9 iS _ 1 16 Tryz.underlying30 hiS hzS hsS hbS rfl (by decide) u7 k _ rfl (HW1.out.alloc _) ⟨w1.heap.size,0,none⟩ 1 1 [.string (z6u long)] rfl rfl (zay _ _ _) (zbP _) (by unfold maxLen;omega) (by omega) (by have:=hbw1.size;simp;omega) ?_);intro v3 w3 hown3 hgrow3 _;have HO3:=Lib.hid hown3;have HG3:=Lib.hid hgrow3;clear hown3 hgrow3))
    go_roundw
    case rel=>
     have hR:=zbr (w:=w) (s:=z6u long) HO3.out (by rw[dif_neg (by rw[HN.out];exact hkn)]) (hbw1.alloc hbw1.size _) HG3.out (fun j hj=>(HW.out.lt j hj).1)
     exact⟨k+1,by omega,by go_num,hR.1,hR.2⟩
    case measure=>simp[intOf];omega
  ·have hkm:k=many:=by omega
   have HK:=Lib.hid hkm
   clear hkm
   go_wp2
   go_ret
   rw[<-HK.out]
   exact⟨_,rfl,HW.out,hb⟩
theorem zfp (raw:List ByteArray) (A:Option Addr) (n c:Nat) (mi li:Int) (m l:Nat) (w:World) (hr:Rd w w.heap.size A (raw.map Value.string)) (hln:raw.length=n) (hn:n<=maxLen)
  (hmi:mi=m) (hli:li=l) (hm0:0<m) (hm:m<=4096) (hl:l<=65536):
  Calls Tryz.prog 50 #[.slice A n c,.int .i64 mi,.int .i64 li] w fun e w'=>∃(g cc:Nat) (L:List ByteArray),L=z34 raw m l/\e= .returned (.slice (some ⟨g,0,none⟩) m cc)/\w.heap.size<=g/\g<w'.heap.size/\m<=cc/\cc<=maxLen/\
   L.length=m/\(∀s∈L,s.size=l)/\w'.ownsRow w.heap.size 9 1 (.slice (some ⟨g,0,none⟩) m cc) m (L.map Value.string)/\Below w.heap.size w w':=by
 subst hmi hli
 refine(zd4 raw A n c m l w hr hln hn hm hl).mono fun e w' ⟨v,he,hown,hb⟩=>?_
 obtain⟨g,cc,rfl,h1,h2,h3,h4⟩:=z4X hown hm0
 exact⟨g,cc,_,rfl,he,h1,h2,h3,h4,z9R _ _ _,zd6 _ _ _,hown,hb⟩
end Go.Proofs.YtmfincpagnpkjaaGreat
