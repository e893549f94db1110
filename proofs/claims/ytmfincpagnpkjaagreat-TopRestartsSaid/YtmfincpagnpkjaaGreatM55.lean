/- TopRestarts is true at every input: nodes that fall and rise behind each round, whatever their disks keep, forget nothing that counts. No condition. -/
import Derived.Test.YtmfincpagnpkjaaGreatRows
import Derived.Test.YtmfincpagnpkjaaGreatM54
set_option linter.all false
set_option maxRecDepth 100000
set_option maxHeartbeats 100000000
namespace Go.Proofs.YtmfincpagnpkjaaGreat.rowTopRestarts
open Go.ChangeShapes Go.WideShapes Go.ChangeAt Go.RowKit
open Go.ChangeMaps (open_string shut_string)
theorem own:ownKnob Tryz.prog.godebug=none:=by kernel_rfl
theorem zdR:laidOutB Tryz.prog=true:=by kernel_rfl
theorem zmQ (os:Os) (started:os.Started) (H:Type) (enc:TypeId×Value->H):
  ReturnsInHanded {} Tryz.checked os 4 .any (Rows.topRestartsSpec.pre6 enc Tryz.prog Tryz.f4 Rows.topRestartsRow.domain false) (Rows.topRestartsSpec.post enc Tryz.prog Tryz.f4 false true false false):=by
 refine returnsInHanded_of_change_sized (C:=Tryz.checked) own started (by kernel_rfl) Tryz.func4
  (ChangeSpec.witness6 (enc:=enc) (C:=Tryz.checked) false ⟨#[],#[.agg #[.int .i64 0,.int .i64 0],.slice none 0 0,.slice none 0 0],[]⟩ 8 (by kernel_rfl) (by kernel_rfl) (by kernel_rfl) (by kernel_rfl)) ?_
 intro W base args ds gs before hval0 hW hcnd hsz0 _
 have hval:∀(j:Nat) t v,Tryz.f4.params[j]?=some t->args[j]?=some v->Value.okWide Tryz.prog W .any base t v:=hval0
 have hsz:(DataW.weightsEach Tryz.prog (Tryz.f4.params.toList++Rows.topRestartsSpec.plain.varTypes Tryz.prog) (ds++gs)).all (·<=reachBytes)=true:=hsz0
 have hW':=hW
 obtain⟨p,q,hA0,hV,rfl,hfz,hnd⟩:=hW
 have hA:DataW.TrodAll enc Tryz.prog W 0 (fun _=>true) true Tryz.f4.params.toList args.toList ds p:=hA0
 rw[Tryz.params4]at hA hval hsz
 obtain⟨v0,vs0,d0,ds0,p0,q0,hargs,rfl,rfl,h0,r0⟩:=trodAll_cons hA
 obtain⟨v1,vs1,d1,ds1,p1,q1,rfl,rfl,rfl,h1,r1⟩:=trodAll_cons r0
 obtain⟨v2,vs2,d2,ds2,p2,q2,rfl,rfl,rfl,h2,r2⟩:=trodAll_cons r1
 obtain⟨rfl,rfl,rfl⟩:=trodAll_nil r2
 obtain rfl:args=#[v0,v1,v2]:=by cases args;simp_all
 obtain⟨rfl,rfl⟩:=trodVars_none hV
 have k0:=h0
 have lt0:∀x∈p0,x.block<W.heap.size:=by obtain⟨m,hm⟩:=k0;exact DataW.trod_lt m _ _ _ hm
 have k1:=h1
 have lt1:∀x∈p1,x.block<W.heap.size:=by obtain⟨m,hm⟩:=k1;exact DataW.trod_lt m _ _ _ hm
 have k2:=h2
 have lt2:∀x∈p2,x.block<W.heap.size:=by obtain⟨m,hm⟩:=k2;exact DataW.trod_lt m _ _ _ hm
 obtain⟨e00,e01,f00,f01,m0,rfl,hd0,-,g00,g01⟩:=Joins.open_agg2 Tryz.underlying23 (by kernel_rfl) (by kernel_rfl) (hval 0 23 v0 rfl rfl) h0
 obtain⟨a0,j00,-,w00⟩:=DataW.trod_int Tryz.underlying3 g00
 obtain⟨b0,j01,-,w01⟩:=DataW.trod_int Tryz.underlying3 g01
 simp at j00 j01
 subst j00 j01
 obtain⟨A1,n1,c1,l1,rfl,x1,y1,z1,g1⟩:=zdL Tryz.underlying24 Tryz.underlying34 (by kernel_rfl) rfl rfl rfl rfl rfl Tryz.underlying3 Tryz.underlying3 Tryz.underlying3 Tryz.underlying3 Tryz.underlying9 (by kernel_rfl) (by kernel_rfl) (by kernel_rfl) (by kernel_rfl) (by kernel_rfl) (hval 1 24 v1 rfl rfl) h1 lt1
 obtain⟨A2,n2,c2,l2,rfl,x2,y2,z2,u2,s2⟩:=zdK Tryz.underlying25 Tryz.underlying3 (by kernel_rfl) (hval 2 25 v2 rfl rfl) h2 lt2 (by
  intro elems spare he
  have:=sized_slice hsz (j:=2) (t:=25) (e:=3) rfl (by rw[he];rfl) Tryz.underlying25
  rw[show Tryz.prog.bytesOf 3=8 from by kernel_rfl]at this
  exact this)
 clear hA0 hval0
 refine(z6v a0 b0 l1 A1 n1 c1 l2 A2 n2 c2 W (z08 w00).1 (z08 w00).2 (z08 w01).1 (z08 w01).2 x1 y1 z1 g1 x2 y2 z2 u2 s2).mono fun e W' ⟨he,bel⟩=>?_
 subst he
 exact⟨_,rfl,_,_,_,[],_,[],hW',trodAll_mk1 (shut_bool Tryz.underlying4 _),(trodAll_cons_mk (Below.trod zdR (by kernel_rfl) (of_decide_eq_true (by kernel_rfl)) k0 bel lt0) (trodAll_cons_mk (Below.trod zdR (by kernel_rfl) (of_decide_eq_true (by kernel_rfl)) k1 bel lt1) (trodAll_cons_mk (Below.trod zdR (by kernel_rfl) (of_decide_eq_true (by kernel_rfl)) k2 bel lt2) trodAll_mk0))),rfl,bel.frame _,fun h=>by cases h⟩
theorem znU {a b:Bool} (h:a=true) (g:b=true):(a&&b)=true:=by rw[h,g];rfl
theorem znV:joinedFacts Tryz.pinned.checked.prog 4 Tryz.f4 Rows.topRestartsSpec Rows.topRestartsRow=true:=by
 unfold joinedFacts
 repeat' (with_reducible refine znU ?_ ?_)
 all_goals decide+kernel
theorem znL:Rows.topRestartsRow.holds Tryz.pinned (OpenSpec.ofChange Rows.topRestartsSpec):=
 OpenClaim.holds_of_wide 4 Tryz.f4 rfl rfl rfl rfl rfl rfl rfl ⟨rfl,rfl,rfl,rfl,rfl⟩ rfl rfl rfl rfl rfl (by kernel_rfl) Tryz.func4 znV
  (of_decide_eq_true (by kernel_rfl)) (by unfold Func.isWrapper;first|(rw[if_pos (by decide+kernel)];kernel_rfl)|(rw[if_neg (by decide+kernel)];exact⟨rfl,rfl⟩))
  (fun os started H enc _=>zmQ os started H enc)
theorem proved:Rows.TopRestartsSaid:=znL
end Go.Proofs.YtmfincpagnpkjaaGreat.rowTopRestarts
