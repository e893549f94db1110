/- Part of the proof of one statement: what the program's functions compute. -/
import Derived.Deep.DeepCutAuto
import Derived.ScopeJumps
import Derived.WalkMore
import Derived.Test.YtmfincpagnpkjaaGreatM09
set_option linter.all false
set_option maxRecDepth 100000
set_option maxHeartbeats 100000000
namespace Go.Proofs.YtmfincpagnpkjaaGreat
section
open Go.RowKit Go.Shelf
attribute [local go_sem] Oper.semAt_some
def epB (x:Int):Bool:=decide (0<=x)&&decide (x<=16777215)
theorem z4C {x:Int}:epB x=true↔0<=x/\x<=16777215:=by simp[epB]
def z8Q (s:ByteArray) (there:Bool):Bool:=if there then decide (s.size=16)else decide (s.size=0)
def Rec.num (r:Rec):Nat->Int
 |1=>r.fence
 |2=>r.de
 |3=>r.ds
 |6=>r.ie
 |_=>r.iq
def z7M (r:Rec):Bool:=epB r.fence&&epB r.de&&epB r.ds&&epB r.ie&&epB r.iq
def z0h (r:Rec):Bool:=(decide (0<=r.mask)&&decide (r.mask<=63))&&(z8Q r.block r.used&&z8Q r.staged r.opn)&&(r.opn||(r.ie==0&&r.iq==0&&r.mask==0))&&(r.used||(!r.opn&&(r.de==0&&r.ds==0)))
def jg (r:Rec):Bool:=z7M r&&z0h r
theorem zgb {r:Rec} (h:∀x∈z2d,epB (r.num x)=true):z7M r=true:=by
 have h1:=h 1 (by decide);have h2:=h 2 (by decide);have h3:=h 3 (by decide);have h6:=h 6 (by decide);have h7:=h 7 (by decide)
 simp only[Rec.num]at h1 h2 h3 h6 h7
 simp[z7M,h1,h2,h3,h6,h7]
theorem zim {r:Rec} {x:Nat} (hx:x∈z2d) (h:epB (r.num x)=false):z7M r=false:=by
 simp only[z2d,List.mem_cons,List.not_mem_nil,or_false]at hx
 rcases hx with rfl|rfl|rfl|rfl|rfl<;>simp only[Rec.num]at h<;>simp[z7M,h]
theorem Rec.num_cell (r:Rec) {x:Nat} (hx:x∈z2d):r.cells[x]?=some (.int .i64 (r.num x)):=by
 simp only[z2d,List.mem_cons,List.not_mem_nil,or_false]at hx
 rcases hx with rfl|rfl|rfl|rfl|rfl<;>rfl
def At (W:World) (b:Nat) (l:List Value):Prop:=∀j u,l[j]?=some u->W.cell? ⟨b,j,none⟩=some u
theorem At.kept {A B:World} {row:Option Nat} {b:Nat} {l:List Value} (h:At A b l) (hg:A.grownBy B row) (hr:∀r,row=some r->∃o,A.heap[r]?=some o/\o.isCells=false):At B b l:=fun j u hu=>cell_kept (h j u hu) hg hr
theorem At.cell {W:World} {b:Nat} {l:List Value} (h:At W b l) (j:Nat) (u:Value) (hu:l[j]?=some u):W.cell? ⟨b,j,none⟩=some u:=h j u hu
theorem jq (s:ByteArray) (t:Bool) (w:World) (hs:s.size<=9223372036854775807):
  Calls Tryz.prog 151 #[.string s,.bool t] w fun e w'=>e= .returned (.bool (z8Q s t))/\w=w':=by
 cases t
 ·by_cases h:s.size=0
  ·have h1:s.toList.isEmpty=true:=by rw[zf2 h,ByteArray.toList_eq];rfl
   go_enter Tryz.func151,Tryz.ntmps151
   go_wp2
   go_ret
   exact⟨by simp[z8Q,h],rfl⟩
  ·have h1:s.toList.isEmpty=false:=z1V (by omega)
   go_enter Tryz.func151,Tryz.ntmps151
   go_wp2
   go_ret
   exact⟨by simp[z8Q,h],rfl⟩
 ·by_cases h:s.size=16
  ·have h1:((s.size:Int)==16)=true:=by rw[beq_iff_eq];omega
   go_enter Tryz.func151,Tryz.ntmps151
   go_wp2
   go_ret
   exact⟨by simp[z8Q,h],rfl⟩
  ·have h1:((s.size:Int)==16)=false:=by rw[beq_eq_false_iff_ne];omega
   go_enter Tryz.func151,Tryz.ntmps151
   go_wp2
   go_ret
   exact⟨by simp[z8Q,h],rfl⟩
theorem z2P (b:Nat) (w:World) (F:Fence) (n:Nat) (h75:F.fn 75) (hro:F.round=none):
  CallsIn F n Tryz.prog 75 #[.pointer (some ⟨b,0,none⟩)] w fun e w'=>e= .returned (.func (.func 106) #[] #[.pointer (some ⟨w.heap.size,0,none⟩)])/\w'=w.alloc (.cells #[.pointer (some ⟨b,0,none⟩)] 140):=by
 refine callsIn_of_wp Tryz.func75 rfl h75 ?_ hro
 simp only[Tryz.ntmps75,List.size_toArray,List.length_cons,List.length_nil,Nat.reduceAdd,Nat.reduceSub,Array.replicate_succ,Array.replicate_zero,List.push_toArray,List.append_toArray,List.nil_append,List.cons_append]
 gi_wp2
 go_ret
 exact⟨rfl,rfl⟩
theorem zhI (r:Rec) (n:Nat) (w:World) (hn:4<=n) (hb:r.block.size<=9223372036854775807) (hs:r.staged.size<=9223372036854775807):
  CallsIn Fence.wide n Tryz.prog 107 #[r.v] w fun e w'=>e= .returned (.bool (jg r))/\Below w.heap.size w w':=by
 have h1:1<=n:=by omega
 have hF:∀k,Fence.wide.fn k:=fun _=>trivial
 have hro:Fence.wide.round=none:=rfl
 refine callsIn_of_wp_marks Tryz.func107 rfl (hF _) ?_ hro
 simp only[Rec.v,Rec.cells,Tryz.ntmps107,List.size_toArray,List.length_cons,List.length_nil,Nat.reduceAdd,Nat.reduceSub,Array.replicate_succ,Array.replicate_zero,List.push_toArray,List.append_toArray,List.nil_append,List.cons_append]
 gi_wp2_with (gi_at_call 75;refine(z2P _ _ Fence.wide (n-1) (hF _) hro).mono ?_;rintro e w' ⟨rfl,rfl⟩)
 have hrec:At (((w.alloc (.cells r.cells.toArray 54)).alloc (.cells #[.bool false] 4)).alloc (.cells #[.pointer (some ⟨w.heap.size,0,none⟩)] 140)) w.heap.size r.cells:=fun j u hu=>by
  have h:=((Rd.new w r.cells.toArray 54 (0,0)).alloc (by simp) (.cells #[.bool false] 4)).alloc (by simp) (.cells #[.pointer (some ⟨w.heap.size,0,none⟩)] 140)
  have:=h.cell_ (k:=j) (u:=u) (by simpa using hu)
  rwa [Nat.zero_add]at this
 have HREC:=Lib.hid hrec
 have hbel:Below w.heap.size w (((w.alloc (.cells r.cells.toArray 54)).alloc (.cells #[.bool false] 4)).alloc (.cells #[.pointer (some ⟨w.heap.size,0,none⟩)] 140)):=za (za (za (Below.refl _ _) _) _) _
 have HBEL:=Lib.hid hbel
 clear hrec hbel
 refine wpIn_rangeFunc_ownF hro h1 (gf:=106) (lb:=#[.pointer (some ⟨w.heap.size+2,0,none⟩)]) rfl (hF _) (enters_of Tryz.func106 (by kernel_rfl) rfl)
  (z5C Fence.wide (n-1) (hF _) hro (by omega) (w.heap.size+2) w.heap.size _ (World.cell?_alloc_at _ _ _ _ (by simp)) (by simp)) z4y (fun W l o o' _ h hc _=>z4z W l o o' h hc) (Below.refl _ _) (fun _=>rfl)
  (fun pre W=>(At W w.heap.size r.cells/\W.cell? ⟨w.heap.size+1,0,none⟩=some (.bool false)/\W.frozen? ⟨w.heap.size+1,0,none⟩=false/\∀x∈pre,epB (r.num x.1)=true)/\Below w.heap.size w W)
  (fun c pre W=>(c= .ret/\W.cell? ⟨w.heap.size+1,0,none⟩=some (.bool false)/\∃x∈pre,epB (r.num x.1)=false)/\Below w.heap.size w W)
  (OwnFrom.and (Own.from (fun s A B row hs hg hr=>⟨hs.1.kept hg hr,cell_kept hs.2.1 hg hr,(frozen_kept hs.2.1 hg hr).trans hs.2.2.1,hs.2.2.2⟩) _) (ownFrom_below (Nat.le_refl _) (by simp;omega)))
  (fun c=>OwnFrom.and (Own.from (fun s A B row hs hg hr=>⟨hs.1,cell_kept hs.2.1 hg hr,hs.2.2⟩) _) (ownFrom_below (Nat.le_refl _) (by simp;omega)))
  ⟨⟨HREC.out,by simp[go_sem],by simp[go_sem],by simp⟩,HBEL.out⟩
  (fun x=>{tmps:=#[r.v,.pointer (some ⟨w.heap.size,0,none⟩),.pointer (some ⟨w.heap.size+1,0,none⟩),.pointer (some ⟨w.heap.size,x.1,none⟩),undef,.func (.func 106) #[] #[.pointer (some ⟨w.heap.size+2,0,none⟩)],.pointer (some ⟨w.heap.size,x.1,none⟩),undef,undef,undef,undef,undef,undef,undef,undef,undef,undef,undef,undef,undef,undef,undef,undef,undef,undef,undef,undef,undef,undef,undef,undef,undef,undef,undef,undef,undef,undef,undef,undef,undef,undef,undef,undef,undef,undef,undef,undef,undef,undef,undef,undef,undef,undef,undef,undef,undef,undef,undef,undef,undef,undef,undef,undef,undef,undef,undef,undef],defers:=[]}) ?assign ?body ?done ?stop
 case assign=>
  intro l x W K hK
  simp only[z7y]
  gi_wp2
  exact hK
 case body=>
  rintro l pre ⟨x,hx⟩ W ⟨⟨hat,hc,hf,hok⟩,hbw⟩ _
  have hcx:=hat.cell x _ (r.num_cell hx)
  have HOK:=Lib.hid hok
  have HAT:=Lib.hid hat
  clear hok hat
  dsimp only
  by_cases hv:epB (r.num x)=true
  ·obtain⟨q1,q2⟩:=z4C.1 hv
   gi_wp2
   exact⟨KeepsOthers.refl _,fun v h=>h,⟨HAT.out,hc,hf,fun y hy=>by
    rcases List.mem_append.1 hy with h|h
    ·exact HOK.out y h
    ·rw[List.mem_singleton.1 h];exact hv⟩,hbw⟩
  ·have hv':epB (r.num x)=false:=by simpa using hv
   have hv2:¬(0<=r.num x/\r.num x<=16777215):=fun h=>hv (z4C.2 h)
   have HV:=Lib.hid hv'
   clear hv hv'
   rcases(show r.num x<0\/(0<=r.num x/\16777215<r.num x) by omega)with q|⟨q1,q2⟩
   all_goals
    gi_wp2
    exact⟨KeepsOthers.setCell _ _ _,⟨rfl,World.cell?_setCell_same' _ _ _ (by rw[hc];rfl),⟨x,hx⟩,by simp,HV.out⟩,hbw.setCell (p:=⟨w.heap.size+1,0,none⟩) (by simp) _⟩
 case done=>
  rintro D xs W hD rfl ⟨⟨hat,hc,hf,hok⟩,hbw⟩ hK
  have hnum:z7M r=true:=zgb fun x hx=>by
   simp only[z2d,List.mem_cons,List.not_mem_nil,or_false]at hx
   rcases hx with rfl|rfl|rfl|rfl|rfl
   ·exact hok o1 (by simp)
   ·exact hok o2 (by simp)
   ·exact hok o3 (by simp)
   ·exact hok o6 (by simp)
   ·exact hok o7 (by simp)
  have hR:jg r=z0h r:=by unfold jg;rw[hnum];rfl
  have HR:=Lib.hid hR
  have c0:=hat.cell 0 _ rfl
  have c2:=hat.cell 2 _ rfl
  have c3:=hat.cell 3 _ rfl
  have c4:=hat.cell 4 _ rfl
  have c5:=hat.cell 5 _ rfl
  have c6:=hat.cell 6 _ rfl
  have c7:=hat.cell 7 _ rfl
  have c8:=hat.cell 8 _ rfl
  have c9:=hat.cell 9 _ rfl
  have hD2:w.heap.size<=D:=by simp at hD;omega
  have hB:w.heap.size<W.heap.size:=by
   have h:=World.cell?_spot c0
   unfold World.cell? at c0
   split at c0
   ·rename_i hh;exact(Array.getElem?_eq_some_iff.1 hh).1
   ·cases c0
  have hB1:w.heap.size+1<W.heap.size:=by
   unfold World.cell? at hc
   split at hc
   ·rename_i hh;exact(Array.getElem?_eq_some_iff.1 hh).1
   ·cases hc
  clear hat hok hnum hR hD
  by_cases hm:0<=r.mask/\r.mask<=63
  ·obtain⟨m1,m2⟩:=hm
   have hm1:(decide (0<=r.mask)&&decide (r.mask<=63))=true:=by simp[m1,m2]
   cases hfb:z8Q r.block r.used
   ·have HRO:Hid (z0h r=false):=Lib.hid (by unfold z0h;rw[hm1,hfb];simp)
    clear hm1
    gi_wp2_with (gi_at_call 151;refine(callsIn_wide.2 (jq _ _ _ (by first|exact hb|exact hs))).mono ?_;rintro e w' ⟨rfl,rfl⟩)
    have hK2:=(KeepsOthers.setCell W ⟨w.heap.size+1,0,none⟩ (.bool false)).same D _ hK rfl
    refine⟨by simp,.inl ⟨_,_,rfl,run_takeDeferred hK2, ?_⟩⟩
    have hc2:=cell_kept (World.cell?_setCell_same' W ⟨w.heap.size+1,0,none⟩ (.bool false) (by rw[hc];rfl)) (grownBy_putObj' (W.setCell ⟨w.heap.size+1,0,none⟩ (.bool false)) D (.deferred none)) (fun r e=>by cases e;exact⟨_,hK2,rfl⟩)
    refine⟨.bool false,by simp[results,Tryz.results107,go_sem,hc2],by rw[HR.out,HRO.out], ?_⟩
    exact(hbw.setCell (p:=⟨w.heap.size+1,0,none⟩) (by simp) _).trans (belowK_b (w:=w) (Nat.le_refl _) _ D _ _ hD2 hK2 rfl rfl)
   ·cases hfs:z8Q r.staged r.opn
    ·have HRO:Hid (z0h r=false):=Lib.hid (by unfold z0h;rw[hm1,hfb,hfs];simp)
     clear hm1
     gi_wp2_with (gi_at_call 151;refine(callsIn_wide.2 (jq _ _ _ (by first|exact hb|exact hs))).mono ?_;rintro e w' ⟨rfl,rfl⟩)
     have hK2:=(KeepsOthers.setCell W ⟨w.heap.size+1,0,none⟩ (.bool false)).same D _ hK rfl
     refine⟨by simp,.inl ⟨_,_,rfl,run_takeDeferred hK2, ?_⟩⟩
     have hc2:=cell_kept (World.cell?_setCell_same' W ⟨w.heap.size+1,0,none⟩ (.bool false) (by rw[hc];rfl)) (grownBy_putObj' (W.setCell ⟨w.heap.size+1,0,none⟩ (.bool false)) D (.deferred none)) (fun r e=>by cases e;exact⟨_,hK2,rfl⟩)
     refine⟨.bool false,by simp[results,Tryz.results107,go_sem,hc2],by rw[HR.out,HRO.out], ?_⟩
     exact(hbw.setCell (p:=⟨w.heap.size+1,0,none⟩) (by simp) _).trans (belowK_b (w:=w) (Nat.le_refl _) _ D _ _ hD2 hK2 rfl rfl)
    ·have hro1:z0h r=((r.opn||(r.ie==0&&r.iq==0&&r.mask==0))&&(r.used||(!r.opn&&(r.de==0&&r.ds==0)))):=by unfold z0h;rw[hm1,hfb,hfs];simp
     have HM1:=Lib.hid hro1
     clear hm1 hro1
     cases ho:r.opn
     ·rw[ho]at c5 hfs
      cases h1:(r.ie==0)
      ·have HRO:Hid (z0h r=false):=Lib.hid (by rw[HM1.out,ho,h1];rfl)
       gi_wp2_with (gi_at_call 151;refine(callsIn_wide.2 (jq _ _ _ (by first|exact hb|exact hs))).mono ?_;rintro e w' ⟨rfl,rfl⟩)
       have hK2:=((KeepsOthers.setCell W ⟨w.heap.size+1,0,none⟩ (.bool false)).trans (KeepsOthers.alloc _ (.cells #[.int .i64 0,.int .i64 0] 52))).same D _ hK rfl
       refine⟨by simp,.inl ⟨_,_,rfl,run_takeDeferred hK2, ?_⟩⟩
       have hc2:=cell_kept ((World.cell?_alloc_lt (W.setCell ⟨w.heap.size+1,0,none⟩ (.bool false)) (.cells #[.int .i64 0,.int .i64 0] 52) ⟨w.heap.size+1,0,none⟩ (by simpa using hB1)).trans (World.cell?_setCell_same' W ⟨w.heap.size+1,0,none⟩ (.bool false) (by rw[hc];rfl))) (grownBy_putObj' ((W.setCell ⟨w.heap.size+1,0,none⟩ (.bool false)).alloc (.cells #[.int .i64 0,.int .i64 0] 52)) D (.deferred none)) (fun r e=>by cases e;exact⟨_,hK2,rfl⟩)
       refine⟨.bool false,by simp[results,Tryz.results107,go_sem,hc2],by rw[HR.out,HRO.out], ?_⟩
       exact((hbw.setCell (p:=⟨w.heap.size+1,0,none⟩) (by simp) _).alloc (by simpa using hbw.size) (.cells #[.int .i64 0,.int .i64 0] 52)).trans (belowK_b (w:=w) (Nat.le_refl _) _ D _ _ hD2 hK2 rfl rfl)
      ·cases h2:(r.iq==0)
       ·have HRO:Hid (z0h r=false):=Lib.hid (by rw[HM1.out,ho,h1,h2];rfl)
        gi_wp2_with (gi_at_call 151;refine(callsIn_wide.2 (jq _ _ _ (by first|exact hb|exact hs))).mono ?_;rintro e w' ⟨rfl,rfl⟩)
        have hK2:=((KeepsOthers.setCell W ⟨w.heap.size+1,0,none⟩ (.bool false)).trans (KeepsOthers.alloc _ (.cells #[.int .i64 0,.int .i64 0] 52))).same D _ hK rfl
        refine⟨by simp,.inl ⟨_,_,rfl,run_takeDeferred hK2, ?_⟩⟩
        have hc2:=cell_kept ((World.cell?_alloc_lt (W.setCell ⟨w.heap.size+1,0,none⟩ (.bool false)) (.cells #[.int .i64 0,.int .i64 0] 52) ⟨w.heap.size+1,0,none⟩ (by simpa using hB1)).trans (World.cell?_setCell_same' W ⟨w.heap.size+1,0,none⟩ (.bool false) (by rw[hc];rfl))) (grownBy_putObj' ((W.setCell ⟨w.heap.size+1,0,none⟩ (.bool false)).alloc (.cells #[.int .i64 0,.int .i64 0] 52)) D (.deferred none)) (fun r e=>by cases e;exact⟨_,hK2,rfl⟩)
        refine⟨.bool false,by simp[results,Tryz.results107,go_sem,hc2],by rw[HR.out,HRO.out], ?_⟩
        exact((hbw.setCell (p:=⟨w.heap.size+1,0,none⟩) (by simp) _).alloc (by simpa using hbw.size) (.cells #[.int .i64 0,.int .i64 0] 52)).trans (belowK_b (w:=w) (Nat.le_refl _) _ D _ _ hD2 hK2 rfl rfl)
       ·cases h3:(r.mask==0)
        ·have HRO:Hid (z0h r=false):=Lib.hid (by rw[HM1.out,ho,h1,h2,h3];rfl)
         gi_wp2_with (gi_at_call 151;refine(callsIn_wide.2 (jq _ _ _ (by first|exact hb|exact hs))).mono ?_;rintro e w' ⟨rfl,rfl⟩)
         have hK2:=((KeepsOthers.setCell W ⟨w.heap.size+1,0,none⟩ (.bool false)).trans (KeepsOthers.alloc _ (.cells #[.int .i64 0,.int .i64 0] 52))).same D _ hK rfl
         refine⟨by simp,.inl ⟨_,_,rfl,run_takeDeferred hK2, ?_⟩⟩
         have hc2:=cell_kept ((World.cell?_alloc_lt (W.setCell ⟨w.heap.size+1,0,none⟩ (.bool false)) (.cells #[.int .i64 0,.int .i64 0] 52) ⟨w.heap.size+1,0,none⟩ (by simpa using hB1)).trans (World.cell?_setCell_same' W ⟨w.heap.size+1,0,none⟩ (.bool false) (by rw[hc];rfl))) (grownBy_putObj' ((W.setCell ⟨w.heap.size+1,0,none⟩ (.bool false)).alloc (.cells #[.int .i64 0,.int .i64 0] 52)) D (.deferred none)) (fun r e=>by cases e;exact⟨_,hK2,rfl⟩)
         refine⟨.bool false,by simp[results,Tryz.results107,go_sem,hc2],by rw[HR.out,HRO.out], ?_⟩
         exact((hbw.setCell (p:=⟨w.heap.size+1,0,none⟩) (by simp) _).alloc (by simpa using hbw.size) (.cells #[.int .i64 0,.int .i64 0] 52)).trans (belowK_b (w:=w) (Nat.le_refl _) _ D _ _ hD2 hK2 rfl rfl)
        ·cases hu:r.used
         ·rw[hu]at c0 hfb
          cases h4:(r.de==0)
          ·have HRO:Hid (z0h r=false):=Lib.hid (by rw[HM1.out,ho,h1,h2,h3,hu,h4];rfl)
           gi_wp2_with (gi_at_call 151;refine(callsIn_wide.2 (jq _ _ _ (by first|exact hb|exact hs))).mono ?_;rintro e w' ⟨rfl,rfl⟩)
           have hK2:=((KeepsOthers.setCell W ⟨w.heap.size+1,0,none⟩ (.bool false)).trans (KeepsOthers.alloc _ (.cells #[.int .i64 0,.int .i64 0] 52))).same D _ hK rfl
           refine⟨by simp,.inl ⟨_,_,rfl,run_takeDeferred hK2, ?_⟩⟩
           have hc2:=cell_kept ((World.cell?_alloc_lt (W.setCell ⟨w.heap.size+1,0,none⟩ (.bool false)) (.cells #[.int .i64 0,.int .i64 0] 52) ⟨w.heap.size+1,0,none⟩ (by simpa using hB1)).trans (World.cell?_setCell_same' W ⟨w.heap.size+1,0,none⟩ (.bool false) (by rw[hc];rfl))) (grownBy_putObj' ((W.setCell ⟨w.heap.size+1,0,none⟩ (.bool false)).alloc (.cells #[.int .i64 0,.int .i64 0] 52)) D (.deferred none)) (fun r e=>by cases e;exact⟨_,hK2,rfl⟩)
           refine⟨.bool false,by simp[results,Tryz.results107,go_sem,hc2],by rw[HR.out,HRO.out], ?_⟩
           exact((hbw.setCell (p:=⟨w.heap.size+1,0,none⟩) (by simp) _).alloc (by simpa using hbw.size) (.cells #[.int .i64 0,.int .i64 0] 52)).trans (belowK_b (w:=w) (Nat.le_refl _) _ D _ _ hD2 hK2 rfl rfl)
          ·cases h5:(r.ds==0)
           ·have HRO:Hid (z0h r=false):=Lib.hid (by rw[HM1.out,ho,h1,h2,h3,hu,h4,h5];rfl)
            gi_wp2_with (gi_at_call 151;refine(callsIn_wide.2 (jq _ _ _ (by first|exact hb|exact hs))).mono ?_;rintro e w' ⟨rfl,rfl⟩)
            have hK2:=((KeepsOthers.setCell W ⟨w.heap.size+1,0,none⟩ (.bool false)).trans (KeepsOthers.alloc _ (.cells #[.int .i64 0,.int .i64 0] 52))).same D _ hK rfl
            refine⟨by simp,.inl ⟨_,_,rfl,run_takeDeferred hK2, ?_⟩⟩
            have hc2:=cell_kept ((World.cell?_alloc_lt (W.setCell ⟨w.heap.size+1,0,none⟩ (.bool false)) (.cells #[.int .i64 0,.int .i64 0] 52) ⟨w.heap.size+1,0,none⟩ (by simpa using hB1)).trans (World.cell?_setCell_same' W ⟨w.heap.size+1,0,none⟩ (.bool false) (by rw[hc];rfl))) (grownBy_putObj' ((W.setCell ⟨w.heap.size+1,0,none⟩ (.bool false)).alloc (.cells #[.int .i64 0,.int .i64 0] 52)) D (.deferred none)) (fun r e=>by cases e;exact⟨_,hK2,rfl⟩)
            refine⟨.bool false,by simp[results,Tryz.results107,go_sem,hc2],by rw[HR.out,HRO.out], ?_⟩
            exact((hbw.setCell (p:=⟨w.heap.size+1,0,none⟩) (by simp) _).alloc (by simpa using hbw.size) (.cells #[.int .i64 0,.int .i64 0] 52)).trans (belowK_b (w:=w) (Nat.le_refl _) _ D _ _ hD2 hK2 rfl rfl)
           ·have HRO:Hid (z0h r=true):=Lib.hid (by rw[HM1.out,ho,h1,h2,h3,hu,h4,h5];rfl)
            gi_wp2_with (gi_at_call 151;refine(callsIn_wide.2 (jq _ _ _ (by first|exact hb|exact hs))).mono ?_;rintro e w' ⟨rfl,rfl⟩)
            have hK2:=((KeepsOthers.setCell W ⟨w.heap.size+1,0,none⟩ (.bool true)).trans (KeepsOthers.alloc _ (.cells #[.int .i64 0,.int .i64 0] 52))).same D _ hK rfl
            refine⟨by simp,.inl ⟨_,_,rfl,run_takeDeferred hK2, ?_⟩⟩
            have hc2:=cell_kept ((World.cell?_alloc_lt (W.setCell ⟨w.heap.size+1,0,none⟩ (.bool true)) (.cells #[.int .i64 0,.int .i64 0] 52) ⟨w.heap.size+1,0,none⟩ (by simpa using hB1)).trans (World.cell?_setCell_same' W ⟨w.heap.size+1,0,none⟩ (.bool true) (by rw[hc];rfl))) (grownBy_putObj' ((W.setCell ⟨w.heap.size+1,0,none⟩ (.bool true)).alloc (.cells #[.int .i64 0,.int .i64 0] 52)) D (.deferred none)) (fun r e=>by cases e;exact⟨_,hK2,rfl⟩)
            refine⟨.bool true,by simp[results,Tryz.results107,go_sem,hc2],by rw[HR.out,HRO.out], ?_⟩
            exact((hbw.setCell (p:=⟨w.heap.size+1,0,none⟩) (by simp) _).alloc (by simpa using hbw.size) (.cells #[.int .i64 0,.int .i64 0] 52)).trans (belowK_b (w:=w) (Nat.le_refl _) _ D _ _ hD2 hK2 rfl rfl)
         ·rw[hu]at c0 hfb
          have HRO:Hid (z0h r=true):=Lib.hid (by rw[HM1.out,ho,h1,h2,h3,hu];rfl)
          gi_wp2_with (gi_at_call 151;refine(callsIn_wide.2 (jq _ _ _ (by first|exact hb|exact hs))).mono ?_;rintro e w' ⟨rfl,rfl⟩)
          have hK2:=((KeepsOthers.setCell W ⟨w.heap.size+1,0,none⟩ (.bool true)).trans (KeepsOthers.alloc _ (.cells #[.int .i64 0,.int .i64 0] 52))).same D _ hK rfl
          refine⟨by simp,.inl ⟨_,_,rfl,run_takeDeferred hK2, ?_⟩⟩
          have hc2:=cell_kept ((World.cell?_alloc_lt (W.setCell ⟨w.heap.size+1,0,none⟩ (.bool true)) (.cells #[.int .i64 0,.int .i64 0] 52) ⟨w.heap.size+1,0,none⟩ (by simpa using hB1)).trans (World.cell?_setCell_same' W ⟨w.heap.size+1,0,none⟩ (.bool true) (by rw[hc];rfl))) (grownBy_putObj' ((W.setCell ⟨w.heap.size+1,0,none⟩ (.bool true)).alloc (.cells #[.int .i64 0,.int .i64 0] 52)) D (.deferred none)) (fun r e=>by cases e;exact⟨_,hK2,rfl⟩)
          refine⟨.bool true,by simp[results,Tryz.results107,go_sem,hc2],by rw[HR.out,HRO.out], ?_⟩
          exact((hbw.setCell (p:=⟨w.heap.size+1,0,none⟩) (by simp) _).alloc (by simpa using hbw.size) (.cells #[.int .i64 0,.int .i64 0] 52)).trans (belowK_b (w:=w) (Nat.le_refl _) _ D _ _ hD2 hK2 rfl rfl)
     ·rw[ho]at c5 hfs
      cases hu:r.used
      ·rw[hu]at c0 hfb
       have HRO:Hid (z0h r=false):=Lib.hid (by rw[HM1.out,ho,hu];rfl)
       gi_wp2_with (gi_at_call 151;refine(callsIn_wide.2 (jq _ _ _ (by first|exact hb|exact hs))).mono ?_;rintro e w' ⟨rfl,rfl⟩)
       have hK2:=((KeepsOthers.setCell W ⟨w.heap.size+1,0,none⟩ (.bool false)).trans (KeepsOthers.alloc _ (.cells #[.int .i64 0,.int .i64 0] 52))).same D _ hK rfl
       refine⟨by simp,.inl ⟨_,_,rfl,run_takeDeferred hK2, ?_⟩⟩
       have hc2:=cell_kept ((World.cell?_alloc_lt (W.setCell ⟨w.heap.size+1,0,none⟩ (.bool false)) (.cells #[.int .i64 0,.int .i64 0] 52) ⟨w.heap.size+1,0,none⟩ (by simpa using hB1)).trans (World.cell?_setCell_same' W ⟨w.heap.size+1,0,none⟩ (.bool false) (by rw[hc];rfl))) (grownBy_putObj' ((W.setCell ⟨w.heap.size+1,0,none⟩ (.bool false)).alloc (.cells #[.int .i64 0,.int .i64 0] 52)) D (.deferred none)) (fun r e=>by cases e;exact⟨_,hK2,rfl⟩)
       refine⟨.bool false,by simp[results,Tryz.results107,go_sem,hc2],by rw[HR.out,HRO.out], ?_⟩
       exact((hbw.setCell (p:=⟨w.heap.size+1,0,none⟩) (by simp) _).alloc (by simpa using hbw.size) (.cells #[.int .i64 0,.int .i64 0] 52)).trans (belowK_b (w:=w) (Nat.le_refl _) _ D _ _ hD2 hK2 rfl rfl)
      ·rw[hu]at c0 hfb
       have HRO:Hid (z0h r=true):=Lib.hid (by rw[HM1.out,ho,hu];rfl)
       gi_wp2_with (gi_at_call 151;refine(callsIn_wide.2 (jq _ _ _ (by first|exact hb|exact hs))).mono ?_;rintro e w' ⟨rfl,rfl⟩)
       have hK2:=((KeepsOthers.setCell W ⟨w.heap.size+1,0,none⟩ (.bool true)).trans (KeepsOthers.alloc _ (.cells #[.int .i64 0,.int .i64 0] 52))).same D _ hK rfl
       refine⟨by simp,.inl ⟨_,_,rfl,run_takeDeferred hK2, ?_⟩⟩
       have hc2:=cell_kept ((World.cell?_alloc_lt (W.setCell ⟨w.heap.size+1,0,none⟩ (.bool true)) (.cells #[.int .i64 0,.int .i64 0] 52) ⟨w.heap.size+1,0,none⟩ (by simpa using hB1)).trans (World.cell?_setCell_same' W ⟨w.heap.size+1,0,none⟩ (.bool true) (by rw[hc];rfl))) (grownBy_putObj' ((W.setCell ⟨w.heap.size+1,0,none⟩ (.bool true)).alloc (.cells #[.int .i64 0,.int .i64 0] 52)) D (.deferred none)) (fun r e=>by cases e;exact⟨_,hK2,rfl⟩)
       refine⟨.bool true,by simp[results,Tryz.results107,go_sem,hc2],by rw[HR.out,HRO.out], ?_⟩
       exact((hbw.setCell (p:=⟨w.heap.size+1,0,none⟩) (by simp) _).alloc (by simpa using hbw.size) (.cells #[.int .i64 0,.int .i64 0] 52)).trans (belowK_b (w:=w) (Nat.le_refl _) _ D _ _ hD2 hK2 rfl rfl)
  ·have HRO:Hid (z0h r=false):=Lib.hid (by
    have:(decide (0<=r.mask)&&decide (r.mask<=63))=false:=by simp;omega
    unfold z0h;rw[this];rfl)
   rcases(show r.mask<0\/(0<=r.mask/\63<r.mask) by omega)with q|⟨q,q2⟩
   all_goals
    clear hm
    gi_wp2
    have hK2:=(KeepsOthers.setCell W ⟨w.heap.size+1,0,none⟩ (.bool false)).same D _ hK rfl
    refine⟨by simp,.inl ⟨_,_,rfl,run_takeDeferred hK2, ?_⟩⟩
    have hc2:=cell_kept (World.cell?_setCell_same' W ⟨w.heap.size+1,0,none⟩ (.bool false) (by rw[hc];rfl)) (grownBy_putObj' (W.setCell ⟨w.heap.size+1,0,none⟩ (.bool false)) D (.deferred none)) (fun r e=>by cases e;exact⟨_,hK2,rfl⟩)
    refine⟨.bool false,by simp[results,Tryz.results107,go_sem,hc2],by rw[HR.out,HRO.out], ?_⟩
    exact(hbw.setCell (p:=⟨w.heap.size+1,0,none⟩) (by simp) _).trans (belowK_b (w:=w) (Nat.le_refl _) _ D _ _ hD2 hK2 rfl rfl)
 case stop=>
  rintro D c pre W hD hSp ⟨⟨rfl,hc,hok⟩,hbw⟩ hK
  obtain⟨⟨x,hx⟩,hxp,hxo⟩:=hok
  have HR:Hid (jg r=false):=Lib.hid (by unfold jg;rw[zim hx hxo];rfl)
  have hD2:w.heap.size<=D:=by simp at hD;omega
  gi_wp2
  refine⟨by simp,.inl ⟨_,_,rfl,run_takeDeferred hK, ?_⟩⟩
  have hc2:=cell_kept hc (grownBy_putObj' W D (.deferred none)) (fun r e=>by cases e;exact⟨_,hK,rfl⟩)
  refine⟨.bool false,by simp[results,Tryz.results107,go_sem,hc2],by rw[HR.out], ?_⟩
  exact hbw.trans (belowK_b (w:=w) (Nat.le_refl _) W D _ _ hD2 hK rfl rfl)
theorem z1P (r:Rec) (w:World) (hb:r.block.size<=9223372036854775807) (hs:r.staged.size<=9223372036854775807):
  Calls Tryz.prog 107 #[r.v] w fun e w'=>e= .returned (.bool (jg r))/\Below w.heap.size w w':=callsIn_wide.1 (zhI r 4 w (Nat.le_refl _) hb hs)
end
section
def ziO (J:Nat->Act->World->Prop) (Q:Exit->Act->World->Prop):Exit->Act->World->Prop
 | .goto l,a,w=>J l a w
 |e,a,w=>Q e a w
section
variable {P:Program} {a:Act} {w:World} {Q:Exit->Act->World->Prop}
theorem z9N {c:Code} (J:Nat->Act->World->Prop) (μ:Nat->Act->World->Nat) (first:c.wp P (ziO J Q) a w)
  (pass:∀l a w,J l a w->∃rest,findLabel c l=some rest/\rest.wp P (ziO (fun l' a' w'=>J l' a' w'/\μ l' a' w'<μ l a w) Q) a w):(Code.scope c).wp P Q a w:=by
 intro b k cs
 have key:∀n l a w,μ l a w=n->J l a w->∃rest,findLabel c l=some rest/\∃e a' w',Q e a' w'/\Arrives P (lone (b.at a (.code rest:: .inScope c::k)) cs w) b k cs e a' w':=by
  intro n
  induction n using Nat.strongRecOn with
  |_ n ih=>
   intro l a w hn hJ
   obtain⟨rest,hf,hp⟩:=pass l a w hJ
   refine⟨rest,hf, ?_⟩
   obtain⟨e,a₁,w₁,hq,harr⟩:=hp b (.inScope c::k) cs
   cases e with
   |normal=>exact⟨.normal,a₁,w₁,hq,Steps.trans harr (.one step_inScope)⟩
   |exit id=>exact⟨.exit id,a₁,w₁,hq,fun k' hk=>harr k' (by simp[exitTo,hk])⟩
   |goto l'=>
    obtain⟨hJ',hlt⟩:=hq
    obtain⟨rest₂,hf₂,e₂,a₂,w₂,hq₂,harr₂⟩:=ih _ (by omega) l' a₁ w₁ rfl hJ'
    have hg:gotoIn l' (.inScope c::k)=some (.code rest₂:: .inScope c::k):=by simp[gotoIn,hf₂]
    exact⟨e₂,a₂,w₂,hq₂,.of_steps (harr _ hg) harr₂⟩
   |ret=>exact⟨_,a₁,w₁,hq,harr⟩
   |panic ch=>exact⟨_,a₁,w₁,hq,harr⟩
   |outgrown=>exact⟨_,a₁,w₁,hq,harr⟩
 obtain⟨e,a₁,w₁,hq,harr⟩:=first b (.inScope c::k) cs
 cases e with
 |normal=>exact⟨.normal,a₁,w₁,hq,.head step_scope (Steps.trans harr (.one step_inScope))⟩
 |exit id=>exact⟨.exit id,a₁,w₁,hq,fun k' hk=>.head step_scope (harr k' (by simp[exitTo,hk]))⟩
 |goto l'=>
  obtain⟨rest₂,hf₂,e₂,a₂,w₂,hq₂,harr₂⟩:=key _ l' a₁ w₁ rfl hq
  have hg:gotoIn l' (.inScope c::k)=some (.code rest₂:: .inScope c::k):=by simp[gotoIn,hf₂]
  exact⟨e₂,a₂,w₂,hq₂,.of_steps (.head step_scope (harr _ hg)) harr₂⟩
 |ret=>exact⟨_,a₁,w₁,hq,.of_steps (.one step_scope) harr⟩
 |panic ch=>exact⟨_,a₁,w₁,hq,.of_steps (.one step_scope) harr⟩
 |outgrown=>exact⟨_,a₁,w₁,hq,.of_steps (.one step_scope) harr⟩
theorem zb2 {r1 r2 rest rest1:Code} (J0 J1:Act->World->Prop) (μ:Act->World->Nat)
  (hf0:findLabel (r1.seq (r2.seq ((Code.label 0).seq rest))) 0=some (Code.skip.seq rest))
  (hf1:findLabel (r1.seq (r2.seq ((Code.label 0).seq rest))) 1=some (Code.skip.seq rest1))
  (first:r1.wp P (Exit.then (r2.wp P (Exit.then J0 fun _ _ _=>False)) fun _ _ _=>False) a w)
  (pass:∀a w,J0 a w->rest.wp P (ziO (fun l' a' w'=>(l'=0/\J0 a' w'/\μ a' w'<μ a w)\/(l'=1/\J1 a' w')) Q) a w)
  (last:∀a w,J1 a w->rest1.wp P (Exit.noGoto Q) a w):(Code.scope (r1.seq (r2.seq ((Code.label 0).seq rest)))).wp P Q a w:=by
 have hskip:∀(r:Code) (R:Exit->Act->World->Prop) a w,r.wp P R a w->(Code.skip.seq r).wp P R a w:=fun r R a w h=>wp_seq (wp_skip h)
 refine z9N (fun l a w=>(l=0/\J0 a w)\/(l=1/\J1 a w)) (fun l a w=>if l=0 then μ a w+1 else 0) ?_ ?_
 ·have hp:∀a w,J0 a w->((Code.label 0).seq rest).wp P (ziO (fun l a w=>(l=0/\J0 a w)\/(l=1/\J1 a w)) Q) a w:=fun a w h=>by
   refine wp_seq (wp_label ?_)
   refine wp_mono (pass a w h) ?_
   intro e a' w' hq
   cases e with
   |goto l=>
    rcases hq with⟨h1,h2,_⟩|⟨h1,h2⟩
    ·exact Or.inl ⟨h1,h2⟩
    ·exact Or.inr ⟨h1,h2⟩
   |_=>exact hq
  have hthen:∀(K K':Act->World->Prop) (R:Exit->Act->World->Prop),(∀a w,K a w->K' a w)->∀e a w,Exit.then K (fun _ _ _=>False) e a w->Exit.then K' R e a w:=by
   intro K K' R hK e a w hq
   cases e with
   |normal=>exact hK a w hq
   |_=>exact False.elim hq
  refine wp_seq (wp_mono first (hthen _ _ _ fun a w h1=>?_))
  exact wp_seq (wp_mono h1 (hthen _ _ _ hp))
 ·rintro l a w (⟨rfl,h⟩|⟨rfl,h⟩)
  ·refine⟨_,hf0,hskip _ _ _ _ (wp_mono (pass a w h) ?_)⟩
   intro e a' w' hq
   cases e with
   |goto l=>
    rcases hq with⟨rfl,h2,h3⟩|⟨rfl,h2⟩
    ·exact⟨Or.inl ⟨rfl,h2⟩,by simp;omega⟩
    ·exact⟨Or.inr ⟨rfl,h2⟩,by simp⟩
   |_=>exact hq
  ·refine⟨_,hf1,hskip _ _ _ _ (wp_mono (last a w h) ?_)⟩
   intro e a' w' hq
   cases e with
   |goto l=>exact False.elim hq
   |_=>exact hq
end
end
end Go.Proofs.YtmfincpagnpkjaaGreat
namespace Go.Proofs.YtmfincpagnpkjaaGreat
open Go.RowKit
def zml (s:Int):Int:=if 16777216<=wrap64 (s*2)then bits .xor .i64 (wrap64 (s*2)) 25578747 else wrap64 (s*2)
def zmk:Nat->Int->Int
 |0,s=>s
 |n+1,s=>zmk n (zml s)
def zkc (s:Int) (b:Int):Int:=zmk 8 (bits .xor .i64 s (wrap64 (wrap64 b*65536)))
def znT (s b:Int) (w:World) (a':Act) (w':World):Prop:=
 w=w'/\∃(k:Nat) (t:Int) (u6 u7 u8 u9 u10 u11 u12 u13 u14 u15 u16 u17 u18 u19 u20 u21:Value),a'={tmps:=#[.int .i64 t,.int .u8 b,undef,undef,.int .i64 0,.int .i64 k,u6,u7,u8,u9,u10,u11,u12,u13,u14,u15,u16,u17,u18,u19,u20,u21],defers:=[]}/\k<=8/\0<k/\zmk k t=zkc s b
def znt (a':Act):Nat:=(intOf (a'.tmps.getD 5 undef)).toNat
theorem zfB (s b:Int) (w:World):
  Calls Tryz.prog 197 #[.int .i64 s,.int .u8 b] w fun e w'=>e= .returned (.int .i64 (zkc s b))/\w=w':=by
 go_enter Tryz.func197,Tryz.ntmps197
 go_wp2
 refine wp_scope_jumps 0 (znT s b w) (fun a' _=>znt a') rfl ?first ?pass
 case first=>
  go_wp2
  go_step3
  go_wp2
  ·have h:16777216<=wrap64 (bits .xor .i64 s (wrap64 (wrap64 b*65536))*2):=by assumption
   go_step3
   exact⟨rfl,rfl,7,_,_,_,_,_,_,_,_,_,_,_,_,_,_,_,_,_,rfl,by omega,by omega,by
    show zmk 7 _=zmk 7 (zml _)
    rw[show zml (bits .xor .i64 s (wrap64 (wrap64 b*65536)))=_ from if_pos h]⟩
  ·have h:wrap64 (bits .xor .i64 s (wrap64 (wrap64 b*65536))*2)<16777216:=by assumption
   go_step3
   exact⟨rfl,rfl,7,_,_,_,_,_,_,_,_,_,_,_,_,_,_,_,_,_,rfl,by omega,by omega,by
    show zmk 7 _=zmk 7 (zml _)
    rw[show zml (bits .xor .i64 s (wrap64 (wrap64 b*65536)))=_ from if_neg (by omega)]⟩
 case pass=>
  rintro a' w' ⟨rfl,k,t,u6,u7,u8,u9,u10,u11,u12,u13,u14,u15,u16,u17,u18,u19,u20,u21,rfl,hk,hk0,heq⟩
  obtain⟨j,rfl⟩:∃j,k=j+1:=⟨k-1,by omega⟩
  have HE:=Lib.hid heq
  have hj:((j+1:Nat):Int)-1=j:=by omega
  clear heq
  by_cases h:16777216<=wrap64 (t*2)
  ·have HC:Hid (zml t=_):=Lib.hid (if_pos h)
   by_cases h0:0<j
   ·go_wp2
    go_step3
    exact⟨rfl,⟨rfl,j,_,_,_,_,_,_,_,_,_,_,_,_,_,_,_,_,_,rfl,by omega,by omega,by rw[<-HC.out];exact HE.out⟩,by simp[znt,intOf]⟩
   ·obtain rfl:j=0:=by omega
    go_wp2
    simp only[Exit.jump]
    go_ret
    exact⟨by rw[<-HE.out,<-HC.out];rfl,rfl⟩
  ·have HC:Hid (zml t=_):=Lib.hid (if_neg h)
   by_cases h0:0<j
   ·go_wp2
    go_step3
    exact⟨rfl,⟨rfl,j,_,_,_,_,_,_,_,_,_,_,_,_,_,_,_,_,_,rfl,by omega,by omega,by rw[<-HC.out];exact HE.out⟩,by simp[znt,intOf]⟩
   ·obtain rfl:j=0:=by omega
    go_wp2
    simp only[Exit.jump]
    go_ret
    exact⟨by rw[<-HE.out,<-HC.out];rfl,rfl⟩
def goF (s:Int) (l:List UInt8):Int:=l.foldl (fun t b=>zkc t b.toNat) (bits .and .i64 s 16777215)
def zh3 (l:List UInt8):Int:=goF 11994318 l
theorem zed (s:Int) (t:ByteArray) (w:World) (ht:t.size<=9223372036854775807):
  Calls Tryz.prog 152 #[.int .i64 s,.string t] w fun e w'=>e= .returned (.int .i64 (goF s t.data.toList))/\w=w':=by
 go_enter Tryz.func152,Tryz.ntmps152
 go_wp2
 go_loop [0,10] (fun v i=>∃k:Nat,k<=t.size/\i= .int .i64 k/\v= .int .i64 (goF s (t.data.toList.take k))) (fun _ i=>t.size-(intOf i).toNat)
 case atStart=>exact⟨0,Nat.zero_le _,rfl,by simp[goF]⟩
 case round=>
  obtain⟨k,hk,rfl,rfl⟩:=hrel
  by_cases hlt:k<t.size
  ·have hs:goF s (t.data.toList.take (k+1))=zkc (goF s (t.data.toList.take k)) t[k].toNat:=by
    have h2:t.data.toList.take (k+1)=t.data.toList.take k++[t[k]]:=by rw[List.take_succ_eq_append_getElem (by simpa using hlt)];rfl
    rw[h2];simp[goF]
   have HS:=Lib.hid hs
   have hk1:(k:Int)<(t.size:Int):=by omega
   clear hs
   go_wp2_with (go_at_call 197;refine(zfB _ _ _).mono ?_;rintro e w' ⟨rfl,rfl⟩)
   go_round
   case rel=>exact⟨k+1,by omega,by go_num,by rw[HS.out]⟩
   case measure=>simp[intOf];omega
  ·have hk2:decide (k<t.size)=false:=decide_eq_false hlt
   go_wp2
   go_ret
   exact⟨by rw[List.take_of_length_le (by rw[zf];omega)];rfl,rfl⟩
theorem zbe (t:ByteArray) (w:World) (ht:t.size<=9223372036854775807):
  Calls Tryz.prog 108 #[.string t] w fun e w'=>e= .returned (.int .i64 (zh3 t.data.toList))/\w=w':=by
 go_enter Tryz.func108,Tryz.ntmps108
 go_wp2_with (go_at_call 152;refine(zed _ _ _ ht).mono ?_;rintro e w' ⟨rfl,rfl⟩)
 go_ret
 exact⟨rfl,rfl⟩
end Go.Proofs.YtmfincpagnpkjaaGreat
