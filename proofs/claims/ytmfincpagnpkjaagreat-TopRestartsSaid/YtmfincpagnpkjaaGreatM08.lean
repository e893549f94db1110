/- Part of the proof of one statement: what the program's functions compute. -/
import Derived.Test.YtmfincpagnpkjaaGreatM07
set_option linter.all false
set_option maxRecDepth 100000
set_option maxHeartbeats 100000000
namespace Go.Proofs.YtmfincpagnpkjaaGreat
open Go.RowKit
section
section
variable {P:Program} {op:Oper} {a:Act} {w w0:World} {F0:Nat->Prop} {Q:Exit->Act->World->Prop} {K':Act->World->Prop} {L:List Assn} {t e:TypeId} {x:Operand} {v z:Value}
theorem zb1 (ho:op.op= .buildSlice t 1 #[(0,x)]) (hx:a.eval x=v) (ht:P.underlying t=some (.slice e)) (hz:(P.info? e).bind (·.zero)=some z) (hi:(P.info? e).map (·.size)=some 1) (h1:v.oneCell'=true)
  (h:∀b w',Sep F0 w0 w' (z7 b e [v]::L)->K' (a.put op.dst (.slice (some ⟨b,0,none⟩) 1 1)) w'):Sep F0 w0 w L->op.wp P a w K' Q:=
 zcV ho hx ht hz hi (by omega) (by omega) (by cases v<;>simp_all [Value.oneCell',Value.cells]) (by cases v<;>simp_all [Value.oneCell',Value.cells]) h
end
theorem zk0:Tryz.prog.underlying 25=some (.slice 3):=Tryz.underlying25
theorem zk1:Tryz.prog.underlying 360=some (.slice 110):=Tryz.underlying360
theorem zd1:Tryz.prog.underlying 30=some (.slice 9):=Tryz.underlying30
theorem zd2:Tryz.prog.underlying 118=some (.slice 114):=Tryz.underlying118
theorem zm5:(Tryz.prog.info? 3).map (fun i=>(i.size,i.bytes))=some (1,8):=by kernel_rfl
theorem zgp:(Tryz.prog.info? 9).map (fun i=>(i.size,i.bytes))=some (1,16):=by kernel_rfl
theorem zm6:(Tryz.prog.info? 110).map (fun i=>(i.size,i.bytes))=some (9,80):=by kernel_rfl
theorem zgq:(Tryz.prog.info? 114).map (fun i=>(i.size,i.bytes))=some (26,232):=by kernel_rfl
theorem AskM.cells_length (q:AskM):q.cells.length=9:=rfl
theorem Rec.cells_length (r:Rec):r.cells.length=10:=rfl
theorem Letter.cells_length (l:Letter):l.cells.length=26:=rfl
end
section
def zmx:Op->Bool
 | .store .. | .alloc _| .box .. | .buildSlice .. =>true
 | .call {callee:=.builtin .append, .. }=>true
 |_=>false
section
variable {P:Program} {ops:Array Oper} {rest:List Oper} {op:Oper} {a:Act} {w w0:World} {F0:Nat->Prop} {Q:Exit->Act->World->Prop} {L:List Assn} {b o:Nat} {ty:TypeId} {cs:List Value} {x:Operand} {v:Value}
theorem j1 (_:zmx op.op=true) (hw:Region.wanted op (yielded ops a.tmps)=true) (h:∀K':Act->World->Prop,(∀a w,wpList P ops Q rest a w->K' a w)->op.wp P a w K' Q):wpList P ops Q (op::rest) a w:=zr hw h
end
end
section
theorem pk {A:Assn} {L L':List Assn} (h:Pick A L L':=by repeat (first|with_reducible exact Pick.head|apply Pick.tail)):Pick A L L':=h
theorem pks {K L R:List Assn} (h:PickAll K L R:=by repeat (first|with_reducible exact PickAll.nil|apply PickAll.cons pk)):PickAll K L R:=h
theorem sb {K L:List Assn} (h:Sub K L:=by repeat (first|with_reducible exact Sub.refl|apply Sub.cons pk|apply Sub.skip|exact Sub.nil|exact Sub.refl)):Sub K L:=h
theorem sba {K L:List Assn} (h:Sub K L:=by(try simp only[List.cons_append]);(try simp only[List.nil_append]);exact sb):Sub K L:=h
theorem sbn {K L:List Assn} (h:Sub K L:=by simp only[z2x];exact sb):Sub K L:=h
theorem ltk {m n:Nat} (h:m<n:=by first|exact Nat.le_of_ble_eq_true rfl|simpa using(by assumption)|omega):m<n:=h
theorem lek {m n:Nat} (h:m<=n:=by first|exact Nat.le_of_ble_eq_true rfl|simpa using(by assumption)|omega):m<=n:=h
theorem bnd {m n:Nat} (h:m<=n:=by first|omega|(unfold maxLen;omega)):m<=n:=h
theorem und {t e:TypeId} (h:Tryz.prog.underlying t=some (.slice e):=by first|exact zjZ|exact z5q|exact zhq|exact zk0|exact zk1|exact zd1|exact zd2|exact und_fields|exact und_bools|exact und_errs|exact und_ops|exact zjY|exact und_ptrs|exact zb6):Tryz.prog.underlying t=some (.slice e):=h
theorem z9L {t:TypeId} {cs:List Value} (h:(Tryz.prog.info? t).bind (·.zero)=some (.agg cs.toArray):=by first|exact zcS|exact zjL|exact zjO|exact zjJ|exact zjK|exact zfd|exact zhe|exact zfg|exact zhb|exact zhc|exact zero_Upd|exact zero_Tag|exact zff|exact zhd|exact zfe|exact zha|exact zero_Pilot|exact zero_Calls|exact zjM|exact zero_Machine|exact zero_Controller|exact zero_Cluster|exact zero_Hap|exact zjN):(Tryz.prog.info? t).bind (·.zero)=some (.agg cs.toArray):=h
theorem zaY {t:TypeId} {z:Value} (h:(Tryz.prog.info? t).bind (·.zero)=some z:=by first|exact zjI|exact zcR|exact zh9|exact z9K|exact zlB):(Tryz.prog.info? t).bind (·.zero)=some z:=h
theorem inf {t:TypeId} {p:Nat×Nat} (h:(Tryz.prog.info? t).map (fun i=>(i.size,i.bytes))=some p:=by first|exact zm4|exact zgq|exact ziQ|exact zl2|exact zm5|exact zm6|exact zgp|exact ziP|exact inf_errno|exact zdW):(Tryz.prog.info? t).map (fun i=>(i.size,i.bytes))=some p:=h
section
variable {L L':List Assn} {b o:Nat} {v:Value} {ty:TypeId} {cs:List Value} {K:List Assn}
theorem hd (h:jz L b o v:=by first|exact zc pk (by rfl)|exact zn pk (by rfl)):jz L b o v:=h
theorem hdV (h:jm Tryz.prog ty L b o cs:=by first|exact z0y pk (ze (by rfl))|exact zg (szT _) pk (by rfl) (ze (by rfl))|exact z0V (szT _) pk (by rfl) (ze (by rfl))):jm Tryz.prog ty L b o cs:=h
theorem tk (h:z0m L b o v K:=by first|exact z2B pk ltk|exact z2h pk ltk):z0m L b o v K:=h
theorem tkV (h:z1Z L b o cs K:=by first|exact zbd pk (by rfl)|exact jt pk lek):z1Z L b o cs K:=h
end
section
variable {ops:Array Oper} {rest:List Oper} {op:Oper} {a:Act} {w w0:World} {F0:Nat->Prop} {Q:Exit->Act->World->Prop} {K':Act->World->Prop} {L K L':List Assn} {b o:Nat} {ty t e:TypeId} {x y s:Operand} {v z:Value} {cs l xs news:List Value}
theorem ld1 (H:Sep F0 w0 w L) (h:wpList Tryz.prog ops Q rest (a.put op.dst v) w) (ho:op.op= .load ty x:=by exact rfl) (hu:(z4w.testBit ty&&ty.blt 400)=true:=by rfl) (hw:Region.wanted op (yielded ops a.tmps)=true:=by rfl) (hx:a.eval x= .pointer (some ⟨b,o,none⟩):=by exact rfl) (hh:jz L b o v:=by exact hd):wpList Tryz.prog ops Q (op::rest) a w:=z4K hw ho hx H hh (z4Z hu) h
theorem ldr (H:Sep F0 w0 w L) (h:wpList Tryz.prog ops Q rest (a.put op.dst (.agg cs.toArray)) w) (ho:op.op= .load ty x:=by exact rfl) (hu:(szT ty !=0)=true:=by rfl) (hw:Region.wanted op (yielded ops a.tmps)=true:=by rfl) (hx:a.eval x= .pointer (some ⟨b,o,none⟩):=by exact rfl) (hh:jm Tryz.prog ty L b o cs:=by exact hdV):wpList Tryz.prog ops Q (op::rest) a w:=j6 hw ho hx H hh (z0p hu) h
theorem jo (H:Sep F0 w0 w L) (h:∀w',Sep F0 w0 w' K->K' (a.put op.dst undef) w') (ho:op.op= .store ty x y:=by exact rfl) (hi:(z4w.testBit ty&&ty.blt 400)=true:=by rfl) (hx:a.eval x= .pointer (some ⟨b,o,none⟩):=by exact rfl) (hy:a.eval y=v:=by first|(go_simp;rfl)|rfl) (ht:z0m L b o v K:=by exact tk) (h1:v.oneCell'=true:=by first|rfl|(simp[Value.oneCell'];done)):op.wp Tryz.prog a w K' Q:=zfh ho hx hy ht h1 (zbO hi) h H
theorem z6S (H:Sep F0 w0 w L) (h:∀w',Sep F0 w0 w' K->K' (a.put op.dst undef) w') (ho:op.op= .store ty x y:=by exact rfl) (hi:(szT ty !=0)=true:=by rfl) (hx:a.eval x= .pointer (some ⟨b,o,none⟩):=by exact rfl) (hy:a.eval y= .agg cs.toArray:=by exact rfl) (ht:z1Z L b o cs K:=by exact tkV) (h1:cs.all (·.oneCell')=true:=by first|rfl|assumption) (hn:cs.length=szT ty:=by rfl):op.wp Tryz.prog a w K' Q:=z4m ho hx hy ht h1 (ze hn hi) h H
theorem wal (H:Sep F0 w0 w L) (h:∀b w',Sep F0 w0 w' (z7 b ty cs::L)->K' (a.put op.dst (.pointer (some ⟨b,0,none⟩))) w') (ho:op.op= .alloc ty:=by exact rfl) (hz:(Tryz.prog.info? ty).bind (·.zero)=some (.agg cs.toArray):=by exact z9L):op.wp Tryz.prog a w K' Q:=z2A ho hz h H
theorem znK (H:Sep F0 w0 w L) (h:∀b w',Sep F0 w0 w' (z7 b ty [z]::L)->K' (a.put op.dst (.pointer (some ⟨b,0,none⟩))) w') (ho:op.op= .alloc ty:=by exact rfl) (hz:(Tryz.prog.info? ty).bind (·.zero)=some z:=by exact zaY) (h1:z.oneCell'=true:=by rfl):op.wp Tryz.prog a w K' Q:=zcX ho hz h1 h H
theorem wbx (H:Sep F0 w0 w L) (h:∀b w',Sep F0 w0 w' (z7 b ty cs::L)->K' (a.put op.dst (.pointer (some ⟨b,0,none⟩))) w') (ho:op.op= .box ty y:=by exact rfl) (hy:a.eval y= .agg cs.toArray:=by exact rfl):op.wp Tryz.prog a w K' Q:=zhl ho hy h H
theorem znJ (H:Sep F0 w0 w L) (h:∀b w',Sep F0 w0 w' (z7 b ty [v]::L)->K' (a.put op.dst (.pointer (some ⟨b,0,none⟩))) w') (ho:op.op= .box ty y:=by exact rfl) (hy:a.eval y=v:=by first|(go_simp;rfl)|rfl) (h1:v.oneCell'=true:=by rfl):op.wp Tryz.prog a w K' Q:=zhm ho hy h1 h H
theorem wsl (H:Sep F0 w0 w L) (h:∀b w',Sep F0 w0 w' (z7 b e cs::L)->K' (a.put op.dst (.slice (some ⟨b,0,none⟩) 1 1)) w') (ho:op.op= .buildSlice t 1 #[(0,x)]:=by exact rfl) (hx:a.eval x= .agg cs.toArray:=by exact rfl) (ht:Tryz.prog.underlying t=some (.slice e):=by exact und) (hz:(Tryz.prog.info? e).bind (·.zero)=some z:=by exact z9L) (hi:cs.length=szT e:=by rfl) (h0:(szT e !=0)=true:=by rfl) (h1:0<cs.length:=by exact Nat.le_of_ble_eq_true rfl) (h2:cs.length<=2^24:=by exact Nat.le_of_ble_eq_true rfl):op.wp Tryz.prog a w K' Q:=zb0 ho hx ht hz (ze hi h0) h1 h2 h H
theorem znH (H:Sep F0 w0 w L) (h:∀b w',Sep F0 w0 w' (z7 b e [v]::L)->K' (a.put op.dst (.slice (some ⟨b,0,none⟩) 1 1)) w') (ho:op.op= .buildSlice t 1 #[(0,x)]:=by exact rfl) (hx:a.eval x=v:=by first|(go_simp;rfl)|rfl) (ht:Tryz.prog.underlying t=some (.slice e):=by exact und) (hz:(Tryz.prog.info? e).bind (·.zero)=some z:=by exact zaY) (hi:(z4w.testBit e&&e.blt 400)=true:=by rfl) (h1:v.oneCell'=true:=by rfl):op.wp Tryz.prog a w K' Q:=zb1 ho hx ht hz (zbO hi) h1 h H
theorem wap {A:Option Addr} {cp n c g m size bytes:Nat} (H:Sep F0 w0 w L) (h:∀A' k' w',Sep F0 w0 w' (zh e size (.slice A' (n+m) k') (n+m) (xs++news)::L')->K' (a.put op.dst (.slice A' (n+m) k')) w') (ho:op.op= .call {callee:=.builtin .append,args:=#[s,x],argTypes:=#[t,t]}:=by exact rfl) (ht:Tryz.prog.underlying t=some (.slice e):=by exact und) (hz:(Tryz.prog.info? e).bind (·.zero)=some z:=by first|exact z9L|exact zaY) (hi:(Tryz.prog.info? e).map (fun i=>(i.size,i.bytes))=some (size,bytes):=by exact inf) (hzs:z.cells.size=size:=by rfl) (h0:0<size:=by exact Nat.le_of_ble_eq_true rfl)
  (hs:a.eval s= .slice A n cp:=by exact rfl) (hx:a.eval x= .slice (some ⟨g,0,none⟩) m c:=by exact rfl) (hp:Pick (zh e size (.slice A n cp) n xs) L L':=by exact pk) (hr:z6t L' g 0 news:=by exact z7Y pk) (hl:news.length=m*size:=by rfl) (h1:news.all (·.oneCell')=true:=by first|rfl|assumption) (h63:n+m<=maxLen:=by exact bnd) (hby:(n+m)*bytes<=140737488355328:=by exact bnd):op.wp Tryz.prog a w K' Q:=zcW ho ht hz hi hzs h0 hs hx hp hr hl h1 h63 hby h H
theorem rsc {c:Tmp} {tmps:Array Value} (H:Sep F0 w0 w L) (hc:tmps.getD c undef= .pointer (some ⟨b,0,none⟩):=by exact rfl) (hp:Pick (z7 b t cs) L L':=by exact pk) (hi:cs.length=szT ty:=by rfl) (h0:(szT ty !=0)=true:=by rfl):Res Tryz.prog w tmps (.cell c ty) (.agg cs.toArray):=zi5 hc H hp (ze hi h0) (z0p h0)
end
section
variable {ops:Array Oper} {Q:Exit->Act->World->Prop} {md:Region.Mode} {F0:Nat->Prop} {w0 w:World} {es es2:List Nat} {Ks Ks2:List (List Assn)} {listed:Array Bool} {oi oj:Oper} {a:Act} {fuel b o:Nat} {ty:TypeId} {x:Operand} {v:Value} {cs:List Value}
theorem tko (i n:Nat) (hy:∀W,(execOp a.eval oi).run Tryz.prog W= .ok (.value v) W) (H:Sep F0 w0 w (z2x Ks n)) (h:yp Tryz.prog md ops Q (yf F0 w0 es Ks) fuel (listed.setIfInBounds i true) (a.put oi.dst v) w)
  (hi:z5A ops.toList i=some oi:=by exact rfl) (hc:z0z md ops listed i=true:=by kernel_rfl) (hap:z1a i es=true:=by kernel_rfl) (hQ:∀c a w,Q (.panic c) (a.put oi.dst v) w->Q (.panic c) a w:=by exact fun _ _ _ h=>h) (hw:Region.wanted oi (yielded ops a.tmps)=true:=by rfl) (hn:yo es listed=n:=by kernel_rfl):yp Tryz.prog md ops Q (yf F0 w0 es Ks) (fuel+1) listed a w:=zk7 i hi hc hap hQ hw hy (z3Q n hn H) h
theorem tkn (i n:Nat) (H:Sep F0 w0 w (z2x Ks n)) (h:yp Tryz.prog md ops Q (yf F0 w0 es Ks) fuel (listed.setIfInBounds i true) (a.put oi.dst undef) w)
  (hi:z5A ops.toList i=some oi:=by exact rfl) (hc:z0z md ops listed i=true:=by kernel_rfl) (hap:z1a i es=true:=by kernel_rfl) (hQ:∀c a w,Q (.panic c) (a.put oi.dst undef) w->Q (.panic c) a w:=by exact fun _ _ _ h=>h) (hw:Region.wanted oi (yielded ops a.tmps)=false:=by rfl) (hn:yo es listed=n:=by kernel_rfl):yp Tryz.prog md ops Q (yf F0 w0 es Ks) (fuel+1) listed a w:=zk8 i hi hc hap hQ hw (z3Q n hn H) h
theorem tkl (i n:Nat) (H:Sep F0 w0 w (z2x Ks n)) (h:yp Tryz.prog md ops Q (yf F0 w0 es Ks) fuel (listed.setIfInBounds i true) (a.put oi.dst v) w)
  (hi:z5A ops.toList i=some oi:=by exact rfl) (hc:z0z md ops listed i=true:=by kernel_rfl) (hap:z1a i es=true:=by kernel_rfl) (hQ:∀c a w,Q (.panic c) (a.put oi.dst v) w->Q (.panic c) a w:=by exact fun _ _ _ h=>h) (hw:Region.wanted oi (yielded ops a.tmps)=true:=by rfl) (ho:oi.op= .load ty x:=by exact rfl) (hx:a.eval x= .pointer (some ⟨b,o,none⟩):=by exact rfl) (hn:yo es listed=n:=by kernel_rfl) (he:es.drop n=es2:=by exact rfl) (hk:Ks.drop n=Ks2:=by exact rfl)
  (hin:InAll md ops i (fun K=>jz K b o v) es2 Ks2:=by exact .last hd) (hu:(z4w.testBit ty&&ty.blt 400)=true:=by rfl):yp Tryz.prog md ops Q (yf F0 w0 es Ks) (fuel+1) listed a w:=zfw i hi hc hap hQ hw ho hx n hn he hk hin (z4Z hu) H h
theorem tkr (i n:Nat) (H:Sep F0 w0 w (z2x Ks n)) (h:yp Tryz.prog md ops Q (yf F0 w0 es Ks) fuel (listed.setIfInBounds i true) (a.put oi.dst (.agg cs.toArray)) w)
  (hi:z5A ops.toList i=some oi:=by exact rfl) (hc:z0z md ops listed i=true:=by kernel_rfl) (hap:z1a i es=true:=by kernel_rfl) (hQ:∀c a w,Q (.panic c) (a.put oi.dst (.agg cs.toArray)) w->Q (.panic c) a w:=by exact fun _ _ _ h=>h) (hw:Region.wanted oi (yielded ops a.tmps)=true:=by rfl) (ho:oi.op= .load ty x:=by exact rfl) (hx:a.eval x= .pointer (some ⟨b,o,none⟩):=by exact rfl) (hn:yo es listed=n:=by kernel_rfl) (he:es.drop n=es2:=by exact rfl) (hk:Ks.drop n=Ks2:=by exact rfl)
  (hin:InAll md ops i (fun K=>jm Tryz.prog ty K b o cs) es2 Ks2:=by exact .last hdV) (hu:(szT ty !=0)=true:=by rfl):yp Tryz.prog md ops Q (yf F0 w0 es Ks) (fuel+1) listed a w:=zdc i hi hc hap hQ hw ho hx n hn he hk hin (z0p hu) H h
theorem tk1 (i n:Nat) (h:∀K':Act->World->Prop,Shut (∀a w,Sep F0 w0 w (z2x Ks n)->(Sep F0 w0 w (z2x Ks n)->yp Tryz.prog md ops Q (yf F0 w0 es Ks) fuel (listed.setIfInBounds i true) a w)->K' a w)->Oper.wp Tryz.prog oi a w K' Q)
  (hi:z5A ops.toList i=some oi:=by exact rfl) (hr:Region.ready md ops listed=[i]:=by kernel_rfl) (hw:Region.wanted oi (yielded ops a.tmps)=true:=by rfl) (hn:yo es (listed.setIfInBounds i true)=n:=by kernel_rfl):yp Tryz.prog md ops Q (yf F0 w0 es Ks) (fuel+1) listed a w:=zfv i n hi hr hw hn h
theorem tk2 (i j n m:Nat) (h:∀K':Act->World->Prop,Shut (∀a w,Sep F0 w0 w (z2x Ks n)->(Sep F0 w0 w (z2x Ks n)->yp Tryz.prog md ops Q (yf F0 w0 es Ks) fuel (listed.setIfInBounds i true) a w)->K' a w)->Oper.wp Tryz.prog oi a w K' Q)
  (h':∀K':Act->World->Prop,Shut (∀a w,Sep F0 w0 w (z2x Ks m)->(Sep F0 w0 w (z2x Ks m)->yp Tryz.prog md ops Q (yf F0 w0 es Ks) fuel (listed.setIfInBounds j true) a w)->K' a w)->Oper.wp Tryz.prog oj a w K' Q)
  (hi:z5A ops.toList i=some oi:=by exact rfl) (hj:z5A ops.toList j=some oj:=by exact rfl) (hr:Region.ready md ops listed=[i,j]:=by kernel_rfl) (hw:Region.wanted oi (yielded ops a.tmps)=true:=by rfl) (hv:Region.wanted oj (yielded ops a.tmps)=true:=by rfl)
  (hn:yo es (listed.setIfInBounds i true)=n:=by kernel_rfl) (hm:yo es (listed.setIfInBounds j true)=m:=by kernel_rfl):yp Tryz.prog md ops Q (yf F0 w0 es Ks) (fuel+1) listed a w:=zhz i j n m hi hj hr hw hv hn hm h h'
end
end
section
theorem xNf:(∀(A:Assn) (K L:List Assn),A::K++L=A::(K++L))/\(∀L:List Assn,[]++L=L):=⟨fun _ _ _=>rfl,fun _=>rfl⟩
section
variable {ops:Array Oper} {rest:List Oper} {op:Oper} {a:Act} {w w0:World} {F0:Nat->Prop} {Q:Exit->Act->World->Prop} {K':Act->World->Prop} {L K L':List Assn} {b o:Nat} {ty t e:TypeId} {x y s:Operand} {v z:Value} {cs l xs news:List Value} {f:Nat->Value} {g:Nat->Assn}
def LdS (op:Oper) (a:Act) (L:List Assn) (v:Value):Prop:=∀(F0:Nat->Prop) (w0 w:World) (ops:Array Oper) (rest:List Oper) (Q:Exit->Act->World->Prop),Region.wanted op (yielded ops a.tmps)=true->Sep F0 w0 w L->wpList Tryz.prog ops Q rest (a.put op.dst v) w->wpList Tryz.prog ops Q (op::rest) a w
theorem xL1 (ho:op.op= .load ty x:=by exact rfl) (hu:(z4w.testBit ty&&ty.blt 400)=true:=by rfl) (hx:a.eval x= .pointer (some ⟨b,o,none⟩):=by exact rfl) (hh:jz L b o v:=by exact hd):LdS op a L v:=fun _ _ _ _ _ _ hw H h=>ld1 H h ho hu hw hx hh
theorem xLr (ho:op.op= .load ty x:=by exact rfl) (hu:(szT ty !=0)=true:=by rfl) (hx:a.eval x= .pointer (some ⟨b,o,none⟩):=by exact rfl) (hh:jm Tryz.prog ty L b o cs:=by exact hdV):LdS op a L (.agg cs.toArray):=fun _ _ _ _ _ _ hw H h=>ldr H h ho hu hw hx hh
theorem xLd (H:Sep F0 w0 w L) (h:wpList Tryz.prog ops Q rest (a.put op.dst v) w) (hs:LdS op a L v:=by first|exact xL1|exact xLr) (hw:Region.wanted op (yielded ops a.tmps)=true:=by rfl):wpList Tryz.prog ops Q (op::rest) a w:=hs _ _ _ _ _ _ hw H h
def StS (op:Oper) (a:Act) (L K:List Assn):Prop:=∀(F0:Nat->Prop) (w0 w:World) (K':Act->World->Prop) (Q:Exit->Act->World->Prop),Sep F0 w0 w L->(∀w',Sep F0 w0 w' K->K' (a.put op.dst undef) w')->op.wp Tryz.prog a w K' Q
theorem xS1 (ho:op.op= .store ty x y:=by exact rfl) (hi:(z4w.testBit ty&&ty.blt 400)=true:=by rfl) (hx:a.eval x= .pointer (some ⟨b,o,none⟩):=by exact rfl) (hy:a.eval y=v:=by first|(go_simp;rfl)|rfl) (ht:z0m L b o v K:=by exact tk) (h1:v.oneCell'=true:=by first|rfl|(simp[Value.oneCell'];done)):StS op a L K:=fun _ _ _ _ _ H h=>jo H h ho hi hx hy ht h1
theorem xSr (ho:op.op= .store ty x y:=by exact rfl) (hi:(szT ty !=0)=true:=by rfl) (hx:a.eval x= .pointer (some ⟨b,o,none⟩):=by exact rfl) (hy:a.eval y= .agg cs.toArray:=by exact rfl) (ht:z1Z L b o cs K:=by exact tkV) (h1:cs.all (·.oneCell')=true:=by first|rfl|assumption) (hn:cs.length=szT ty:=by rfl):StS op a L K:=fun _ _ _ _ _ H h=>z6S H h ho hi hx hy ht h1 hn
theorem xSt (H:Sep F0 w0 w L) (h:∀w',Sep F0 w0 w' K->wpList Tryz.prog ops Q rest (a.put op.dst undef) w') (he:zmx op.op=true:=by rfl) (hs:StS op a L K:=by first|exact xS1|exact xSr) (hw:Region.wanted op (yielded ops a.tmps)=true:=by rfl):wpList Tryz.prog ops Q (op::rest) a w:=j1 he hw fun _ hK=>hs _ _ _ _ _ H fun w' H'=>hK _ _ (h w' H')
def NwS (op:Oper) (a:Act) (L:List Assn) (f:Nat->Value) (g:Nat->Assn):Prop:=∀(F0:Nat->Prop) (w0 w:World) (K':Act->World->Prop) (Q:Exit->Act->World->Prop),Sep F0 w0 w L->(∀b w',Sep F0 w0 w' (g b::L)->K' (a.put op.dst (f b)) w')->op.wp Tryz.prog a w K' Q
theorem xNa (ho:op.op= .alloc ty:=by exact rfl) (hz:(Tryz.prog.info? ty).bind (·.zero)=some (.agg cs.toArray):=by exact z9L):NwS op a L (fun b=>.pointer (some ⟨b,0,none⟩)) (fun b=>z7 b ty cs):=fun _ _ _ _ _ H h=>wal H h ho hz
theorem zng (ho:op.op= .alloc ty:=by exact rfl) (hz:(Tryz.prog.info? ty).bind (·.zero)=some z:=by exact zaY) (h1:z.oneCell'=true:=by rfl):NwS op a L (fun b=>.pointer (some ⟨b,0,none⟩)) (fun b=>z7 b ty [z]):=fun _ _ _ _ _ H h=>znK H h ho hz h1
theorem xNb (ho:op.op= .box ty y:=by exact rfl) (hy:a.eval y= .agg cs.toArray:=by exact rfl):NwS op a L (fun b=>.pointer (some ⟨b,0,none⟩)) (fun b=>z7 b ty cs):=fun _ _ _ _ _ H h=>wbx H h ho hy
theorem znf (ho:op.op= .box ty y:=by exact rfl) (hy:a.eval y=v:=by first|(go_simp;rfl)|rfl) (h1:v.oneCell'=true:=by rfl):NwS op a L (fun b=>.pointer (some ⟨b,0,none⟩)) (fun b=>z7 b ty [v]):=fun _ _ _ _ _ H h=>znJ H h ho hy h1
theorem xNl (ho:op.op= .buildSlice t 1 #[(0,x)]:=by exact rfl) (hx:a.eval x= .agg cs.toArray:=by exact rfl) (ht:Tryz.prog.underlying t=some (.slice e):=by exact und) (hz:(Tryz.prog.info? e).bind (·.zero)=some z:=by exact z9L) (hi:cs.length=szT e:=by rfl) (h0:(szT e !=0)=true:=by rfl) (h1:0<cs.length:=by exact Nat.le_of_ble_eq_true rfl) (h2:cs.length<=2^24:=by exact Nat.le_of_ble_eq_true rfl):NwS op a L (fun b=>.slice (some ⟨b,0,none⟩) 1 1) (fun b=>z7 b e cs):=fun _ _ _ _ _ H h=>wsl H h ho hx ht hz hi h0 h1 h2
theorem znx (ho:op.op= .buildSlice t 1 #[(0,x)]:=by exact rfl) (hx:a.eval x=v:=by first|(go_simp;rfl)|rfl) (ht:Tryz.prog.underlying t=some (.slice e):=by exact und) (hz:(Tryz.prog.info? e).bind (·.zero)=some z:=by exact zaY) (hi:(z4w.testBit e&&e.blt 400)=true:=by rfl) (h1:v.oneCell'=true:=by rfl):NwS op a L (fun b=>.slice (some ⟨b,0,none⟩) 1 1) (fun b=>z7 b e [v]):=fun _ _ _ _ _ H h=>znH H h ho hx ht hz hi h1
theorem xNw (H:Sep F0 w0 w L) (h:∀b w',Sep F0 w0 w' (g b::L)->wpList Tryz.prog ops Q rest (a.put op.dst (f b)) w') (he:zmx op.op=true:=by rfl) (hs:NwS op a L f g:=by first|exact xNa|exact zng|exact xNb|exact znf|exact xNl|exact znx) (hw:Region.wanted op (yielded ops a.tmps)=true:=by rfl):wpList Tryz.prog ops Q (op::rest) a w:=j1 he hw fun _ hK=>hs _ _ _ _ _ H fun b w' H'=>hK _ _ (h b w' H')
theorem xNt (ty:TypeId) (H:Sep F0 w0 w L) (h:∀b w',Sep F0 w0 w' (z7 b ty cs::L)->wpList Tryz.prog ops Q rest (a.put op.dst (.pointer (some ⟨b,0,none⟩))) w') (he:zmx op.op=true:=by rfl) (hs:NwS op a L (fun b=>.pointer (some ⟨b,0,none⟩)) (fun b=>z7 b ty cs):=by first|exact xNa|exact xNb|exact znf|exact zng) (hw:Region.wanted op (yielded ops a.tmps)=true:=by rfl):wpList Tryz.prog ops Q (op::rest) a w:=j1 he hw fun _ hK=>hs _ _ _ _ _ H fun b w' H'=>hK _ _ (h b w' H')
def ApS (op:Oper) (a:Act) (L L':List Assn) (e:TypeId) (size n m:Nat) (xs:List Value):Prop:=∀(F0:Nat->Prop) (w0 w:World) (K':Act->World->Prop) (Q:Exit->Act->World->Prop),Sep F0 w0 w L->(∀A' k' w',Sep F0 w0 w' (zh e size (.slice A' (n+m) k') (n+m) xs::L')->K' (a.put op.dst (.slice A' (n+m) k')) w')->op.wp Tryz.prog a w K' Q
theorem zny {A:Option Addr} {cp n c g m size bytes:Nat} (ho:op.op= .call {callee:=.builtin .append,args:=#[s,x],argTypes:=#[t,t]}:=by exact rfl) (ht:Tryz.prog.underlying t=some (.slice e):=by exact und) (hz:(Tryz.prog.info? e).bind (·.zero)=some z:=by first|exact z9L|exact zaY) (hi:(Tryz.prog.info? e).map (fun i=>(i.size,i.bytes))=some (size,bytes):=by exact inf) (hzs:z.cells.size=size:=by rfl) (h0:0<size:=by exact Nat.le_of_ble_eq_true rfl)
  (hs:a.eval s= .slice A n cp:=by exact rfl) (hx:a.eval x= .slice (some ⟨g,0,none⟩) m c:=by exact rfl) (hp:Pick (zh e size (.slice A n cp) n xs) L L':=by exact pk) (hr:z6t L' g 0 news:=by exact z7Y pk) (hl:news.length=m*size:=by rfl) (h1:news.all (·.oneCell')=true:=by first|rfl|assumption) (h63:n+m<=maxLen:=by exact bnd) (hby:(n+m)*bytes<=140737488355328:=by exact bnd):ApS op a L L' e size n m (xs++news):=fun _ _ _ _ _ H h=>wap H h ho ht hz hi hzs h0 hs hx hp hr hl h1 h63 hby
theorem xAp {n m size:Nat} (H:Sep F0 w0 w L) (h:∀A' k' w',Sep F0 w0 w' (zh e size (.slice A' (n+m) k') (n+m) xs::L')->wpList Tryz.prog ops Q rest (a.put op.dst (.slice A' (n+m) k')) w') (he:zmx op.op=true:=by rfl) (hs:ApS op a L L' e size n m xs:=by exact zny) (hw:Region.wanted op (yielded ops a.tmps)=true:=by rfl):wpList Tryz.prog ops Q (op::rest) a w:=j1 he hw fun _ hK=>hs _ _ _ _ _ H fun A' k' w' H'=>hK _ _ (h A' k' w' H')
end
section
variable {P:Program} {f:FuncId} {args:Array Value} {pre L R:List Assn} {Q:Value->List Assn->Prop} {F0:Nat->Prop} {w0 w:World} {C:Ending->World->Prop}
theorem xTr (h:zi P f args pre Q) (H:Sep F0 w0 w L) (hC:∀v K w',Q v K->Sep F0 w0 w' (K++R)->C (.returned v) w') (hs:PickAll pre L R:=by exact pks):Calls P f args w C:=zi.use h hs hC H
end
section
variable {ops:Array Oper} {Q:Exit->Act->World->Prop} {md:Region.Mode} {F0:Nat->Prop} {w0 w:World} {es es2:List Nat} {Ks Ks2:List (List Assn)} {listed:Array Bool} {oi oj:Oper} {a:Act} {fuel b o:Nat} {ty:TypeId} {x:Operand} {v:Value} {cs:List Value}
end
section
variable {ops:Array Oper} {rest:List Oper} {op:Oper} {a:Act} {w w0:World} {F0:Nat->Prop} {Q:Exit->Act->World->Prop} {K':Act->World->Prop} {L K K2 L':List Assn} {b o:Nat} {ty t e:TypeId} {x y s:Operand} {v z:Value} {cs l xs news:List Value} {f:Nat->Option Addr->Value} {g:Nat->Option Addr->List Assn}
def EfS (op:Oper) (a:Act) (L:List Assn) (f:Nat->Option Addr->Value) (g:Nat->Option Addr->List Assn):Prop:=∀(F0:Nat->Prop) (w0 w:World) (K':Act->World->Prop) (Q:Exit->Act->World->Prop),Sep F0 w0 w L->(∀b A w',Sep F0 w0 w' (g b A)->K' (a.put op.dst (f b A)) w')->op.wp Tryz.prog a w K' Q
theorem xE1 (h:StS op a L K) (hK:K=K2):EfS op a L (fun _ _=>undef) (fun _ _=>K2):=fun _ _ _ _ _ H k=>h _ _ _ _ _ H fun w' H'=>k 0 none w' (hK▸H')
theorem xE2 {f:Nat->Value} {g:Nat->Assn} (h:NwS op a L f g):EfS op a L (fun b _=>f b) (fun b _=>g b::L):=fun _ _ _ _ _ H k=>h _ _ _ _ _ H fun b w' H'=>k b none w' H'
theorem xE3 {n m size:Nat} (h:ApS op a L L' e size n m xs):EfS op a L (fun b A=>.slice A (n+m) b) (fun b A=>zh e size (.slice A (n+m) b) (n+m) xs::L'):=fun _ _ _ _ _ H k=>h _ _ _ _ _ H fun A b w' H'=>k b A w' H'
theorem xE (h:EfS op a L f g:=by first|exact xE1 xS1 (by first|(dsimp only[List.set];first|done|exact rfl)|exact rfl)|exact xE1 xSr rfl|exact xE2 xNa|exact xE2 zng|exact xE2 xNb|exact xE2 znf|exact xE2 xNl|exact xE2 znx|exact xE3 zny):EfS op a L f g:=h
theorem xEf (H:Sep F0 w0 w L) (h:∀b A w',Sep F0 w0 w' (g b A)->wpList Tryz.prog ops Q rest (a.put op.dst (f b A)) w') (he:zmx op.op=true:=by rfl) (hs:EfS op a L f g:=by exact xE) (hw:Region.wanted op (yielded ops a.tmps)=true:=by rfl):wpList Tryz.prog ops Q (op::rest) a w:=j1 he hw fun _ hK=>hs _ _ _ _ _ H fun b A w' H'=>hK _ _ (h b A w' H')
theorem wEf (H:Sep F0 w0 w L) (h:∀b A w',Sep F0 w0 w' (g b A)->K' (a.put op.dst (f b A)) w') (hs:EfS op a L f g:=by exact xE):op.wp Tryz.prog a w K' Q:=hs _ _ _ _ _ H h
end
section
variable {P:Program} {f:FuncId} {args:Array Value} {pre L R K0 M:List Assn} {v0:Value} {F0:Nat->Prop} {w0 w:World} {C:Ending->World->Prop}
theorem xT2 (h:zi P f args pre fun v K=>v=v0/\K=K0) (H:Sep F0 w0 w L) (hC:∀w',Sep F0 w0 w' M->C (.returned v0) w') (hs:PickAll pre L R:=by exact pks) (hM:K0++R=M:=by first|(simp only[xNf];first|done|exact rfl)|exact rfl):Calls P f args w C:=xTr h H (fun v K w' hq H'=>by
 obtain⟨rfl,rfl⟩:=hq
 exact hC w' (hM▸H')) hs
end
section
variable {w w0:World} {F0:Nat->Prop} {L L':List Assn} {tmps:Array Value} {r s q:ResultVar} {v u z:Value} {ty t:TypeId} {b:Nat} {c:Tmp} {cs:List Value} {fn:Func} {R:Ending->World->Prop} {a:Act}
def ReS (L:List Assn) (tmps:Array Value) (r:ResultVar) (v:Value):Prop:=∀(F0:Nat->Prop) (w0 w:World),Sep F0 w0 w L->Res Tryz.prog w tmps r v
theorem xR0 (hc:tmps.getD c undef= .pointer (some ⟨b,0,none⟩):=by exact rfl) (hp:Pick (z7 b t cs) L L':=by exact pk) (hi:cs.length=szT ty:=by rfl) (h0:(szT ty !=0)=true:=by rfl):ReS L tmps (.cell c ty) (.agg cs.toArray):=fun _ _ _ H=>rsc H hc hp hi h0
theorem xRr (h:∀w,Res Tryz.prog w tmps r v):ReS L tmps r v:=fun _ _ w _=>h w
theorem xR (h:ReS L tmps r v:=by first|exact xR0|exact xRr fun _=>rfl):ReS L tmps r v:=h
theorem xR1 (H:Sep F0 w0 w L) (h:R (.returned v) w) (hf:fn.results=#[r]:=by rfl) (hr:ReS L a.tmps r v:=by exact xR) (hd:a.defers=[]:=by rfl):bodyPost Tryz.prog fn R .ret a w:=bodyPost_ret (zag hf (hr _ _ _ H)) hd h
theorem xR2 (H:Sep F0 w0 w L) (h:R (.returned (.tuple #[v,u])) w) (hf:fn.results=#[r,s]:=by rfl) (hr:ReS L a.tmps r v:=by exact xR) (hs:ReS L a.tmps s u:=by exact xR) (hd:a.defers=[]:=by rfl):bodyPost Tryz.prog fn R .ret a w:=bodyPost_ret (z4U hf (hr _ _ _ H) (hs _ _ _ H)) hd h
theorem xRz (h:R (.returned (.tuple #[])) w) (hf:fn.results=#[]:=by rfl) (hd:a.defers=[]:=by rfl):bodyPost Tryz.prog fn R .ret a w:=bodyPost_ret (results_none hf _ _ _) hd h
theorem xRe (h:R (.returned (.tuple #[])) w) (hf:fn.results=#[]:=by rfl) (hd:a.defers=[]:=by rfl):bodyPost Tryz.prog fn R .normal a w:=bodyPost_end (results_none hf _ _ _) hd h
theorem xF {R K0:List Assn} {v0:Value} (H:Sep F0 w0 w L) (hv:v=v0:=by rfl) (hs:Sub (K0++R) L:=by exact sba):zlm (fun v K=>v=v0/\K=K0) F0 w0 R (.returned v) w:=⟨_,_,rfl,⟨hv,rfl⟩,H.sub hs⟩
end
section
variable {ops:Array Oper} {Q:Exit->Act->World->Prop} {md:Region.Mode} {F0:Nat->Prop} {w0 w:World} {es es2:List Nat} {Ks Ks2:List (List Assn)} {listed:Array Bool} {oi oj:Oper} {a a2:Act} {fuel b o:Nat} {ty:TypeId} {x:Operand} {v v0:Value} {cs:List Value} {L R K0 M pre:List Assn} {f:Nat->Option Addr->Value} {g:Nat->Option Addr->List Assn} {aN:Nat->Option Addr->Act} {fn:FuncId} {args:Array Value}
theorem xO (i n:Nat) (H:Sep F0 w0 w (z2x Ks n)) (h:yp Tryz.prog md ops Q (yf F0 w0 es Ks) fuel (listed.setIfInBounds i true) a2 w)
  (hi:z5A ops.toList i=some oi:=by exact rfl) (hy:∀W,(execOp a.eval oi).run Tryz.prog W= .ok (.value v) W:=by((intro W;go_simp);with_reducible rfl)) (hc:z0z md ops listed i=true:=by kernel_rfl) (hap:z1a i es=true:=by kernel_rfl) (hQ:∀c a w,Q (.panic c) (a.put oi.dst v) w->Q (.panic c) a w:=by exact fun _ _ _ h=>h) (hw:Region.wanted oi (yielded ops a.tmps)=true:=by rfl) (hn:yo es listed=n:=by kernel_rfl) (ha:a.put oi.dst v=a2:=by first|(simp only[xPt];first|done|exact rfl)|exact rfl):yp Tryz.prog md ops Q (yf F0 w0 es Ks) (fuel+1) listed a w:=tko i n hy H (ha▸h) hi hc hap hQ hw hn
theorem xN (i n:Nat) (H:Sep F0 w0 w (z2x Ks n)) (h:yp Tryz.prog md ops Q (yf F0 w0 es Ks) fuel (listed.setIfInBounds i true) a2 w)
  (hi:z5A ops.toList i=some oi:=by exact rfl) (hc:z0z md ops listed i=true:=by kernel_rfl) (hap:z1a i es=true:=by kernel_rfl) (hQ:∀c a w,Q (.panic c) (a.put oi.dst undef) w->Q (.panic c) a w:=by exact fun _ _ _ h=>h) (hw:Region.wanted oi (yielded ops a.tmps)=false:=by rfl) (hn:yo es listed=n:=by kernel_rfl) (ha:a.put oi.dst undef=a2:=by first|(simp only[xPt];first|done|exact rfl)|exact rfl):yp Tryz.prog md ops Q (yf F0 w0 es Ks) (fuel+1) listed a w:=tkn i n H (ha▸h) hi hc hap hQ hw hn
theorem xL (i n:Nat) (H:Sep F0 w0 w (z2x Ks n)) (h:yp Tryz.prog md ops Q (yf F0 w0 es Ks) fuel (listed.setIfInBounds i true) a2 w)
  (hi:z5A ops.toList i=some oi:=by exact rfl) (hc:z0z md ops listed i=true:=by kernel_rfl) (hap:z1a i es=true:=by kernel_rfl) (hw:Region.wanted oi (yielded ops a.tmps)=true:=by rfl) (ho:oi.op= .load ty x:=by exact rfl) (hx:a.eval x= .pointer (some ⟨b,o,none⟩):=by exact rfl) (hn:yo es listed=n:=by kernel_rfl) (he:es.drop n=es2:=by exact rfl) (hk:Ks.drop n=Ks2:=by exact rfl)
  (hin:InAll md ops i (fun K=>jz K b o v) es2 Ks2:=by exact .last hd) (hu:(z4w.testBit ty&&ty.blt 400)=true:=by rfl) (hQ:∀c a w,Q (.panic c) (a.put oi.dst v) w->Q (.panic c) a w:=by exact fun _ _ _ h=>h) (ha:a.put oi.dst v=a2:=by first|(simp only[xPt];first|done|exact rfl)|exact rfl):yp Tryz.prog md ops Q (yf F0 w0 es Ks) (fuel+1) listed a w:=tkl i n H (ha▸h) hi hc hap hQ hw ho hx hn he hk hin hu
theorem xV (i n:Nat) (H:Sep F0 w0 w (z2x Ks n)) (h:yp Tryz.prog md ops Q (yf F0 w0 es Ks) fuel (listed.setIfInBounds i true) a2 w)
  (hi:z5A ops.toList i=some oi:=by exact rfl) (hc:z0z md ops listed i=true:=by kernel_rfl) (hap:z1a i es=true:=by kernel_rfl) (hw:Region.wanted oi (yielded ops a.tmps)=true:=by rfl) (ho:oi.op= .load ty x:=by exact rfl) (hx:a.eval x= .pointer (some ⟨b,o,none⟩):=by exact rfl) (hn:yo es listed=n:=by kernel_rfl) (he:es.drop n=es2:=by exact rfl) (hk:Ks.drop n=Ks2:=by exact rfl)
  (hin:InAll md ops i (fun K=>jm Tryz.prog ty K b o cs) es2 Ks2:=by exact .last hdV) (hu:(szT ty !=0)=true:=by rfl) (hQ:∀c a w,Q (.panic c) (a.put oi.dst (.agg cs.toArray)) w->Q (.panic c) a w:=by exact fun _ _ _ h=>h) (ha:a.put oi.dst (.agg cs.toArray)=a2:=by first|(simp only[xPt];first|done|exact rfl)|exact rfl):yp Tryz.prog md ops Q (yf F0 w0 es Ks) (fuel+1) listed a w:=tkr i n H (ha▸h) hi hc hap hQ hw ho hx hn he hk hin hu
theorem xM (i n:Nat) (H:Sep F0 w0 w L) (h:∀b A w',Sep F0 w0 w' (g b A)->Sep F0 w0 w' (z2x Ks n)->yp Tryz.prog md ops Q (yf F0 w0 es Ks) fuel (listed.setIfInBounds i true) (aN b A) w')
  (hi:z5A ops.toList i=some oi:=by exact rfl) (hs:EfS oi a L f g:=by exact xE) (hr:Region.ready md ops listed=[i]:=by kernel_rfl) (hw:Region.wanted oi (yielded ops a.tmps)=true:=by rfl) (hn:yo es (listed.setIfInBounds i true)=n:=by kernel_rfl) (hb:∀b A,Sub (z2x Ks n) (g b A):=by(intro b A;exact sbn)) (ha:∀b A,a.put oi.dst (f b A)=aN b A:=by(intro b A;first|(simp only[xPt];first|done|exact rfl)|exact rfl)):yp Tryz.prog md ops Q (yf F0 w0 es Ks) (fuel+1) listed a w:=
 tk1 i n (fun _ hK=>hs _ _ _ _ _ H fun b A w' H'=>hK _ _ (H'.sub (hb b A)) fun HS=>(ha b A).symm▸h b A w' H' HS) hi hr hw hn
theorem xC (i n:Nat) (ht:zi Tryz.prog fn args pre fun v K=>v=v0/\K=K0) (H:Sep F0 w0 w L) (h:∀w',Sep F0 w0 w' M->Sep F0 w0 w' (z2x Ks n)->yp Tryz.prog md ops Q (yf F0 w0 es Ks) fuel (listed.setIfInBounds i true) a2 w')
  (hi:z5A ops.toList i=some oi:=by exact rfl) (hy:(execOp a.eval oi).run Tryz.prog w= .ok (.enter fn args) w:=by first|(go_simp;rfl)|(go_simp;done)|(go_simp;exact⟨rfl,rfl⟩)|(go_simp;exact⟨rfl,rfl,rfl⟩)|(go_simp;exact⟨rfl,rfl,rfl,rfl⟩)|rfl) (hs:PickAll pre L R:=by exact pks) (hM:K0++R=M:=by first|(simp only[xNf];first|done|exact rfl)|exact rfl) (hr:Region.ready md ops listed=[i]:=by kernel_rfl) (hw:Region.wanted oi (yielded ops a.tmps)=true:=by rfl) (hn:yo es (listed.setIfInBounds i true)=n:=by kernel_rfl) (hb:Sub (z2x Ks n) M:=by exact sbn) (ha:a.put oi.dst v0=a2:=by first|(simp only[xPt];first|done|exact rfl)|exact rfl):yp Tryz.prog md ops Q (yf F0 w0 es Ks) (fuel+1) listed a w:=
 tk1 i n (fun K' hK=>by
  unfold Oper.wp
  rw[hy]
  exact xT2 ht H (C:=fun
   | .returned v,w''=>K' (a.put oi.dst v) w''
   | .panicked chain,w''=>Q (.panic chain) a w''
   | .outgrown,_=>LetsOut Q) (fun w' H'=>hK _ _ (H'.sub hb) fun HS=>ha.symm▸h w' H' HS) hs hM) hi hr hw hn
theorem xRg {id:Nat} (es:List Nat) (Kf:List Assn->List (List Assn)) (H:Sep F0 w0 w L) (h:∀w,Sep F0 w0 w L->yp Tryz.prog .any ops Q (yf F0 w0 es (Kf L)) ops.size (Array.replicate ops.size false) a w) (hm:Tryz.prog.follows .mixedOrders=true:=by kernel_rfl):(Code.region id ops true).wp Tryz.prog Q a w:=z6 es Kf hm h H
theorem xD (h:Q .normal a w) (hr:Region.ready md ops listed=[]:=by kernel_rfl):yp Tryz.prog md ops Q (yf F0 w0 es Ks) fuel listed a w:=zl hr h fuel
end
theorem xG {α:Type} (a:α):∃x,a=x:=⟨a,rfl⟩
end
end Go.Proofs.YtmfincpagnpkjaaGreat
