/- Layer 41: Apply, Next: laws. -/
import Derived.Test.YtllmgnhjljmihaaVT54toVT181
import Derived.KernelRfl
import Derived.Test.YtllmgnhjljmihaaFrtoVT53
import Derived.Test.YtllmgnhjljmihaaOutoSp
set_option linter.all false
set_option maxRecDepth 100000
set_option maxHeartbeats 0
noncomputable section
open Go Go.Proofs Sx
namespace Sx
theorem ret_rl3 {P : Program} {w : World} {H : HV} {a b c d e f g h i j k l m : Int} {X Y Z : SV} {os : List Int} {ks : List Cy} {ms : List Msg} {r : Rl × List Msg × Int} (hx : Stands Int X os) (hy : Stands Cy Y ks) (hz : Stands Msg Z ms) (hr : r = (⟨⟨a,b,c,d⟩,⟨e,f,g,h⟩,⟨i,j,os,k,l⟩,ks⟩,ms,m)) :
  (Tree.ret (.tup [.agg [.int .i64 a,.int .i64 b,.int .i64 c,.int .i64 d,.int .i64 e,.int .i64 f,.int .i64 g,.int .i64 h,.int .i64 i,.int .i64 j,X,.int .i64 k,.int .i64 l,Y],Z,.int .i64 m])).holds P ⟨w,H⟩ (RetD w H fun ds=>.tup [.agg (rlL (ds 0) (ds 1) r.1),.dat ((ds 2).like r.2.1),.int .i64 r.2.2]) := by
 subst hr
 obtain ⟨p,q,hs⟩ := rlL_sel (a := a) (b := b) (c := c) (d := d) (e := e) (f := f) (g := g) (h := h) (i := i) (j := j) (k := k) (l := l) hx hy rfl
 obtain ⟨z,hz⟩ := hz.se
 exact ret_se (fun i=>match i with | 0=>p | 1=>q | _=>z) (se_tup (.cons (se_agg hs) (.cons hz (.cons (se_int rfl) .nil))))
theorem rl3_bad {P : Program} {w : World} {H : HV} {r : Rl × List Msg × Int} {m : Int} (h : r = (zRl,[],m)) : (Tree.ret (.tup [.agg [.int .i64 0,.int .i64 0,.int .i64 0,.int .i64 0,.int .i64 0,.int .i64 0,.int .i64 0,.int .i64 0,.int .i64 0,.int .i64 0,SV.nils,.int .i64 0,.int .i64 0,SV.nils],.nils,.int .i64 m])).holds P ⟨w,H⟩ (RetD w H fun ds=>.tup [.agg (rlL (ds 0) (ds 1) r.1),.dat ((ds 2).like r.2.1),.int .i64 r.2.2]) :=
 ret_rl3 stands_nils stands_nils stands_nils (by rw [h]; rfl)
theorem run_fieldO {P : Program} {o : Oper} {t : TypeId} {x : Operand} {f : Nat} (ho : o.op = .fieldAddr t x f) (ev : Operand → Value) (w : World) {E : Env} {H : HV} {X v : SV} (hx : ev x = X.den E) (hX : X.Ok H) (h : fieldR P t X f = some v) : (execOp ev o).run P w = .ok (.value (v.den E)) w := by
 obtain ⟨a,b,c,d,e,g⟩ := o
 simp only at ho; subst ho
 obtain ⟨h1,_⟩ := fieldR_spec (P := P) (E := E) (w := w) h hX
 simp only [execOp,Sem.run_bind,hx,h1]; rfl
theorem run_loadO {P : Program} {o : Oper} {t : TypeId} {x : Operand} (ho : o.op = .load t x) (ev : Operand → Value) {C : Ctx} {m : Mem} {w : World} {E : Env} {H : HV} (g : Good C m E H w) {X v : SV} (hx : ev x = X.den E) (hX : X.Ok H) {ps : List Prop} (h : loadR P m t X = some (ps,v)) (hp : ∀ p,p ∈ ps → p) : (execOp ev o).run P w = .ok (.value (v.den E)) w := by
 obtain ⟨a,b,c,d,e,g'⟩ := o
 simp only at ho; subst ho
 obtain ⟨h1,_⟩ := loadR_spec (P := P) g hX h hp
 simp only [execOp,Sem.run_bind,hx,h1]; rfl
theorem run_binO {P : Program} {o : Oper} {op : BinOp} {t z : TypeId} {x y : Operand} (ho : o.op = .binOp op t x y z) (ev : Operand → Value) {C : Ctx} {m : Mem} {w : World} {E : Env} {H : HV} (g : Good C m E H w) {X Y v : SV} (hx : ev x = X.den E) (hy : ev y = Y.den E) (hX : X.Ok H) {ps : List Prop} (h : binR P m op t X Y = some (ps,v)) (hp : ∀ p,p ∈ ps → p) : (execOp ev o).run P w = .ok (.value (v.den E)) w := by
 obtain ⟨a,b,c,d,e,g'⟩ := o
 simp only at ho; subst ho
 obtain ⟨h1,_⟩ := binR_spec (P := P) g (op := op) (t := t) (a := X) (b := Y) hX h hp x y
 simp only [execOp,hx,hy]
 rw [Sem.run_bind,h1]; rfl
end Sx
namespace Sv
def apO : Array Oper := oA 44 [1,1,1,1,1,1,0,0]
def apId : Nat := match cA 44 [1,1,1,1,1,1,0,0] with | .region id _ _=>id | _=>0
theorem ap_reg : cA 44 [1,1,1,1,1,1,0,0] = .region apId apO true := by kernel_rfl
theorem ap_size : apO.size = 5 := by kernel_rfl
theorem ap_k0 : opK apO 0 = some (.fieldAddr 65 (.tmp 3) 0,58) := by kernel_rfl
theorem ap_k1 : opK apO 1 = some (.load 3 (.tmp 58),59) := by kernel_rfl
theorem ap_k2 : opK apO 2 = some (.move (.tmp 9),60) := by kernel_rfl
theorem ap_k3 : opK apO 3 = some (.call ⟨.value (.func 88),#[.tmp 60],#[113]⟩,61) := by kernel_rfl
theorem ap_k4 : opK apO 4 = some (.binOp .gtr 3 (.tmp 59) (.tmp 61) 3,62) := by kernel_rfl
theorem ap_p1 : predsOf apO 1 = [0] := by kernel_rfl
theorem ap_p3 : predsOf apO 3 = [2] := by kernel_rfl
theorem ap_p4 : predsOf apO 4 = [1,3] := by kernel_rfl
theorem ap_lt : ∀ i,i < apO.size → ∀ j,j ∈ predsOf apO i → j < i := by
 have h : ((List.range 5).all fun i=>(predsOf apO i).all fun j=>decide (j < i)) = true := by kernel_rfl
 intro i hi j hj
 rw [ap_size] at hi
 have := List.all_eq_true.1 h i (List.mem_range.2 hi)
 exact of_decide_eq_true (List.all_eq_true.1 this j hj)
theorem ap_five {i : Nat} (h : i < 5) : i = 0 ∨ i = 1 ∨ i = 2 ∨ i = 3 ∨ i = 4 := by omega
theorem ap_dst (n : Nat) (hn : n = 106) : ∀ (i : Nat) (o : Oper),apO[i]? = some o → o.dst = some (58 + i) ∧ o.guard = none ∧ 58 + i < n := by
 intro i o ho
 have hi : i < 5 := by rw [← ap_size]; exact (Array.getElem?_eq_some_iff.1 ho).1
 subst hn
 rcases ap_five hi with rfl | rfl | rfl | rfl | rfl
 ·exact ⟨(opK_spec ap_k0 ho).1,(opK_spec ap_k0 ho).2.1,by decide⟩
 ·exact ⟨(opK_spec ap_k1 ho).1,(opK_spec ap_k1 ho).2.1,by decide⟩
 ·exact ⟨(opK_spec ap_k2 ho).1,(opK_spec ap_k2 ho).2.1,by decide⟩
 ·exact ⟨(opK_spec ap_k3 ho).1,(opK_spec ap_k3 ho).2.1,by decide⟩
 ·exact ⟨(opK_spec ap_k4 ho).1,(opK_spec ap_k4 ho).2.1,by decide⟩
theorem ap_mixed : Try.prog.follows .mixedOrders = true := by kernel_rfl
theorem ap_calm : calmOps apO = true := by kernel_rfl
theorem ap_calee {o : Oper} (h : o.op = .call ⟨.value (.func 88),#[.tmp 60],#[113]⟩) (T : Array Value) (w : World) : (execOp (Act.eval ⟨T,[]⟩) o).run Try.prog w = .ok (.enter 88 #[Act.eval ⟨T,[]⟩ (.tmp 60)]) w := by
 obtain ⟨fn,hfn,hbs,hnm⟩ := bodied_spec lawFront.1
 let E : Env := ⟨fun _=>0,fun _=>(none,0),fun _=>Go.undef⟩
 have hT : (SV.denL E (T.toList.map SV.raw)).toArray = T := by
  rw [SV.denL_eq,List.map_map]
  have : T.toList.map (SV.den E ∘ SV.raw) = T.toList := by
   conv=>rhs; rw [← List.map_id T.toList]
   exact List.map_congr_left fun x _=>by simp [SV.den]
  rw [this,Array.toArray_toList]
 have hev : ∀ x,(Act.eval ⟨T,[]⟩ x) = (evS (T.toList.map SV.raw) x).den E := fun x=>by
  rw [← den_evS E (T.toList.map SV.raw) [] x,hT]
 have := run_call (P := Try.prog) (a := ⟨T,[]⟩) (E := E) (tmps := T.toList.map SV.raw) hev (f := 88) (first := []) (captured := []) (cl := ⟨.value (.func 88),#[.tmp 60],#[113]⟩) rfl hfn hbs hnm h w
 rw [this,hev (.tmp 60)]
 rfl
def aplB (x : RlD) (o q : D) (cb cn ct : Int) (cp cw : D) : Conf := Conf.mk (SFrm.mk 44 none none [Item.code (.region apId apO true),Item.code (cA 44 [1,1,1,1,1,1,0,1]),Item.code (cA 44 [1,1,1,1,1,1,1])] (mkJ 0 [(3,SV.ptr 0 0),(4,SV.ptr 1 0),(9,SV.ptr 2 0)] 0 106)) [] (aplM x o q cb cn ct cp cw)
def apS (x : RlD) (q : D) (cb : Int) (i : Nat) : SV := match i with | 0=>.ptr 0 0 | 1=>.int .i64 cb | 2=>.ptr 2 0 | 3=>.int .i64 (frontI x.src.ap (q.to Cy)) | _=>.bool (decide (cb > frontI x.src.ap (q.to Cy)))
theorem ap_base (E : Env) : (SV.denL E (mkJ 0 [(3,SV.ptr 0 0),(4,SV.ptr 1 0),(9,SV.ptr 2 0)] 0 106)).toArray[3]? = some ((SV.ptr 0 0).den E) ∧ (SV.denL E (mkJ 0 [(3,SV.ptr 0 0),(4,SV.ptr 1 0),(9,SV.ptr 2 0)] 0 106)).toArray[4]? = some ((SV.ptr 1 0).den E) ∧ (SV.denL E (mkJ 0 [(3,SV.ptr 0 0),(4,SV.ptr 1 0),(9,SV.ptr 2 0)] 0 106)).toArray[9]? = some ((SV.ptr 2 0).den E) := ⟨rfl,rfl,rfl⟩
theorem apl_region {H : HV} {w : World} {R : Value → World → Prop} {x : RlD} {o q : D} {cb cn ct : Int} {cp cw : D} (hq : q.Is Cy) (hql : q.len ≤ 1048576)
  (h : Runs Try.prog ⟨w,H⟩ (aplC x o q cb cn ct cp cw (decide (cb > frontI x.src.ap (q.to Cy)))) R) : Runs Try.prog ⟨w,H⟩ (aplB x o q cb cn ct cp cw) R := by
 obtain ⟨qh,qz,qr,rfl⟩ := hq.slc
 intro E H1 w1 g1 ok1
 have hb3 := ap_base E
 obtain ⟨b3,b4,b9⟩ := hb3
 show Go1 Try.prog none 44 _ _ w1 R
 refine Go1.draw ap_mixed ap_calm ?_
 have old : ∀ {l : List Nat} {T : Array Value} (s : Nat),FInv (fun i=>58 + i) (fun i=>(apS x (D.slc qh qz qr) cb i).den E) (SV.denL E (mkJ 0 [(3,SV.ptr 0 0),(4,SV.ptr 1 0),(9,SV.ptr 2 0)] 0 106)).toArray l T → s < 58 → T[s]? = (SV.denL E (mkJ 0 [(3,SV.ptr 0 0),(4,SV.ptr 1 0),(9,SV.ptr 2 0)] 0 106)).toArray[s]? := fun s hI hs=>hI.old s fun i _=>by omega
 have := wpAny_quiet (P := Try.prog) (ops := apO) (dst := fun i=>58 + i) (vals := fun i=>(apS x (D.slc qh qz qr) cb i).den E) (base := (SV.denL E (mkJ 0 [(3,SV.ptr 0 0),(4,SV.ptr 1 0),(9,SV.ptr 2 0)] 0 106)).toArray) (J := fun w'=>Sx.Good ⟨w,H⟩ (aplM x o (D.slc qh qz qr) cb cn ct cp cw) E H1 w')
  ap_lt (ap_dst _ rfl) (fun i j _ _ e=>by simpa using e) (Q := Qk Try.prog none 44 [Item.code (cA 44 [1,1,1,1,1,1,0,1]),Item.code (cA 44 [1,1,1,1,1,1,1])] R) ?_ ?_ apO.size [] (Array.replicate apO.size false) _ w1.drew (by simp) .nil (by simp) (by simp) (by simp) (fun j hj=>by simp [hj]) ⟨rfl,by simp,fun _ _=>rfl⟩ g1.drew
 ·exact this
 ·intro i op ho l T w2 hb hil hp hI hJ
  have hi : i < 5 := by rw [← ap_size]; exact (Array.getElem?_eq_some_iff.1 ho).1
  have t3 : T[3]? = some ((SV.ptr 0 0).den E) := (old 3 hI (by decide)).trans b3
  have t9 : T[9]? = some ((SV.ptr 2 0).den E) := (old 9 hI (by decide)).trans b9
  rcases ap_five hi with rfl | rfl | rfl | rfl | rfl
  ·exact wp_look (opK_spec ap_k0 ho).1 (run_fieldO (opK_spec ap_k0 ho).2.2 _ w2 (H := H1) (X := .ptr 0 0) (v := .ptr 0 0) (eval_tmp t3) trivial (by kernel_rfl)) hJ
  ·rw [ap_p1] at hp
   have m1 : T[58]? = some ((SV.ptr 0 0).den E) := hI.done 0 (hp 0 (by simp))
   exact wp_look (opK_spec ap_k1 ho).1 (run_loadO (opK_spec ap_k1 ho).2.2 _ hJ (X := .ptr 0 0) (v := .int .i64 cb) (ps := []) (eval_tmp m1) trivial (by kernel_rfl) (by simp)) hJ
  ·have := run_moveO (P := Try.prog) (opK_spec ap_k2 ho).2.2 (Act.eval ⟨T,[]⟩) w2
   rw [eval_tmp t9] at this
   exact wp_look (opK_spec ap_k2 ho).1 this hJ
  ·rw [ap_p3] at hp
   have m1 : T[60]? = some ((SV.ptr 2 0).den E) := hI.done 2 (hp 2 (by simp))
   have hcall := ap_calee (opK_spec ap_k3 ho).2.2 T w2
   rw [eval_tmp m1] at hcall
   refine wp_call (opK_spec ap_k3 ho).1 hcall ?_
   exact q_calls lawFront hJ (k := 2) (cs := rlV x (.vec 3) (.vec 4)) (row := [.int .i64 x.near.epoch,.int .i64 x.near.site,.int .i64 x.near.stored,.int .i64 x.near.applied,.int .i64 x.far.epoch,.int .i64 x.far.site,.int .i64 x.far.stored,.int .i64 x.far.applied,.int .i64 x.src.e,.int .i64 x.src.s,o,.int .i64 x.src.st,.int .i64 x.src.ap,D.slc qh qz qr]) rfl (by kernel_rfl) rfl (fun p hp=>by rw [List.mem_singleton.1 hp]; exact ⟨hq,hql⟩)
  ·rw [ap_p4] at hp
   have m1 : T[59]? = some ((SV.int .i64 cb).den E) := hI.done 1 (hp 1 (by simp))
   have m2 : T[61]? = some ((SV.int .i64 (frontI x.src.ap ((D.slc qh qz qr).to Cy))).den E) := hI.done 3 (hp 3 (by simp))
   exact wp_look (opK_spec ap_k4 ho).1 (run_binO (opK_spec ap_k4 ho).2.2 _ hJ (X := .int .i64 cb) (Y := .int .i64 (frontI x.src.ap ((D.slc qh qz qr).to Cy))) (v := .bool (decide (cb > frontI x.src.ap ((D.slc qh qz qr).to Cy)))) (ps := []) (eval_tmp m1) (eval_tmp m2) trivial (by kernel_rfl) (by simp)) hJ
 ·intro T l w2 ha hI hJ
  refine ⟨rfl,?_⟩
  have t62 : T[62]? = some ((SV.bool (decide (cb > frontI x.src.ap ((D.slc qh qz qr).to Cy)))).den E) := hI.done 4 (ha 4 (by rw [ap_size]; decide))
  have := runs_at (aw := none) (T := T) (n := 106) (sl := [(3,SV.ptr 0 0),(4,SV.ptr 1 0),(9,SV.ptr 2 0),(62,.bool (decide (cb > frontI x.src.ap ((D.slc qh qz qr).to Cy))))]) (C := ⟨w,H⟩) rfl (by rw [hI.size]; rfl) (by kernel_rfl) (by kernel_rfl) hJ (fun p hp=>?_) (fun p hp=>?_) h
  ·exact this
  ·simp only [List.mem_cons,List.not_mem_nil,or_false] at hp
   rw [Array.getD_eq_getD_getElem?]
   rcases hp with rfl | rfl | rfl | rfl
   ·rw [old 3 hI (by decide),b3]; rfl
   ·rw [old 4 hI (by decide),b4]; rfl
   ·rw [old 9 hI (by decide),b9]; rfl
   ·rw [t62]; rfl
  ·simp only [List.mem_cons,List.not_mem_nil,or_false] at hp
   rcases hp with rfl | rfl | rfl | rfl <;> trivial
end Sv
end
noncomputable section
open Go Go.Proofs Sx
namespace Sv
theorem ctApOk : Ctrs.Ok Try.prog ctAp := by
 intro x hx
 simp only [ctAp,List.mem_cons,List.not_mem_nil,or_false] at hx
 rcases hx with rfl | rfl | rfl | rfl | rfl | rfl
 ·exact ctrOf_ok lawCk
 ·exact ctrOf_ok lawSz
 ·exact ctrOf_ok lawCyCk
 ·exact ctrOf_ok lawOfr
 ·exact ctrOf_ok lawLrn
 ·exact ctrOf_ok lawCpC
theorem ctNxOk : Ctrs.Ok Try.prog ctNx := by
 intro x hx
 simp only [ctNx,List.mem_cons,List.not_mem_nil,or_false] at hx
 rcases hx with rfl | rfl
 ·exact ctrOf_ok lawCk
 ·exact ctrOf_ok lawCpC
theorem lawApl : Law Try.prog 44 ((rdRl.two rdCy).sp spApplyRl) := by
 refine law_in _ (by kernel_rfl) fun H w ⟨⟨⟨a1,a2,a3,a4⟩,⟨b1,b2,b3,b4⟩,⟨e,s,o,st,ap⟩,k⟩,⟨cb,cn,ct,cp,cw⟩⟩ hok hp=>?_
 obtain ⟨hx,hc⟩ := hp _ (List.mem_singleton.2 rfl)
 apply goS_sound ctApOk (fun _=>false) [(62,1)] 400
 rw [show (rdRl.two rdCy).canon (⟨⟨a1,a2,a3,a4⟩,⟨b1,b2,b3,b4⟩,⟨e,s,o,st,ap⟩,k⟩,⟨cb,cn,ct,cp,cw⟩) = [.agg [.int .i64 a1,.int .i64 a2,.int .i64 a3,.int .i64 a4,.int .i64 b1,.int .i64 b2,.int .i64 b3,.int .i64 b4,.int .i64 e,.int .i64 s,.dat o,.int .i64 st,.int .i64 ap,.dat k],.agg [.int .i64 cb,.int .i64 cn,.int .i64 ct,.dat cp,.dat cw]] from rfl,apl_in]
 show Tree.holds _ _ (RetD w H fun ds=>.tup [.agg (rlL (ds 0) (ds 1) (applyRl (RlD.rl ⟨⟨a1,a2,a3,a4⟩,⟨b1,b2,b3,b4⟩,⟨e,s,o,st,ap⟩,k⟩) (CyD.cy ⟨cb,cn,ct,cp,cw⟩)).1),.dat ((ds 2).like (applyRl (RlD.rl ⟨⟨a1,a2,a3,a4⟩,⟨b1,b2,b3,b4⟩,⟨e,s,o,st,ap⟩,k⟩) (CyD.cy ⟨cb,cn,ct,cp,cw⟩)).2.1),.int .i64 (applyRl (RlD.rl ⟨⟨a1,a2,a3,a4⟩,⟨b1,b2,b3,b4⟩,⟨e,s,o,st,ap⟩,k⟩) (CyD.cy ⟨cb,cn,ct,cp,cw⟩)).2.2]) _
 have hdef : ckRl (RlD.rl ⟨⟨a1,a2,a3,a4⟩,⟨b1,b2,b3,b4⟩,⟨e,s,o,st,ap⟩,k⟩) = 0 → applyRl (RlD.rl ⟨⟨a1,a2,a3,a4⟩,⟨b1,b2,b3,b4⟩,⟨e,s,o,st,ap⟩,k⟩) (CyD.cy ⟨cb,cn,ct,cp,cw⟩) = (if cyErr (CyD.cy ⟨cb,cn,ct,cp,cw⟩) most ≠ 0 then (zRl,[],cyErr (CyD.cy ⟨cb,cn,ct,cp,cw⟩) most)
   else if cn ≤ a4 then (zRl,[],8) else if cb > a4 then (zRl,[],15)
   else if cb > frontI ap (k.to Cy) then (⟨⟨a1,a2,cn,cn⟩,⟨b1,b2,b3,b4⟩,⟨e,s,o.to Int,st,ap⟩,k.to Cy⟩,[],0)
   else if (offer ⟨e,s,o.to Int,st,ap⟩ cn).2.2 ≠ 0 then (zRl,[],(offer ⟨e,s,o.to Int,st,ap⟩ cn).2.2)
   else (⟨⟨a1,a2,cn,cn⟩,⟨b1,b2,b3,b4⟩,(offer ⟨e,s,o.to Int,st,ap⟩ cn).1,k.to Cy ++ [CyD.cy ⟨cb,cn,ct,cp,cw⟩]⟩,(offer ⟨e,s,o.to Int,st,ap⟩ cn).2.1,0)) := fun h=>by
  unfold applyRl; rw [if_neg (by simp [h])]; rfl
 refine ⟨hx,fun c1=>rl3_bad ?_,fun c1=>?_⟩
 ·have c1 : ckRl (RlD.rl ⟨⟨a1,a2,a3,a4⟩,⟨b1,b2,b3,b4⟩,⟨e,s,o,st,ap⟩,k⟩) ≠ 0 := by simpa using c1
  unfold applyRl; rw [if_pos c1]
 have c1 : ckRl (RlD.rl ⟨⟨a1,a2,a3,a4⟩,⟨b1,b2,b3,b4⟩,⟨e,s,o,st,ap⟩,k⟩) = 0 := by simpa using c1
 rw [hdef c1]
 obtain ⟨_,_,_,hf⟩ := ck_range c1
 have hmin : ∀ c,c ∈ k.to Cy → c.number > -9223372036854775808 := fun c hc=>by
  have := cy_num (ck_cy hf c hc); omega
 obtain ⟨h1,h2,h3,h4,h5⟩ := id hx
 refine holds_all.2 fun hs=>holds_need.2 ⟨⟨hc,D.like_is _ _,by rw [D.Is.length (α := Int),D.like_to]; decide⟩,?_⟩
 rw [D.like_to]
 refine ⟨fun c2=>rl3_bad ?_,fun c2=>⟨fun c3=>rl3_bad ?_,fun c3=>⟨fun c4=>rl3_bad ?_,fun c4=>?_⟩⟩⟩
 ·have c2 : cyErr (CyD.cy ⟨cb,cn,ct,cp,cw⟩) most ≠ 0 := by simpa using c2
  rw [if_pos c2]
 all_goals (have c2' : ¬cyErr (CyD.cy ⟨cb,cn,ct,cp,cw⟩) most ≠ 0 := by simpa using c2); rw [if_neg c2']
 ·rw [if_pos (of_decide_eq_true c3)]
 all_goals rw [if_neg (of_decide_eq_false c3)]
 ·rw [if_pos (of_decide_eq_true c4)]
 rw [if_neg (of_decide_eq_false c4)]
 refine runs_frame (Φ := bgPhi ⟨⟨a1,a2,a3,a4⟩,⟨b1,b2,b3,b4⟩,⟨e,s,o,st,ap⟩,k⟩) (top := bgC ⟨⟨a1,a2,a3,a4⟩,⟨b1,b2,b3,b4⟩,⟨e,s,o,st,ap⟩,k⟩) bgC_pure (fun kx hk=>?_) (fun H w _=>bgRuns hx hmin) fun v m hv=>?_
 ·have h : (SV.keysL (mkJ 0 [(3,SV.ptr 0 0),(4,SV.ptr 1 0)] 0 106) ++ ((([] : List SFrm).flatMap fun f=>SV.keysL f.tmps) ++ Mem.named [(0,OBlk.cells 65 [.int .i64 cb,.int .i64 cn,.int .i64 ct,SV.dat cp,SV.dat cw]),(1,OBlk.cells 37 rlZ)])).all (fun k=>decide (k < 500)) = true := by kernel_rfl
  exact of_decide_eq_true (List.all_eq_true.1 h kx hk)
 ·obtain ⟨rfl,p,q,rfl,⟨p1,p2,p3⟩,q1,q2,q3⟩ := hv
  show Runs _ _ (aplA ⟨⟨a1,a2,a3,a4⟩,⟨b1,b2,b3,b4⟩,⟨e,s,o,st,ap⟩,k⟩ p q cb cn ct cp cw) _
  apply goS_sound ctApOk (fun _=>false) [(44,58)] 600
  rw [aplA_go]
  simp only at h1 h2 h3 h4 h5 q3 p3
  have kl := D.Is.length (α := Cy) k
  have ql := D.Is.length (α := Cy) q
  have hql : q.len ≤ 1048576 := by rw [ql,q3]; omega
  refine holds_all.2 fun hs=>?_
  have key : Runs Try.prog ⟨w,H⟩ (aplB ⟨⟨a1,a2,cn,cn⟩,⟨b1,b2,b3,b4⟩,⟨e,s,o,st,ap⟩,k⟩ p q cb cn ct cp cw) (RetD w H fun ds=>.tup [.agg (rlL (ds 0) (ds 1) (if cb > frontI ap (k.to Cy) then ((⟨⟨a1,a2,cn,cn⟩,⟨b1,b2,b3,b4⟩,⟨e,s,o.to Int,st,ap⟩,k.to Cy⟩ : Rl),([] : List Msg),(0 : Int))
   else if (offer ⟨e,s,o.to Int,st,ap⟩ cn).2.2 ≠ 0 then (zRl,[],(offer ⟨e,s,o.to Int,st,ap⟩ cn).2.2)
   else (⟨⟨a1,a2,cn,cn⟩,⟨b1,b2,b3,b4⟩,(offer ⟨e,s,o.to Int,st,ap⟩ cn).1,k.to Cy ++ [CyD.cy ⟨cb,cn,ct,cp,cw⟩]⟩,(offer ⟨e,s,o.to Int,st,ap⟩ cn).2.1,0)).1),.dat ((ds 2).like (if cb > frontI ap (k.to Cy) then ((⟨⟨a1,a2,cn,cn⟩,⟨b1,b2,b3,b4⟩,⟨e,s,o.to Int,st,ap⟩,k.to Cy⟩ : Rl),([] : List Msg),(0 : Int))
   else if (offer ⟨e,s,o.to Int,st,ap⟩ cn).2.2 ≠ 0 then (zRl,[],(offer ⟨e,s,o.to Int,st,ap⟩ cn).2.2)
   else (⟨⟨a1,a2,cn,cn⟩,⟨b1,b2,b3,b4⟩,(offer ⟨e,s,o.to Int,st,ap⟩ cn).1,k.to Cy ++ [CyD.cy ⟨cb,cn,ct,cp,cw⟩]⟩,(offer ⟨e,s,o.to Int,st,ap⟩ cn).2.1,0)).2.1),.int .i64 (if cb > frontI ap (k.to Cy) then ((⟨⟨a1,a2,cn,cn⟩,⟨b1,b2,b3,b4⟩,⟨e,s,o.to Int,st,ap⟩,k.to Cy⟩ : Rl),([] : List Msg),(0 : Int))
   else if (offer ⟨e,s,o.to Int,st,ap⟩ cn).2.2 ≠ 0 then (zRl,[],(offer ⟨e,s,o.to Int,st,ap⟩ cn).2.2)
   else (⟨⟨a1,a2,cn,cn⟩,⟨b1,b2,b3,b4⟩,(offer ⟨e,s,o.to Int,st,ap⟩ cn).1,k.to Cy ++ [CyD.cy ⟨cb,cn,ct,cp,cw⟩]⟩,(offer ⟨e,s,o.to Int,st,ap⟩ cn).2.1,0)).2.2]) := by
   refine apl_region q1 hql ?_
   apply exec_sound ctApOk 600
   rw [aplC_go]
   have ef : frontI (RlD.mk ⟨a1,a2,cn,cn⟩ ⟨b1,b2,b3,b4⟩ ⟨e,s,o,st,ap⟩ k).src.ap (q.to Cy) = frontI ap (k.to Cy) := by rw [q3]
   have eo : SrcD.src ⟨e,s,p,st,ap⟩ = ⟨e,s,o.to Int,st,ap⟩ := by rw [← p3]; rfl
   rw [ef,eo]
   refine ⟨fun d1=>ret_rl3 (stands_dat p1 p3) (stands_dat q1 q3) stands_nils ?_,fun d1=>?_⟩
   ·rw [if_pos (of_decide_eq_true d1)]
   rw [if_neg (of_decide_eq_false d1)]
   refine fun hs=>⟨p1,fun d2=>rl3_bad ?_,fun d2 hs1=>⟨hc,⟨q2,.inr rfl,?_,?_⟩,?_⟩⟩
   ·have d2 : (offer ⟨e,s,o.to Int,st,ap⟩ cn).2.2 ≠ 0 := by simpa using d2
    rw [if_pos d2]
   ·simp only [len_slc,List.length_cons,List.length_nil]; omega
   ·simp only [len_slc,List.length_cons,List.length_nil]; omega
   ·have d2 : ¬(offer ⟨e,s,o.to Int,st,ap⟩ cn).2.2 ≠ 0 := by simpa using d2
    have hrow := rows_app (rows_of q1) (cy_one (b := cb) (n := cn) (t := ct) (D.like_is (hs1 9 0) (cp.to Int)) (D.like_to _ _) (D.like_is (hs1 9 1) (cw.to Wt)) (D.like_to _ _))
    refine ret_rl3 stands_like (stands_rows rfl hrow) stands_like ?_
    rw [if_neg d2,q3]; rfl
  unfold aplB at key
  rw [← ap_reg] at key
  exact key
def nextL (l : List Cy) : Cy × Bool := match l with | []=>(zCy,false) | c :: _=>(c,true)
theorem head_match : ∀ {l : List Cy} (h : 0 < l.length),nextL l = (l[0],true)
 | [],h=>by simp at h
 | c :: t,_=>rfl
theorem lawNxt : Law Try.prog 30 (rdRl.one.sp spNextRl) := by
 refine law_in _ (by kernel_rfl) fun H w ⟨⟨a1,a2,a3,a4⟩,⟨b1,b2,b3,b4⟩,⟨e,s,o,st,ap⟩,k⟩ hok hp=>?_
 have hx := hp _ (List.mem_singleton.2 rfl)
 apply goS_sound ctNxOk (fun _=>false) [(63,8)] 400
 rw [show rdRl.one.canon ⟨⟨a1,a2,a3,a4⟩,⟨b1,b2,b3,b4⟩,⟨e,s,o,st,ap⟩,k⟩ = [.agg [.int .i64 a1,.int .i64 a2,.int .i64 a3,.int .i64 a4,.int .i64 b1,.int .i64 b2,.int .i64 b3,.int .i64 b4,.int .i64 e,.int .i64 s,.dat o,.int .i64 st,.int .i64 ap,.dat k]] from rfl,nxt_in]
 show Tree.holds _ _ (RetD w H fun ds=>.tup [.agg (cyL (ds 0) (ds 1) (nextRl (RlD.rl ⟨⟨a1,a2,a3,a4⟩,⟨b1,b2,b3,b4⟩,⟨e,s,o,st,ap⟩,k⟩)).1),.bool (nextRl (RlD.rl ⟨⟨a1,a2,a3,a4⟩,⟨b1,b2,b3,b4⟩,⟨e,s,o,st,ap⟩,k⟩)).2]) _
 obtain ⟨h1,h2,h3,h4,h5⟩ := id hx
 simp only at h1 h2 h3 h4 h5
 have no : ∀ {r : Cy × Bool},r = (zCy,false) → (Tree.ret (.tup [.agg [.int .i64 0,.int .i64 0,.int .i64 0,.nils,.nils],.lb false])).holds Try.prog ⟨w,H⟩ (RetD w H fun ds=>.tup [.agg (cyL (ds 0) (ds 1) r.1),.bool r.2]) := fun h=>by
  subst h
  obtain ⟨p,q,hs⟩ := cyL_sel (b := 0) (n := 0) (t := 0) stands_nils stands_nils (c := zCy) rfl
  exact ret_se (fun i=>match i with | 0=>p | _=>q) (se_tup (.cons (se_agg hs) (.cons (se_lb rfl) .nil)))
 refine ⟨hx,fun c1=>no ?_,fun c1=>?_⟩
 ·have c1 : ckRl (RlD.rl ⟨⟨a1,a2,a3,a4⟩,⟨b1,b2,b3,b4⟩,⟨e,s,o,st,ap⟩,k⟩) ≠ 0 := by simpa using c1
  unfold nextRl; rw [if_pos c1]
 have c1 : ckRl (RlD.rl ⟨⟨a1,a2,a3,a4⟩,⟨b1,b2,b3,b4⟩,⟨e,s,o,st,ap⟩,k⟩) = 0 := by simpa using c1
 have hdef : nextRl (RlD.rl ⟨⟨a1,a2,a3,a4⟩,⟨b1,b2,b3,b4⟩,⟨e,s,o,st,ap⟩,k⟩) = nextL (behindL (k.to Cy) st) := by
  unfold nextRl; rw [if_neg (by simp [c1])]; rfl
 rw [hdef]
 show Runs _ _ (nxA ⟨⟨a1,a2,a3,a4⟩,⟨b1,b2,b3,b4⟩,⟨e,s,o,st,ap⟩,k⟩ st) _
 apply exec_sound ctNxOk 400
 rw [nxA_go]
 refine vecIn_to 9 65 5 none 5 (nxL ⟨⟨a1,a2,a3,a4⟩,⟨b1,b2,b3,b4⟩,⟨e,s,o,st,ap⟩,k⟩ st (.slc none 5 []) 0) (by kernel_rfl) ?_
 apply beh_loop false h2 h4 h5 st (fun r j=>nxL ⟨⟨a1,a2,a3,a4⟩,⟨b1,b2,b3,b4⟩,⟨e,s,o,st,ap⟩,k⟩ st r j)
 ·exact fun _ _=>rfl
 ·intro r j hh
  apply exec_sound ctNxOk 400
  rw [nxL_go]
  exact hh
 ·intro r hr hz hto
  have rl := D.Is.length (α := Cy) r
  rw [← hto]
  refine ⟨fun d1=>no ?_,fun d1=>?_⟩
  ·have d1 : r.to Cy = [] := List.eq_nil_of_length_eq_zero (by have := of_decide_eq_true d1; omega)
   rw [d1]; rfl
  ·have d1 : 0 < (r.to Cy).length := by have := of_decide_eq_false d1; omega
   obtain ⟨q1,q2,q3,q4⟩ := cy_cell hr d1
   refine ⟨⟨by omega,by omega,hz⟩,⟨q1,hz⟩,?_⟩
   have e0 := head_match (l := r.to Cy) d1
   rw [e0,q4]
   obtain ⟨p,q,hs⟩ := cyL_sel (b := r.getInt 0 0) (n := r.getInt 0 1) (t := r.getInt 0 2) (stands_dat q2 rfl) (stands_dat q3 rfl) (c := CyD.cy ⟨r.getInt 0 0,r.getInt 0 1,r.getInt 0 2,r.cell 0 3,r.cell 0 4⟩) rfl
   exact ret_se (fun i=>match i with | 0=>p | _=>q) (se_tup (.cons (se_agg hs) (.cons (se_lb rfl) .nil)))
def lnS (x : RlD) : List SV := [.int .i64 x.src.e,.int .i64 x.src.s,.dat x.src.d,.int .i64 x.src.st,.int .i64 x.src.ap]
def clnB (x : RlD) (q md : D) (sup : Bool) (n : Int) : Conf := Conf.mk (bhTop n) [SFrm.mk 31 (some (oA 31 [1,1,1,1,1,1,0],[5,6,7,8])) (some 42) [Item.code (cA 31 [1,1,1,1,1,1,1])] (mkJ 0 [(4,.ptr 1 0),(6,.ptr 0 0),(7,.ptr 2 0),(8,.dat md),(9,.bool sup),(38,.ptr 0 0)] 0 60)]
 [(0,OBlk.cells 115 (rlV x (.dat x.src.d) (.vec 3))),(1,OBlk.cells 37 rlZ),(2,OBlk.cells 34 (lnS x)),(3,.arr 65 q)]
def clnL (x : RlD) (q md : D) (sup : Bool) (n : Int) (r : D) (j : Int) : Conf := Conf.mk (bhLop n (.vec 1) (q.len : Int) j) [SFrm.mk 31 (some (oA 31 [1,1,1,1,1,1,0],[5,6,7,8])) (some 42) [Item.code (cA 31 [1,1,1,1,1,1,1])] (mkJ 0 [(4,.ptr 2 0),(6,.ptr 3 0),(7,.ptr 4 0),(8,.dat md),(9,.bool sup),(38,.ptr 3 0)] 0 60)]
 [(0,.arr 65 r),(1,.arr 65 q),(2,OBlk.cells 37 rlZ),(3,OBlk.cells 115 (rlV x (.dat x.src.d) (.vec 1))),(4,OBlk.cells 34 (lnS x))]
section
variable (d s o k p q md r : D) (b : Nat) (sup : Bool) (n j a a1 a2 a3 a4 b1 b2 b3 b4 e si st ap : Int)
theorem clnB_go : exec Try.prog ctAp 400 (clnB ⟨⟨a1,a2,a3,a4⟩,⟨b1,b2,b3,b4⟩,⟨e,si,o,st,ap⟩,k⟩ q md sup n) =
 Tree.leaf
 (Conf.mk
 (SFrm.mk 63 none none
 [Item.inLoop (cA 63 [1,1,0,1,0,0]),Item.inBlock 0,Item.code (cA 63 [1,1,1])]
 (mkJ 1
 [(1,.int .i64 n),(5,.nils),(12,.vec 0),(13,.int .i64 (↑(D.len q) : Int)),
 (14,.int .i64 0)]
 0 29))
 [SFrm.mk 31 (some (oA 31 [1,1,1,1,1,1,0],[5,6,7,8])) (some 42)
 [Item.code (cA 31 [1,1,1,1,1,1,1])]
 (mkJ 0 [(4,.ptr 1 0),(6,.ptr 2 0),(7,.ptr 3 0),(8,.dat md),(9,.bool sup),(38,.ptr 2 0)] 0
 60)]
 [(0,OBlk.arr 65 q),
 (1,
 OBlk.cells 37
 [.int .i64 0,.int .i64 0,.int .i64 0,.int .i64 0,.int .i64 0,
 .int .i64 0,.int .i64 0,.int .i64 0,.int .i64 0,
 .int .i64 0,.nils,.int .i64 0,.int .i64 0,.nils]),
 (2,
 OBlk.cells 115
 [.int .i64 a1,.int .i64 a2,.int .i64 a3,.int .i64 a4,
 .int .i64 b1,.int .i64 b2,.int .i64 b3,.int .i64 b4,
 .int .i64 e,.int .i64 si,.dat o,.int .i64 st,.int .i64 ap,
 .vec 0]),
 (3,
 OBlk.cells 34
 [.int .i64 e,.int .i64 si,.dat o,.int .i64 st,.int .i64 ap])]) := by kernel_rfl
theorem clnL_go : 
 let z1 := (SFrm.mk 63 none none [Item.inLoop (cA 63 [1,1,0,1,0,0]),Item.inBlock 0,Item.code (cA 63 [1,1,1])] (mkJ 1 [(1,.int .i64 n),(5,.vec 0),(12,.vec 1),(13,.int .i64 (↑(D.len q) : Int)),(14,.int .i64 (IntKind.wrap .i64 (j + 1)))] 0 29))
 let z2 : List SV := [.int .i64 a1,.int .i64 a2,.int .i64 a3,.int .i64 a4,.int .i64 b1,.int .i64 b2,.int .i64 b3,.int .i64 b4,.int .i64 e,.int .i64 si,.dat o,.int .i64 st,.int .i64 ap,.vec 1]
 let z3 : List SV := [.int .i64 0,.int .i64 0,.int .i64 0,.int .i64 0,.int .i64 0,.int .i64 0,.int .i64 0,.int .i64 0,.int .i64 0,.int .i64 0,.nils,.int .i64 0,.int .i64 0,.nils]
 let z4 := (D.getInt q (Int.toNat j) 2)
 let z5 := (D.getInt q (Int.toNat j) 1)
 let z6 := (D.getInt q (Int.toNat j) 0)
 let z7 := (D.to Int (D.cell q (Int.toNat j) 3))
 let z8 := (D.to Wt (D.cell q (Int.toNat j) 4))
 let z9 := (mkJ 0 [(4,.ptr 2 0),(6,.ptr 3 0),(7,.ptr 4 0),(8,.dat md),(9,.bool sup),(38,.ptr 3 0)] 0 60)
 let z10 : List SV := [.int .i64 e,.int .i64 si,.dat o,.int .i64 st,.int .i64 ap]
 exec Try.prog ctAp 600 (unroll (clnL ⟨⟨a1,a2,a3,a4⟩,⟨b1,b2,b3,b4⟩,⟨e,si,o,st,ap⟩,k⟩ q md sup n r j)) =
 Tree.br (decide (j < (↑(D.len q) : Int))) (.need (0 ≤ j ∧ j < (↑(D.len q) : Int) ∧ D.sz q = 5) (.need (D.HasCells q (Int.toNat j) 0 [FT.int .i64,FT.int .i64,FT.int .i64,FT.slc,FT.slc] ∧ D.sz q = 5)
 (.br (decide (D.getInt q (Int.toNat j) 1 > n)) (.need (CyD.Ok (CyD.mk z6 z5 z4 (D.cell q (Int.toNat j) 3) (D.cell q (Int.toNat j) 4))) (.all fun hs=>.all fun hs_1=>.need (D.sz r = 5 ∧ D.Fits (D.slc
 (D.hd (hs_1 0 0)) 5 [[D.int .i64 z6,D.int .i64 z5,D.int .i64 z4,D.like (hs 0 0) z7,D.like (hs 0 1) z8]]) 5 ∧ (D.len r + D.len (D.slc (D.hd (hs_1 0 0)) 5 [[D.int .i64 z6,D.int .i64 z5,D.int .i64 z4,D.like
 (hs 0 0) z7,D.like (hs 0 1) z8]])) * 72 ≤ 140737488355328 ∧ D.len r + D.len (D.slc (D.hd (hs_1 0 0)) 5 [[D.int .i64 z6,D.int .i64 z5,D.int .i64 z4,D.like (hs 0 0) z7,D.like (hs 0 1) z8]]) ≤ 9223372036854775807)
 (.all fun hs_2=>.leaf (Conf.mk z1 [SFrm.mk 31 (some (oA 31 [1,1,1,1,1,1,0],[5,6,7,8])) (some 42) [Item.code (cA 31 [1,1,1,1,1,1,1])] z9] [(0,OBlk.arr 65 (D.slc (D.hd (hs_2 0 0)) 5 (List.append
 (D.rows r) (D.rows (D.slc (D.hd (hs_1 0 0)) 5 [[D.int .i64 z6,D.int .i64 z5,D.int .i64 z4,D.like (hs 0 0) z7,D.like (hs 0 1) z8]]))))),(1,OBlk.arr 65 q),(2,OBlk.cells 37 z3),(3,OBlk.cells 115 z2),
 (4,OBlk.cells 34 z10)])))) (.leaf (Conf.mk z1 [SFrm.mk 31 (some (oA 31 [1,1,1,1,1,1,0],[5,6,7,8])) (some 42) [Item.code (cA 31 [1,1,1,1,1,1,1])] z9] [(0,OBlk.arr 65 r),(1,OBlk.arr 65 q),
 (2,OBlk.cells 37 z3),(3,OBlk.cells 115 z2),(4,OBlk.cells 34 z10)]))))) (.br sup (.ret (SV.tup [.agg [.int .i64 e,.int .i64 a2,.int .i64 a3,.int .i64 a4,.int .i64 e,.int .i64 b2,.int .i64 b3,.int .i64 b4,.int .i64 e,.int .i64 si,.dat o,.int .i64 st,.int .i64 ap,.nils],.dat md]))
 (.ret (SV.tup [.agg [.int .i64 a1,.int .i64 a2,.int .i64 a3,.int .i64 a4,.int .i64 b1,.int .i64 b2,.int .i64 b3,.int .i64 b4,.int .i64 e,.int .i64 si,.dat o,.int .i64 st,.int .i64 ap,.dat r],.dat md]))) := by
 intros; kernel_rfl
end
end Sv
end
noncomputable section
open Go Go.Proofs Sx
namespace Sx
theorem ret_rl2 {P : Program} {w : World} {H : HV} {a b c d e f g h i j k l : Int} {X Y Z : SV} {os : List Int} {ks : List Cy} {ms : List Msg} {r : Rl × List Msg} (hx : Stands Int X os) (hy : Stands Cy Y ks) (hz : Stands Msg Z ms) (hr : r = (⟨⟨a,b,c,d⟩,⟨e,f,g,h⟩,⟨i,j,os,k,l⟩,ks⟩,ms)) :
  (Tree.ret (.tup [.agg [.int .i64 a,.int .i64 b,.int .i64 c,.int .i64 d,.int .i64 e,.int .i64 f,.int .i64 g,.int .i64 h,.int .i64 i,.int .i64 j,X,.int .i64 k,.int .i64 l,Y],Z])).holds P ⟨w,H⟩ (RetD w H fun ds=>.tup [.agg (rlL (ds 0) (ds 1) r.1),.dat ((ds 2).like r.2)]) := by
 subst hr
 obtain ⟨p,q,hs⟩ := rlL_sel (a := a) (b := b) (c := c) (d := d) (e := e) (f := f) (g := g) (h := h) (i := i) (j := j) (k := k) (l := l) hx hy rfl
 obtain ⟨z,hz⟩ := hz.se
 exact ret_se (fun i=>match i with | 0=>p | 1=>q | _=>z) (se_tup (.cons (se_agg hs) (.cons hz .nil)))
end Sx
namespace Sv
theorem cln_loop {H : HV} {w : World} {a1 a2 a3 a4 b1 b2 b3 b4 e s st ap n : Int} {o k q md : D} {sup : Bool} {ks : List Cy} {os : List Int} {ms : List Msg} {r : Rl × List Msg} (q1 : q.Is Cy) (q3 : q.to Cy = ks) (hl : ks.length ≤ 1048576) (h5 : ∀ c,c ∈ ks → CyOk c) (ho : Stands Int (.dat o) os) (hm : Stands Msg (.dat md) ms)
  (hr1 : sup = true → r = (⟨⟨e,a2,a3,a4⟩,⟨e,b2,b3,b4⟩,⟨e,s,os,st,ap⟩,[]⟩,ms)) (hr2 : sup = false → r = (⟨⟨a1,a2,a3,a4⟩,⟨b1,b2,b3,b4⟩,⟨e,s,os,st,ap⟩,behindL ks n⟩,ms)) :
  Runs Try.prog ⟨w,H⟩ (clnB ⟨⟨a1,a2,a3,a4⟩,⟨b1,b2,b3,b4⟩,⟨e,s,o,st,ap⟩,k⟩ q md sup n) (RetD w H fun ds=>.tup [.agg (rlL (ds 0) (ds 1) r.1),.dat ((ds 2).like r.2)]) := by
 have ql := D.Is.length (α := Cy) q
 have hql : q.len ≤ 1048576 := by rw [ql,q3]; omega
 apply exec_sound ctApOk 400
 rw [clnB_go]
 refine vecIn_to 9 65 5 none 5 (clnL ⟨⟨a1,a2,a3,a4⟩,⟨b1,b2,b3,b4⟩,⟨e,s,o,st,ap⟩,k⟩ q md sup n (.slc none 5 []) 0) (by kernel_rfl) ?_
 apply beh_loop true q1 hql (by rw [q3]; exact h5) n (fun r j=>clnL ⟨⟨a1,a2,a3,a4⟩,⟨b1,b2,b3,b4⟩,⟨e,s,o,st,ap⟩,k⟩ q md sup n r j)
 ·exact fun _ _=>rfl
 ·intro r j hh
  apply exec_sound ctApOk 600
  rw [clnL_go]
  exact hh
 ·intro y hy hz hto
  rw [q3] at hto
  exact ⟨fun c=>ret_rl2 ho stands_nils hm (hr1 c),fun c=>ret_rl2 ho (stands_dat hy hto) hm (hr2 c)⟩
theorem lawCln : Law Try.prog 31 ((rdRl.two rdMsg).sp spLearnRl) := by
 refine law_in _ (by kernel_rfl) fun H w ⟨⟨⟨a1,a2,a3,a4⟩,⟨b1,b2,b3,b4⟩,⟨e,s,o,st,ap⟩,k⟩,⟨mk,mf,mt,mn,mv,me,mb,ml⟩⟩ hok hp=>?_
 have hx := hp _ (List.mem_singleton.2 rfl)
 apply goS_sound ctApOk (fun _=>false) [(62,1)] 400
 rw [show (rdRl.two rdMsg).canon (⟨⟨a1,a2,a3,a4⟩,⟨b1,b2,b3,b4⟩,⟨e,s,o,st,ap⟩,k⟩,⟨mk,mf,mt,mn,mv,me,mb,ml⟩) = [.agg [.int .i64 a1,.int .i64 a2,.int .i64 a3,.int .i64 a4,.int .i64 b1,.int .i64 b2,.int .i64 b3,.int .i64 b4,.int .i64 e,.int .i64 s,.dat o,.int .i64 st,.int .i64 ap,.dat k],.agg [.int .i64 mk,.int .i64 mf,.int .i64 mt,.int .i64 mn,.int .i64 mv,.int .i64 me,.dat mb,.dat ml]] from rfl,cln_in]
 show Tree.holds _ _ (RetD w H fun ds=>.tup [.agg (rlL (ds 0) (ds 1) (learnRl (RlD.rl ⟨⟨a1,a2,a3,a4⟩,⟨b1,b2,b3,b4⟩,⟨e,s,o,st,ap⟩,k⟩) (MsgD.msg ⟨mk,mf,mt,mn,mv,me,mb,ml⟩)).1),.dat ((ds 2).like (learnRl (RlD.rl ⟨⟨a1,a2,a3,a4⟩,⟨b1,b2,b3,b4⟩,⟨e,s,o,st,ap⟩,k⟩) (MsgD.msg ⟨mk,mf,mt,mn,mv,me,mb,ml⟩)).2)]) _
 obtain ⟨h1,h2,h3,h4,h5⟩ := id hx
 simp only at h1 h2 h3 h4 h5
 refine ⟨hx,fun c1=>ret_rl2 (stands_self h1) (stands_self h2) stands_nils ?_,fun c1=>?_⟩
 ·have c1 : ckRl (RlD.rl ⟨⟨a1,a2,a3,a4⟩,⟨b1,b2,b3,b4⟩,⟨e,s,o,st,ap⟩,k⟩) ≠ 0 := by simpa using c1
  unfold learnRl; rw [if_pos c1]; rfl
 have c1 : ckRl (RlD.rl ⟨⟨a1,a2,a3,a4⟩,⟨b1,b2,b3,b4⟩,⟨e,s,o,st,ap⟩,k⟩) = 0 := by simpa using c1
 obtain ⟨_,_,_,hf⟩ := ck_range c1
 have hmin : ∀ c,c ∈ k.to Cy → c.number > -9223372036854775808 := fun c hc=>by
  have := cy_num (ck_cy hf c hc); omega
 have kl := D.Is.length (α := Cy) k
 refine runs_frame (Φ := bgPhi ⟨⟨a1,a2,a3,a4⟩,⟨b1,b2,b3,b4⟩,⟨e,s,o,st,ap⟩,k⟩) (top := bgC ⟨⟨a1,a2,a3,a4⟩,⟨b1,b2,b3,b4⟩,⟨e,s,o,st,ap⟩,k⟩) bgC_pure (fun kx hk=>?_) (fun H w _=>bgRuns hx hmin) fun v m hv=>?_
 ·have h : (SV.keysL (mkJ 0 [(3,SV.ptr 0 0),(4,SV.ptr 1 0)] 0 60) ++ ((([] : List SFrm).flatMap fun f=>SV.keysL f.tmps) ++ Mem.named [(0,OBlk.cells 72 [.int .i64 mk,.int .i64 mf,.int .i64 mt,.int .i64 mn,.int .i64 mv,.int .i64 me,SV.dat mb,SV.dat ml]),(1,OBlk.cells 37 rlZ)])).all (fun k=>decide (k < 500)) = true := by kernel_rfl
  exact of_decide_eq_true (List.all_eq_true.1 h kx hk)
 ·obtain ⟨rfl,p,q,rfl,⟨p1,p2,p3⟩,q1,q2,q3⟩ := hv
  simp only at q3 p3
  show Runs _ _ (clnA ⟨⟨a1,a2,a3,a4⟩,⟨b1,b2,b3,b4⟩,⟨e,s,o,st,ap⟩,k⟩ p q mk mf mt mn mv me mb ml) _
  apply goS_sound ctApOk (fun _=>false) [(63,8)] 400
  rw [clnA_go]
  have eo : SrcD.src ⟨e,s,p,st,ap⟩ = Rl.src (RlD.rl ⟨⟨a1,a2,a3,a4⟩,⟨b1,b2,b3,b4⟩,⟨e,s,o,st,ap⟩,k⟩) := by
   show (⟨e,s,p.to Int,st,ap⟩ : Src) = ⟨e,s,o.to Int,st,ap⟩
   rw [p3]
  rw [eo]
  refine fun hs=>⟨p1,fun _ _=>?_⟩
  generalize hL : learn (Rl.src (RlD.rl ⟨⟨a1,a2,a3,a4⟩,⟨b1,b2,b3,b4⟩,⟨e,s,o,st,ap⟩,k⟩)) (MsgD.msg ⟨mk,mf,mt,mn,mv,me,mb,ml⟩) = L
  obtain ⟨⟨le,ls,lo,lst,lap⟩,lm⟩ := L
  have hdef : learnRl (RlD.rl ⟨⟨a1,a2,a3,a4⟩,⟨b1,b2,b3,b4⟩,⟨e,s,o,st,ap⟩,k⟩) (MsgD.msg ⟨mk,mf,mt,mn,mv,me,mb,ml⟩) = if le > e then (⟨⟨le,a2,a3,a4⟩,⟨le,b2,lst,lap⟩,⟨le,ls,lo,lst,lap⟩,[]⟩,lm) else (⟨⟨a1,a2,a3,a4⟩,⟨b1,b2,lst,lap⟩,⟨le,ls,lo,lst,lap⟩,behindL (k.to Cy) lap⟩,lm) := by
   unfold learnRl
   rw [if_neg (by simp [c1])]
   simp only [hL]
   rfl
  rw [hdef]
  refine cln_loop (k := k) (n := lap) q1 q3 (by omega) h5 stands_like stands_like (fun c=>?_) (fun c=>?_)
  ·rw [if_pos (of_decide_eq_true c)]
  ·rw [if_neg (of_decide_eq_false c)]
end Sv
end
noncomputable section
open Go Go.Proofs Sx
namespace Sv

section
variable (b n d k v : Int)
end
end Sv
end
noncomputable section
open Go Go.Proofs Sx
namespace Sx
def smallC (b n d : Int) : Cy := ⟨b,n,0,[],[⟨0,Int.tmod n 4,[⟨IntKind.u8.wrap n,d,0,0,0,0,0,0⟩]⟩]⟩
end Sx
namespace Sv
end Sv
end
noncomputable section
open Go Go.Proofs Sx
namespace Sv
section
end
end Sv
end
noncomputable section
open Go Go.Proofs Sx
namespace Sx
end Sx
namespace Sv
section
variable (d s o k r o' k' : D) (b : Nat) (n j a a1 a2 a3 a4 b1 b2 b3 b4 e si st ap ep na a1' a2' a3' a4' b1' b2' b3' b4' e' si' st' ap' : Int)




end
end Sv
end
noncomputable section
open Go Go.Proofs Sx
namespace Sv
section
variable (d s o k r o' k' : D) (b : Nat) (n j a a1 a2 a3 a4 b1 b2 b3 b4 e si st ap ep na a1' a2' a3' a4' b1' b2' b3' b4' e' si' st' ap' : Int)
end
section
variable (e s st ap j n last k m e' s' st' ap' mk mf mt mn mv me mx xk xf xt xn xv xe : Int) (d d' mb ml xb xl : D) (o ms : D)
end

end Sv
end
noncomputable section
open Go Go.Proofs Sx
namespace Sx
end Sx
namespace Sv
end Sv
end
noncomputable section
open Go Go.Proofs Sx
namespace Sv

def sC (o k : D) (r : Rl) (nv : D) (f : Tgt) (im : D) (x y z : SV) (n : Int) : List SV := rlL o k r ++ [.dat nv,.mapp 100001,.int .i64 f.epoch,.int .i64 f.site,.int .i64 f.stored,.int .i64 f.applied,.dat im,x,y,z,.int .i64 n]
def sysM (o k nv m im tf tn : D) (r : Rl) (far : Tgt) (num : Int) (sv : SV) (bl : Mem) : Mem :=
  (100000,.cells 62 (rlL o k r ++ [.dat nv,.mapp 100001,.int .i64 far.epoch,.int .i64 far.site,.int .i64 far.stored,.int .i64 far.applied,.dat im,sv,.vec 1,.vec 2,.int .i64 num])) ::
   (100001,.mapD .i64 false [.slc] m) :: (1,.arr 72 tf) :: (2,.arr 72 tn) :: bl
def sysE (f : FuncId) (n : Nat) (args : List (Nat × SV)) (m : Mem) : Conf := ⟨SFrm.mk f none none [Item.code (cA f [])] (mkJ 1 args 0 n),[],m⟩
section
variable (o k nv m im st tf tn : D) (r : Rl) (far : Tgt) (lo n : Nat) (num w d : Int)
end
end Sv
end
noncomputable section
open Go Go.Proofs Sx
namespace Sx
theorem tmod4 {n : Int} (h : 0 ≤ n) : 0 ≤ Int.tmod n 4 ∧ Int.tmod n 4 < 4 := by
 rw [Int.tmod_eq_emod_of_nonneg h]; omega
theorem small_cy {b n d : Int} {sz : List Int} (hs : sizesErr sz = 0) (h4 : 4 ≤ sz.getD 0 0) (hb : 0 ≤ b) (hn : b < n) (hm : n ≤ 1073741824) : cyErr (smallC b n d) sz = 0 := by
 obtain ⟨h1,h2⟩ := tmod4 (n := n) (by omega)
 obtain ⟨l1,_,_⟩ := sizesErr_ok hs
 unfold cyErr
 rw [if_neg (by simp [hs]),if_neg (by simp only [smallC]; omega),if_neg (by simp [smallC,badTime]),if_neg (by simp [smallC,posErr])]
 unfold coErr
 rw [if_neg (by simp [hs])]
 have hf : fitsErr sz ⟨0,Int.tmod n 4,[⟨IntKind.u8.wrap n,d,0,0,0,0,0,0⟩]⟩ = 0 := by
  unfold fitsErr
  rw [if_neg (by simp only; omega),if_neg (by simp),if_neg (by simp only [List.length_cons,List.length_nil,Int.toNat_zero]; omega)]
 simp [smallC,canonErr,hf,cyBad]
def ChainS : Int → List Cy → Prop
 | _,[]=>True
 | a,c :: r=>(∃ d,c = smallC a c.number d) ∧ a < c.number ∧ c.number ≤ 1073741824 ∧ ChainS c.number r
def lastN (a : Int) (l : List Cy) : Int := (l.map Cy.number).getLastD a
theorem lastN_cons (a : Int) (c : Cy) (l : List Cy) : lastN a (c :: l) = lastN c.number l := by
 unfold lastN; cases l <;> rfl
theorem lastN_snoc (a : Int) (l : List Cy) (c : Cy) : lastN a (l ++ [c]) = c.number := by
 induction l generalizing a with
 | nil=>rfl
 | cons x r ih=>rw [List.cons_append,lastN_cons,ih]
theorem chain_le {a : Int} {l : List Cy} (h : ChainS a l) : a ≤ lastN a l ∧ ∀ c,c ∈ l → a < c.number ∧ c.number ≤ lastN a l ∧ a ≤ c.base ∧ c.number ≤ 1073741824 := by
 induction l generalizing a with
 | nil=>exact ⟨Int.le_refl _,fun c hc=>by cases hc⟩
 | cons x r ih =>
  obtain ⟨⟨d,k1⟩,k2,k3,k4⟩ := h
  obtain ⟨i1,i2⟩ := ih k4
  rw [lastN_cons]
  refine ⟨by omega,fun c hc=>?_⟩
  rcases List.mem_cons.1 hc with rfl | hc
  ·refine ⟨k2,i1,?_,k3⟩
   rw [k1]; exact Int.le_refl _
  ·have := i2 c hc; omega
theorem chain_err {a : Int} {l : List Cy} (h0 : 0 ≤ a) (h : ChainS a l) {c : Cy} (hc : c ∈ l) : cyErr c most = 0 := by
 induction l generalizing a with
 | nil=>cases hc
 | cons x r ih =>
  obtain ⟨⟨d,k1⟩,k2,k3,k4⟩ := h
  rcases List.mem_cons.1 hc with rfl | hc
  ·rw [k1]; exact small_cy (by decide) (by decide) h0 k2 k3
  ·exact ih (by omega) k4 hc
theorem chain_leads {a : Int} {l : List Cy} (h : ChainS a l) : leadsI l a = (lastN a l,true) := by
 induction l generalizing a with
 | nil=>rfl
 | cons x r ih =>
  obtain ⟨⟨d,k1⟩,k2,k3,k4⟩ := h
  have hb : x.base = a := by rw [k1]; rfl
  unfold leadsI
  rw [if_neg (by omega),ih k4,lastN_cons]
theorem chain_asc {a : Int} {l : List Cy} (h : ChainS a l) : asc32 a (l.map Cy.number) = true := by
 induction l generalizing a with
 | nil=>rfl
 | cons x r ih =>
  obtain ⟨_,k2,k3,k4⟩ := h
  simp only [List.map_cons,asc32,Bool.and_eq_true,decide_eq_true_eq]
  exact ⟨⟨k2,k3⟩,ih k4⟩
def relR (A S N : Int) (K : List Cy) : Rl := ⟨⟨1,1,N,N⟩,⟨1,2,S,A⟩,⟨1,2,K.map Cy.number,S,A⟩,K⟩
structure RelOk (A S N : Int) (K : List Cy) : Prop where
 a0 : 0 ≤ A
 ch : ChainS A K
 len : K.length ≤ 1000
 last : lastN A K = N
 top : N ≤ 1073741824
 st : S = A ∨ S ∈ K.map Cy.number
theorem RelOk.range {A S N : Int} {K : List Cy} (h : RelOk A S N K) : A ≤ S ∧ S ≤ N ∧ A ≤ N := by
 obtain ⟨c1,c2⟩ := chain_le h.ch
 rw [h.last] at c1
 rcases h.st with rfl | hs
 ·exact ⟨Int.le_refl _,c1,c1⟩
 ·obtain ⟨c,hc,rfl⟩ := List.mem_map.1 hs
  have := c2 c hc
  rw [h.last] at this
  omega
theorem RelOk.src {A S N : Int} {K : List Cy} (h : RelOk A S N K) : checkSource ⟨1,2,K.map Cy.number,S,A⟩ = 0 := by
 obtain ⟨r1,r2,r3⟩ := h.range
 have := h.a0; have := h.top; have := h.len
 unfold checkSource
 rw [if_neg,if_neg,if_neg,if_neg]
 ·rintro ⟨k1,k2⟩
  rcases h.st with k | k
  ·exact k1 k
  ·exact k2 k
 ·rw [chain_asc h.ch]; decide
 ·simp only [List.length_map]; omega
 ·simp [okRight,okTime,okSite]; omega
theorem RelOk.ck {A S N : Int} {K : List Cy} (h : RelOk A S N K) : ckRl (relR A S N K) = 0 := by
 obtain ⟨r1,r2,r3⟩ := h.range
 have := h.a0; have := h.top
 unfold ckRl
 have t1 : checkTarget (relR A S N K).near = 0 := by
  unfold checkTarget relR
  rw [if_neg (by simp [okTime,okSite]),if_neg (by simp only; omega)]
 have t2 : checkTarget (relR A S N K).far = 0 := by
  unfold checkTarget relR
  rw [if_neg (by simp [okTime,okSite]),if_neg (by simp only; omega)]
 have t3 : checkSource (relR A S N K).src = 0 := h.src
 rw [if_neg (by simp [t1]),if_neg (by simp [t2]),if_neg (by simp [t3])]
 have hall : (K.all fun c=>decide (cyErr c most = 0)) = true := by
  rw [List.all_eq_true]
  intro c hc
  rw [decide_eq_true_eq]
  obtain ⟨_,c2⟩ := chain_le h.ch
  have hd := c2 c hc
  exact chain_err h.a0 h.ch hc
 have hf : formedR (relR A S N K) = true := by
  unfold formedR relR
  rw [chain_leads h.ch,h.last]
  simp [hall]
 rw [if_neg (by rw [hf]; decide)]

def ChainG : Int → List Cy → Prop
 | _,[]=>True
 | a,c :: r=>(c.base = a ∧ cyErr c most = 0) ∧ a < c.number ∧ c.number ≤ 1073741824 ∧ ChainG c.number r
theorem chainG_snoc {a : Int} {l : List Cy} {c : Cy} (h : ChainG a l) (hb : c.base = lastN a l) (he : cyErr c most = 0) (h1 : lastN a l < c.number) (h2 : c.number ≤ 1073741824) : ChainG a (l ++ [c]) := by
 induction l generalizing a with
 | nil=>exact ⟨⟨hb,he⟩,h1,h2,trivial⟩
 | cons x r ih =>
  obtain ⟨k1,k2,k3,k4⟩ := h
  rw [lastN_cons] at h1 hb
  exact ⟨k1,k2,k3,ih k4 hb h1⟩
theorem chainG_le {a : Int} {l : List Cy} (h : ChainG a l) : a ≤ lastN a l ∧ ∀ c,c ∈ l → a < c.number ∧ c.number ≤ lastN a l ∧ a ≤ c.base ∧ c.number ≤ 1073741824 := by
 induction l generalizing a with
 | nil=>exact ⟨Int.le_refl _,fun c hc=>by cases hc⟩
 | cons x r ih =>
  obtain ⟨k1,k2,k3,k4⟩ := h
  obtain ⟨i1,i2⟩ := ih k4
  rw [lastN_cons]
  refine ⟨by omega,fun c hc=>?_⟩
  rcases List.mem_cons.1 hc with rfl | hc
  ·refine ⟨k2,i1,?_,k3⟩
   rw [k1.1]; exact Int.le_refl _
  ·have := i2 c hc; omega
theorem chainG_err {a : Int} {l : List Cy} (h0 : 0 ≤ a) (h : ChainG a l) {c : Cy} (hc : c ∈ l) : cyErr c most = 0 := by
 induction l generalizing a with
 | nil=>cases hc
 | cons x r ih =>
  obtain ⟨k1,k2,k3,k4⟩ := h
  rcases List.mem_cons.1 hc with rfl | hc
  ·exact k1.2
  ·exact ih (by omega) k4 hc
theorem chainG_leads {a : Int} {l : List Cy} (h : ChainG a l) : leadsI l a = (lastN a l,true) := by
 induction l generalizing a with
 | nil=>rfl
 | cons x r ih =>
  obtain ⟨k1,k2,k3,k4⟩ := h
  have hb : x.base = a := k1.1
  unfold leadsI
  rw [if_neg (by omega),ih k4,lastN_cons]
theorem chainG_asc {a : Int} {l : List Cy} (h : ChainG a l) : asc32 a (l.map Cy.number) = true := by
 induction l generalizing a with
 | nil=>rfl
 | cons x r ih =>
  obtain ⟨_,k2,k3,k4⟩ := h
  simp only [List.map_cons,asc32,Bool.and_eq_true,decide_eq_true_eq]
  exact ⟨⟨k2,k3⟩,ih k4⟩
def relG (A S N : Int) (K : List Cy) : Rl := ⟨⟨1,0,N,N⟩,⟨1,1,S,A⟩,⟨1,1,K.map Cy.number,S,A⟩,K⟩
structure RelG (A S N : Int) (K : List Cy) : Prop where
 a0 : 0 ≤ A
 ch : ChainG A K
 len : K.length ≤ 1000
 last : lastN A K = N
 top : N ≤ 1073741824
 st : S = A ∨ S ∈ K.map Cy.number
theorem RelG.range {A S N : Int} {K : List Cy} (h : RelG A S N K) : A ≤ S ∧ S ≤ N ∧ A ≤ N := by
 obtain ⟨c1,c2⟩ := chainG_le h.ch
 rw [h.last] at c1
 rcases h.st with rfl | hs
 ·exact ⟨Int.le_refl _,c1,c1⟩
 ·obtain ⟨c,hc,rfl⟩ := List.mem_map.1 hs
  have := c2 c hc
  rw [h.last] at this
  omega
theorem RelG.src {A S N : Int} {K : List Cy} (h : RelG A S N K) : checkSource ⟨1,1,K.map Cy.number,S,A⟩ = 0 := by
 obtain ⟨r1,r2,r3⟩ := h.range
 have := h.a0; have := h.top; have := h.len
 unfold checkSource
 rw [if_neg,if_neg,if_neg,if_neg]
 ·rintro ⟨k1,k2⟩
  rcases h.st with k | k
  ·exact k1 k
  ·exact k2 k
 ·rw [chainG_asc h.ch]; decide
 ·simp only [List.length_map]; omega
 ·simp [okRight,okTime,okSite]; omega
theorem RelG.ck {A S N : Int} {K : List Cy} (h : RelG A S N K) : ckRl (relG A S N K) = 0 := by
 obtain ⟨r1,r2,r3⟩ := h.range
 have := h.a0; have := h.top
 unfold ckRl
 have t1 : checkTarget (relG A S N K).near = 0 := by
  unfold checkTarget relG
  rw [if_neg (by simp [okTime,okSite]),if_neg (by simp only; omega)]
 have t2 : checkTarget (relG A S N K).far = 0 := by
  unfold checkTarget relG
  rw [if_neg (by simp [okTime,okSite]),if_neg (by simp only; omega)]
 have t3 : checkSource (relG A S N K).src = 0 := h.src
 rw [if_neg (by simp [t1]),if_neg (by simp [t2]),if_neg (by simp [t3])]
 have hall : (K.all fun c=>decide (cyErr c most = 0)) = true := by
  rw [List.all_eq_true]
  intro c hc
  rw [decide_eq_true_eq]
  obtain ⟨_,c2⟩ := chainG_le h.ch
  have hd := c2 c hc
  exact chainG_err h.a0 h.ch hc
 have hf : formedR (relG A S N K) = true := by
  unfold formedR relG
  rw [chainG_leads h.ch,h.last]
  simp [hall]
 rw [if_neg (by rw [hf]; decide)]
theorem behindG_all {a : Int} {l : List Cy} (h : ChainG a l) {n : Int} (hn : n ≤ a) : behindL l n = l :=
 behindL_all fun c hc=>by have := (chainG_le h).2 c hc; omega
theorem applyG_rel {A S N n : Int} {K : List Cy} {c : Cy} (h : RelG A S N K) (hl : K.length < 1000) (hb : c.base = N) (hn : c.number = n) (he : cyErr c most = 0) (h1 : N < n) (h2 : n ≤ 1073741824) :
  applyRl (relG A S N K) c = (relG A S n (K ++ [c]),[⟨8,0,1,n,0,1,[],[]⟩],0) ∧ RelG A S n (K ++ [c]) := by
 obtain ⟨r1,r2,r3⟩ := h.range
 have ha := h.a0
 have hfr : frontRl (relG A S N K) = N := h.last
 have hlo : lastOf A (K.map Cy.number) = N := h.last
 have hof : offer ⟨1,1,K.map Cy.number,S,A⟩ n = (⟨1,1,K.map Cy.number ++ [n],S,A⟩,[⟨8,0,1,n,0,1,[],[]⟩],0) := by
  rw [offer_c h.src hlo,if_neg (by omega),if_neg (by omega),if_neg (by simp only [List.length_map]; omega)]
 constructor
 ·unfold applyRl
  rw [if_neg (by simp [h.ck]),if_neg (by rw [he]; simp),if_neg (by simp only [hb,relG]; omega),if_neg (by simp only [hn,relG]; omega),if_neg (by rw [hfr]; omega)]
  have e1 : (relG A S N K).src = ⟨1,1,K.map Cy.number,S,A⟩ := rfl
  rw [e1,hn,hof,if_neg (by simp)]
  simp [relG,hn]
 ·refine ⟨ha,?_,by simp only [List.length_append,List.length_cons,List.length_nil]; omega,by rw [lastN_snoc]; exact hn,h2,?_⟩
  ·exact chainG_snoc h.ch (by rw [h.last]; exact hb) he (by rw [h.last,hn]; exact h1) (by rw [hn]; exact h2)
  ·rcases h.st with k | k
   ·exact .inl k
   ·exact .inr (by rw [List.map_append]; exact List.mem_append_left _ k)
theorem learnG_src {A S N : Int} {K : List Cy} (h : RelG A S N K) (k v mn t : Int) (vs : List Int) (bs : List Byte) :
  learn ⟨1,1,K.map Cy.number,S,A⟩ ⟨k,1,t,mn,v,1,vs,bs⟩ = if k ≠ 9 ∧ k ≠ 11 ∧ k ≠ 12 then (⟨1,1,K.map Cy.number,S,A⟩,[])
   else if k = 9 then (if v ∈ K.map Cy.number ∧ v ≥ S then (⟨1,1,K.map Cy.number,v,A⟩,[⟨10,0,1,v,0,1,[],[]⟩]) else (⟨1,1,K.map Cy.number,S,A⟩,[]))
   else if k = 11 then (if v ∈ K.map Cy.number then (⟨1,1,(K.map Cy.number).filter fun x=>decide (x > v),max S v,v⟩,[]) else (⟨1,1,K.map Cy.number,S,A⟩,[]))
   else (⟨1,1,K.map Cy.number,S,A⟩,[]) := by
 rw [learn_eq h.src rfl (by omega) (by omega)]
 split
 ·rfl
 ·rw [if_neg (by omega)]
theorem behindG_map (l : List Cy) (n : Int) : (behindL l n).map Cy.number = (l.map Cy.number).filter fun x=>decide (x > n) := by
 induction l with
 | nil=>rfl
 | cons c r ih =>
  unfold behindL at ih ⊢
  simp only [List.filter_cons,List.map_cons]
  split
  ·rw [List.map_cons,ih]
  ·exact ih
theorem chainG_cut {a : Int} {l : List Cy} (h : ChainG a l) {v : Int} (hv : v ∈ l.map Cy.number) : ChainG v (behindL l v) ∧ lastN v (behindL l v) = lastN a l := by
 induction l generalizing a with
 | nil=>cases hv
 | cons x r ih =>
  obtain ⟨k1,k2,k3,k4⟩ := h
  rcases List.mem_cons.1 hv with rfl | hv
  ·have e : behindL (x :: r) x.number = r := by
    have := behindG_all k4 (n := x.number) (Int.le_refl _)
    unfold behindL at this ⊢
    rw [List.filter_cons,if_neg (by simp),this]
   rw [e,lastN_cons]
   exact ⟨k4,rfl⟩
  ·obtain ⟨c,hc,rfl⟩ := List.mem_map.1 hv
   have hlt := (chainG_le k4).2 c hc
   have e : behindL (x :: r) c.number = behindL r c.number := by
    unfold behindL
    rw [List.filter_cons,if_neg (by simp; omega)]
   rw [e,lastN_cons]
   exact ih k4 hv
theorem learnG_of {A S N s' a' : Int} {K : List Cy} {m : Msg} {O : List Int} {ms : List Msg} (h : RelG A S N K) (hL : learn ⟨1,1,K.map Cy.number,S,A⟩ m = (⟨1,1,O,s',a'⟩,ms)) :
  learnRl (relG A S N K) m = (⟨⟨1,0,N,N⟩,⟨1,1,s',a'⟩,⟨1,1,O,s',a'⟩,behindL K a'⟩,ms) := by
 have e1 : (relG A S N K).src = ⟨1,1,K.map Cy.number,S,A⟩ := rfl
 unfold learnRl
 rw [if_neg (by simp [h.ck])]
 simp only [e1,hL,gt_iff_lt,Int.lt_irrefl,if_false]
 rfl
theorem learnG_stored {A S N v mn t : Int} {K : List Cy} {vs : List Int} {bs : List Byte} (h : RelG A S N K) :
  (learnRl (relG A S N K) ⟨9,1,t,mn,v,1,vs,bs⟩ = (relG A S N K,[]) ∨ (learnRl (relG A S N K) ⟨9,1,t,mn,v,1,vs,bs⟩ = (relG A v N K,[⟨10,0,1,v,0,1,[],[]⟩]) ∧ RelG A v N K ∧ v ≥ S)) := by
 have hb : behindL K A = K := behindG_all h.ch (Int.le_refl _)
 have hl := learnG_src h 9 v mn t vs bs
 rw [if_neg (by omega),if_pos rfl] at hl
 by_cases hv : v ∈ K.map Cy.number ∧ v ≥ S
 ·rw [if_pos hv] at hl
  refine .inr ⟨?_,⟨h.a0,h.ch,h.len,h.last,h.top,.inr hv.1⟩,hv.2⟩
  rw [learnG_of h hl,hb]; rfl
 ·rw [if_neg hv] at hl
  left
  rw [learnG_of h hl,hb]; rfl
theorem learnG_applied {A S N v mn t : Int} {K : List Cy} {vs : List Int} {bs : List Byte} (h : RelG A S N K) :
  learnRl (relG A S N K) ⟨11,1,t,mn,v,1,vs,bs⟩ = (relG A S N K,[]) ∨ (v ∈ K.map Cy.number ∧ learnRl (relG A S N K) ⟨11,1,t,mn,v,1,vs,bs⟩ = (relG v (max S v) N (behindL K v),[]) ∧ RelG v (max S v) N (behindL K v)) := by
 have hb : behindL K A = K := behindG_all h.ch (Int.le_refl _)
 have hl := learnG_src h 11 v mn t vs bs
 rw [if_neg (by omega),if_neg (by omega),if_pos rfl] at hl
 by_cases hv : v ∈ K.map Cy.number
 ·rw [if_pos hv] at hl
  refine .inr ⟨hv,?_,?_⟩
  ·rw [learnG_of h hl,← behindG_map]; rfl
  ·obtain ⟨c1,c2⟩ := chainG_cut h.ch hv
   obtain ⟨c,hc,rfl⟩ := List.mem_map.1 hv
   have hlt := (chainG_le h.ch).2 c hc
   have := h.a0
   refine ⟨by omega,c1,Nat.le_trans (List.length_filter_le _ _) h.len,c2.trans h.last,h.top,?_⟩
   rw [Int.max_def]
   split
   ·exact .inl rfl
   ·rename_i hSv
    right
    rw [behindG_map]
    rcases h.st with k | k
    ·omega
    ·exact List.mem_filter.2 ⟨k,by simpa using hSv⟩
 ·rw [if_neg hv] at hl
  left
  rw [learnG_of h hl,hb]; rfl
def Im4 (im : List Vol) : Prop := volSizes im = [4]
structure Sys where
 r : Rl
 near : List Vol
 images : List (Int × List Vol)
 far : Tgt
 image : List Vol
 staged : List Cy
 toFar : List Msg
 toNear : List Msg
 numbers : Int
def looks (l : List (Int × List Vol)) (n : Int) : Option (List Vol) := (l.find? fun p=>decide (p.1 = n)).map Prod.snd
def Leads (l : List (Int × List Vol)) (c : Cy) : Prop := ∃ im im',looks l c.base = some im ∧ looks l c.number = some im' ∧ Im4 im ∧ applyCy im c = (im',0)
structure SysOk (s : Sys) (A S Sf Af : Int) (K : List Cy) : Prop where
 rel : RelOk A S s.numbers K
 r : s.r = relR A S s.numbers K
 far : s.far = ⟨1,2,Sf,Af⟩
 le : A ≤ Af ∧ S ≤ Sf ∧ Sf ≤ s.numbers
 at' : Sf = A ∨ Sf ∈ K.map Cy.number
 ch : ChainS Af s.staged
 last : lastN Af s.staged = Sf
 img : looks s.images Af = some s.image ∧ Im4 s.image
 near : looks s.images s.numbers = some s.near ∧ Im4 s.near
 new : ∀ p,p ∈ s.images → p.1 ≤ s.numbers
 kept : ∀ c,c ∈ K → Leads s.images c
 stg : ∀ c,c ∈ s.staged → Leads s.images c
 far_m : ∀ m,m ∈ s.toFar → (m.kind = 8 ∨ m.kind = 10) ∧ m.to = 2 ∧ m.epoch = 1
 near_m : ∀ m,m ∈ s.toNear → m.frm = 2 ∧ m.epoch = 1 ∧ ((m.kind = 9 ∧ m.value ≤ Sf) ∨ (m.kind = 11 ∧ m.value ≤ Af))
 ims : ∀ p,p ∈ s.images → looks s.images p.1 = some p.2 ∧ (p.1 ≤ A ∨ p.1 ∈ K.map Cy.number)
theorem looks_app {l : List (Int × List Vol)} {k n : Int} {v x : List Vol} (h : looks l k = some x) : looks (l ++ [(n,v)]) k = some x := by
 unfold looks at h ⊢
 rw [List.find?_append]
 cases hf : l.find? fun p=>decide (p.1 = k) with
 | none=>rw [hf] at h; cases h
 | some p=>rw [hf] at h; exact h
theorem Leads.app {l : List (Int × List Vol)} {c : Cy} {n : Int} {v : List Vol} (h : Leads l c) : Leads (l ++ [(n,v)]) c := by
 obtain ⟨im,im',h1,h2,h3,h4⟩ := h
 exact ⟨im,im',looks_app h1,looks_app h2,h3,h4⟩
theorem next_mem {r : Rl} (h : (nextRl r).2 = true) : (nextRl r).1 ∈ r.kept ∧ (nextRl r).1.number > r.src.stored := by
 unfold nextRl at h ⊢
 split
 ·rename_i hc; rw [if_pos hc] at h; cases h
 ·rename_i hc
  rw [if_neg hc] at h
  cases hb : behindL r.kept r.src.stored with
  | nil=>rw [hb] at h; cases h
  | cons c t =>
   have hm : c ∈ behindL r.kept r.src.stored := by rw [hb]; exact List.mem_cons_self
   obtain ⟨m1,m2⟩ := List.mem_filter.1 hm
   exact ⟨m1,by simpa using m2⟩
theorem chain_mem {a : Int} {l : List Cy} (h : ChainS a l) {c : Cy} (hc : c ∈ l) : ∃ d,c = smallC c.base c.number d := by
 induction l generalizing a with
 | nil=>cases hc
 | cons x r ih =>
  obtain ⟨⟨d,k1⟩,k2,k3,k4⟩ := h
  rcases List.mem_cons.1 hc with rfl | hc
  ·have hb : c.base = a := by rw [k1]; rfl
   exact ⟨d,by rw [hb]; exact k1⟩
  ·exact ih k4 hc
end Sx
end
noncomputable section
namespace Sx
open Go
end Sx
end
noncomputable section
namespace Sx
open Go
end Sx
end
noncomputable section
open Go Go.Proofs Sx
namespace Sv
def lkL (l : D) (vo s i : Int) : Conf := ⟨⟨145,none,none,[Item.inLoop (cA 145 [1,0,1,0,0]),Item.inBlock 0,Item.code (cA 145 [1,1])],mkJ 0 [(0,.dat l),(1,.int .i64 vo),(2,.int .i64 s),(6,.ptr 0 0),(8,.int .i64 i)] 0 38⟩,[],[(0,.cells 141 [.int .u8 0,.int .u8 0,.int .u8 0,.int .u8 0,.int .u8 0,.int .u8 0,.int .u8 0,.int .u8 0])]⟩
def liL (m : D) (o : SV) (i : Int) (mm : Mem) : Conf := ⟨⟨147,none,none,[Item.inLoop (cA 147 [1,1,0,1,0,0]),Item.inBlock 0,Item.code (cA 147 [1,1,1])],mkJ 0 [(0,.dat m),(3,o),(4,.int .i64 i)] 0 41⟩,[],mm⟩
def f7L (l : D) (i : Int) : Conf := ⟨⟨39,none,none,[Item.inLoop (cA 39 [1,1,0,1,0,0]),Item.inBlock 0,Item.code (cA 39 [1,1,1])],mkJ 0 [(0,.dat l),(3,.int .i64 i)] 0 19⟩,[],[]⟩
def rzL (l : D) (o : SV) (i : Int) (mm : Mem) : Conf := ⟨⟨38,none,none,[Item.inLoop (cA 38 [1,1,0,1,0,0]),Item.inBlock 0,Item.code (cA 38 [1,1,1])],mkJ 0 [(3,o),(6,.dat l),(7,.int .i64 (l.len : Int)),(8,.int .i64 i)] 0 19⟩,[],mm⟩
section
variable (v st s vo k i : Int) (d l es m o : D)
theorem lku_in : exec Try.prog [] 300 (entry Try.prog 145 [.dat l,.int .i64 vo,.int .i64 s]) =
 Tree.leaf
 (Conf.mk
 (SFrm.mk 145 none none
 [Item.inLoop (cA 145 [1,0,1,0,0]),Item.inBlock 0,Item.code (cA 145 [1,1])]
 (mkJ 0
 [(0,.dat l),(1,.int .i64 vo),(2,.int .i64 s),(6,.ptr 0 0),
 (8,.int .i64 (IntKind.wrap .i64 ((↑(D.len l) : Int) - 1)))]
 0 38))
 []
 [(0,
 OBlk.cells 141
 [.int .u8 0,.int .u8 0,.int .u8 0,.int .u8 0,.int .u8 0,
 .int .u8 0,.int .u8 0,.int .u8 0])]) := by kernel_rfl
theorem lku_go : 
 let z2 : Tree := (.leaf (Conf.mk (SFrm.mk 145 none none [Item.inLoop (cA 145 [1,0,1,0,0]),Item.inBlock 0,Item.code (cA 145 [1,1])] (mkJ 0 [(0,.dat l),(1,.int .i64 vo),(2,.int .i64 s),(6,.ptr 0 0),(8,.int .i64 (IntKind.wrap .i64 (i - 1)))] 0 38)) [] [(0,OBlk.cells 141 [.int .u8 0,.int .u8 0,.int .u8 0,.int .u8 0,.int .u8 0,.int .u8 0,.int .u8 0,.int .u8 0])]))
 let z4 := (Int.toNat (IntKind.wrap .i64 (s - D.getInt l (Int.toNat i) 1)))
 let z5 := (D.cell l (Int.toNat i) 2)
 let z1 : Tree := (.need (0 ≤ i ∧ i < (↑(D.len l) : Int) ∧ D.sz l = 3) (.need (D.HasCell l (Int.toNat i) 2 FT.slc) (.need (0 ≤ IntKind.wrap .i64 (s - D.getInt l (Int.toNat i) 1) ∧ IntKind.wrap .i64 (s - D.getInt l (Int.toNat i) 1) < (↑(D.len z5) : Int) ∧ D.sz z5 = 8) (.need (D.HasCells z5 z4 0 [FT.int .u8,FT.int .u8,FT.int .u8,FT.int .u8,FT.int .u8,FT.int .u8,FT.int .u8,FT.int .u8]) (.ret (SV.tup [.agg [.int .u8 (D.getInt z5 z4 0),.int .u8 (D.getInt z5 z4 1),.int .u8 (D.getInt z5 z4 2),.int .u8 (D.getInt z5 z4 3),.int .u8 (D.getInt z5 z4 4),.int .u8 (D.getInt z5 z4 5),.int .u8 (D.getInt z5 z4 6),.int .u8 (D.getInt z5 z4 7)],.lb true]))))))
 let z3 : Tree := (.all fun hs=>.br (decide (IntKind.wrap .i64 (s - D.getInt l (Int.toNat i) 1) < (↑(D.len z5) : Int))) z1 z2)
 exec Try.prog [] 300 (unroll (lkL l vo s i)) =
 Tree.br (decide (i ≥ 0)) (.need (0 ≤ i ∧ i < (↑(D.len l) : Int) ∧ D.sz l = 3) (.need (D.HasCells l (Int.toNat i) 0 [FT.int .i64,FT.int .i64,FT.slc]) (.br (D.getInt l (Int.toNat i) 0 != vo) z2 (.br (decide
 ((↑(D.len z5) : Int) = 0)) z2 (.br (decide (D.getInt l (Int.toNat i) 1 > s)) z2 (.br (decide (D.getInt l (Int.toNat i) 1 < 0)) (.br (decide (s ≥ 0)) (.br (decide (s ≥ IntKind.wrap .i64 (D.getInt l (Int.toNat i) 1 +
 (↑(D.len z5) : Int)))) z2 z1) z3) z3)))))) (.ret (SV.tup [.agg [.int .u8 0,.int .u8 0,.int .u8 0,.int .u8 0,.int .u8 0,.int .u8 0,.int .u8 0,.int .u8 0],.lb false])) := by
 intros; kernel_rfl
theorem lst_in : exec Try.prog [] 300 (entry Try.prog 147 [.dat m]) =
 Tree.leaf
 (Conf.mk
 (SFrm.mk 147 none none
 [Item.inLoop (cA 147 [1,1,0,1,0,0]),Item.inBlock 0,Item.code (cA 147 [1,1,1])]
 (mkJ 0 [(0,.dat m),(3,.nils),(4,.int .i64 0)] 0 41))
 [] []) := by kernel_rfl
theorem lst_go : 
 let z2 := (SFrm.mk 147 none none [Item.inLoop (cA 147 [1,1,0,1,0,0]),Item.inBlock 0,Item.code (cA 147 [1,1,1])] (mkJ 0 [(0,.dat m),(3,.vec 0),(4,.int .i64 (IntKind.wrap .i64 (i + 1)))] 0 41))
 let z1 : Tree := (.all fun hs=>.need (D.sz o = 2 ∧ D.Fits (D.slc (D.hd (hs 0 0)) 2 [[D.int .i64 i,D.int .i64 1]]) 2 ∧ (D.len o + D.len (D.slc (D.hd (hs 0 0)) 2 [[D.int .i64 i,D.int .i64 1]])) * 16 ≤ 140737488355328 ∧ D.len o + D.len (D.slc (D.hd (hs 0 0)) 2 [[D.int .i64 i,D.int .i64 1]]) ≤ 9223372036854775807) (.all fun hs_1=>.leaf (Conf.mk z2 [] [(0,OBlk.arr 203 (D.slc (D.hd (hs_1 0 0)) 2 (List.append (D.rows o) (D.rows (D.slc (D.hd (hs 0 0)) 2 [[D.int .i64 i,D.int .i64 1]])))))])))
 let z3 := (IntKind.wrap .i64 ((↑(D.len o) : Int) - 1))
 exec Try.prog [] 300 (unroll (liL m (.vec 0) i [(0,.arr 203 o)])) =
 Tree.br (decide (i < (↑(D.len m) : Int))) (.need (0 ≤ i ∧ i < (↑(D.len m) : Int) ∧ D.sz m = 1) (.need (D.HasCell m (Int.toNat i) 0 FT.bool) (.br (!D.getBool m (Int.toNat i) 0) (.leaf (Conf.mk z2 [] [(0,OBlk.arr 203 o)]))
 (.br (decide (i > 0)) (.need (0 ≤ IntKind.wrap .i64 (i - 1) ∧ IntKind.wrap .i64 (i - 1) < (↑(D.len m) : Int) ∧ D.sz m = 1) (.need (D.HasCell m (Int.toNat (IntKind.wrap .i64 (i - 1))) 0 FT.bool) (.br (D.getBool m
 (Int.toNat (IntKind.wrap .i64 (i - 1))) 0) (.need (0 ≤ IntKind.wrap .i64 ((↑(D.len o) : Int) - 1) ∧ IntKind.wrap .i64 ((↑(D.len o) : Int) - 1) < (↑(D.len o) : Int) ∧ D.sz o = 2) (.need (D.HasCell o (Int.toNat z3) 1
 (FT.int .i64) ∧ D.sz o = 2) (.need (0 ≤ IntKind.wrap .i64 ((↑(D.len o) : Int) - 1) ∧ IntKind.wrap .i64 ((↑(D.len o) : Int) - 1) < (↑(D.len o) : Int) ∧ D.sz o = 2) (.need (Int.toNat z3 < D.len o ∧ 2 ≤ D.sz o ∧ D.sz o = 2)
 (.leaf (Conf.mk z2 [] [(0,OBlk.arr 203 (D.setCells o (Int.toNat z3) 1 [D.int .i64 (IntKind.wrap .i64 (D.getInt o (Int.toNat z3) 1 + 1))]))])))))) z1))) z1)))) (.ret (.dat o)) := by
 intros; kernel_rfl
theorem few7_in : exec Try.prog [] 300 (entry Try.prog 39 [.dat l]) =
 Tree.br (decide ((↑(D.len l) : Int) > 9)) (.ret (.lb false))
 (.leaf
 (Conf.mk
 (SFrm.mk 39 none none
 [Item.inLoop (cA 39 [1,1,0,1,0,0]),Item.inBlock 0,Item.code (cA 39 [1,1,1])]
 (mkJ 0 [(0,.dat l),(3,.int .i64 0)] 0 19))
 [] [])) := by kernel_rfl
theorem few7_go : exec Try.prog [] 300 (unroll (f7L l i)) =
 Tree.br (decide (i < (↑(D.len l) : Int)))
 (.need (0 ≤ i ∧ i < (↑(D.len l) : Int) ∧ D.sz l = 1)
 (.need (D.HasCell l (Int.toNat i) 0 FT.slc)
 (.br (decide ((↑(D.len (D.cell l (Int.toNat i) 0)) : Int) > 24)) (.ret (.lb false))
 (.leaf
 (Conf.mk
 (SFrm.mk 39 none none
 [Item.inLoop (cA 39 [1,1,0,1,0,0]),Item.inBlock 0,Item.code (cA 39 [1,1,1])]
 (mkJ 0 [(0,.dat l),(3,.int .i64 (IntKind.wrap .i64 (i + 1)))] 0 19))
 [] [])))))
 (.ret (.lb true)) := by kernel_rfl
theorem rsz_in : exec Try.prog [] 300 (entry Try.prog 38 [.dat l]) =
 Tree.leaf
 (Conf.mk
 (SFrm.mk 38 none none
 [Item.inLoop (cA 38 [1,1,0,1,0,0]),Item.inBlock 0,Item.code (cA 38 [1,1,1])]
 (mkJ 0 [(3,.nils),(6,.dat l),(7,.int .i64 (↑(D.len l) : Int)),(8,.int .i64 0)] 0 19))
 [] []) := by kernel_rfl
theorem rsz_go : exec Try.prog [] 300 (unroll (rzL l (.vec 0) i [(0,.arr 3 o)])) =
 Tree.br (decide (i < (↑(D.len l) : Int)))
 (.need (0 ≤ i ∧ i < (↑(D.len l) : Int) ∧ D.sz l = 1)
 (.need (D.HasCell l (Int.toNat i) 0 FT.slc)
 (.all fun hs =>
 .need
 (D.sz o = 1 ∧
 D.Fits (D.slc (D.hd (hs 0 0)) 1 [[D.int .i64 (↑(D.len (D.cell l (Int.toNat i) 0)) : Int)]]) 1 ∧
 (D.len o +
 D.len
 (D.slc (D.hd (hs 0 0)) 1 [[D.int .i64 (↑(D.len (D.cell l (Int.toNat i) 0)) : Int)]])) *
 8 ≤
 140737488355328 ∧
 D.len o +
 D.len (D.slc (D.hd (hs 0 0)) 1 [[D.int .i64 (↑(D.len (D.cell l (Int.toNat i) 0)) : Int)]]) ≤
 9223372036854775807)
 (.all fun hs_1 =>
 .leaf
 (Conf.mk
 (SFrm.mk 38 none none
 [Item.inLoop (cA 38 [1,1,0,1,0,0]),Item.inBlock 0,
 Item.code (cA 38 [1,1,1])]
 (mkJ 0
 [(3,.vec 0),(6,.dat l),(7,.int .i64 (↑(D.len l) : Int)),
 (8,.int .i64 (IntKind.wrap .i64 (i + 1)))]
 0 19))
 []
 [(0,
 OBlk.arr 3
 (D.slc (D.hd (hs_1 0 0)) 1
 (List.append (D.rows o)
 (D.rows
 (D.slc (D.hd (hs 0 0)) 1
 [[D.int .i64 (↑(D.len (D.cell l (Int.toNat i) 0)) : Int)]])))))])))))
 (.ret (.dat o)) := by kernel_rfl
end
end Sv
end
noncomputable section
open Go Go.Proofs Sx
namespace Sx
def fewI (l : List Vol) : Bool := decide (l.length ≤ 9) && l.all fun v=>decide (v.l.length ≤ 24)
def spFewI (x : D) : SpecR := .scalar [x.Is Vol] (.bool (fewI (x.to Vol)))
def spRz (x : D) : SpecR := .data [x.Is Vol ∧ x.len * 24 ≤ 140737488355328] fun ds=>.dat ((ds 0).like (volSizes (x.to Vol)))
def secD (d : D) : List SV := [.int .u8 (d.getInt 0 0),.int .u8 (d.getInt 0 1),.int .u8 (d.getInt 0 2),.int .u8 (d.getInt 0 3),.int .u8 (d.getInt 0 4),.int .u8 (d.getInt 0 5),.int .u8 (d.getInt 0 6),.int .u8 (d.getInt 0 7)]
def FitW (w : Wt) : Prop := 0 ≤ w.start ∧ w.start ≤ 4096 ∧ w.data.length ≤ 4096
def spLk (x : D × Int × Int) : SpecR := .data [x.1.Is Wt ∧ x.1.len ≤ 1000000 ∧ (∀ w,w ∈ x.1.to Wt → FitW w) ∧ 0 ≤ x.2.2 ∧ x.2.2 ≤ 100000] fun ds=>.tup [.agg (secD (ds 0)),.bool ((ds 1).getBool 0 0)]
theorem ret_lk {P : Program} {w : World} {H : HV} {a b c d e f g h : Int} {v : SV} {bo : Bool} (hv : ∀ E,v.den E = .bool bo) :
  (Tree.ret (.tup [.agg [.int .u8 a,.int .u8 b,.int .u8 c,.int .u8 d,.int .u8 e,.int .u8 f,.int .u8 g,.int .u8 h],v])).holds P ⟨w,H⟩ (RetD w H fun ds=>.tup [.agg (secD (ds 0)),.bool ((ds 1).getBool 0 0)]) := by
 refine ret_D (fun i=>match i with | 0=>.slc none 8 [[.int .u8 a,.int .u8 b,.int .u8 c,.int .u8 d,.int .u8 e,.int .u8 f,.int .u8 g,.int .u8 h]] | _=>.slc none 1 [[.bool bo]]) (fun E E'=>?_) (fun H' _=>?_)
 ·simp only [SV.den,SV.denL,secD,hv]
  rfl
 ·simp [SV.Ok,SV.OkL,secD]
end Sx
namespace Sv
theorem lawFewI : Law Try.prog 39 (rdD.one.sp spFewI) := by
 refine law_in _ (by kernel_rfl) fun H w d hok hp=>?_
 have hd : d.Is Vol := hp _ (List.mem_singleton.2 rfl)
 have hl := D.Is.length (α := Vol) d
 apply exec_sound (noCtr _) 300
 rw [show rdD.one.canon d = [.dat d] from rfl,few7_in]
 refine ⟨fun hc=>?_,fun hc=>?_⟩
 ·have := of_decide_eq_true hc
  refine ret_S fun _ _=>?_
  have e : fewI (d.to Vol) = false := by
   unfold fewI
   rw [decide_eq_false (by omega)]; rfl
  simp [SV.den,e]
 have h9 : (d.to Vol).length ≤ 9 := by have := of_decide_eq_false hc; omega
 refine runs_loop (fun j : Nat=>f7L d j) (fun j=>j ≤ (d.to Vol).length ∧ ((d.to Vol).take j).all (fun v=>decide (v.l.length ≤ 24)) = true) (fun j=>(d.to Vol).length - j) (fun _=>rfl) ?_ 0 ⟨Nat.zero_le _,rfl⟩
 intro j ⟨hj,hpre⟩ ih
 apply exec_sound (noCtr _) 300
 rw [few7_go]
 refine ⟨fun hc=>?_,fun hc=>?_⟩
 ·have hlt : j < (d.to Vol).length := by have := of_decide_eq_true hc; omega
  obtain ⟨c1,c2,c3⟩ := vol_cell hd hlt
  have hcl := D.Is.length (α := Sec) (d.cell j 0)
  have htk : (d.to Vol).take (j + 1) = (d.to Vol).take j ++ [(d.to Vol)[j]] := by rw [List.take_append_getElem]
  refine ⟨⟨by omega,by omega,hd.size hlt⟩,c1,fun h24=>?_,fun h24=>?_⟩
  ·have h24 := of_decide_eq_true h24
   refine ret_S fun _ _=>?_
   have e : fewI (d.to Vol) = false := by
    unfold fewI
    rw [Bool.and_eq_false_iff]
    right
    rw [List.all_eq_false]
    refine ⟨_,List.getElem_mem hlt,?_⟩
    rw [c3]
    simp only [decide_eq_true_eq,Int.toNat_natCast] at h24 ⊢
    omega
   simp [SV.den,e]
  ·have h24 := of_decide_eq_false h24
   have := ih (j + 1) ⟨hlt,by
    rw [htk,List.all_append,hpre,c3]
    simp only [Bool.true_and,List.all_cons,List.all_nil,Bool.and_true,decide_eq_true_eq]
    simp only [Int.toNat_natCast] at h24
    omega⟩ (by omega)
   rw [show ((j + 1 : Nat) : Int) = IntKind.i64.wrap ((j : Int) + 1) by rw [wrap64J (by omega) (by omega)]; rfl] at this
   exact this
 ·have e : j = (d.to Vol).length := by have := of_decide_eq_false hc; omega
  refine ret_S fun _ _=>?_
  have e2 : fewI (d.to Vol) = true := by
   unfold fewI
   rw [e,List.take_length] at hpre
   rw [hpre,decide_eq_true h9]; rfl
  simp [SV.den,e2]
theorem lawRz : Law Try.prog 38 (rdD.one.sp spRz) := by
 refine law_in _ (by kernel_rfl) fun H w d hok hp=>?_
 obtain ⟨hd,hbig⟩ := hp _ (List.mem_singleton.2 rfl)
 have hl := D.Is.length (α := Vol) d
 apply exec_sound (noCtr _) 300
 rw [show rdD.one.canon d = [.dat d] from rfl,rsz_in]
 refine vecIn_to 0 3 1 none 3 (rzL d (.vec 0) 0 [(0,.arr 3 (.slc none 1 []))]) (by kernel_rfl) ?_
 refine runs_loop (fun p : D × Nat=>rzL d (.vec 0) p.2 [(0,.arr 3 p.1)]) (fun p=>p.2 ≤ (d.to Vol).length ∧ p.1.Is Int ∧ p.1.sz = 1 ∧ p.1.to Int = volSizes ((d.to Vol).take p.2)) (fun p=>(d.to Vol).length - p.2) (fun _=>rfl) ?_ (.slc none 1 [],0) ⟨Nat.zero_le _,is_nil _ _,rfl,rfl⟩
 intro ⟨o,j⟩ ⟨hj,ho,hz,hto⟩ ih
 simp only at hj ho hz hto
 have hol := D.Is.length (α := Int) o
 rw [hto,volSizes,List.length_map,List.length_take,Nat.min_eq_left hj] at hol
 apply exec_sound (noCtr _) 300
 rw [rsz_go]
 refine ⟨fun hc=>?_,fun hc=>?_⟩
 ·have hlt : j < (d.to Vol).length := by have := of_decide_eq_true hc; omega
  obtain ⟨c1,c2,c3⟩ := vol_cell hd hlt
  have hcl := D.Is.length (α := Sec) (d.cell j 0)
  refine ⟨⟨by omega,by omega,hd.size hlt⟩,c1,fun hs1=>⟨⟨hz,.inr rfl,by simp only [len_slc,List.length_cons,List.length_nil]; omega,by simp only [len_slc,List.length_cons,List.length_nil]; omega⟩,fun hs2=>?_⟩⟩
  have hr := rows_app (rows_of ho) (int_one ((d.cell j 0).len : Int))
  obtain ⟨i1,i2⟩ := is_of (h := D.hd (hs2 0 0)) (s := 1) rfl hr
  have htk : (d.to Vol).take (j + 1) = (d.to Vol).take j ++ [(d.to Vol)[j]] := by rw [List.take_append_getElem]
  have := ih (_,j + 1) ⟨hlt,i1,rfl,i2.trans (by rw [hto,htk]; simp only [volSizes,List.map_append,List.map_cons,List.map_nil]; rw [c3,hcl])⟩ (by simp only; omega)
  simp only at this
  rw [show ((j + 1 : Nat) : Int) = IntKind.i64.wrap ((j : Int) + 1) by rw [wrap64J (by omega) (by omega)]; rfl] at this
  exact this
 ·have e : j = (d.to Vol).length := by have := of_decide_eq_false hc; omega
  subst e
  rw [List.take_length] at hto
  exact ret_one (stands_dat ho hto) rfl
theorem lk_loop {l : D} (hl : l.Is Wt) (hbig : l.len ≤ 1000000) (hfit : ∀ w,w ∈ l.to Wt → FitW w) {vo s : Int} (h0 : 0 ≤ s) (h1 : s ≤ 100000) (w : World) (H : HV) : ∀ (q : Nat) {i : Int},i = (q : Int) - 1 → q ≤ l.len → Runs Try.prog ⟨w,H⟩ (lkL l vo s i) (RetD w H fun ds=>.tup [.agg (secD (ds 0)),.bool ((ds 1).getBool 0 0)])
 | 0,i,hi,hq=>by
  subst hi
  refine unroll_sound rfl ?_
  apply exec_sound (noCtr _) 300
  rw [lku_go]
  exact ⟨fun h=>absurd (of_decide_eq_true h) (by omega),fun _=>ret_lk (bo := false) fun _=>by simp [SV.den]⟩
 | q + 1,i,hi,hq=>by
  have hi : i = (q : Int) := by omega
  subst hi
  have hlt : q < (l.to Wt).length := by rw [← D.Is.length (α := Wt)]; omega
  obtain ⟨c1,c2,c3⟩ := wt_cell hl hlt
  obtain ⟨f1,f2,f3⟩ := hfit _ (List.getElem_mem hlt)
  rw [c3] at f1 f2 f3
  simp only at f1 f2 f3
  have hdl := D.Is.length (α := Sec) (l.cell q 2)
  refine unroll_sound rfl ?_
  apply exec_sound (noCtr _) 300
  rw [lku_go]
  have ih := lk_loop hl hbig hfit (vo := vo) h0 h1 w H q (i := IntKind.i64.wrap ((q : Int) - 1)) (by rw [wrap64J (by omega) (by omega)]) (by omega)
  have hin : (0 : Int) ≤ q ∧ (q : Int) < (l.len : Int) ∧ l.sz = 3 := ⟨by omega,by omega,hl.size hlt⟩
  refine ⟨fun _=>⟨hin,c1,fun _=>ih,fun _=>⟨fun _=>ih,fun hne=>⟨fun _=>ih,fun hst=>⟨fun hneg=>?_,fun _ hs=>⟨fun hc=>?_,fun _=>ih⟩⟩⟩⟩⟩,fun h=>absurd (of_decide_eq_false h) (by omega)⟩
  ·have := of_decide_eq_true hneg
   simp only [Int.toNat_natCast] at this
   omega
  ·have hst := of_decide_eq_false hst
   have hc := of_decide_eq_true hc
   simp only [Int.toNat_natCast] at hst hc
   have hw : IntKind.i64.wrap (s - l.getInt q 1) = s - l.getInt q 1 := wrap64J (by omega) (by omega)
   simp only [Int.toNat_natCast,hw] at hc ⊢
   have hn : (s - l.getInt q 1).toNat < ((l.cell q 2).to Sec).length := by omega
   refine ⟨hin,c1.2.2.1,⟨by omega,hc,c2.size hn⟩,(sec_cell c2 hn).1,ret_lk (bo := true) fun _=>by simp [SV.den]⟩
theorem lawLk : Law Try.prog 145 ((rdD.three rdInt rdInt).sp spLk) := by
 refine law_in _ (by kernel_rfl) fun H w ⟨l,vo,s⟩ hok hp=>?_
 obtain ⟨hl,hbig,hfit,h0,h1⟩ := hp _ (List.mem_singleton.2 rfl)
 simp only at hl hbig hfit h0 h1
 apply exec_sound (noCtr _) 300
 rw [show (rdD.three rdInt rdInt).canon (l,vo,s) = [.dat l,.int .i64 vo,.int .i64 s] from rfl,lku_in]
 exact lk_loop hl hbig hfit h0 h1 w H l.len (by rw [wrap64J (by omega) (by omega)]) (Nat.le_refl _)
end Sv
end
noncomputable section
open Go Go.Proofs Sx
namespace Sx
structure Ex where
 s : Int
 c : Int
instance : Codec Ex where
 sz := 2
 ok r := ∃ a b,r = [.int .i64 a,.int .i64 b]
 dec r := match r with | [.int _ a,.int _ b]=>⟨a,b⟩ | _=>⟨0,0⟩
 enc c := [.int .i64 c.s,.int .i64 c.c]
 ok_enc c := ⟨_,_,rfl⟩
 dec_enc c := rfl
 len r := by rintro ⟨_,_,rfl⟩; rfl
theorem ex_cell {d : D} (h : d.Is Ex) {i : Nat} (hi : i < (d.to Ex).length) : d.HasCells i 0 [.int .i64,.int .i64] ∧ d.getInt i 0 = ((d.to Ex)[i]).s ∧ d.getInt i 1 = ((d.to Ex)[i]).c := by
 obtain ⟨r,h1,⟨a,b,rfl⟩,h3⟩ := h.row hi
 rw [h3]
 have e : ∀ j,d.cellAt i j = ([.int .i64 a,.int .i64 b] : List D)[j]? := fun j=>by simp [D.cellAt,h1]
 simp only [D.HasCells,D.HasCell,D.getInt,e]
 exact ⟨⟨⟨_,rfl⟩,⟨_,rfl⟩,trivial⟩,rfl,rfl⟩
theorem ex_set {d : D} (hd : d.Is Ex) {i : Nat} (hi : i < (d.to Ex).length) (n : Int) :
  (d.setCells i 1 [.int .i64 n]).Is Ex ∧ (d.setCells i 1 [.int .i64 n]).to Ex = (d.to Ex).set i ⟨((d.to Ex)[i]).s,n⟩ := by
 obtain ⟨r,h1,⟨a,b,rfl⟩,h3⟩ := hd.row hi
 have hr := rows_of hd
 have e : cutIn (d.rows.getD i []) 1 [.int .i64 n] = [.int .i64 a,.int .i64 n] := by
  rw [List.getD_eq_getElem?_getD,h1]; rfl
 rw [h3]
 unfold D.setCells
 rw [e]
 refine is_of (hd.size hi) ⟨fun r hr'=>?_,?_⟩
 ·rcases List.mem_or_eq_of_mem_set hr' with h | h
  ·exact hr.1 r h
  ·exact ⟨_,_,h⟩
 ·rw [List.map_set,hr.2]; rfl
theorem ex_row (a b : Int) : SRows Ex [[.int .i64 a,.int .i64 b]] [⟨a,b⟩] := rows_one ⟨_,_,rfl⟩ rfl
def GoodE (xs : List Ex) : Prop := xs.length ≤ 4096 ∧ ∀ e,e ∈ xs → 0 ≤ e.s ∧ e.s ≤ 4096 ∧ 0 ≤ e.c ∧ e.c ≤ 4096
open Classical in
def normE (xs : List Ex) : List Ex := if GoodE xs then xs else []
theorem normE_good (xs : List Ex) : GoodE (normE xs) := by
 unfold normE; split
 ·assumption
 ·exact ⟨by simp,by simp⟩
theorem normE_of {xs : List Ex} (h : GoodE xs) : normE xs = xs := if_pos h
def spList (x : D) : SpecR := .data [x.Is Bool ∧ x.len ≤ 4096] fun ds=>.dat ((ds 0).like (normE ((ds 1).to Ex)))
theorem ret_ex {P : Program} {w : World} {H : HV} {X : SV} {xs : List Ex} (hx : Stands Ex X xs) (hg : GoodE xs) : (Tree.ret X).holds P ⟨w,H⟩ (RetD w H fun ds=>.dat ((ds 0).like (normE ((ds 1).to Ex)))) := by
 obtain ⟨d,hd⟩ := hx.se
 have e : normE ((D.like d xs).to Ex) = xs := by rw [D.like_to]; exact normE_of hg
 refine ret_se (fun i=>match i with | 0=>d | _=>d.like xs) ?_
 simp only [e]
 exact hd
end Sx
namespace Sv
theorem lawList : Law Try.prog 147 (rdD.one.sp spList) := by
 refine law_in _ (by kernel_rfl) fun H w m hok hp=>?_
 obtain ⟨hm,hbig⟩ := hp _ (List.mem_singleton.2 rfl)
 have hl := D.Is.length (α := Bool) m
 apply exec_sound (noCtr _) 300
 rw [show rdD.one.canon m = [.dat m] from rfl,lst_in]
 refine vecIn_to 0 203 2 none 3 (liL m (.vec 0) 0 [(0,.arr 203 (.slc none 2 []))]) (by kernel_rfl) ?_
 refine runs_loop (fun p : D × Nat=>liL m (.vec 0) p.2 [(0,.arr 203 p.1)]) (fun p=>p.2 ≤ (m.to Bool).length ∧ p.1.Is Ex ∧ p.1.sz = 2 ∧ p.1.len ≤ p.2 ∧ (∀ e,e ∈ p.1.to Ex → 0 ≤ e.s ∧ e.s ≤ 4096 ∧ 0 ≤ e.c ∧ e.c ≤ p.2) ∧ (0 < p.2 → m.getBool (p.2 - 1) 0 = true → 0 < p.1.len)) (fun p=>(m.to Bool).length - p.2) (fun _=>rfl) ?_ (.slc none 2 [],0)
  ⟨Nat.zero_le _,is_nil _ _,rfl,Nat.le_refl _,fun e he=>by simp [D.to,D.rows] at he,fun h=>absurd h (Nat.lt_irrefl _)⟩
 intro ⟨o,j⟩ ⟨hj,ho,hz,hlen,hall,hpos⟩ ih
 simp only at hj ho hz hlen hall hpos
 have hol := D.Is.length (α := Ex) o
 apply exec_sound (noCtr _) 300
 rw [lst_go]
 have hwj : IntKind.i64.wrap ((j : Int) + 1) = ((j + 1 : Nat) : Int) := by rw [wrap64J (by omega) (by omega)]; rfl
 rw [hwj]
 -- a further extent
 have more : j < (m.to Bool).length → ∀ (h1 h2 : Hd),(D.sz o = 2 ∧ D.Fits (D.slc h1 2 [[D.int IntKind.i64 j,D.int IntKind.i64 1]]) 2 ∧ (D.len o + D.len (D.slc h1 2 [[D.int IntKind.i64 j,D.int IntKind.i64 1]])) * 16 ≤ 140737488355328 ∧ D.len o + D.len (D.slc h1 2 [[D.int IntKind.i64 j,D.int IntKind.i64 1]]) ≤ 9223372036854775807) ∧
   Runs Try.prog ⟨w,H⟩ (liL m (.vec 0) ((j + 1 : Nat) : Int) [(0,.arr 203 (D.slc h2 2 (List.append (D.rows o) (D.rows (D.slc h1 2 [[D.int IntKind.i64 j,D.int IntKind.i64 1]])))))]) (RetD w H fun ds=>.dat ((ds 0).like (normE ((ds 1).to Ex)))) := fun hlt h1 h2=>by
  refine ⟨⟨hz,.inr rfl,by simp only [len_slc,List.length_cons,List.length_nil]; omega,by simp only [len_slc,List.length_cons,List.length_nil]; omega⟩,?_⟩
  have hr : SRows Ex (List.append (D.rows o) (D.rows (D.slc h1 2 [[D.int IntKind.i64 j,D.int IntKind.i64 1]]))) (o.to Ex ++ [⟨(j : Int),1⟩]) := rows_app (rows_of ho) (ex_row (j : Int) 1)
  obtain ⟨i1,i2⟩ := is_of (h := h2) (s := 2) rfl hr
  refine ih (_,j + 1) ⟨hlt,i1,rfl,?_,fun e he=>?_,fun _ _=>?_⟩ (by simp only; omega)
  ·rw [D.Is.length (α := Ex)]
   simp only
   rw [i2,List.length_append,← hol]
   simp only [List.length_cons,List.length_nil]; omega
  ·simp only at he
   rw [i2] at he
   rcases List.mem_append.1 he with he | he
   ·obtain ⟨a,b,c,d⟩ := hall e he
    exact ⟨a,b,c,by simp only; omega⟩
   ·rw [List.mem_singleton] at he; subst he
    exact ⟨by simp only; omega,by simp only; omega,by simp only; omega,by simp only; omega⟩
  ·rw [D.Is.length (α := Ex)]
   simp only
   rw [i2,List.length_append]
   simp only [List.length_cons,List.length_nil]; omega
 refine ⟨fun hc=>?_,fun hc=>?_⟩
 ·have hlt : j < (m.to Bool).length := by have := of_decide_eq_true hc; omega
  have hb := (bool_cell hm hlt).2
  refine ⟨⟨by omega,by omega,hm.size hlt⟩,hb,fun hn=>?_,fun hn=>⟨fun hp0=>?_,fun _=>?_⟩⟩
  ·exact ih (o,j + 1) ⟨hlt,ho,hz,by simp only; omega,fun e he=>by obtain ⟨a,b,c,d⟩ := hall e he; exact ⟨a,b,c,by simp only; omega⟩,fun _ ht=>by
    simp only [Nat.add_sub_cancel] at ht
    simp only [Int.toNat_natCast] at hn
    rw [ht] at hn; cases hn⟩ (by simp only; omega)
  ·have hp0 : 0 < j := by have := of_decide_eq_true hp0; omega
   have hw1 : IntKind.i64.wrap ((j : Int) - 1) = ((j - 1 : Nat) : Int) := by rw [wrap64J (by omega) (by omega)]; omega
   rw [hw1]
   simp only [Int.toNat_natCast]
   have hlt1 : j - 1 < (m.to Bool).length := by omega
   refine ⟨⟨by omega,by omega,hm.size hlt⟩,(bool_cell hm hlt1).2,fun ht=>?_,fun _=>?_⟩
   ·have hpo := hpos hp0 ht
    have hw2 : IntKind.i64.wrap (((o.len : Nat) : Int) - 1) = ((o.len - 1 : Nat) : Int) := by rw [wrap64J (by omega) (by omega)]; omega
    rw [hw2]
    simp only [Int.toNat_natCast]
    have hlo : o.len - 1 < (o.to Ex).length := by omega
    obtain ⟨c0,c1,c2⟩ := ex_cell ho hlo
    obtain ⟨b1,b2,b3,b4⟩ := hall _ (List.getElem_mem hlo)
    rw [c2,show IntKind.i64.wrap (((o.to Ex)[o.len - 1]).c + 1) = ((o.to Ex)[o.len - 1]).c + 1 by rw [wrap64J (by omega) (by omega)]]
    refine ⟨⟨by omega,by omega,hz⟩,⟨c0.2.1,hz⟩,⟨by omega,by omega,hz⟩,⟨by omega,by rw [hz]; exact Nat.le_refl _,hz⟩,?_⟩
    obtain ⟨i1,i2⟩ := ex_set ho hlo (((o.to Ex)[o.len - 1]).c + 1)
    refine ih (o.setCells (o.len - 1) 1 [D.int IntKind.i64 (((o.to Ex)[o.len - 1]).c + 1)],j + 1) ⟨hlt,i1,hz,?_,fun e he=>?_,fun _ _=>?_⟩ (by simp only; omega)
    ·rw [D.Is.length (α := Ex)]
     simp only
     rw [i2,List.length_set,← hol]; omega
    ·simp only at he
     rw [i2] at he
     rcases List.mem_or_eq_of_mem_set he with he | rfl
     ·obtain ⟨a,b,c,d⟩ := hall e he
      exact ⟨a,b,c,by simp only; omega⟩
     ·exact ⟨b1,b2,by simp only; omega,by simp only; omega⟩
    ·rw [D.Is.length (α := Ex)]
     simp only
     rw [i2,List.length_set,← hol]; omega
   ·exact fun hs1=>⟨(more hlt (D.hd (hs1 0 0)) none).1,fun hs2=>(more hlt (D.hd (hs1 0 0)) (D.hd (hs2 0 0))).2⟩
  ·exact fun hs1=>⟨(more hlt (D.hd (hs1 0 0)) none).1,fun hs2=>(more hlt (D.hd (hs1 0 0)) (D.hd (hs2 0 0))).2⟩
 ·have e : j = (m.to Bool).length := by have := of_decide_eq_false hc; omega
  exact ret_ex (xs := o.to Ex) (stands_dat ho rfl) ⟨by rw [← hol]; omega,fun e he=>by obtain ⟨a,b,c,d⟩ := hall e he; exact ⟨a,b,c,by omega⟩⟩
end Sv
end
noncomputable section
open Go Go.Proofs Sx
namespace Sv
def ctPk : Ctrs := [(145,ctrOf ((rdD.three rdInt rdInt).sp spLk))]
def pkL (l es : D) (vo : Int) (o : SV) (i : Int) (mm : Mem) : Conf := ⟨⟨142,none,none,[Item.inLoop (cA 142 [1,1,0,1,0,0]),Item.inBlock 0,Item.code (cA 142 [1,1,1])],mkJ 0 [(0,.dat l),(1,.int .i64 vo),(2,.dat es),(7,o),(8,.int .i64 i)] 0 59⟩,[],mm⟩
section
variable (vo i : Int) (l es o : D)
theorem pk_in : exec Try.prog ctPk 300 (entry Try.prog 142 [.dat l,.int .i64 vo,.dat es]) =
 Tree.leaf
 (Conf.mk
 (SFrm.mk 142 none none
 [Item.inLoop (cA 142 [1,1,0,1,0,0]),Item.inBlock 0,Item.code (cA 142 [1,1,1])]
 (mkJ 0 [(0,.dat l),(1,.int .i64 vo),(2,.dat es),(7,.nils),(8,.int .i64 0)] 0 59))
 [] []) := by kernel_rfl
theorem pk_go : exec Try.prog ctPk 300 (unroll (pkL l es vo (.vec 0) i [(0,.arr 148 o)])) =
 Tree.br (decide (i < (↑(D.len es) : Int)))
 (.need (0 ≤ i ∧ i < (↑(D.len es) : Int) ∧ D.sz es = 2)
 (.need (D.HasCell es (Int.toNat i) 0 (FT.int .i64))
 (.leaf
 (Conf.mk
 (SFrm.mk 142 none none
 [Item.inLoop (cA 142 [1,1,0,1,0,0,1,0,0,1,0,1,0,0]),Item.inBlock 2,
 Item.code (cA 142 [1,1,0,1,0,0,1,0,0,1,1]),Item.inBlock 1,
 Item.code (cA 142 [1,1,0,1,0,0,1,1]),Item.inLoop (cA 142 [1,1,0,1,0,0]),
 Item.inBlock 0,Item.code (cA 142 [1,1,1])]
 (mkJ 0
 [(0,.dat l),(1,.int .i64 vo),(2,.dat es),(7,.vec 0),(8,.int .i64 i),
 (9,.ptr 1 0),(10,.int .i64 0)]
 0 59))
 []
 [(0,OBlk.arr 148 o),
 (1,OBlk.cells 148 [.int .i64 vo,.int .i64 (D.getInt es (Int.toNat i) 0),.nils])]))))
 (.ret (.dat o)) := by kernel_rfl
end
def pkI (l es : D) (vo i k : Int) (mm : Mem) : Conf := ⟨⟨142,none,none,[Item.inLoop (cA 142 [1,1,0,1,0,0,1,0,0,1,0,1,0,0]),Item.inBlock 2,Item.code (cA 142 [1,1,0,1,0,0,1,0,0,1,1]),Item.inBlock 1,Item.code (cA 142 [1,1,0,1,0,0,1,1]),Item.inLoop (cA 142 [1,1,0,1,0,0]),Item.inBlock 0,Item.code (cA 142 [1,1,1])],mkJ 0 [(0,.dat l),(1,.int .i64 vo),(2,.dat es),(7,.vec 0),(8,.int .i64 i),(9,.ptr 1 0),(10,.int .i64 k)] 0 59⟩,[],mm⟩
section
variable (vo i k st : Int) (l es o x : D)
theorem pki_go : exec Try.prog ctPk 300 (unroll (pkI l es vo i k [(0,.arr 148 o),(1,.cells 148 [.int .i64 vo,.int .i64 st,.vec 2]),(2,.arr 141 x)])) =
 Tree.need (0 ≤ i ∧ i < (↑(D.len es) : Int) ∧ D.sz es = 2)
 (.need (D.HasCell es (Int.toNat i) 1 (FT.int .i64))
 (.br (decide (k < D.getInt es (Int.toNat i) 1))
 (.need (0 ≤ i ∧ i < (↑(D.len es) : Int) ∧ D.sz es = 2)
 (.need (D.HasCell es (Int.toNat i) 0 (FT.int .i64))
 (.need
 (D.Is Wt l ∧
 D.len l ≤ 1000000 ∧
 (∀ (w : Wt),List.Mem w (D.to Wt l) → FitW w) ∧
 0 ≤ IntKind.wrap .i64 (D.getInt es (Int.toNat i) 0 + k) ∧
 IntKind.wrap .i64 (D.getInt es (Int.toNat i) 0 + k) ≤ 100000)
 (.all fun hs =>
 .all fun hs_1 =>
 .need
 (D.sz x = 8 ∧
 D.Fits
 (D.slc (D.hd (hs_1 0 0)) 8
 [[D.int .u8 (D.getInt (hs 0 0) 0 0),D.int .u8 (D.getInt (hs 0 0) 0 1),
 D.int .u8 (D.getInt (hs 0 0) 0 2),D.int .u8 (D.getInt (hs 0 0) 0 3),
 D.int .u8 (D.getInt (hs 0 0) 0 4),D.int .u8 (D.getInt (hs 0 0) 0 5),
 D.int .u8 (D.getInt (hs 0 0) 0 6),D.int .u8 (D.getInt (hs 0 0) 0 7)]])
 8 ∧
 (D.len x +
 D.len
 (D.slc (D.hd (hs_1 0 0)) 8
 [[D.int .u8 (D.getInt (hs 0 0) 0 0),D.int .u8 (D.getInt (hs 0 0) 0 1),
 D.int .u8 (D.getInt (hs 0 0) 0 2),
 D.int .u8 (D.getInt (hs 0 0) 0 3),
 D.int .u8 (D.getInt (hs 0 0) 0 4),
 D.int .u8 (D.getInt (hs 0 0) 0 5),
 D.int .u8 (D.getInt (hs 0 0) 0 6),
 D.int .u8 (D.getInt (hs 0 0) 0 7)]])) *
 8 ≤
 140737488355328 ∧
 D.len x +
 D.len
 (D.slc (D.hd (hs_1 0 0)) 8
 [[D.int .u8 (D.getInt (hs 0 0) 0 0),D.int .u8 (D.getInt (hs 0 0) 0 1),
 D.int .u8 (D.getInt (hs 0 0) 0 2),D.int .u8 (D.getInt (hs 0 0) 0 3),
 D.int .u8 (D.getInt (hs 0 0) 0 4),D.int .u8 (D.getInt (hs 0 0) 0 5),
 D.int .u8 (D.getInt (hs 0 0) 0 6),
 D.int .u8 (D.getInt (hs 0 0) 0 7)]]) ≤
 9223372036854775807)
 (.all fun hs_2 =>
 .leaf
 (Conf.mk
 (SFrm.mk 142 none none
 [Item.inLoop (cA 142 [1,1,0,1,0,0,1,0,0,1,0,1,0,0]),Item.inBlock 2,
 Item.code (cA 142 [1,1,0,1,0,0,1,0,0,1,1]),Item.inBlock 1,
 Item.code (cA 142 [1,1,0,1,0,0,1,1]),
 Item.inLoop (cA 142 [1,1,0,1,0,0]),Item.inBlock 0,
 Item.code (cA 142 [1,1,1])]
 (mkJ 0
 [(0,.dat l),(1,.int .i64 vo),(2,.dat es),(7,.vec 0),
 (8,.int .i64 i),(9,.ptr 1 0),
 (10,.int .i64 (IntKind.wrap .i64 (k + 1)))]
 0 59))
 []
 [(0,OBlk.arr 148 o),
 (1,OBlk.cells 148 [.int .i64 vo,.int .i64 st,.vec 2]),
 (2,
 OBlk.arr 141
 (D.slc (D.hd (hs_2 0 0)) 8
 (List.append (D.rows x)
 (D.rows
 (D.slc (D.hd (hs_1 0 0)) 8
 [[D.int .u8 (D.getInt (hs 0 0) 0 0),
 D.int .u8 (D.getInt (hs 0 0) 0 1),
 D.int .u8 (D.getInt (hs 0 0) 0 2),
 D.int .u8 (D.getInt (hs 0 0) 0 3),
 D.int .u8 (D.getInt (hs 0 0) 0 4),
 D.int .u8 (D.getInt (hs 0 0) 0 5),
 D.int .u8 (D.getInt (hs 0 0) 0 6),
 D.int .u8 (D.getInt (hs 0 0) 0 7)]])))))]))))))
 (.all fun hs =>
 .need
 (D.sz o = 3 ∧
 D.Fits (D.slc (D.hd (hs 0 0)) 3 [[D.int .i64 vo,D.int .i64 st,x]]) 3 ∧
 (D.len o + D.len (D.slc (D.hd (hs 0 0)) 3 [[D.int .i64 vo,D.int .i64 st,x]])) * 40 ≤
 140737488355328 ∧
 D.len o + D.len (D.slc (D.hd (hs 0 0)) 3 [[D.int .i64 vo,D.int .i64 st,x]]) ≤
 9223372036854775807)
 (.all fun hs_1 =>
 .leaf
 (Conf.mk
 (SFrm.mk 142 none none
 [Item.inLoop (cA 142 [1,1,0,1,0,0]),Item.inBlock 0,
 Item.code (cA 142 [1,1,1])]
 (mkJ 0
 [(0,.dat l),(1,.int .i64 vo),(2,.dat es),(7,.vec 0),
 (8,.int .i64 (IntKind.wrap .i64 (i + 1)))]
 0 59))
 []
 [(0,
 OBlk.arr 148
 (D.slc (D.hd (hs_1 0 0)) 3
 (List.append (D.rows o)
 (D.rows (D.slc (D.hd (hs 0 0)) 3 [[D.int .i64 vo,D.int .i64 st,x]])))))]))))) := by kernel_rfl
end
end Sv
end
noncomputable section
open Go Go.Proofs Sx
namespace Sx
def GoodW (n : Nat) (xs : List Wt) : Prop := xs.length ≤ n ∧ ∀ w,w ∈ xs → w.data.length ≤ 4096
open Classical in
def normW (n : Nat) (xs : List Wt) : List Wt := if GoodW n xs then xs else []
theorem normW_good (n : Nat) (xs : List Wt) : GoodW n (normW n xs) := by
 unfold normW; split
 ·assumption
 ·exact ⟨by simp,by simp⟩
theorem normW_of {n : Nat} {xs : List Wt} (h : GoodW n xs) : normW n xs = xs := if_pos h
def spPick (x : D × Int × D) : SpecR := .data [x.1.Is Wt ∧ x.1.len ≤ 1000000 ∧ (∀ w,w ∈ x.1.to Wt → FitW w) ∧ x.2.2.Is Ex ∧ GoodE (x.2.2.to Ex)] fun ds=>.dat ((ds 0).like (normW 4096 ((ds 1).to Wt)))
theorem ret_wn {P : Program} {w : World} {H : HV} {n : Nat} {X : SV} {xs : List Wt} (hx : Stands Wt X xs) (hg : GoodW n xs) : (Tree.ret X).holds P ⟨w,H⟩ (RetD w H fun ds=>.dat ((ds 0).like (normW n ((ds 1).to Wt)))) := by
 obtain ⟨d,hd⟩ := hx.se
 have e : normW n ((D.like d xs).to Wt) = xs := by rw [D.like_to]; exact normW_of hg
 refine ret_se (fun i=>match i with | 0=>d | _=>d.like xs) ?_
 simp only [e]
 exact hd
theorem sec_row (a b c d e f g h : Int) : SRows Sec [[.int .u8 a,.int .u8 b,.int .u8 c,.int .u8 d,.int .u8 e,.int .u8 f,.int .u8 g,.int .u8 h]] [⟨a,b,c,d,e,f,g,h⟩] := rows_one ⟨_,_,_,_,_,_,_,_,rfl⟩ rfl
end Sx
namespace Sv
theorem ctPkOk : Ctrs.Ok Try.prog ctPk := by
 intro x hx
 simp only [ctPk,List.mem_cons,List.not_mem_nil,or_false] at hx
 subst hx
 exact ctrOf_ok lawLk
theorem lawPick : Law Try.prog 142 ((rdD.three rdInt rdD).sp spPick) := by
 refine law_in _ (by kernel_rfl) fun H w ⟨l,vo,es⟩ hok hp=>?_
 obtain ⟨hl,hbig,hfit,he,hge⟩ := hp _ (List.mem_singleton.2 rfl)
 simp only at hl hbig hfit he hge
 have hel := D.Is.length (α := Ex) es
 obtain ⟨g1,g2⟩ := hge
 apply exec_sound ctPkOk 300
 rw [show (rdD.three rdInt rdD).canon (l,vo,es) = [.dat l,.int .i64 vo,.dat es] from rfl,pk_in]
 refine vecIn_to 0 148 3 none 7 (pkL l es vo (.vec 0) 0 [(0,.arr 148 (.slc none 3 []))]) (by kernel_rfl) ?_
 refine runs_loop (fun p : D × Nat=>pkL l es vo (.vec 0) p.2 [(0,.arr 148 p.1)]) (fun p=>p.2 ≤ (es.to Ex).length ∧ p.1.Is Wt ∧ p.1.sz = 3 ∧ p.1.len = p.2 ∧ (∀ w,w ∈ p.1.to Wt → w.data.length ≤ 4096)) (fun p=>(es.to Ex).length - p.2) (fun _=>rfl) ?_ (.slc none 3 [],0)
  ⟨Nat.zero_le _,is_nil _ _,rfl,rfl,fun e he=>by simp [D.to,D.rows] at he⟩
 intro ⟨o,j⟩ ⟨hj,ho,hz,hlen,hall⟩ ih
 simp only at hj ho hz hlen hall
 have hol := D.Is.length (α := Wt) o
 apply exec_sound ctPkOk 300
 rw [pk_go]
 refine ⟨fun hc=>?_,fun hc=>?_⟩
 ·have hlt : j < (es.to Ex).length := by have := of_decide_eq_true hc; omega
  obtain ⟨c0,c1,c2⟩ := ex_cell he hlt
  obtain ⟨b1,b2,b3,b4⟩ := g2 _ (List.getElem_mem hlt)
  have hin : (0 : Int) ≤ j ∧ (j : Int) < (es.len : Int) ∧ es.sz = 2 := ⟨by omega,by omega,he.size hlt⟩
  refine ⟨hin,c0.1,?_⟩
  simp only [Int.toNat_natCast]
  refine vecIn_to 2 141 8 (some 1) 2 (pkI l es vo j 0 [(0,.arr 148 o),(1,.cells 148 [.int .i64 vo,.int .i64 (es.getInt j 0),.vec 2]),(2,.arr 141 (.slc none 8 []))]) (by kernel_rfl) ?_
  refine runs_loop (fun p : D × Nat=>pkI l es vo j p.2 [(0,.arr 148 o),(1,.cells 148 [.int .i64 vo,.int .i64 (es.getInt j 0),.vec 2]),(2,.arr 141 p.1)]) (fun p=>(p.2 : Int) ≤ ((es.to Ex)[j]).c ∧ p.1.Is Sec ∧ p.1.sz = 8 ∧ p.1.len = p.2) (fun p=>((es.to Ex)[j]).c.toNat - p.2) (fun _=>rfl) ?_ (.slc none 8 [],0) ⟨by simp only; omega,is_nil _ _,rfl,rfl⟩
  intro ⟨x,k⟩ ⟨hk,hx,hxz,hxl⟩ ih2
  simp only at hk hx hxz hxl
  have hxs := D.Is.length (α := Sec) x
  apply exec_sound ctPkOk 300
  rw [pki_go]
  simp only [Int.toNat_natCast,c1,c2]
  refine ⟨hin,c0.2.1,fun hc2=>?_,fun hc2=>?_⟩
  ·have hc2 := of_decide_eq_true hc2
   have hw : IntKind.i64.wrap (((es.to Ex)[j]).s + (k : Int)) = ((es.to Ex)[j]).s + (k : Int) := wrap64J (by omega) (by omega)
   rw [hw]
   refine ⟨hin,c0.1,⟨hl,hbig,hfit,by omega,by omega⟩,fun hs1 hs2=>⟨⟨hxz,.inr rfl,by simp only [len_slc,List.length_cons,List.length_nil]; omega,by simp only [len_slc,List.length_cons,List.length_nil]; omega⟩,fun hs3=>?_⟩⟩
   have hr := rows_app (rows_of hx) (sec_row ((hs1 0 0).getInt 0 0) ((hs1 0 0).getInt 0 1) ((hs1 0 0).getInt 0 2) ((hs1 0 0).getInt 0 3) ((hs1 0 0).getInt 0 4) ((hs1 0 0).getInt 0 5) ((hs1 0 0).getInt 0 6) ((hs1 0 0).getInt 0 7))
   obtain ⟨i1,i2⟩ := is_of (h := D.hd (hs3 0 0)) (s := 8) rfl hr
   have := ih2 (_,k + 1) ⟨by simp only; omega,i1,rfl,by rw [D.Is.length (α := Sec)]; simp only; rw [i2,List.length_append,← hxs]; simp only [List.length_cons,List.length_nil]; omega⟩ (by simp only; omega)
   simp only [c1] at this
   rw [show ((k + 1 : Nat) : Int) = IntKind.i64.wrap ((k : Int) + 1) by rw [wrap64J (by omega) (by omega)]; rfl] at this
   exact this
  ·have hc2 := of_decide_eq_false hc2
   refine fun hs1=>⟨⟨hz,.inr rfl,by simp only [len_slc,List.length_cons,List.length_nil]; omega,by simp only [len_slc,List.length_cons,List.length_nil]; omega⟩,fun hs2=>?_⟩
   have hr := rows_app (rows_of ho) (wt_one vo ((es.to Ex)[j]).s hx)
   obtain ⟨i1,i2⟩ := is_of (h := D.hd (hs2 0 0)) (s := 3) rfl hr
   have := ih (_,j + 1) ⟨hlt,i1,rfl,by rw [D.Is.length (α := Wt)]; simp only; rw [i2,List.length_append,← hol]; simp only [List.length_cons,List.length_nil]; omega,fun y hy=>by
    simp only at hy
    rw [i2] at hy
    rcases List.mem_append.1 hy with hy | hy
    ·exact hall y hy
    ·rw [List.mem_singleton] at hy; subst hy
     simp only; omega⟩ (by simp only; omega)
   simp only at this
   rw [show ((j + 1 : Nat) : Int) = IntKind.i64.wrap ((j : Int) + 1) by rw [wrap64J (by omega) (by omega)]; rfl] at this
   exact this
 ·have e : j = (es.to Ex).length := by have := of_decide_eq_false hc; omega
  exact ret_wn (xs := o.to Wt) (stands_dat ho rfl) ⟨by rw [← hol]; omega,hall⟩
end Sv
end
noncomputable section
open Go Go.Proofs Sx
namespace Sv
def ctEx : Ctrs := [(147,ctrOf (rdD.one.sp spList))]
def exL (l : D) (vo i : Int) (mm : Mem) : Conf := ⟨⟨143,none,none,[Item.inLoop (cA 143 [1,1,0,1,0,0]),Item.inBlock 0,Item.code (cA 143 [1,1,1])],mkJ 0 [(0,.dat l),(1,.int .i64 vo),(5,.vec 0),(6,.int .i64 i)] 0 37⟩,[],mm⟩
section
variable (vo i : Int) (l m : D)
theorem ext_in : exec Try.prog ctEx 300 (entry Try.prog 143 [.dat l,.int .i64 vo]) =
 Tree.need ((0 : Int) ≤ 4096 ∧ (4096 : Int) = 4096 ∧ (↑1 : Int) * 4096 ≤ 281474976710656 ∧ (4096 : Int) ≤ 9223372036854775807)
 (.all fun hs =>
 .leaf
 (Conf.mk
 (SFrm.mk 143 none none
 [Item.inLoop (cA 143 [1,1,0,1,0,0]),Item.inBlock 0,Item.code (cA 143 [1,1,1])]
 (mkJ 0 [(0,.dat l),(1,.int .i64 vo),(5,.vec 0),(6,.int .i64 0)] 0 37))
 [] [(0,OBlk.arr 4 (D.slc (D.hd (hs 0 0)) 1 (List.replicate 4096 [D.bool false])))])) := by kernel_rfl
theorem ext_go : 
 let z2 : Tree := (.leaf (Conf.mk (SFrm.mk 143 none none [Item.inLoop (cA 143 [1,1,0,1,0,0]),Item.inBlock 0,Item.code (cA 143 [1,1,1])] (mkJ 0 [(0,.dat l),(1,.int .i64 vo),(5,.vec 0),(6,.int .i64 (IntKind.wrap .i64 (i + 1)))] 0 37)) [] [(0,OBlk.arr 4 m)]))
 let z3 := (D.len (D.cell l (Int.toNat i) 2))
 let z1 := (mkJ 0 [(0,.dat l),(1,.int .i64 vo),(5,.vec 0),(6,.int .i64 i),(8,.int .i64 i),(9,.dat l),(10,.int .i64 (↑(D.len l) : Int)),(11,.bool (decide (i < (↑(D.len l) : Int)))),(14,.dat l),(15,.int .i64 i),(16,SV.elt l (Int.toNat i) 0),(17,SV.elt l (Int.toNat i) 0),(18,.int .i64 (D.getInt l (Int.toNat i) 0)),(19,.int .i64 vo),(20,.bool (decide (D.getInt l (Int.toNat i) 0 = vo))),(21,.vec 0),(22,.dat l),(23,.int .i64 i),(24,SV.elt l (Int.toNat i) 0),(25,SV.elt l (Int.toNat i) 1),(26,.int .i64 (D.getInt l (Int.toNat i) 1)),(27,.dat l),(28,.int .i64 i),(29,SV.elt l (Int.toNat i) 0),(30,SV.elt l (Int.toNat i) 2),(31,.dat (D.cell l (Int.toNat i) 2)),(32,.int .i64 (↑z3 : Int)),(33,.agg [.int .i64 (D.getInt l (Int.toNat i) 1),.int .i64 (↑z3 : Int)])] 0 37)
 exec Try.prog ctEx 300 (unroll (exL l vo i [(0,.arr 4 m)])) =
 Tree.br (decide (i < (↑(D.len l) : Int))) (.need (0 ≤ i ∧ i < (↑(D.len l) : Int) ∧ D.sz l = 3) (.need (D.HasCell l (Int.toNat i) 0 (FT.int .i64)) (.br (decide (D.getInt l (Int.toNat i) 0 = vo)) (.all fun hs=>.need
 (0 ≤ i ∧ i < (↑(D.len l) : Int) ∧ D.sz l = 3) (.need (D.HasCell l (Int.toNat i) 1 (FT.int .i64)) (.need (0 ≤ i ∧ i < (↑(D.len l) : Int) ∧ D.sz l = 3) (.need (D.HasCell l (Int.toNat i) 2 FT.slc) (.br (decide
 ((↑z3 : Int) ≤ 0)) z2 (.br (decide (D.getInt l (Int.toNat i) 1 ≥ (↑(D.len m) : Int))) z2 (.br (decide (D.getInt l (Int.toNat i) 1 < 0)) (.leaf (Conf.mk (SFrm.mk 146 none none [Item.inLoop (cA 146 [1,1,1,1,1,0,0]),Item.inBlock 0]
 (mkJ 1 [(0,.vec 0),(5,.int .i64 (if IntKind.wrap .i64 (D.getInt l (Int.toNat i) 1 + (↑z3 : Int)) < (↑(D.len m) : Int) then IntKind.wrap .i64 (D.getInt l (Int.toNat i) 1 + (↑z3 : Int)) else (↑(D.len m) : Int))),
 (6,.int .i64 0)] 0 47)) [SFrm.mk 143 (some (oA 143 [1,1,0,1,0,0,1,0,0,1,0],[])) (some 34) [Item.inBlock 1,Item.code (cA 143 [1,1,0,1,0,0,1,1]),Item.inLoop (cA 143 [1,1,0,1,0,0]),Item.inBlock 0,Item.code
 (cA 143 [1,1,1])] z1] [(0,OBlk.arr 4 m)])) (.leaf (Conf.mk (SFrm.mk 146 none none [Item.inLoop (cA 146 [1,1,1,1,1,0,0]),Item.inBlock 0] (mkJ 1 [(0,.vec 0),(5,.int .i64 (if IntKind.wrap .i64
 (D.getInt l (Int.toNat i) 1 + if 4096 < (↑z3 : Int) then 4096 else (↑z3 : Int)) < (↑(D.len m) : Int) then IntKind.wrap .i64 (D.getInt l (Int.toNat i) 1 + if 4096 < (↑z3 : Int) then 4096 else (↑z3 : Int)) else
 (↑(D.len m) : Int))),(6,.int .i64 (D.getInt l (Int.toNat i) 1))] 0 47)) [SFrm.mk 143 (some (oA 143 [1,1,0,1,0,0,1,0,0,1,0],[])) (some 34) [Item.inBlock 1,Item.code (cA 143 [1,1,0,1,0,0,1,1]),Item.inLoop
 (cA 143 [1,1,0,1,0,0]),Item.inBlock 0,Item.code (cA 143 [1,1,1])] z1] [(0,OBlk.arr 4 m)]))))))))) z2))) (.need (D.Is Bool m ∧ D.len m ≤ 4096) (.all fun hs=>.ret (.dat (D.like (hs 0 0) (normE
 (D.to Ex (hs 0 1))))))) := by
 intros; kernel_rfl
end
def exA (l : D) (vo i to k : Int) (mm : Mem) : Conf := ⟨⟨146,none,none,[Item.inLoop (cA 146 [1,1,1,1,1,0,0]),Item.inBlock 0],mkJ 1 [(0,.vec 0),(5,.int .i64 to),(6,.int .i64 k)] 0 47⟩,
 [SFrm.mk 143 (some (oA 143 [1,1,0,1,0,0,1,0,0,1,0],[])) (some 34) [Item.inBlock 1,Item.code (cA 143 [1,1,0,1,0,0,1,1]),Item.inLoop (cA 143 [1,1,0,1,0,0]),Item.inBlock 0,Item.code (cA 143 [1,1,1])] (mkJ 0 [(0,.dat l),(1,.int .i64 vo),(5,.vec 0),(6,.int .i64 i),(8,.int .i64 i),(9,.dat l),(10,.int .i64 (D.len l : Int)),(11,.bool (decide (i < (D.len l : Int)))),(14,.dat l),(15,.int .i64 i),(16,SV.elt l (Int.toNat i) 0),(17,SV.elt l (Int.toNat i) 0),(18,.int .i64 (D.getInt l (Int.toNat i) 0)),(19,.int .i64 vo),(20,.bool (decide (D.getInt l (Int.toNat i) 0 = vo))),(21,.vec 0),(22,.dat l),(23,.int .i64 i),(24,SV.elt l (Int.toNat i) 0),(25,SV.elt l (Int.toNat i) 1),(26,.int .i64 (D.getInt l (Int.toNat i) 1)),(27,.dat l),(28,.int .i64 i),(29,SV.elt l (Int.toNat i) 0),(30,SV.elt l (Int.toNat i) 2),(31,.dat (D.cell l (Int.toNat i) 2)),(32,.int .i64 (D.len (D.cell l (Int.toNat i) 2) : Int)),(33,.agg [.int .i64 (D.getInt l (Int.toNat i) 1),.int .i64 (D.len (D.cell l (Int.toNat i) 2) : Int)])] 0 37)],mm⟩
section
variable (vo i to k : Int) (l m : D)
theorem exa_go : exec Try.prog ctEx 300 (unroll (exA l vo i to k [(0,.arr 4 m)])) =
 Tree.br (decide (k < to))
 (.need (0 ≤ k ∧ k < (↑(D.len m) : Int) ∧ D.sz m = 1)
 (.need (Int.toNat k < D.len m ∧ 1 ≤ D.sz m ∧ D.sz m = 1)
 (.leaf
 (Conf.mk
 (SFrm.mk 146 none none [Item.inLoop (cA 146 [1,1,1,1,1,0,0]),Item.inBlock 0]
 (mkJ 1
 [(0,.vec 0),(5,.int .i64 to),(6,.int .i64 (IntKind.wrap .i64 (k + 1)))] 0
 47))
 [SFrm.mk 143 (some (oA 143 [1,1,0,1,0,0,1,0,0,1,0],[])) (some 34)
 [Item.inBlock 1,Item.code (cA 143 [1,1,0,1,0,0,1,1]),
 Item.inLoop (cA 143 [1,1,0,1,0,0]),Item.inBlock 0,
 Item.code (cA 143 [1,1,1])]
 (mkJ 0
 [(0,.dat l),(1,.int .i64 vo),(5,.vec 0),(6,.int .i64 i),
 (8,.int .i64 i),(9,.dat l),(10,.int .i64 (↑(D.len l) : Int)),
 (11,.bool (decide (i < (↑(D.len l) : Int)))),(14,.dat l),(15,.int .i64 i),
 (16,SV.elt l (Int.toNat i) 0),(17,SV.elt l (Int.toNat i) 0),
 (18,.int .i64 (D.getInt l (Int.toNat i) 0)),(19,.int .i64 vo),
 (20,.bool (decide (D.getInt l (Int.toNat i) 0 = vo))),(21,.vec 0),(22,.dat l),
 (23,.int .i64 i),(24,SV.elt l (Int.toNat i) 0),(25,SV.elt l (Int.toNat i) 1),
 (26,.int .i64 (D.getInt l (Int.toNat i) 1)),(27,.dat l),(28,.int .i64 i),
 (29,SV.elt l (Int.toNat i) 0),(30,SV.elt l (Int.toNat i) 2),
 (31,.dat (D.cell l (Int.toNat i) 2)),
 (32,.int .i64 (↑(D.len (D.cell l (Int.toNat i) 2)) : Int)),
 (33,
 .agg
 [.int .i64 (D.getInt l (Int.toNat i) 1),
 .int .i64 (↑(D.len (D.cell l (Int.toNat i) 2)) : Int)])]
 0 37)]
 [(0,OBlk.arr 4 (D.setCells m (Int.toNat k) 0 [D.bool true]))]))))
 (.leaf
 (Conf.mk
 (SFrm.mk 143 none none
 [Item.inLoop (cA 143 [1,1,0,1,0,0]),Item.inBlock 0,Item.code (cA 143 [1,1,1])]
 (mkJ 0
 [(0,.dat l),(1,.int .i64 vo),(5,.vec 0),
 (6,.int .i64 (IntKind.wrap .i64 (i + 1)))]
 0 37))
 [] [(0,OBlk.arr 4 m)])) := by kernel_rfl
end
end Sv
end
noncomputable section
open Go Go.Proofs Sx
namespace Sx
theorem bool_set {d : D} (hd : d.Is Bool) {i : Nat} (hi : i < (d.to Bool).length) (b : Bool) :
  (d.setCells i 0 [.bool b]).Is Bool ∧ (d.setCells i 0 [.bool b]).len = d.len := by
 obtain ⟨r,h1,⟨a,rfl⟩,h3⟩ := hd.row hi
 have hr := rows_of hd
 have e : cutIn (d.rows.getD i []) 0 [.bool b] = [.bool b] := by
  rw [List.getD_eq_getElem?_getD,h1]; rfl
 have hI : (d.setCells i 0 [.bool b]).Is Bool ∧ (d.setCells i 0 [.bool b]).to Bool = (d.to Bool).set i b := by
  unfold D.setCells
  rw [e]
  refine is_of (hd.size hi) ⟨fun r hr'=>?_,?_⟩
  ·rcases List.mem_or_eq_of_mem_set hr' with h | h
   ·exact hr.1 r h
   ·exact ⟨_,h⟩
  ·rw [List.map_set,hr.2]; rfl
 exact ⟨hI.1,by rw [D.Is.length (α := Bool),hI.2,List.length_set,← D.Is.length (α := Bool)]⟩
def spExt (x : D × Int) : SpecR := .data [x.1.Is Wt ∧ x.1.len ≤ 1000000 ∧ ∀ w,w ∈ x.1.to Wt → FitW w] fun ds=>.dat ((ds 0).like (normE ((ds 1).to Ex)))
end Sx
namespace Sv
theorem ctExOk : Ctrs.Ok Try.prog ctEx := by
 intro x hx
 simp only [ctEx,List.mem_cons,List.not_mem_nil,or_false] at hx
 subst hx
 exact ctrOf_ok lawList
theorem lawExt : Law Try.prog 143 ((rdD.two rdInt).sp spExt) := by
 refine law_in _ (by kernel_rfl) fun H w ⟨l,vo⟩ hok hp=>?_
 obtain ⟨hl,hbig,hfit⟩ := hp _ (List.mem_singleton.2 rfl)
 simp only at hl hbig hfit
 have hll := D.Is.length (α := Wt) l
 apply exec_sound ctExOk 300
 rw [show (rdD.two rdInt).canon (l,vo) = [.dat l,.int .i64 vo] from rfl,ext_in]
 refine ⟨⟨by omega,rfl,by omega,by omega⟩,fun hs0=>?_⟩
 refine runs_loop (fun p : D × Nat=>exL l vo p.2 [(0,.arr 4 p.1)]) (fun p=>p.2 ≤ (l.to Wt).length ∧ p.1.Is Bool ∧ p.1.len = 4096) (fun p=>(l.to Wt).length - p.2) (fun _=>rfl) ?_ (.slc (D.hd (hs0 0 0)) 1 (List.replicate 4096 [.bool false]),0)
  ⟨Nat.zero_le _,?_,by simp only [len_slc,List.length_replicate]⟩
 ·intro ⟨m,j⟩ ⟨hj,hm,hlen⟩ ih
  simp only at hj hm hlen
  apply exec_sound ctExOk 300
  rw [ext_go]
  have hwj : IntKind.i64.wrap ((j : Int) + 1) = ((j + 1 : Nat) : Int) := by rw [wrap64J (by omega) (by omega)]; rfl
  rw [hwj]
  have hin : j < (l.to Wt).length → (0 : Int) ≤ j ∧ (j : Int) < (l.len : Int) ∧ l.sz = 3 := fun hlt=>⟨by omega,by omega,hl.size hlt⟩
  refine ⟨fun hc=>?_,fun hc=>?_⟩
  ·have hlt : j < (l.to Wt).length := by have := of_decide_eq_true hc; omega
   obtain ⟨c1,c2,c3⟩ := wt_cell hl hlt
   obtain ⟨f1,f2,f3⟩ := hfit _ (List.getElem_mem hlt)
   rw [c3] at f1 f2 f3
   simp only at f1 f2 f3
   have hdl := D.Is.length (α := Sec) (l.cell j 2)
   simp only [Int.toNat_natCast]
   have next : Runs Try.prog ⟨w,H⟩ (exL l vo ((j + 1 : Nat) : Int) [(0,.arr 4 m)]) _ := ih (m,j + 1) ⟨hlt,hm,hlen⟩ (by simp only; omega)
   refine ⟨hin hlt,c1.1,fun _=>fun _=>⟨hin hlt,c1.2.1,hin hlt,c1.2.2.1,fun _=>next,fun hd1=>⟨fun _=>next,fun hd2=>⟨fun hd3=>?_,fun _=>?_⟩⟩⟩,fun _=>next⟩
   ·have := of_decide_eq_true hd3; omega
   ·have hd1 := of_decide_eq_false hd1
    have hd2 := of_decide_eq_false hd2
    generalize hto : (if IntKind.i64.wrap (l.getInt j 1 + if (4096 : Int) < ((l.cell j 2).len : Int) then 4096 else ((l.cell j 2).len : Int)) < (m.len : Int) then IntKind.i64.wrap (l.getInt j 1 + if (4096 : Int) < ((l.cell j 2).len : Int) then 4096 else ((l.cell j 2).len : Int)) else (m.len : Int)) = to
    have hto2 : to ≤ 4096 := by subst hto; split <;> omega
    have e1 : l.getInt j 1 = ((l.getInt j 1).toNat : Int) := by omega
    have key : ∀ (q : D × Nat),(q.1.Is Bool ∧ q.1.len = 4096) → Runs Try.prog ⟨w,H⟩ (exA l vo (j : Int) to (q.2 : Int) [(0,.arr 4 q.1)]) (RetD w H fun ds=>.dat ((ds 0).like (normE ((ds 1).to Ex)))) := fun q hq=>by
     refine runs_loop (fun p : D × Nat=>exA l vo (j : Int) to (p.2 : Int) [(0,.arr 4 p.1)]) (fun p=>p.1.Is Bool ∧ p.1.len = 4096) (fun p=>4096 - p.2) (fun _=>rfl) ?_ q hq
     intro ⟨n,k⟩ ⟨hn,hnl⟩ ih2
     simp only at hn hnl
     have hnn := D.Is.length (α := Bool) n
     apply exec_sound ctExOk 300
     rw [exa_go]
     refine ⟨fun hk=>?_,fun hk=>?_⟩
     ·have hk := of_decide_eq_true hk
      have hk2 : k < (n.to Bool).length := by omega
      have hs := hn.size hk2
      simp only [Int.toNat_natCast]
      refine ⟨⟨by omega,by omega,hs⟩,⟨by omega,by rw [hs]; exact Nat.le_refl _,hs⟩,?_⟩
      obtain ⟨i1,i2⟩ := bool_set hn hk2 true
      have := ih2 (_,k + 1) ⟨i1,i2.trans hnl⟩ (by simp only; omega)
      simp only at this
      rw [show ((k + 1 : Nat) : Int) = IntKind.i64.wrap ((k : Int) + 1) by rw [wrap64J (by omega) (by omega)]; rfl] at this
      exact this
     ·have := ih (n,j + 1) ⟨hlt,hn,hnl⟩ (by simp only; omega)
      simp only at this
      rw [← hwj] at this
      exact this
    have := key (m,(l.getInt j 1).toNat) ⟨hm,hlen⟩
    simp only at this
    rw [← e1] at this
    exact this
  ·exact ⟨⟨hm,Nat.le_of_eq hlen⟩,fun hs=>ret_ex (xs := normE (D.to Ex (hs 0 1))) stands_like (normE_good _)⟩
 ·refine (is_of (s := 1) rfl (xs := List.replicate 4096 false) ⟨fun r hr=>?_,?_⟩).1
  ·rw [List.eq_of_mem_replicate hr]; exact ⟨_,rfl⟩
  ·rw [List.map_replicate]; rfl
end Sv
end
noncomputable section
open Go Go.Proofs Sx
namespace Sv
def ctFo : Ctrs := [(103,ctrOf (rdNone.sp spMost)),(141,ctrOf ((rdD.two rdWt).sp spFitsR)),(143,ctrOf ((rdD.two rdInt).sp spExt)),(142,ctrOf ((rdD.three rdInt rdD).sp spPick))]
def foL (l : D) (i : Int) : Conf := ⟨⟨123,none,none,[Item.inLoop (cA 123 [1,0,1,0,0]),Item.inBlock 0,Item.code (cA 123 [1,1])],mkJ 0 [(0,.dat l),(4,.int .i64 i)] 0 36⟩,[],[]⟩
def foM (l : D) (o : SV) (v : Int) (mm : Mem) : Conf := ⟨⟨123,none,none,[Item.inLoop (cA 123 [1,1,1,0,1,0,0]),Item.inBlock 2,Item.code (cA 123 [1,1,1,1])],mkJ 0 [(0,.dat l),(6,o),(7,.int .i64 v)] 0 36⟩,[],mm⟩
section
variable (l o : D) (i : Int)
theorem fo_in : exec Try.prog ctFo 300 (entry Try.prog 123 [.dat l]) =
 Tree.leaf
 (Conf.mk
 (SFrm.mk 123 none none
 [Item.inLoop (cA 123 [1,0,1,0,0]),Item.inBlock 0,Item.code (cA 123 [1,1])]
 (mkJ 0 [(0,.dat l),(4,.int .i64 0)] 0 36))
 [] []) := by kernel_rfl
theorem fo_go : exec Try.prog ctFo 300 (unroll (foL l i)) =
 Tree.br (decide (i < (↑(D.len l) : Int)))
 (.all fun hs =>
 .need (0 ≤ i ∧ i < (↑(D.len l) : Int) ∧ D.sz l = 3)
 (.need (D.HasCells l (Int.toNat i) 0 [FT.int .i64,FT.int .i64,FT.slc])
 (.need
 (D.Is Int (D.like (hs 0 0) most) ∧
 D.len (D.like (hs 0 0) most) ≤ 1048576 ∧
 (∀ (n : Int),List.Mem n (D.to Int (D.like (hs 0 0) most)) → 1 ≤ n ∧ n ≤ 4096) ∧
 WtD.Ok (WtD.mk (D.getInt l (Int.toNat i) 0) (D.getInt l (Int.toNat i) 1) (D.cell l (Int.toNat i) 2)))
 (.br
 (fitsErr (D.to Int (D.like (hs 0 0) most))
 (WtD.wt
 (WtD.mk (D.getInt l (Int.toNat i) 0) (D.getInt l (Int.toNat i) 1) (D.cell l (Int.toNat i) 2))) !=
 0)
 (.ret
 (SV.tup
 [.nils,
 .int .i64
 (fitsErr (D.to Int (D.like (hs 0 0) most))
 (WtD.wt
 (WtD.mk (D.getInt l (Int.toNat i) 0) (D.getInt l (Int.toNat i) 1)
 (D.cell l (Int.toNat i) 2))))]))
 (.leaf
 (Conf.mk
 (SFrm.mk 123 none none
 [Item.inLoop (cA 123 [1,0,1,0,0]),Item.inBlock 0,Item.code (cA 123 [1,1])]
 (mkJ 0 [(0,.dat l),(4,.int .i64 (IntKind.wrap .i64 (i + 1)))] 0 36))
 [] []))))))
 (.leaf
 (Conf.mk
 (SFrm.mk 123 none none
 [Item.inLoop (cA 123 [1,1,1,0,1,0,0]),Item.inBlock 2,
 Item.code (cA 123 [1,1,1,1])]
 (mkJ 0 [(0,.dat l),(6,.nils),(7,.int .i64 0)] 0 36))
 [] [])) := by kernel_rfl
theorem fom_go : exec Try.prog ctFo 300 (unroll (foM l (.vec 0) i [(0,.arr 148 o)])) =
 Tree.br (decide (i < 8))
 (.need (D.Is Wt l ∧ D.len l ≤ 1000000 ∧ ∀ (w : Wt),List.Mem w (D.to Wt l) → FitW w)
 (.all fun hs =>
 .need
 (D.Is Wt l ∧
 D.len l ≤ 1000000 ∧
 (∀ (w : Wt),List.Mem w (D.to Wt l) → FitW w) ∧
 D.Is Ex (D.like (hs 0 0) (normE (D.to Ex (hs 0 1)))) ∧
 GoodE (D.to Ex (D.like (hs 0 0) (normE (D.to Ex (hs 0 1))))))
 (.all fun hs =>
 .need
 (D.sz o = 3 ∧
 D.Fits (D.like (hs 0 0) (normW 4096 (D.to Wt (hs 0 1)))) 3 ∧
 (D.len o + D.len (D.like (hs 0 0) (normW 4096 (D.to Wt (hs 0 1))))) * 40 ≤ 140737488355328 ∧
 D.len o + D.len (D.like (hs 0 0) (normW 4096 (D.to Wt (hs 0 1)))) ≤ 9223372036854775807)
 (.all fun hs_1 =>
 .leaf
 (Conf.mk
 (SFrm.mk 123 none none
 [Item.inLoop (cA 123 [1,1,1,0,1,0,0]),Item.inBlock 2,
 Item.code (cA 123 [1,1,1,1])]
 (mkJ 0 [(0,.dat l),(6,.vec 0),(7,.int .i64 (IntKind.wrap .i64 (i + 1)))] 0
 36))
 []
 [(0,
 OBlk.arr 148
 (D.slc (D.hd (hs_1 0 0)) 3
 (List.append (D.rows o) (D.rows (D.like (hs 0 0) (normW 4096 (D.to Wt (hs 0 1))))))))])))))
 (.ret (SV.tup [.dat o,.int .i64 0])) := by kernel_rfl
end
end Sv
end
noncomputable section
open Go Go.Proofs Sx
namespace Sx
def spFold (x : D) : SpecR := .data [x.Is Wt ∧ x.len ≤ 1000000 ∧ ∀ w,w ∈ x.to Wt → w.data.length ≤ 1000000] fun ds=>.tup [.dat ((ds 0).like (normW 32768 ((ds 1).to Wt))),.int .i64 ((ds 2).getInt 0 0)]
theorem ret_fo {P : Program} {w : World} {H : HV} {X : SV} {xs : List Wt} {e : Int} (hx : Stands Wt X xs) (hg : GoodW 32768 xs) : (Tree.ret (.tup [X,.int .i64 e])).holds P ⟨w,H⟩ (RetD w H fun ds=>.tup [.dat ((ds 0).like (normW 32768 ((ds 1).to Wt))),.int .i64 ((ds 2).getInt 0 0)]) := by
 obtain ⟨d,hd⟩ := hx.se
 have e1 : normW 32768 ((D.like d xs).to Wt) = xs := by rw [D.like_to]; exact normW_of hg
 refine ret_se (fun i=>match i with | 0=>d | 1=>d.like xs | _=>.slc none 1 [[.int .i64 e]]) (se_tup (.cons ?_ (.cons (se_int rfl) .nil)))
 simp only [e1]
 exact hd
theorem fit_most {w : Wt} (h : fitsErr most w = 0) : FitW w := by
 unfold fitsErr at h
 split at h
 ·exact absurd h (by decide)
 split at h
 ·exact absurd h (by decide)
 split at h
 ·exact absurd h (by decide)
 next h1 h2 h3 =>
  have hg : most.getD w.vol.toNat 0 = 4096 := by
   have : w.vol.toNat < 8 := by have : most.length = 8 := rfl; omega
   unfold most
   rw [List.getD_eq_getElem?_getD,List.getElem?_replicate,if_pos this]
   rfl
  rw [hg] at h3
  exact ⟨by omega,by omega,by omega⟩
end Sx
namespace Sv
theorem ctFoOk : Ctrs.Ok Try.prog ctFo := by
 intro x hx
 simp only [ctFo,List.mem_cons,List.not_mem_nil,or_false] at hx
 rcases hx with rfl | rfl | rfl | rfl
 ·exact ctrOf_ok lawMostR
 ·exact ctrOf_ok lawFitsR
 ·exact ctrOf_ok lawExt
 ·exact ctrOf_ok lawPick
theorem lawFold : Law Try.prog 123 (rdD.one.sp spFold) := by
 refine law_in _ (by kernel_rfl) fun H w l hok hp=>?_
 obtain ⟨hl,hbig,hsm⟩ := hp _ (List.mem_singleton.2 rfl)
 have hll := D.Is.length (α := Wt) l
 apply exec_sound ctFoOk 300
 rw [show rdD.one.canon l = [.dat l] from rfl,fo_in]
 refine runs_loop (fun j : Nat=>foL l j) (fun j=>j ≤ (l.to Wt).length ∧ ∀ w,w ∈ (l.to Wt).take j → FitW w) (fun j=>(l.to Wt).length - j) (fun _=>rfl) ?_ 0 ⟨Nat.zero_le _,fun w hw=>by simp at hw⟩
 intro j ⟨hj,hpre⟩ ih
 apply exec_sound ctFoOk 300
 rw [fo_go]
 refine ⟨fun hc hs=>?_,fun hc=>?_⟩
 ·have hlt : j < (l.to Wt).length := by have := of_decide_eq_true hc; omega
  obtain ⟨c1,c2,c3⟩ := wt_cell hl hlt
  have hd := hsm _ (List.getElem_mem hlt)
  rw [c3] at hd
  simp only at hd
  have hdl := D.Is.length (α := Sec) (l.cell j 2)
  simp only [Int.toNat_natCast]
  have hm : ∀ d : D,D.Is Int (d.like most) ∧ (d.like most).len ≤ 1048576 ∧ (∀ n : Int,List.Mem n ((d.like most).to Int) → 1 ≤ n ∧ n ≤ 4096) ∧ WtD.Ok ⟨l.getInt j 0,l.getInt j 1,l.cell j 2⟩ := fun d=>by
   refine ⟨D.like_is _ _,?_,fun n hn=>?_,c2,by rw [hdl]; omega⟩
   ·rw [D.Is.length (α := Int),D.like_to]; exact Nat.le_of_ble_eq_true rfl
   ·have hn : n ∈ (d.like most).to Int := hn
    rw [D.like_to] at hn
    have := List.eq_of_mem_replicate hn
    omega
  refine ⟨⟨by omega,by omega,hl.size hlt⟩,c1,hm _,fun _=>?_,fun hne=>?_⟩
  ·exact ret_fo (xs := []) stands_nils ⟨by simp,by simp⟩
  ·have h0 : fitsErr most (l.to Wt)[j] = 0 := by
    rw [D.like_to] at hne
    rw [c3]
    have : ¬ (fitsErr most (WtD.wt ⟨l.getInt j 0,l.getInt j 1,l.cell j 2⟩) ≠ 0) := by simpa using hne
    exact Decidable.not_not.mp this
   have := ih (j + 1) ⟨hlt,fun w hw=>by
    rw [List.take_succ_eq_append_getElem hlt] at hw
    rcases List.mem_append.1 hw with hw | hw
    ·exact hpre w hw
    ·rw [List.mem_singleton] at hw; subst hw; exact fit_most h0⟩ (by omega)
   rw [show ((j + 1 : Nat) : Int) = IntKind.i64.wrap ((j : Int) + 1) by rw [wrap64J (by omega) (by omega)]; rfl] at this
   exact this
 ·have e : j = (l.to Wt).length := by have := of_decide_eq_false hc; omega
  subst e
  rw [List.take_length] at hpre
  refine vecIn_to 0 148 3 none 6 (foM l (.vec 0) 0 [(0,.arr 148 (.slc none 3 []))]) (by kernel_rfl) ?_
  refine runs_loop (fun p : D × Nat=>foM l (.vec 0) p.2 [(0,.arr 148 p.1)]) (fun p=>p.2 ≤ 8 ∧ p.1.Is Wt ∧ p.1.sz = 3 ∧ GoodW (4096 * p.2) (p.1.to Wt)) (fun p=>8 - p.2) (fun _=>rfl) ?_ (.slc none 3 [],0)
   ⟨Nat.zero_le _,is_nil _ _,rfl,by simp [D.to,D.rows],fun e he=>by simp [D.to,D.rows] at he⟩
  intro ⟨o,v⟩ ⟨hv,ho,hz,hg1,hg2⟩ ih2
  simp only at hv ho hz hg1 hg2
  have hol := D.Is.length (α := Wt) o
  apply exec_sound ctFoOk 300
  rw [fom_go]
  refine ⟨fun hc2=>?_,fun hc2=>?_⟩
  ·have hc2 : v < 8 := by have := of_decide_eq_true hc2; omega
   refine ⟨⟨hl,hbig,hpre⟩,fun hs1=>⟨⟨hl,hbig,hpre,D.like_is _ _,by rw [D.like_to]; exact normE_good _⟩,fun hs2=>?_⟩⟩
   obtain ⟨g1,g2⟩ := normW_good 4096 (D.to Wt (hs2 0 1))
   have hxl : (D.like (hs2 0 0) (normW 4096 (D.to Wt (hs2 0 1)))).len = (normW 4096 (D.to Wt (hs2 0 1))).length := by rw [D.Is.length (α := Wt),D.like_to]
   refine ⟨⟨hz,(D.like_is (α := Wt) _ _).fits,by simp only; rw [hxl]; omega,by simp only; rw [hxl]; omega⟩,fun hs3=>?_⟩
   have hr := rows_app (rows_of ho) (rows_of (D.like_is (α := Wt) (hs2 0 0) (normW 4096 (D.to Wt (hs2 0 1)))))
   obtain ⟨i1,i2⟩ := is_of (h := D.hd (hs3 0 0)) (s := 3) rfl hr
   rw [D.like_to] at i2
   have := ih2 (_,v + 1) ⟨hc2,i1,rfl,by
     rw [i2,List.length_append]; omega,fun y hy=>by
     simp only at hy
     rw [i2] at hy
     rcases List.mem_append.1 hy with hy | hy
     ·exact hg2 y hy
     ·exact g2 y hy⟩ (by simp only; omega)
   simp only at this
   rw [show ((v + 1 : Nat) : Int) = IntKind.i64.wrap ((v : Int) + 1) by rw [wrap64J (by omega) (by omega)]; rfl] at this
   exact this
  ·have e : v = 8 := by have := of_decide_eq_false hc2; omega
   subst e
   exact ret_fo (xs := o.to Wt) (stands_dat ho rfl) ⟨by omega,hg2⟩
end Sv
end
noncomputable section
open Go Go.Proofs Sx
namespace Sx
theorem most_at {n : Nat} (h : n < 8) : most.getD n 0 = 4096 := by
 unfold most
 rw [List.getD_eq_getElem?_getD,List.getElem?_replicate,if_pos h]
 rfl
theorem fit_mono {sz : List Int} (hs : sizesErr sz = 0) {w : Wt} (h : fitsErr sz w = 0) : fitsErr most w = 0 := by
 obtain ⟨s1,s2,s3⟩ := sizesErr_ok hs
 unfold fitsErr at h
 split at h
 ·exact absurd h (by decide)
 split at h
 ·exact absurd h (by decide)
 split at h
 ·exact absurd h (by decide)
 next h1 h2 h3 =>
  have hl : most.length = 8 := rfl
  have hv : w.vol.toNat < sz.length := by omega
  have hg := most_at (n := w.vol.toNat) (by omega)
  have hm : sz.getD w.vol.toNat 0 ≤ 4096 := by
   rw [List.getD_eq_getElem?_getD,List.getElem?_eq_getElem hv]
   exact (s3 _ (List.getElem_mem hv)).2
  unfold fitsErr
  rw [if_neg (by rw [hl]; omega),if_neg h2,if_neg (by rw [hg]; omega)]
theorem canon_mono {sz : List Int} (hs : sizesErr sz = 0) : ∀ (l : List Wt) (p : Option Wt),canonErr sz p l = 0 → canonErr most p l = 0
 | [],_,_=>rfl
 | w :: r,p,h=>by
  unfold canonErr at h ⊢
  split at h
  ·rename_i hc; exact absurd h hc
  ·rename_i hc
   split at h
   ·exact absurd h (by decide)
   ·rename_i hb
    rw [if_neg (by simpa using fit_mono hs (Decidable.not_not.mp hc)),if_neg hb]
    exact canon_mono hs r _ h
theorem cyErr_mono {sz : List Int} (hs : sizesErr sz = 0) {c : Cy} (h : cyErr c sz = 0) : cyErr c most = 0 := by
 have hm : sizesErr most = 0 := by decide
 unfold cyErr at h ⊢
 rw [if_neg (by simp [hs])] at h
 rw [if_neg (by simp [hm])]
 split at h
 ·exact absurd h (by decide)
 rename_i h1
 rw [if_neg h1]
 split at h
 ·exact absurd h (by decide)
 rename_i h2
 rw [if_neg h2]
 split at h
 ·rename_i h3; exact absurd h h3
 rename_i h3
 rw [if_neg h3]
 unfold coErr at h ⊢
 rw [if_neg (by simp [hs])] at h
 rw [if_neg (by simp [hm])]
 exact canon_mono hs _ _ h
theorem applyV_sizes : ∀ (l : List Wt) (j : Nat) (im : List Vol),(applyV j l im).2.2 = 0 → volSizes (applyV j l im).1 = volSizes im
 | [],_,_,_=>rfl
 | w :: r,j,im,h=>by
  unfold applyV at h ⊢
  split at h
  ·rename_i hc; exact absurd h hc
  ·rename_i hc
   rw [if_neg hc,applyV_sizes r (j + 1) _ h]
   exact putW_sizes (Decidable.not_not.mp hc)
theorem applyCy_sizes {im im' : List Vol} {c : Cy} (hs : sizesErr (volSizes im) = 0) (h : applyCy im c = (im',0)) : volSizes im' = volSizes im ∧ cyErr c (volSizes im) = 0 := by
 unfold applyCy at h
 rw [if_neg (by simp [hs])] at h
 split at h
 ·rename_i hc; exact absurd (congrArg Prod.snd h) hc
 ·rename_i hc
  unfold applyI at h
  rw [if_neg (by simp [hs])] at h
  have h1 := congrArg Prod.fst h
  have h2 := congrArg Prod.snd h
  simp only at h1 h2
  rw [← h1]
  exact ⟨applyV_sizes _ _ _ h2,Decidable.not_not.mp hc⟩
theorem contig {a v : Int} {l : List Cy} (h : ChainG a l) (hn : ∀ c,c ∈ l → c.number = c.base + 1) (h1 : a < v) (h2 : v ≤ lastN a l) : v ∈ l.map Cy.number := by
 induction l generalizing a with
 | nil=>rw [show lastN a [] = a from rfl] at h2; omega
 | cons x r ih =>
  obtain ⟨k1,k2,k3,k4⟩ := h
  rw [lastN_cons] at h2
  have := hn x List.mem_cons_self
  by_cases hv : v = x.number
  ·rw [List.map_cons,hv]; exact List.mem_cons_self
  ·rw [List.map_cons]
   exact List.mem_cons_of_mem _ (ih k4 (fun c hc=>hn c (List.mem_cons_of_mem _ hc)) (by omega) h2)
structure Cas where
 r : Rl
 far : Tgt
 imgs : List (List Vol)
 there : List Vol
 stored : List Cy
 sent : List Msg
 ans : List Msg
def LeadG (l : List (List Vol)) (c : Cy) : Prop := c.number = c.base + 1 ∧ CyOk c ∧ ∃ im im',l[c.base.toNat]? = some im ∧ l[c.number.toNat]? = some im' ∧ applyCy im c = (im',0)
theorem LeadG.app {l : List (List Vol)} {c : Cy} {x : List Vol} (h : LeadG l c) : LeadG (l ++ [x]) c := by
 obtain ⟨h1,h2,im,im',h3,h4,h5⟩ := h
 have up : ∀ {i : Nat} {y : List Vol},l[i]? = some y → (l ++ [x])[i]? = some y := fun h=>by
  rw [List.getElem?_append_left (List.getElem?_eq_some_iff.1 h).1]; exact h
 exact ⟨h1,h2,im,im',up h3,up h4,h5⟩
structure CasOk (s : Cas) (sz : List Int) (A S Sf Af N : Int) (K : List Cy) : Prop where
 len : (s.imgs.length : Int) = N + 1
 sz0 : sizesErr sz = 0
 ims : ∀ im,im ∈ s.imgs → volSizes im = sz
 rel : RelG A S N K
 r : s.r = relG A S N K
 far : s.far = ⟨1,1,Sf,Af⟩
 le : A ≤ Af ∧ Af ≤ Sf ∧ S ≤ Sf ∧ Sf ≤ N
 kept : ∀ c,c ∈ K → LeadG s.imgs c
 stn : (s.stored.length : Int) = Sf
 st : ∀ (i : Nat) c,s.stored[i]? = some c → c.base = i ∧ LeadG s.imgs c
 there : s.imgs[Af.toNat]? = some s.there
 far_m : ∀ m,m ∈ s.sent → (m.kind = 8 ∨ m.kind = 10) ∧ m.to = 1 ∧ m.epoch = 1
 near_m : ∀ m,m ∈ s.ans → m.frm = 1 ∧ m.epoch = 1 ∧ ((m.kind = 9 ∧ m.value ≤ Sf) ∨ (m.kind = 11 ∧ m.value ≤ Af))
theorem tgt_ckG {S A : Int} (h1 : 0 ≤ A) (h2 : A ≤ S) (h3 : S ≤ 1073741824) : checkTarget ⟨1,1,S,A⟩ = 0 := by
 unfold checkTarget
 rw [if_neg (by simp [okTime,okSite]),if_neg (by simp only; omega)]
section
variable {s : Cas} {sz : List Int} {A S Sf Af N : Int} {K : List Cy}
theorem CasOk.tck (h : CasOk s sz A S Sf Af N K) : checkTarget s.far = 0 := by
 obtain ⟨r1,r2,r3⟩ := h.rel.range
 obtain ⟨l1,l2,l3,l4⟩ := h.le
 have := h.rel.a0; have := h.rel.top
 rw [h.far]
 exact tgt_ckG (by omega) (by omega) (by omega)
theorem CasOk.mem (h : CasOk s sz A S Sf Af N K) {v : Int} (h1 : A < v) (h2 : v ≤ N) : v ∈ K.map Cy.number :=
 contig h.rel.ch (fun c hc=>(h.kept c hc).1) h1 (by rw [h.rel.last]; exact h2)
theorem CasOk.apply (h : CasOk s sz A S Sf Af N K) {w : List Wt} {im im' : List Vol} (hw : GoodW 32768 w) (hi : s.imgs[N.toNat]? = some im) (ha : applyCy im ⟨N,N + 1,0,[],w⟩ = (im',0)) (hk : K.length < 1000) (hn : N + 1 ≤ 1073741824) :
  applyRl s.r ⟨N,N + 1,0,[],w⟩ = (relG A S (N + 1) (K ++ [⟨N,N + 1,0,[],w⟩]),[⟨8,0,1,N + 1,0,1,[],[]⟩],0) ∧
  CasOk { s with r := relG A S (N + 1) (K ++ [⟨N,N + 1,0,[],w⟩]),imgs := s.imgs ++ [im'],sent := s.sent ++ [⟨8,0,1,N + 1,0,1,[],[]⟩] } sz A S Sf Af (N + 1) (K ++ [⟨N,N + 1,0,[],w⟩]) := by
 obtain ⟨r1,r2,r3⟩ := h.rel.range
 obtain ⟨l1,l2,l3,l4⟩ := h.le
 have ha0 := h.rel.a0
 have hsz := h.ims im (List.mem_of_getElem? hi)
 obtain ⟨q1,q2⟩ := applyCy_sizes (by rw [hsz]; exact h.sz0) ha
 rw [hsz] at q1 q2
 obtain ⟨a1,a2⟩ := applyG_rel (c := ⟨N,N + 1,0,[],w⟩) (n := N + 1) h.rel hk rfl rfl (cyErr_mono h.sz0 q2) (by omega) hn
 rw [h.r]
 refine ⟨a1,?_,h.sz0,fun y hy=>?_,a2,rfl,h.far,⟨l1,l2,l3,by omega⟩,fun c hc=>?_,h.stn,fun i c hc=>⟨(h.st i c hc).1,(h.st i c hc).2.app⟩,?_,fun m hm=>?_,h.near_m⟩
 ·simp only [List.length_append,List.length_cons,List.length_nil]; have := h.len; omega
 ·rcases List.mem_append.1 hy with hy | hy
  ·exact h.ims y hy
  ·rw [List.mem_singleton.1 hy]; exact q1
 ·rcases List.mem_append.1 hc with hc | hc
  ·exact (h.kept c hc).app
  ·rw [List.mem_singleton.1 hc]
   have hlen := h.len
   refine ⟨rfl,⟨by simp,by have := hw.1; simp only; omega,fun x hx=>by have := hw.2 x hx; omega⟩,im,im',?_,?_,ha⟩
   ·simp only
    rw [List.getElem?_append_left (by omega)]; exact hi
   ·simp only
    rw [show (N + 1).toNat = s.imgs.length by omega]
    simp
 ·simp only
  rw [List.getElem?_append_left (List.getElem?_eq_some_iff.1 h.there).1]; exact h.there
 ·rcases List.mem_append.1 hm with hm | hm
  ·exact h.far_m m hm
  ·rw [List.mem_singleton.1 hm]; exact ⟨.inl rfl,rfl,rfl⟩
theorem CasOk.data (h : CasOk s sz A S Sf Af N K) {c : Cy} (hx : nextRl s.r = (c,true)) (c2 : Sf < c.number) (c3 : c.base ≤ Sf) :
  c.number = Sf + 1 ∧ CyOk c ∧ store s.far c.number = (⟨1,1,Sf + 1,Af⟩,[⟨9,1,0,0,Sf + 1,1,[],[]⟩],0) ∧
  CasOk { s with far := ⟨1,1,Sf + 1,Af⟩,stored := s.stored ++ [c],ans := s.ans ++ [⟨9,1,0,0,Sf + 1,1,[],[]⟩] } sz A S (Sf + 1) Af N K := by
 obtain ⟨r1,r2,r3⟩ := h.rel.range
 have ha := h.rel.a0
 have htop := h.rel.top
 obtain ⟨l1,l2,l3,l4⟩ := h.le
 have m1 := (next_mem (r := s.r) (by rw [hx])).1
 have hkept : s.r.kept = K := by rw [h.r]; rfl
 rw [hkept,hx] at m1
 simp only at m1
 obtain ⟨k1,k2,k3,k4⟩ := (chainG_le h.rel.ch).2 c m1
 rw [h.rel.last] at k2
 have hL := h.kept c m1
 have hb := hL.1
 have hc : c.number = Sf + 1 := by omega
 have hck := h.tck
 refine ⟨hc,hL.2.1,?_,h.len,h.sz0,h.ims,h.rel,h.r,rfl,⟨l1,by omega,by omega,by omega⟩,h.kept,?_,fun i x hx=>?_,h.there,h.far_m,fun m hm=>?_⟩
 ·rw [hc]
  unfold store
  rw [if_neg (by simp [hck]),if_neg (by rw [h.far]; simp only; omega),if_neg (by omega),h.far]
  rfl
 ·simp only [List.length_append,List.length_cons,List.length_nil]; have := h.stn; omega
 ·simp only at hx
  have hl := h.stn
  by_cases hi : i < s.stored.length
  ·rw [List.getElem?_append_left hi] at hx
   exact h.st i x hx
  ·rw [List.getElem?_append_right (by omega)] at hx
   cases hj : i - s.stored.length with
   | zero =>
    rw [hj] at hx
    simp at hx
    subst hx
    exact ⟨by omega,hL⟩
   | succ j=>rw [hj] at hx; simp at hx
 ·rcases List.mem_append.1 hm with hm | hm
  ·obtain ⟨q1,q2,q3⟩ := h.near_m m hm
   refine ⟨q1,q2,?_⟩
   rcases q3 with ⟨q3,q4⟩ | q3
   ·exact .inl ⟨q3,by omega⟩
   ·exact .inr q3
  ·rw [List.mem_singleton.1 hm]; exact ⟨rfl,rfl,.inl ⟨rfl,Int.le_refl _⟩⟩
theorem CasOk.next (h : CasOk s sz A S Sf Af N K) (hn : S < N) : ∃ c,nextRl s.r = (c,true) ∧ c.number = S + 1 ∧ c.base = S := by
 obtain ⟨r1,r2,r3⟩ := h.rel.range
 have hck : ckRl s.r = 0 := by rw [h.r]; exact h.rel.ck
 have hk : s.r.kept = K := by rw [h.r]; rfl
 have hs : s.r.src.stored = S := by rw [h.r]; rfl
 unfold nextRl
 rw [if_neg (by simp [hck]),hk,hs]
 have hch : ChainG S (behindL K S) := by
  rcases h.rel.st with e | e
  ·rw [e]
   rw [behindG_all h.rel.ch (Int.le_refl _)]
   exact h.rel.ch
  ·exact (chainG_cut h.rel.ch e).1
 obtain ⟨c0,hc0,hc1⟩ := List.mem_map.1 (h.mem (v := S + 1) (by omega) (by omega))
 have hin : c0 ∈ behindL K S := List.mem_filter.2 ⟨hc0,by simp; omega⟩
 cases hb : behindL K S with
 | nil=>rw [hb] at hin; cases hin
 | cons c t =>
  rw [hb] at hch
  obtain ⟨k1,k2,k3,k4⟩ := hch
  have hcm : c ∈ K := (List.mem_filter.1 (show c ∈ behindL K S by rw [hb]; exact List.mem_cons_self)).1
  have := (h.kept c hcm).1
  exact ⟨c,rfl,by omega,by omega⟩
theorem CasOk.put (h : CasOk s sz A S Sf Af N K) (hn : Af < Sf) : ∃ c im',s.stored[Af.toNat]? = some c ∧ CyOk c ∧ applyCy s.there c = (im',0) ∧ applyT s.far (Af + 1) = (⟨1,1,Sf,Af + 1⟩,[⟨11,1,0,0,Af + 1,1,[],[]⟩],0) ∧
  CasOk { s with far := ⟨1,1,Sf,Af + 1⟩,there := im',ans := s.ans ++ [⟨11,1,0,0,Af + 1,1,[],[]⟩] } sz A S Sf (Af + 1) N K := by
 obtain ⟨r1,r2,r3⟩ := h.rel.range
 have ha := h.rel.a0
 have htop := h.rel.top
 obtain ⟨l1,l2,l3,l4⟩ := h.le
 have hl := h.stn
 have hlt : Af.toNat < s.stored.length := by omega
 have hc := List.getElem?_eq_getElem hlt
 obtain ⟨b1,b2,b3,im,im',b4,b5,b6⟩ := h.st _ _ hc
 generalize s.stored[Af.toNat] = c at *
 have hb : c.base.toNat = Af.toNat := by omega
 rw [hb,h.there] at b4
 cases b4
 have hck := h.tck
 refine ⟨c,im',hc,b3,b6,?_,h.len,h.sz0,h.ims,h.rel,h.r,rfl,⟨by omega,by omega,l3,l4⟩,h.kept,h.stn,h.st,?_,h.far_m,fun m hm=>?_⟩
 ·unfold applyT
  rw [if_neg (by simp [hck]),if_neg (by rw [h.far]; simp only; omega),if_neg (by rw [h.far]; simp only; omega),h.far]
  rfl
 ·simp only
  rw [← b5]; congr 1; omega
 ·rcases List.mem_append.1 hm with hm | hm
  ·obtain ⟨q1,q2,q3⟩ := h.near_m m hm
   refine ⟨q1,q2,?_⟩
   rcases q3 with q3 | ⟨q3,q4⟩
   ·exact .inl q3
   ·exact .inr ⟨q3,by omega⟩
  ·rw [List.mem_singleton.1 hm]; exact ⟨rfl,rfl,.inr ⟨rfl,Int.le_refl _⟩⟩
theorem CasOk.answer (h : CasOk s sz A S Sf Af N K) {m : Msg} (hm : (m.kind = 8 ∨ m.kind = 10) ∧ m.to = 1 ∧ m.epoch = 1) :
  ∃ x,answer s.far m = (⟨1,1,Sf,Af⟩,[x]) ∧ x.frm = 1 ∧ x.epoch = 1 ∧ (m.kind = 8 → x.kind = 9 ∧ x.value = Sf) ∧ (m.kind = 10 → x.kind = 11 ∧ x.value = Af) ∧ CasOk { s with far := ⟨1,1,Sf,Af⟩,ans := s.ans ++ [x] } sz A S Sf Af N K := by
 obtain ⟨m1,m2,m3⟩ := hm
 have hck := h.tck
 have go : ∀ x : Msg,x.frm = 1 → x.epoch = 1 → ((x.kind = 9 ∧ x.value ≤ Sf) ∨ (x.kind = 11 ∧ x.value ≤ Af)) → CasOk { s with far := ⟨1,1,Sf,Af⟩,ans := s.ans ++ [x] } sz A S Sf Af N K := fun x g1 g2 g3 =>
  ⟨h.len,h.sz0,h.ims,h.rel,h.r,rfl,h.le,h.kept,h.stn,h.st,h.there,h.far_m,fun y hy=>by
   rcases List.mem_append.1 hy with hy | hy
   ·exact h.near_m y hy
   ·rw [List.mem_singleton.1 hy]; exact ⟨g1,g2,g3⟩⟩
 rw [h.far] at hck
 rw [h.far]
 by_cases h8 : m.kind = 8
 ·refine ⟨⟨9,1,0,0,Sf,1,[],[]⟩,?_,rfl,rfl,fun _=>⟨rfl,rfl⟩,fun h10=>by omega,go _ rfl rfl (.inl ⟨rfl,Int.le_refl _⟩)⟩
  unfold Sx.answer
  rw [if_neg (by simp [hck,m2,m3,okTime,h8]),if_neg (by simp [m3])]
  simp only [m3,gt_iff_lt,Int.lt_irrefl,if_false]
  rw [if_pos h8]
  rfl
 ·have h10 : m.kind = 10 := by omega
  refine ⟨⟨11,1,0,0,Af,1,[],[]⟩,?_,rfl,rfl,fun h=>absurd h h8,fun _=>⟨rfl,rfl⟩,go _ rfl rfl (.inr ⟨rfl,Int.le_refl _⟩)⟩
  unfold Sx.answer
  rw [if_neg (by simp [hck,m2,m3,okTime,h10]),if_neg (by simp [m3])]
  simp only [m3,gt_iff_lt,Int.lt_irrefl,if_false]
  rw [if_neg h8]
  rfl
theorem CasOk.learn (h : CasOk s sz A S Sf Af N K) {m : Msg} (q1 : m.frm = 1) (q2 : m.epoch = 1) (q3 : (m.kind = 9 ∧ m.value ≤ Sf) ∨ (m.kind = 11 ∧ m.value ≤ Af)) :
  ∃ A' S' K',CasOk { s with r := (learnRl s.r m).1,sent := s.sent ++ (learnRl s.r m).2 } sz A' S' Sf Af N K' ∧ A ≤ A' ∧ S ≤ S' ∧ K'.length ≤ K.length ∧ (learnRl s.r m).2.length ≤ 1 ∧ (m.kind = 9 → m.value ≤ S') ∧ (m.kind = 11 → m.value ≤ A') := by
 obtain ⟨r1,r2,r3⟩ := h.rel.range
 obtain ⟨l1,l2,l3,l4⟩ := h.le
 obtain ⟨mk,mf,mt,mn,mv,me,vs,bs⟩ := m
 simp only at q1 q2 q3
 subst q1; subst q2
 rw [h.r]
 rcases q3 with ⟨rfl,q4⟩ | ⟨rfl,q4⟩
 ·by_cases hin : mv ∈ K.map Cy.number ∧ mv ≥ S
  ·rcases learnG_stored (v := mv) (mn := mn) (t := mt) (vs := vs) (bs := bs) h.rel with e | ⟨e,hr,hge⟩
   ·exfalso
    have hl := learnG_src h.rel 9 mv mn mt vs bs
    rw [if_neg (by omega),if_pos rfl,if_pos hin] at hl
    rw [learnG_of h.rel hl] at e
    have := congrArg (fun p : Rl × List Msg=>p.2.length) e
    simp at this
   ·rw [e]
    refine ⟨A,mv,K,⟨h.len,h.sz0,h.ims,hr,rfl,h.far,⟨l1,l2,q4,l4⟩,h.kept,h.stn,h.st,h.there,fun x hx=>?_,h.near_m⟩,Int.le_refl _,hge,Nat.le_refl _,by simp,fun _=>Int.le_refl _,fun hk=>absurd hk (by simp)⟩
    rcases List.mem_append.1 hx with hx | hx
    ·exact h.far_m x hx
    ·rw [List.mem_singleton.1 hx]; exact ⟨.inr rfl,rfl,rfl⟩
  ·have hle : mv ≤ S := by
    by_cases hA : A < mv
    ·have := h.mem hA (by omega)
     simp only [this,true_and,ge_iff_le,Int.not_le] at hin
     omega
    ·omega
   have e : learnRl (relG A S N K) ⟨9,1,mt,mn,mv,1,vs,bs⟩ = (relG A S N K,[]) := by
    have hl := learnG_src h.rel 9 mv mn mt vs bs
    rw [if_neg (by omega),if_pos rfl,if_neg hin] at hl
    rw [learnG_of h.rel hl,behindG_all h.rel.ch (Int.le_refl _)]; rfl
   rw [e]
   exact ⟨A,S,K,⟨h.len,h.sz0,h.ims,h.rel,rfl,h.far,h.le,h.kept,h.stn,h.st,h.there,by simpa using h.far_m,h.near_m⟩,Int.le_refl _,Int.le_refl _,Nat.le_refl _,by simp,fun _=>hle,fun hk=>absurd hk (by simp)⟩
 ·by_cases hin : mv ∈ K.map Cy.number
  ·rcases learnG_applied (v := mv) (mn := mn) (t := mt) (vs := vs) (bs := bs) h.rel with e | ⟨hv,e,hr⟩
   ·exfalso
    have hl := learnG_src h.rel 11 mv mn mt vs bs
    rw [if_neg (by omega),if_neg (by omega),if_pos rfl,if_pos hin] at hl
    rw [learnG_of h.rel hl] at e
    have h1 := congrArg (fun p : Rl × List Msg=>p.1.far.applied) e
    simp only [relG] at h1
    obtain ⟨c,hc,hcv⟩ := List.mem_map.1 hin
    have := (chainG_le h.rel.ch).2 c hc
    omega
   ·rw [e]
    obtain ⟨c,hc,hcv⟩ := List.mem_map.1 hv
    have hlt := (chainG_le h.rel.ch).2 c hc
    refine ⟨mv,max S mv,behindL K mv,⟨h.len,h.sz0,h.ims,hr,rfl,h.far,⟨q4,l2,by rw [Int.max_def]; split <;> omega,l4⟩,fun c hc=>h.kept c (List.mem_filter.1 hc).1,h.stn,h.st,h.there,by simpa using h.far_m,h.near_m⟩,by omega,by rw [Int.max_def]; split <;> omega,List.length_filter_le _ _,by simp,fun hk=>absurd hk (by simp),fun _=>Int.le_refl _⟩
  ·have hle : mv ≤ A := by
    by_cases hA : A < mv
    ·exact absurd (h.mem hA (by omega)) hin
    ·omega
   have e : learnRl (relG A S N K) ⟨11,1,mt,mn,mv,1,vs,bs⟩ = (relG A S N K,[]) := by
    have hl := learnG_src h.rel 11 mv mn mt vs bs
    rw [if_neg (by omega),if_neg (by omega),if_pos rfl,if_neg hin] at hl
    rw [learnG_of h.rel hl,behindG_all h.rel.ch (Int.le_refl _)]; rfl
   rw [e]
   exact ⟨A,S,K,⟨h.len,h.sz0,h.ims,h.rel,rfl,h.far,h.le,h.kept,h.stn,h.st,h.there,by simpa using h.far_m,h.near_m⟩,Int.le_refl _,Int.le_refl _,Nat.le_refl _,by simp,fun hk=>absurd hk (by simp),fun _=>hle⟩
theorem CasOk.resend (h : CasOk s sz A S Sf Af N K) : CasOk { s with sent := s.sent ++ Sx.resend s.r.src } sz A S Sf Af N K ∧ (Sx.resend s.r.src).length ≤ K.length + 1 ∧
  (A < S → ∃ x,x ∈ Sx.resend s.r.src ∧ x.kind = 10 ∧ x.number = S) ∧ (S < N → ∃ x,x ∈ Sx.resend s.r.src ∧ x.kind = 8) := by
 obtain ⟨r1,r2,r3⟩ := h.rel.range
 have e1 : s.r.src = ⟨1,1,K.map Cy.number,S,A⟩ := by rw [h.r]; rfl
 have e2 : Sx.resend s.r.src = (if S > A then [⟨10,0,1,S,0,1,[],[]⟩] else []) ++ ((K.map Cy.number).filter fun x=>decide (x > S)).map fun x=>⟨8,0,1,x,0,1,[],[]⟩ := by
  rw [e1]
  unfold Sx.resend
  rw [if_neg (by simp [h.rel.src])]
  rfl
 rw [e2]
 refine ⟨⟨h.len,h.sz0,h.ims,h.rel,h.r,h.far,h.le,h.kept,h.stn,h.st,h.there,fun m hm=>?_,h.near_m⟩,?_,fun hS=>?_,fun hS=>?_⟩
 ·rcases List.mem_append.1 hm with hm | hm
  ·exact h.far_m m hm
  ·rcases List.mem_append.1 hm with hm | hm
   ·split at hm
    ·rw [List.mem_singleton.1 hm]; exact ⟨.inr rfl,rfl,rfl⟩
    ·cases hm
   ·obtain ⟨x,_,rfl⟩ := List.mem_map.1 hm
    exact ⟨.inl rfl,rfl,rfl⟩
 ·have := List.length_filter_le (fun x=>decide (x > S)) (K.map Cy.number)
  simp only [List.length_append,List.length_map] at this ⊢
  split <;> simp only [List.length_cons,List.length_nil] <;> omega
 ·exact ⟨_,List.mem_append_left _ (by rw [if_pos hS]; exact List.mem_singleton.2 rfl),rfl,rfl⟩
 ·exact ⟨_,List.mem_append_right _ (List.mem_map_of_mem (List.mem_filter.2 ⟨h.mem (v := S + 1) (by omega) (by omega),by simp; omega⟩)),rfl⟩
theorem CasOk.lag (h : CasOk s sz A S Sf Af N K) : ckRl s.r = 0 ∧ lagRl s.r = N - A := by
 have hck : ckRl s.r = 0 := by rw [h.r]; exact h.rel.ck
 refine ⟨hck,?_⟩
 unfold lagRl
 rw [if_neg (by simp [hck]),h.r]; rfl
theorem CasOk.none (h : CasOk s sz A S Sf Af N K) (hA : A = N) : K = [] := by
 cases K with
 | nil=>rfl
 | cons c t =>
  have h1 := (chainG_le h.rel.ch).2 c List.mem_cons_self
  rw [h.rel.last] at h1
  omega
end
end Sx
end
noncomputable section
open Go Go.Proofs Sx
namespace Sv
def casM (o k ims th mp se an : D) (r : Rl) (far : Tgt) : Mem :=
 [(100000,.cells 82 (rlL o k r ++ [.int .i64 far.epoch,.int .i64 far.site,.int .i64 far.stored,.int .i64 far.applied,.vec 0,.dat th,.mapp 100001,.vec 1,.vec 2])),
 (100001,.mapD .i64 true [.int .i64,.int .i64,.int .i64,.slc,.slc] mp),(0,.arr 23 ims),(1,.arr 72 se),(2,.arr 72 an)]
def ctK1 : Ctrs := [(123,ctrOf (rdD.one.sp spFold)),(44,ctrOf ((rdRl.two rdCy).sp spApplyRl)),(25,ctrOf ((rdD.two rdCy).sp spCyA))]
section
variable (o k ims th mp se an ml mb wl : D) (r : Rl) (far : Tgt) (mk mf mt mn mv me : Int)
theorem cap_in : 
 let z1 := (RlD.mk (Tgt.mk (Tgt.epoch (Rl.near r)) (Tgt.site (Rl.near r)) (Tgt.stored (Rl.near r)) (Tgt.applied (Rl.near r))) (Tgt.mk (Tgt.epoch (Rl.far r)) (Tgt.site (Rl.far r)) (Tgt.stored (Rl.far r)) (Tgt.applied (Rl.far r))) (SrcD.mk (Src.epoch (Rl.src r)) (Src.site (Rl.src r)) (D.like o (Src.offered (Rl.src r))) (Src.stored (Rl.src r)) (Src.applied (Rl.src r))) (D.like k (Rl.kept r)))
 let z2 := (IntKind.wrap .i64 (IntKind.wrap .i64 ((↑(D.len ims) : Int) - 1) + 1))
 let z3 := (IntKind.wrap .i64 ((↑(D.len ims) : Int) - 1))
 let z5 := (D.cell ims (Int.toNat z3) 0)
 let z6 := (cA 85 [1,1,1,1,1,0,1,0,1])
 let z4 : Tree := (.leaf (Conf.mk (SFrm.mk 85 none none [Item.code z6,Item.code (cA 85 [1,1,1,1,1,1])] (mkJ 0 [(4,.lb true)] 0 88)) [] [(1,OBlk.arr 23 ims),(3,OBlk.arr 72 se),(4,OBlk.arr 72 an),(100000,OBlk.cells 82 [.int .i64 (Tgt.epoch (Rl.near r)),.int .i64 (Tgt.site (Rl.near r)),.int .i64 (Tgt.stored (Rl.near r)),.int .i64 (Tgt.applied (Rl.near r)),.int .i64 (Tgt.epoch (Rl.far r)),.int .i64 (Tgt.site (Rl.far r)),.int .i64 (Tgt.stored (Rl.far r)),.int .i64 (Tgt.applied (Rl.far r)),.int .i64 (Src.epoch (Rl.src r)),.int .i64 (Src.site (Rl.src r)),.dat (D.like o (Src.offered (Rl.src r))),.int .i64 (Src.stored (Rl.src r)),.int .i64 (Src.applied (Rl.src r)),.dat (D.like k (Rl.kept r)),.int .i64 (Tgt.epoch far),.int .i64 (Tgt.site far),.int .i64 (Tgt.stored far),.int .i64 (Tgt.applied far),.vec 1,.dat th,.mapp 100001,.vec 3,.vec 4]),(100001,OBlk.mapD .i64 true [FT.int .i64,FT.int .i64,FT.int .i64,FT.slc,FT.slc] mp)]))
 execRS Try.prog ctK1 [] 400 (sysE 85 88 [(0,.ptr 100000 0),(1,.dat wl)] (casM o k ims th mp se an r far)) =
 Tree.need (D.Is Wt wl ∧ D.len wl ≤ 1000000 ∧ ∀ (w : Wt),List.Mem w (D.to Wt wl) → List.length (Wt.data w) ≤ 1000000) (.all fun hs=>.all fun hs_1=>.need (0 ≤ IntKind.wrap .i64 ((↑(D.len ims) : Int) - 1) ∧ IntKind.wrap .i64
 ((↑(D.len ims) : Int) - 1) < (↑(D.len ims) : Int) ∧ D.sz ims = 1) (.need (D.HasCell ims (Int.toNat z3) 0 FT.slc ∧ D.sz ims = 1) (.need (D.Is Vol z5 ∧ D.len z5 ≤ 1048576 ∧ CyD.Ok (CyD.mk z3 z2 0 (D.slc none 0 [])
 (D.like (hs 0 0) (normW 32768 (D.to Wt (hs 0 1)))))) (.br (D.getInt (hs 0 2) 0 0 != 0) z4 (.br (Prod.snd (applyCy (D.to Vol z5) (CyD.cy (CyD.mk z3 z2 0 (D.slc none 0 []) (D.like (hs 0 0) (normW 32768 (D.to Wt
 (hs 0 1))))))) != 0) z4 (.all fun hs_2=>.need (RlD.Ok z1 ∧ CyD.Ok (CyD.mk z3 z2 0 (D.slc none 0 []) (D.like (hs 0 0) (normW 32768 (D.to Wt (hs 0 1)))))) (.all fun hs_3=>.need (D.sz se = 8 ∧ D.Fits
 (D.like (hs_2 5 2) (Prod.fst (Prod.snd (applyRl (RlD.rl z1) (CyD.cy (CyD.mk z3 z2 0 (D.slc none 0 []) (D.like (hs 0 0) (normW 32768 (D.to Wt (hs 0 1)))))))))) 8 ∧ (D.len se + D.len (D.like (hs_2 5 2) (Prod.fst
 (Prod.snd (applyRl (RlD.rl z1) (CyD.cy (CyD.mk z3 z2 0 (D.slc none 0 []) (D.like (hs 0 0) (normW 32768 (D.to Wt (hs 0 1))))))))))) * 96 ≤ 140737488355328 ∧ D.len se + D.len (D.like (hs_2 5 2) (Prod.fst
 (Prod.snd (applyRl (RlD.rl z1) (CyD.cy (CyD.mk z3 z2 0 (D.slc none 0 []) (D.like (hs 0 0) (normW 32768 (D.to Wt (hs 0 1)))))))))) ≤ 9223372036854775807) (.need (D.sz ims = 1 ∧ D.Fits (D.slc (D.hd (hs_3 15 0)) 1 [[D.like
 (hs_1 8 0) (Prod.fst (applyCy (D.to Vol z5) (CyD.cy (CyD.mk z3 z2 0 (D.slc none 0 []) (D.like (hs 0 0) (normW 32768 (D.to Wt (hs 0 1))))))))]]) 1 ∧ (D.len ims + D.len (D.slc (D.hd (hs_3 15 0)) 1 [[D.like
 (hs_1 8 0) (Prod.fst (applyCy (D.to Vol z5) (CyD.cy (CyD.mk z3 z2 0 (D.slc none 0 []) (D.like (hs 0 0) (normW 32768 (D.to Wt (hs 0 1))))))))]])) * 24 ≤ 140737488355328 ∧ D.len ims + D.len (D.slc (D.hd
 (hs_3 15 0)) 1 [[D.like (hs_1 8 0) (Prod.fst (applyCy (D.to Vol z5) (CyD.cy (CyD.mk z3 z2 0 (D.slc none 0 []) (D.like (hs 0 0) (normW 32768 (D.to Wt (hs 0 1))))))))]]) ≤ 9223372036854775807) (.br (decide
 (Prod.snd (Prod.snd (applyRl (RlD.rl z1) (CyD.cy (CyD.mk z3 z2 0 (D.slc none 0 []) (D.like (hs 0 0) (normW 32768 (D.to Wt (hs 0 1)))))))) = 0)) (.leaf (Conf.mk (SFrm.mk 85 none none [Item.code z6] (mkJ 0 [(4,.bool
 (decide ((↑(D.len (D.like (hs_2 5 2) (Prod.fst (Prod.snd (applyRl (RlD.rl z1) (CyD.cy (CyD.mk z3 z2 0 (D.slc none 0 []) (D.like (hs 0 0) (normW 32768 (D.to Wt (hs 0 1))))))))))) : Int) = 1)))] 0 88)) [] [(0,OBlk.arr 23
 (D.slc (D.hd (hs_3 16 0)) 1 (List.append (D.rows ims) (D.rows (D.slc (D.hd (hs_3 15 0)) 1 [[D.like (hs_1 8 0) (Prod.fst (applyCy (D.to Vol z5) (CyD.cy (CyD.mk z3 z2 0 (D.slc none 0 []) (D.like (hs 0 0)
 (normW 32768 (D.to Wt (hs 0 1))))))))]]))))),(1,OBlk.arr 72 (D.slc (D.hd (hs_3 9 0)) 8 (List.append (D.rows se) (D.rows (D.like (hs_2 5 2) (Prod.fst (Prod.snd (applyRl (RlD.rl z1) (CyD.cy (CyD.mk z3 z2 0
 (D.slc none 0 []) (D.like (hs 0 0) (normW 32768 (D.to Wt (hs 0 1)))))))))))))),(4,OBlk.arr 72 an),(100000,OBlk.cells 82 [.int .i64 (Tgt.epoch (Rl.near (Prod.fst (applyRl (RlD.rl z1) (CyD.cy (CyD.mk z3 z2 0
 (D.slc none 0 []) (D.like (hs 0 0) (normW 32768 (D.to Wt (hs 0 1)))))))))),.int .i64 (Tgt.site (Rl.near (Prod.fst (applyRl (RlD.rl z1) (CyD.cy (CyD.mk z3 z2 0 (D.slc none 0 []) (D.like (hs 0 0) (normW 32768
 (D.to Wt (hs 0 1)))))))))),.int .i64 (Tgt.stored (Rl.near (Prod.fst (applyRl (RlD.rl z1) (CyD.cy (CyD.mk z3 z2 0 (D.slc none 0 []) (D.like (hs 0 0) (normW 32768 (D.to Wt (hs 0 1)))))))))),.int .i64 (Tgt.applied
 (Rl.near (Prod.fst (applyRl (RlD.rl z1) (CyD.cy (CyD.mk z3 z2 0 (D.slc none 0 []) (D.like (hs 0 0) (normW 32768 (D.to Wt (hs 0 1)))))))))),.int .i64 (Tgt.epoch (Rl.far (Prod.fst (applyRl (RlD.rl z1) (CyD.cy
 (CyD.mk z3 z2 0 (D.slc none 0 []) (D.like (hs 0 0) (normW 32768 (D.to Wt (hs 0 1)))))))))),.int .i64 (Tgt.site (Rl.far (Prod.fst (applyRl (RlD.rl z1) (CyD.cy (CyD.mk z3 z2 0 (D.slc none 0 []) (D.like
 (hs 0 0) (normW 32768 (D.to Wt (hs 0 1)))))))))),.int .i64 (Tgt.stored (Rl.far (Prod.fst (applyRl (RlD.rl z1) (CyD.cy (CyD.mk z3 z2 0 (D.slc none 0 []) (D.like (hs 0 0) (normW 32768 (D.to Wt (hs 0 1)))))))))),.int .i64
 (Tgt.applied (Rl.far (Prod.fst (applyRl (RlD.rl z1) (CyD.cy (CyD.mk z3 z2 0 (D.slc none 0 []) (D.like (hs 0 0) (normW 32768 (D.to Wt (hs 0 1)))))))))),.int .i64 (Src.epoch (Rl.src (Prod.fst (applyRl (RlD.rl z1)
 (CyD.cy (CyD.mk z3 z2 0 (D.slc none 0 []) (D.like (hs 0 0) (normW 32768 (D.to Wt (hs 0 1)))))))))),.int .i64 (Src.site (Rl.src (Prod.fst (applyRl (RlD.rl z1) (CyD.cy (CyD.mk z3 z2 0 (D.slc none 0 [])
 (D.like (hs 0 0) (normW 32768 (D.to Wt (hs 0 1)))))))))),.dat (D.like (hs_2 5 0) (Src.offered (Rl.src (Prod.fst (applyRl (RlD.rl z1) (CyD.cy (CyD.mk z3 z2 0 (D.slc none 0 []) (D.like (hs 0 0) (normW 32768
 (D.to Wt (hs 0 1))))))))))),.int .i64 (Src.stored (Rl.src (Prod.fst (applyRl (RlD.rl z1) (CyD.cy (CyD.mk z3 z2 0 (D.slc none 0 []) (D.like (hs 0 0) (normW 32768 (D.to Wt (hs 0 1)))))))))),.int .i64 (Src.applied
 (Rl.src (Prod.fst (applyRl (RlD.rl z1) (CyD.cy (CyD.mk z3 z2 0 (D.slc none 0 []) (D.like (hs 0 0) (normW 32768 (D.to Wt (hs 0 1)))))))))),.dat (D.like (hs_2 5 1) (Rl.kept (Prod.fst (applyRl (RlD.rl z1)
 (CyD.cy (CyD.mk z3 z2 0 (D.slc none 0 []) (D.like (hs 0 0) (normW 32768 (D.to Wt (hs 0 1)))))))))),.int .i64 (Tgt.epoch far),.int .i64 (Tgt.site far),.int .i64 (Tgt.stored far),.int .i64 (Tgt.applied far),.vec 0,.dat th,.mapp 100001,.vec 1,.vec 4]),
 (100001,OBlk.mapD .i64 true [FT.int .i64,FT.int .i64,FT.int .i64,FT.slc,FT.slc] mp)])) (.leaf (Conf.mk (SFrm.mk 85 none none [Item.code z6] (mkJ 0 [(4,.lb false)] 0 88)) [] [(0,OBlk.arr 23 (D.slc
 (D.hd (hs_3 16 0)) 1 (List.append (D.rows ims) (D.rows (D.slc (D.hd (hs_3 15 0)) 1 [[D.like (hs_1 8 0) (Prod.fst (applyCy (D.to Vol z5) (CyD.cy (CyD.mk z3 z2 0 (D.slc none 0 []) (D.like (hs 0 0) (normW 32768
 (D.to Wt (hs 0 1))))))))]]))))),(1,OBlk.arr 72 (D.slc (D.hd (hs_3 9 0)) 8 (List.append (D.rows se) (D.rows (D.like (hs_2 5 2) (Prod.fst (Prod.snd (applyRl (RlD.rl z1) (CyD.cy (CyD.mk z3 z2 0 (D.slc none 0 [])
 (D.like (hs 0 0) (normW 32768 (D.to Wt (hs 0 1)))))))))))))),(4,OBlk.arr 72 an),(100000,OBlk.cells 82 [.int .i64 (Tgt.epoch (Rl.near (Prod.fst (applyRl (RlD.rl z1) (CyD.cy (CyD.mk z3 z2 0 (D.slc none 0 [])
 (D.like (hs 0 0) (normW 32768 (D.to Wt (hs 0 1)))))))))),.int .i64 (Tgt.site (Rl.near (Prod.fst (applyRl (RlD.rl z1) (CyD.cy (CyD.mk z3 z2 0 (D.slc none 0 []) (D.like (hs 0 0) (normW 32768 (D.to Wt (hs 0 1)))))))))),.int .i64
 (Tgt.stored (Rl.near (Prod.fst (applyRl (RlD.rl z1) (CyD.cy (CyD.mk z3 z2 0 (D.slc none 0 []) (D.like (hs 0 0) (normW 32768 (D.to Wt (hs 0 1)))))))))),.int .i64 (Tgt.applied (Rl.near (Prod.fst (applyRl
 (RlD.rl z1) (CyD.cy (CyD.mk z3 z2 0 (D.slc none 0 []) (D.like (hs 0 0) (normW 32768 (D.to Wt (hs 0 1)))))))))),.int .i64 (Tgt.epoch (Rl.far (Prod.fst (applyRl (RlD.rl z1) (CyD.cy (CyD.mk z3 z2 0 (D.slc none 0 [])
 (D.like (hs 0 0) (normW 32768 (D.to Wt (hs 0 1)))))))))),.int .i64 (Tgt.site (Rl.far (Prod.fst (applyRl (RlD.rl z1) (CyD.cy (CyD.mk z3 z2 0 (D.slc none 0 []) (D.like (hs 0 0) (normW 32768 (D.to Wt (hs 0 1)))))))))),.int .i64
 (Tgt.stored (Rl.far (Prod.fst (applyRl (RlD.rl z1) (CyD.cy (CyD.mk z3 z2 0 (D.slc none 0 []) (D.like (hs 0 0) (normW 32768 (D.to Wt (hs 0 1)))))))))),.int .i64 (Tgt.applied (Rl.far (Prod.fst (applyRl
 (RlD.rl z1) (CyD.cy (CyD.mk z3 z2 0 (D.slc none 0 []) (D.like (hs 0 0) (normW 32768 (D.to Wt (hs 0 1)))))))))),.int .i64 (Src.epoch (Rl.src (Prod.fst (applyRl (RlD.rl z1) (CyD.cy (CyD.mk z3 z2 0 (D.slc none 0 [])
 (D.like (hs 0 0) (normW 32768 (D.to Wt (hs 0 1)))))))))),.int .i64 (Src.site (Rl.src (Prod.fst (applyRl (RlD.rl z1) (CyD.cy (CyD.mk z3 z2 0 (D.slc none 0 []) (D.like (hs 0 0) (normW 32768 (D.to Wt (hs 0 1)))))))))),.dat
 (D.like (hs_2 5 0) (Src.offered (Rl.src (Prod.fst (applyRl (RlD.rl z1) (CyD.cy (CyD.mk z3 z2 0 (D.slc none 0 []) (D.like (hs 0 0) (normW 32768 (D.to Wt (hs 0 1))))))))))),.int .i64 (Src.stored (Rl.src
 (Prod.fst (applyRl (RlD.rl z1) (CyD.cy (CyD.mk z3 z2 0 (D.slc none 0 []) (D.like (hs 0 0) (normW 32768 (D.to Wt (hs 0 1)))))))))),.int .i64 (Src.applied (Rl.src (Prod.fst (applyRl (RlD.rl z1) (CyD.cy
 (CyD.mk z3 z2 0 (D.slc none 0 []) (D.like (hs 0 0) (normW 32768 (D.to Wt (hs 0 1)))))))))),.dat (D.like (hs_2 5 1) (Rl.kept (Prod.fst (applyRl (RlD.rl z1) (CyD.cy (CyD.mk z3 z2 0 (D.slc none 0 []) (D.like
 (hs 0 0) (normW 32768 (D.to Wt (hs 0 1)))))))))),.int .i64 (Tgt.epoch far),.int .i64 (Tgt.site far),.int .i64 (Tgt.stored far),.int .i64 (Tgt.applied far),.vec 0,.dat th,.mapp 100001,.vec 1,.vec 4]),
 (100001,OBlk.mapD .i64 true [FT.int .i64,FT.int .i64,FT.int .i64,FT.slc,FT.slc] mp)]))))))))))) := by
 intros; kernel_rfl
end
def ctSS : Ctrs := [(30,ctrOf (rdRl.one.sp spNextRl)),(81,ctrOf ((rdTgt.two rdInt).sp (spStore Sx.store)))]
def ctRS : Ctrs := [(29,ctrOf ((rdD.two rdD).sp spSameI)),(17,ctrOf (rdRl.one.sp spCkRl)),(19,ctrOf (rdRl.one.sp spLagRl))]
def ctFS : Ctrs := [(25,ctrOf ((rdD.two rdCy).sp spCyA)),(76,ctrOf ((rdTgt.two rdInt).sp (spStore applyT))),(77,ctrOf ((rdTgt.two rdMsg).sp spAnswer))]
section
variable (o k nv m im st tf tn ml mb : D) (r : Rl) (far : Tgt) (lo n : Nat) (num mk mf mt mn mv me : Int)
end
section
variable (o k ims th mp se an ml mb wl : D) (r : Rl) (far : Tgt) (mk mf mt mn mv me : Int)
theorem cdA_in : 
 let z1 := (RlD.mk (Tgt.mk (Tgt.epoch (Rl.near r)) (Tgt.site (Rl.near r)) (Tgt.stored (Rl.near r)) (Tgt.applied (Rl.near r))) (Tgt.mk (Tgt.epoch (Rl.far r)) (Tgt.site (Rl.far r)) (Tgt.stored (Rl.far r)) (Tgt.applied (Rl.far r))) (SrcD.mk (Src.epoch (Rl.src r)) (Src.site (Rl.src r)) (D.like o (Src.offered (Rl.src r))) (Src.stored (Rl.src r)) (Src.applied (Rl.src r))) (D.like k (Rl.kept r)))
 Tree.cut (execRS Try.prog ctSS [] 400 (sysE 33 71 [(0,.ptr 100000 0)] (casM o k ims th mp se an r far))) [true] =
 Tree.need (RlD.Ok z1) (.all fun hs=>.all fun hs=>.need ((!Prod.snd (nextRl (RlD.rl z1))) = true) (.need ((!Prod.snd (nextRl (RlD.rl z1))) = true) (.need ((!Prod.snd (nextRl (RlD.rl z1))) = true) (.need
 ((!Prod.snd (nextRl (RlD.rl z1))) = true) (.need ((!Prod.snd (nextRl (RlD.rl z1))) = true) (.need ((!Prod.snd (nextRl (RlD.rl z1))) = true) (.need ((!Prod.snd (nextRl (RlD.rl z1))) = true) (.need ((!Prod.snd
 (nextRl (RlD.rl z1))) = true) (.need ((!Prod.snd (nextRl (RlD.rl z1))) = true) (.need ((!Prod.snd (nextRl (RlD.rl z1))) = true) (.leaf (Conf.mk (SFrm.mk 33 none none [Item.code (cA 33 [1,1,0,1,0,1]),Item.code
 (cA 33 [1,1,1])] (mkJ 0 [(2,.lb true)] 0 71)) [] [(1,OBlk.arr 23 ims),(3,OBlk.arr 72 se),(4,OBlk.arr 72 an),(100000,OBlk.cells 82 [.int .i64 (Tgt.epoch (Rl.near r)),.int .i64 (Tgt.site (Rl.near r)),.int .i64
 (Tgt.stored (Rl.near r)),.int .i64 (Tgt.applied (Rl.near r)),.int .i64 (Tgt.epoch (Rl.far r)),.int .i64 (Tgt.site (Rl.far r)),.int .i64 (Tgt.stored (Rl.far r)),.int .i64 (Tgt.applied (Rl.far r)),.int .i64
 (Src.epoch (Rl.src r)),.int .i64 (Src.site (Rl.src r)),.dat (D.like o (Src.offered (Rl.src r))),.int .i64 (Src.stored (Rl.src r)),.int .i64 (Src.applied (Rl.src r)),.dat (D.like k (Rl.kept r)),.int .i64
 (Tgt.epoch far),.int .i64 (Tgt.site far),.int .i64 (Tgt.stored far),.int .i64 (Tgt.applied far),.vec 1,.dat th,.mapp 100001,.vec 3,.vec 4]),(100001,OBlk.mapD .i64 true [FT.int .i64,FT.int .i64,FT.int .i64,FT.slc,FT.slc] mp)])))))))))))) := by
 intros; kernel_rfl
theorem cdB_in : 
 let z1 := (RlD.mk (Tgt.mk (Tgt.epoch (Rl.near r)) (Tgt.site (Rl.near r)) (Tgt.stored (Rl.near r)) (Tgt.applied (Rl.near r))) (Tgt.mk (Tgt.epoch (Rl.far r)) (Tgt.site (Rl.far r)) (Tgt.stored (Rl.far r)) (Tgt.applied (Rl.far r))) (SrcD.mk (Src.epoch (Rl.src r)) (Src.site (Rl.src r)) (D.like o (Src.offered (Rl.src r))) (Src.stored (Rl.src r)) (Src.applied (Rl.src r))) (D.like k (Rl.kept r)))
 let z2 : Prop := (decide (Cy.number (Prod.fst (nextRl (RlD.rl z1))) ≤ Tgt.stored far) = true)
 Tree.cut (execRS Try.prog ctSS [] 400 (sysE 33 71 [(0,.ptr 100000 0)] (casM o k ims th mp se an r far))) [false,true] =
 Tree.need (RlD.Ok z1) (.all fun hs=>.all fun hs=>.need ((!Prod.snd (nextRl (RlD.rl z1))) = false) (.need z2 (.need ((!Prod.snd (nextRl (RlD.rl z1))) = false) (.need ((!Prod.snd (nextRl (RlD.rl z1))) = false)
 (.need ((!Prod.snd (nextRl (RlD.rl z1))) = false) (.need ((!Prod.snd (nextRl (RlD.rl z1))) = false) (.need ((!Prod.snd (nextRl (RlD.rl z1))) = false) (.need ((!Prod.snd (nextRl (RlD.rl z1))) = false) (.need
 ((!Prod.snd (nextRl (RlD.rl z1))) = false) (.need ((!Prod.snd (nextRl (RlD.rl z1))) = false) (.need ((!Prod.snd (nextRl (RlD.rl z1))) = false) (.need z2 (.need z2 (.need z2 (.need z2 (.need z2 (.need z2
 (.need z2 (.need z2 (.need z2 (.leaf (Conf.mk (SFrm.mk 33 none none [Item.code (cA 33 [1,1,0,1,0,1]),Item.code (cA 33 [1,1,1])] (mkJ 0 [(2,.lb true)] 0 71)) [] [(1,OBlk.arr 23 ims),(3,OBlk.arr 72 se),
 (4,OBlk.arr 72 an),(100000,OBlk.cells 82 [.int .i64 (Tgt.epoch (Rl.near r)),.int .i64 (Tgt.site (Rl.near r)),.int .i64 (Tgt.stored (Rl.near r)),.int .i64 (Tgt.applied (Rl.near r)),.int .i64 (Tgt.epoch
 (Rl.far r)),.int .i64 (Tgt.site (Rl.far r)),.int .i64 (Tgt.stored (Rl.far r)),.int .i64 (Tgt.applied (Rl.far r)),.int .i64 (Src.epoch (Rl.src r)),.int .i64 (Src.site (Rl.src r)),.dat (D.like o (Src.offered
 (Rl.src r))),.int .i64 (Src.stored (Rl.src r)),.int .i64 (Src.applied (Rl.src r)),.dat (D.like k (Rl.kept r)),.int .i64 (Tgt.epoch far),.int .i64 (Tgt.site far),.int .i64 (Tgt.stored far),.int .i64
 (Tgt.applied far),.vec 1,.dat th,.mapp 100001,.vec 3,.vec 4]),(100001,OBlk.mapD .i64 true [FT.int .i64,FT.int .i64,FT.int .i64,FT.slc,FT.slc] mp)])))))))))))))))))))))) := by
 intros; kernel_rfl
theorem cdC_in : 
 let z1 := (RlD.mk (Tgt.mk (Tgt.epoch (Rl.near r)) (Tgt.site (Rl.near r)) (Tgt.stored (Rl.near r)) (Tgt.applied (Rl.near r))) (Tgt.mk (Tgt.epoch (Rl.far r)) (Tgt.site (Rl.far r)) (Tgt.stored (Rl.far r)) (Tgt.applied (Rl.far r))) (SrcD.mk (Src.epoch (Rl.src r)) (Src.site (Rl.src r)) (D.like o (Src.offered (Rl.src r))) (Src.stored (Rl.src r)) (Src.applied (Rl.src r))) (D.like k (Rl.kept r)))
 let z2 : Prop := (decide (Cy.number (Prod.fst (nextRl (RlD.rl z1))) ≤ Tgt.stored far) = false)
 Tree.cut (execRS Try.prog ctSS [] 400 (sysE 33 71 [(0,.ptr 100000 0)] (casM o k ims th mp se an r far))) [false,false,true] =
 Tree.need (RlD.Ok z1) (.all fun hs=>.all fun hs=>.need ((!Prod.snd (nextRl (RlD.rl z1))) = false) (.need z2 (.need ((!Prod.snd (nextRl (RlD.rl z1))) = false) (.need ((!Prod.snd (nextRl (RlD.rl z1))) = false)
 (.need ((!Prod.snd (nextRl (RlD.rl z1))) = false) (.need ((!Prod.snd (nextRl (RlD.rl z1))) = false) (.need ((!Prod.snd (nextRl (RlD.rl z1))) = false) (.need ((!Prod.snd (nextRl (RlD.rl z1))) = false) (.need
 ((!Prod.snd (nextRl (RlD.rl z1))) = false) (.need ((!Prod.snd (nextRl (RlD.rl z1))) = false) (.need ((!Prod.snd (nextRl (RlD.rl z1))) = false) (.need z2 (.need z2 (.need z2 (.need z2 (.need z2 (.need z2
 (.need z2 (.need z2 (.need z2 (.need (decide (Cy.base (Prod.fst (nextRl (RlD.rl z1))) > Tgt.stored far) = true) (.leaf (Conf.mk (SFrm.mk 33 none none [Item.code (cA 33 [1,1,0,1,0,1]),Item.code (cA 33 [1,1,1])]
 (mkJ 0 [(2,.lb true)] 0 71)) [] [(1,OBlk.arr 23 ims),(3,OBlk.arr 72 se),(4,OBlk.arr 72 an),(100000,OBlk.cells 82 [.int .i64 (Tgt.epoch (Rl.near r)),.int .i64 (Tgt.site (Rl.near r)),.int .i64
 (Tgt.stored (Rl.near r)),.int .i64 (Tgt.applied (Rl.near r)),.int .i64 (Tgt.epoch (Rl.far r)),.int .i64 (Tgt.site (Rl.far r)),.int .i64 (Tgt.stored (Rl.far r)),.int .i64 (Tgt.applied (Rl.far r)),.int .i64
 (Src.epoch (Rl.src r)),.int .i64 (Src.site (Rl.src r)),.dat (D.like o (Src.offered (Rl.src r))),.int .i64 (Src.stored (Rl.src r)),.int .i64 (Src.applied (Rl.src r)),.dat (D.like k (Rl.kept r)),.int .i64
 (Tgt.epoch far),.int .i64 (Tgt.site far),.int .i64 (Tgt.stored far),.int .i64 (Tgt.applied far),.vec 1,.dat th,.mapp 100001,.vec 3,.vec 4]),(100001,OBlk.mapD .i64 true [FT.int .i64,FT.int .i64,FT.int .i64,FT.slc,FT.slc] mp)]))))))))))))))))))))))) := by
 intros; kernel_rfl
theorem cdD_in : 
 let z4 := (RlD.mk (Tgt.mk (Tgt.epoch (Rl.near r)) (Tgt.site (Rl.near r)) (Tgt.stored (Rl.near r)) (Tgt.applied (Rl.near r))) (Tgt.mk (Tgt.epoch (Rl.far r)) (Tgt.site (Rl.far r)) (Tgt.stored (Rl.far r)) (Tgt.applied (Rl.far r))) (SrcD.mk (Src.epoch (Rl.src r)) (Src.site (Rl.src r)) (D.like o (Src.offered (Rl.src r))) (Src.stored (Rl.src r)) (Src.applied (Rl.src r))) (D.like k (Rl.kept r)))
 let z1 := (nextRl (RlD.rl z4))
 let z2 := (Sx.store (Tgt.mk (Tgt.epoch far) (Tgt.site far) (Tgt.stored far) (Tgt.applied far)) (Cy.number (Prod.fst z1)))
 let z3 : Prop := (decide (Cy.number (Prod.fst z1) ≤ Tgt.stored far) = false)
 Tree.cut (execRS Try.prog ctSS [] 400 (sysE 33 71 [(0,.ptr 100000 0)] (casM o k ims th mp se an r far))) [false,false,false] =
 Tree.need (RlD.Ok z4) (.all fun hs=>.all fun hs_1=>.need ((!Prod.snd z1) = false) (.need z3 (.need ((!Prod.snd z1) = false) (.need ((!Prod.snd z1) = false) (.need ((!Prod.snd z1) = false) (.need ((!Prod.snd z1) = false)
 (.need ((!Prod.snd z1) = false) (.need ((!Prod.snd z1) = false) (.need ((!Prod.snd z1) = false) (.need ((!Prod.snd z1) = false) (.need ((!Prod.snd z1) = false) (.need z3 (.need z3 (.need z3 (.need z3 (.need z3
 (.need z3 (.need z3 (.need z3 (.need z3 (.need (decide (Cy.base (Prod.fst z1) > Tgt.stored far) = false) (.all fun hs_2=>.all fun hs_3=>.all fun hs_4=>.need (D.sz an = 8 ∧ D.Fits (D.like (hs_2 6 0)
 (Prod.fst (Prod.snd z2))) 8 ∧ (D.len an + D.len (D.like (hs_2 6 0) (Prod.fst (Prod.snd z2)))) * 96 ≤ 140737488355328 ∧ D.len an + D.len (D.like (hs_2 6 0) (Prod.fst (Prod.snd z2))) ≤ 9223372036854775807)
 (.leaf (Conf.mk (SFrm.mk 33 none none [Item.code (cA 33 [1,1,0,1,0,1])] (mkJ 0 [(2,.bool (decide (Prod.snd (Prod.snd z2) = 0)))] 0 71)) [] [(0,OBlk.arr 72 (D.slc (D.hd (hs_4 8 0)) 8 (List.append
 (D.rows an) (D.rows (D.like (hs_2 6 0) (Prod.fst (Prod.snd z2))))))),(3,OBlk.arr 23 ims),(4,OBlk.arr 72 se),(100000,OBlk.cells 82 [.int .i64 (Tgt.epoch (Rl.near r)),.int .i64 (Tgt.site (Rl.near r)),.int .i64
 (Tgt.stored (Rl.near r)),.int .i64 (Tgt.applied (Rl.near r)),.int .i64 (Tgt.epoch (Rl.far r)),.int .i64 (Tgt.site (Rl.far r)),.int .i64 (Tgt.stored (Rl.far r)),.int .i64 (Tgt.applied (Rl.far r)),.int .i64
 (Src.epoch (Rl.src r)),.int .i64 (Src.site (Rl.src r)),.dat (D.like o (Src.offered (Rl.src r))),.int .i64 (Src.stored (Rl.src r)),.int .i64 (Src.applied (Rl.src r)),.dat (D.like k (Rl.kept r)),.int .i64
 (Tgt.epoch (Prod.fst z2)),.int .i64 (Tgt.site (Prod.fst z2)),.int .i64 (Tgt.stored (Prod.fst z2)),.int .i64 (Tgt.applied (Prod.fst z2)),.vec 3,.dat th,.mapp 100001,.vec 4,.vec 0]),(100001,OBlk.mapD .i64 true [FT.int .i64,FT.int .i64,FT.int .i64,FT.slc,FT.slc]
 (D.putKey mp .i64 (Cy.number (Prod.fst z1)) [D.int .i64 (Cy.base (Prod.fst z1)),D.int .i64 (Cy.number (Prod.fst z1)),D.int .i64 (Cy.time (Prod.fst z1)),D.like (hs 0 0) (Cy.pos (Prod.fst z1)),D.like
 (hs 0 1) (Cy.wr (Prod.fst z1))]))])))))))))))))))))))))))) := by
 intros; kernel_rfl
theorem cri_in : 
 let z1 := (RlD.mk (Tgt.mk (Tgt.epoch (Rl.near r)) (Tgt.site (Rl.near r)) (Tgt.stored (Rl.near r)) (Tgt.applied (Rl.near r))) (Tgt.mk (Tgt.epoch (Rl.far r)) (Tgt.site (Rl.far r)) (Tgt.stored (Rl.far r)) (Tgt.applied (Rl.far r))) (SrcD.mk (Src.epoch (Rl.src r)) (Src.site (Rl.src r)) (D.like o (Src.offered (Rl.src r))) (Src.stored (Rl.src r)) (Src.applied (Rl.src r))) (D.like k (Rl.kept r)))
 let z2 : Prop := (decide (Tgt.applied far > IntKind.wrap .i64 ((↑(D.len ims) : Int) - 1)) = false)
 let z4 : Prop := (decide (Tgt.applied far < 0) = false)
 let z5 := (D.cell ims (Int.toNat (Tgt.applied far)) 0)
 let z3 : Prop := ((!decide (D.to Vol th = D.to Vol z5)) = false)
 Tree.cut (execRS Try.prog ctRS [] 400 (sysE 36 75 [(0,.ptr 100000 0)] (casM o k ims th mp se an r far))) [false,false,false,false,true,true] =
 Tree.all fun hs=>.all fun hs=>.need z4 (.need z2 (.need z3 (.need z4 (.need z4 (.need z4 (.need z4 (.need z2 (.need z2 (.need z2 (.need z2 (.need z2 (.need z2 (.need z2 (.need z2 (.need z2 (.need z2
 (.need (0 ≤ Tgt.applied far ∧ Tgt.applied far < (↑(D.len ims) : Int) ∧ D.sz ims = 1) (.need z2 (.need (D.HasCell ims (Int.toNat (Tgt.applied far)) 0 FT.slc ∧ D.sz ims = 1) (.need z2 (.need (D.Is Vol th ∧ D.Is Vol z5 ∧ D.len th ≤ 1048576 ∧ D.len z5 ≤ 1048576 ∧
 (∀ (v : Vol),List.Mem v (D.to Vol th) → List.length (Vol.l v) ≤ 1048576) ∧ ∀ (v : Vol),List.Mem v (D.to Vol z5) → List.length (Vol.l v) ≤ 1048576) (.need z2 (.need z2 (.need z3 (.need z3 (.need z3 (.need z3
 (.need z3 (.need (RlD.Ok z1) (.need z3 (.need z3 (.need ((ckRl (RlD.rl z1) != 0) = false) (.need (decide (Tgt.applied (Rl.near r) = IntKind.wrap .i64 ((↑(D.len ims) : Int) - 1)) = true) (.need (decide
 (Tgt.applied (Rl.far r) ≤ Tgt.applied far) = true) (.need (RlD.Ok z1) (.leaf (Conf.mk (SFrm.mk 36 none none [Item.code (cA 36 [1,1,0,1,0,1])] (mkJ 0 [(2,.bool (decide (lagRl (RlD.rl z1) ≥ IntKind.wrap .i64
 (IntKind.wrap .i64 ((↑(D.len ims) : Int) - 1) - Tgt.applied far))))] 0 75)) [] [(1,OBlk.arr 23 ims),(3,OBlk.arr 72 se),(4,OBlk.arr 72 an),(100000,OBlk.cells 82 [.int .i64 (Tgt.epoch (Rl.near r)),.int .i64
 (Tgt.site (Rl.near r)),.int .i64 (Tgt.stored (Rl.near r)),.int .i64 (Tgt.applied (Rl.near r)),.int .i64 (Tgt.epoch (Rl.far r)),.int .i64 (Tgt.site (Rl.far r)),.int .i64 (Tgt.stored (Rl.far r)),.int .i64
 (Tgt.applied (Rl.far r)),.int .i64 (Src.epoch (Rl.src r)),.int .i64 (Src.site (Rl.src r)),.dat (D.like o (Src.offered (Rl.src r))),.int .i64 (Src.stored (Rl.src r)),.int .i64 (Src.applied (Rl.src r)),.dat
 (D.like k (Rl.kept r)),.int .i64 (Tgt.epoch far),.int .i64 (Tgt.site far),.int .i64 (Tgt.stored far),.int .i64 (Tgt.applied far),.vec 1,.dat th,.mapp 100001,.vec 3,.vec 4]),(100001,OBlk.mapD .i64 true [FT.int .i64,FT.int .i64,FT.int .i64,FT.slc,FT.slc] mp)]))))))))))))))))))))))))))))))))))))) := by
 intros; kernel_rfl
theorem che_in : 
 let z3 := (Tgt.mk (Tgt.epoch far) (Tgt.site far) (Tgt.stored far) (Tgt.applied far))
 let z1 := (Prod.fst (answer z3 (MsgD.msg (MsgD.mk mk mf mt mn mv me ml mb))))
 let z2 := (Prod.snd (answer z3 (MsgD.msg (MsgD.mk mk mf mt mn mv me ml mb))))
 execRS Try.prog ctFS [] 400 (sysE 34 114 [(0,.ptr 100000 0),(1,.agg [.int .i64 mk,.int .i64 mf,.int .i64 mt,.int .i64 mn,.int .i64 mv,.int .i64 me,.dat ml,.dat mb])] (casM o k ims th mp se an r far)) =
 Tree.all fun hs=>.all fun hs_1=>.need (D.sz an = 8 ∧ D.Fits (D.like (hs 5 0) z2) 8 ∧ (D.len an + D.len (D.like (hs 5 0) z2)) * 96 ≤ 140737488355328 ∧ D.len an + D.len (D.like (hs 5 0) z2) ≤ 9223372036854775807)
 (.br (mk != 10) (.leaf (Conf.mk (SFrm.mk 34 none none [Item.code (cA 34 [1,1,1,0,1,0,1]),Item.code (cA 34 [1,1,1,1])] (mkJ 0 [(4,.lb true)] 0 114)) [] [(0,OBlk.arr 72 (D.slc (D.hd (hs_1 8 0)) 8
 (List.append (D.rows an) (D.rows (D.like (hs 5 0) z2))))),(2,OBlk.arr 23 ims),(4,OBlk.arr 72 se),(100000,OBlk.cells 82 [.int .i64 (Tgt.epoch (Rl.near r)),.int .i64 (Tgt.site (Rl.near r)),.int .i64
 (Tgt.stored (Rl.near r)),.int .i64 (Tgt.applied (Rl.near r)),.int .i64 (Tgt.epoch (Rl.far r)),.int .i64 (Tgt.site (Rl.far r)),.int .i64 (Tgt.stored (Rl.far r)),.int .i64 (Tgt.applied (Rl.far r)),.int .i64
 (Src.epoch (Rl.src r)),.int .i64 (Src.site (Rl.src r)),.dat (D.like o (Src.offered (Rl.src r))),.int .i64 (Src.stored (Rl.src r)),.int .i64 (Src.applied (Rl.src r)),.dat (D.like k (Rl.kept r)),.int .i64
 (Tgt.epoch z1),.int .i64 (Tgt.site z1),.int .i64 (Tgt.stored z1),.int .i64 (Tgt.applied z1),.vec 2,.dat th,.mapp 100001,.vec 4,.vec 0]),(100001,OBlk.mapD .i64 true [FT.int .i64,FT.int .i64,FT.int .i64,FT.slc,FT.slc] mp)]))
 (.leaf (Conf.mk (SFrm.mk 34 none none [Item.inLoop (cA 34 [1,1,1,1,0,1,0,0]),Item.inBlock 0,Item.code (cA 34 [1,1,1,1,1])] (mkJ 0 [(0,.ptr 100000 0),(3,.ptr 1 0),(7,.int .i64 (IntKind.wrap .i64
 (Tgt.applied z1 + 1)))] 0 114)) [] [(1,OBlk.cells 72 [.int .i64 mk,.int .i64 mf,.int .i64 mt,.int .i64 mn,.int .i64 mv,.int .i64 me,.dat ml,.dat mb]),(2,OBlk.arr 23 ims),(4,OBlk.arr 72 se),
 (5,OBlk.arr 72 (D.slc (D.hd (hs_1 8 0)) 8 (List.append (D.rows an) (D.rows (D.like (hs 5 0) z2))))),(100000,OBlk.cells 82 [.int .i64 (Tgt.epoch (Rl.near r)),.int .i64 (Tgt.site (Rl.near r)),.int .i64
 (Tgt.stored (Rl.near r)),.int .i64 (Tgt.applied (Rl.near r)),.int .i64 (Tgt.epoch (Rl.far r)),.int .i64 (Tgt.site (Rl.far r)),.int .i64 (Tgt.stored (Rl.far r)),.int .i64 (Tgt.applied (Rl.far r)),.int .i64
 (Src.epoch (Rl.src r)),.int .i64 (Src.site (Rl.src r)),.dat (D.like o (Src.offered (Rl.src r))),.int .i64 (Src.stored (Rl.src r)),.int .i64 (Src.applied (Rl.src r)),.dat (D.like k (Rl.kept r)),.int .i64
 (Tgt.epoch z1),.int .i64 (Tgt.site z1),.int .i64 (Tgt.stored z1),.int .i64 (Tgt.applied z1),.vec 2,.dat th,.mapp 100001,.vec 4,.vec 5]),(100001,OBlk.mapD .i64 true [FT.int .i64,FT.int .i64,FT.int .i64,FT.slc,FT.slc] mp)]))) := by
 intros; kernel_rfl
end
end Sv
end
noncomputable section
open Go Go.Proofs Sx
namespace Sx





end Sx
end
noncomputable section
open Go
namespace Sx
structure MapRel (m : D) (l : List (Int × List Vol)) : Prop where
 len : m.rows.length = l.length
 row : ∀ (i : Nat) (p : Int × List Vol),l[i]? = some p → ∃ v : D,m.rows[i]? = some [D.int .i64 p.1,v] ∧ v.Is Vol ∧ v.to Vol = p.2
theorem MapRel.keys {m : D} {l : List (Int × List Vol)} (h : MapRel m l) : m.rows.map rowKey = l.map Prod.fst := by
 apply List.ext_getElem?
 intro i
 rw [List.getElem?_map,List.getElem?_map]
 cases hl : l[i]? with
 | none =>
  have : l.length ≤ i := by simpa using hl
  rw [List.getElem?_eq_none (by rw [h.len]; exact this)]; rfl
 | some p =>
  obtain ⟨v,hv,_⟩ := h.row i p hl
  rw [hv]; rfl
theorem find_at {α : Type} {q : α → Bool} : ∀ {l : List α} {p : α},l.find? q = some p → l[l.findIdx q]? = some p
 | [],_,h=>by simp at h
 | x :: r,p,h=>by
  rw [List.find?_cons] at h
  rw [List.findIdx_cons]
  cases hq : q x with
  | true=>rw [hq] at h; simpa using h
  | false =>
   rw [hq] at h
   simp only [cond_false]
   rw [List.getElem?_cons_succ]
   exact find_at h
theorem MapRel.ix {m : D} {l : List (Int × List Vol)} (h : MapRel m l) (n : Int) : m.keyIx n = l.findIdx fun p=>decide (p.1 = n) := by
 have e1 : m.keyIx n = (m.rows.map rowKey).findIdx fun x=>x == n := by rw [List.findIdx_map]; rfl
 rw [e1,h.keys,List.findIdx_map]
 congr 1
theorem MapRel.has {m : D} {l : List (Int × List Vol)} (h : MapRel m l) (n : Int) : m.hasKey n = (looks l n).isSome := by
 have e1 : m.hasKey n = (m.rows.map rowKey).any fun x=>x == n := by rw [List.any_map]; rfl
 rw [e1,h.keys,List.any_map]
 unfold looks
 rw [Option.isSome_map,List.isSome_find?]
 congr 1
theorem MapRel.at {m : D} {l : List (Int × List Vol)} (h : MapRel m l) {n : Int} {im : List Vol} (hl : looks l n = some im) : (m.cell (m.keyIx n) 1).Is Vol ∧ (m.cell (m.keyIx n) 1).to Vol = im := by
 unfold looks at hl
 obtain ⟨p,hp,rfl⟩ := Option.map_eq_some_iff.1 hl
 obtain ⟨v,h1,h2,h3⟩ := h.row _ p (find_at hp)
 rw [h.ix]
 have : m.cell (l.findIdx fun p=>decide (p.1 = n)) 1 = v := by simp [D.cell,D.cellAt,h1]
 rw [this]
 exact ⟨h2,h3⟩
theorem MapRel.put {m : D} {l : List (Int × List Vol)} (h : MapRel m l) {n : Int} {im : List Vol} {v : D} (hn : ∀ p,p ∈ l → p.1 ≠ n) (hv : v.Is Vol) (hv' : v.to Vol = im) : MapRel (m.putKey .i64 n [v]) (l ++ [(n,im)]) := by
 have hk : m.hasKey n = false := by
  rw [h.has]
  unfold looks
  rw [List.find?_eq_none.2 fun p hp=>by simpa using hn p hp]; rfl
 have hr : (m.putKey .i64 n [v]).rows = m.rows ++ [[D.int .i64 n,v]] := by simp [D.putKey,hk,D.rows]
 refine ⟨by rw [hr]; simp [h.len],fun i p hp=>?_⟩
 rw [hr]
 by_cases hi : i < l.length
 ·rw [List.getElem?_append_left hi] at hp
  rw [List.getElem?_append_left (by rw [h.len]; exact hi)]
  exact h.row i p hp
 ·rw [List.getElem?_append_right (by omega)] at hp
  rw [List.getElem?_append_right (by rw [h.len]; omega),h.len]
  cases hj : i - l.length with
  | zero =>
   rw [hj] at hp
   simp at hp
   subst hp
   exact ⟨v,by simp,hv,hv'⟩
  | succ j=>rw [hj] at hp; simp at hp
structure SW (nv m im tf tn : D) (s : Sys) : Prop where
 nv : nv.Is Vol ∧ nv.to Vol = s.near
 m : MapRel m s.images
 im : im.Is Vol ∧ im.to Vol = s.image
 tf : tf.Is Msg ∧ tf.sz = 8 ∧ tf.to Msg = s.toFar
 tn : tn.Is Msg ∧ tn.sz = 8 ∧ tn.to Msg = s.toNear
inductive Stg (ty : TypeId) (l : List Cy) : SV → Mem → Prop
 | a (st : D) (lo n : Nat) (h1 : st.sz = 5) (h2 : lo + n = st.rows.length) (h3 : SRows Cy (st.rows.drop lo) l) : Stg ty l (.view 0 5 lo n) [(0,.arr ty st)]
 | b (st : D) (h1 : st.rows = []) (h2 : st.Tight) (h3 : l = []) : Stg ty l (.dat st) []
def SInv (s : Sys) (b : Nat) : Prop := (∃ A S Sf Af K,SysOk s A S Sf Af K ∧ K.length ≤ 1000) ∧ s.toFar.length ≤ b ∧ s.toNear.length ≤ b ∧ s.staged.length ≤ b ∧ b ≤ 900000
theorem small_ok (b n d : Int) : CyOk (smallC b n d) := ⟨by simp [smallC],by simp [smallC],fun w hw=>by simp only [smallC,List.mem_singleton] at hw; subst hw; simp⟩
theorem SInv.cy {s : Sys} {b : Nat} (h : SInv s b) : (∀ c,c ∈ s.r.kept → CyOk c) ∧ ∀ c,c ∈ s.staged → CyOk c := by
 obtain ⟨⟨A,S,Sf,Af,K,h,hk⟩,_⟩ := h
 refine ⟨fun c hc=>?_,fun c hc=>?_⟩
 ·rw [h.r] at hc
  obtain ⟨d,hd⟩ := chain_mem h.rel.ch hc
  rw [hd]; exact small_ok _ _ _
 ·obtain ⟨d,hd⟩ := chain_mem h.ch hc
  rw [hd]; exact small_ok _ _ _
theorem like_leng {α : Type} [Codec α] (d : D) (l : List α) : (d.like l).len = l.length := by
 rw [D.Is.length (α := α),D.like_to]
theorem SInv.rl {s : Sys} {b : Nat} (h : SInv s b) (o k : D) : (RlD.mk ⟨s.r.near.epoch,s.r.near.site,s.r.near.stored,s.r.near.applied⟩ ⟨s.r.far.epoch,s.r.far.site,s.r.far.stored,s.r.far.applied⟩ ⟨s.r.src.epoch,s.r.src.site,o.like s.r.src.offered,s.r.src.stored,s.r.src.applied⟩ (k.like s.r.kept)).Ok := by
 have hc := h.cy.1
 obtain ⟨⟨A,S,Sf,Af,K,h,hk⟩,_⟩ := h
 have e1 : s.r.src.offered.length = K.length := by rw [h.r]; simp [relR]
 have e2 : s.r.kept.length = K.length := by rw [h.r]; rfl
 refine ⟨D.like_is _ _,D.like_is _ _,?_,?_,?_⟩
 ·show (o.like s.r.src.offered).len ≤ _
  rw [like_leng]; omega
 ·show (k.like s.r.kept).len ≤ _
  rw [like_leng]; omega
 ·show ∀ c,c ∈ (k.like s.r.kept).to Cy → CyOk c
  rw [D.like_to]; exact hc
theorem rl_backR (r : Rl) (o k : D) : (RlD.mk (Tgt.mk r.near.epoch r.near.site r.near.stored r.near.applied) (Tgt.mk r.far.epoch r.far.site r.far.stored r.far.applied) (SrcD.mk r.src.epoch r.src.site (o.like r.src.offered) r.src.stored r.src.applied) (k.like r.kept)).rl = r := by
 simp only [RlD.rl,SrcD.src,D.like_to]
theorem tgt_back (t : Tgt) : Tgt.mk t.epoch t.site t.stored t.applied = t := rfl
theorem src_back (s : Src) (o : D) : (SrcD.mk s.epoch s.site (o.like s.offered) s.stored s.applied).src = s := by simp only [SrcD.src,D.like_to]
end Sx
end
noncomputable section
open Go Go.Proofs Sx
namespace Sx
instance : Codec (List Vol) where
 sz := 1
 ok r := ∃ d : D,r = [d] ∧ d.Is Vol
 dec r := match r with | [d]=>d.to Vol | _=>[]
 enc v := [encD v]
 ok_enc v := ⟨_,rfl,encD_is _⟩
 dec_enc w := by simp only [encD_to]
 len r := by rintro ⟨_,rfl,_⟩; rfl
theorem img_cell {d : D} (h : d.Is (List Vol)) {i : Nat} (hi : i < (d.to (List Vol)).length) : d.HasCell i 0 .slc ∧ (d.cell i 0).Is Vol ∧ (d.cell i 0).to Vol = (d.to (List Vol))[i] := by
 obtain ⟨r,h1,⟨x,rfl,hx⟩,h3⟩ := h.row hi
 have e : d.cellAt i 0 = some x := by simp [D.cellAt,h1]
 have e2 : d.cell i 0 = x := by simp [D.cell,e]
 rw [h3,e2]
 refine ⟨?_,hx,rfl⟩
 obtain ⟨a,b,c,rfl⟩ := hx.slc
 exact ⟨a,b,c,e⟩
theorem img_one {x : D} (hx : x.Is Vol) : SRows (List Vol) [[x]] [x.to Vol] := rows_one ⟨x,rfl,hx⟩ rfl
structure MapCy (m : D) (l : List Cy) : Prop where
 len : m.rows.length = l.length
 row : ∀ (i : Nat) (c : Cy),l[i]? = some c → ∃ p w : D,m.rows[i]? = some [D.int .i64 ((i : Int) + 1),D.int .i64 c.base,D.int .i64 c.number,D.int .i64 c.time,p,w] ∧ p.Is Int ∧ p.to Int = c.pos ∧ w.Is Wt ∧ w.to Wt = c.wr
theorem MapCy.keys {m : D} {l : List Cy} (h : MapCy m l) : m.rows.map rowKey = (List.range l.length).map fun i=>((i : Nat) : Int) + 1 := by
 apply List.ext_getElem?
 intro i
 rw [List.getElem?_map,List.getElem?_map]
 by_cases hi : i < l.length
 ·obtain ⟨p,w,hv,_⟩ := h.row i _ (List.getElem?_eq_getElem hi)
  rw [hv,List.getElem?_range hi]; rfl
 ·rw [List.getElem?_eq_none (by rw [h.len]; omega),List.getElem?_eq_none (by rw [List.length_range]; omega)]; rfl
theorem MapCy.has {m : D} {l : List Cy} (h : MapCy m l) {n : Nat} (hn : n < l.length) : m.hasKey ((n : Int) + 1) = true ∧ m.keyIx ((n : Int) + 1) = n := by
 have e1 : m.hasKey ((n : Int) + 1) = (m.rows.map rowKey).any fun x=>x == (n : Int) + 1 := by rw [List.any_map]; rfl
 have e2 : m.keyIx ((n : Int) + 1) = (m.rows.map rowKey).findIdx fun x=>x == (n : Int) + 1 := by rw [List.findIdx_map]; rfl
 rw [e1,e2,h.keys]
 constructor
 ·rw [List.any_eq_true]
  exact ⟨(n : Int) + 1,List.mem_map.2 ⟨n,List.mem_range.2 hn,rfl⟩,by simp⟩
 ·rw [List.findIdx_map]
  refine (List.findIdx_eq (by simpa using hn)).2 ⟨by simp,fun j hj=>?_⟩
  simp only [Function.comp,List.getElem_range,beq_eq_false_iff_ne]
  omega
theorem MapCy.hasNot {m : D} {l : List Cy} (h : MapCy m l) {n : Int} (hn : (l.length : Int) < n) : m.hasKey n = false := by
 have e1 : m.hasKey n = (m.rows.map rowKey).any fun x=>x == n := by rw [List.any_map]; rfl
 rw [e1,h.keys,List.any_eq_false]
 intro x hx
 obtain ⟨i,hi,rfl⟩ := List.mem_map.1 hx
 have := List.mem_range.1 hi
 simp; omega
theorem MapCy.at {m : D} {l : List Cy} (h : MapCy m l) {i : Nat} {c : Cy} (hc : l[i]? = some c) :
  (CyD.mk (m.getInt i 1) (m.getInt i 2) (m.getInt i 3) (m.cell i 4) (m.cell i 5)).cy = c ∧ (m.cell i 4).Is Int ∧ (m.cell i 5).Is Wt := by
 obtain ⟨p,w,h1,h2,h3,h4,h5⟩ := h.row i c hc
 have e1 : m.getInt i 1 = c.base := by simp [D.getInt,D.cellAt,h1]
 have e2 : m.getInt i 2 = c.number := by simp [D.getInt,D.cellAt,h1]
 have e3 : m.getInt i 3 = c.time := by simp [D.getInt,D.cellAt,h1]
 have e4 : m.cell i 4 = p := by simp [D.cell,D.cellAt,h1]
 have e5 : m.cell i 5 = w := by simp [D.cell,D.cellAt,h1]
 rw [e1,e2,e3,e4,e5]
 exact ⟨by simp only [CyD.cy,h3,h5],h2,h4⟩
theorem cy_ok_of {x : CyD} {c : Cy} (h : x.cy = c) (hp : x.p.Is Int) (hw : x.w.Is Wt) (hc : CyOk c) : x.Ok := by
 subst h
 obtain ⟨h1,h2,h3⟩ := hc
 exact ⟨hp,hw,by rw [D.Is.length (α := Int)]; exact h1,by rw [D.Is.length (α := Wt)]; exact h2,h3⟩
theorem MapCy.put {m : D} {l : List Cy} (h : MapCy m l) {c : Cy} {p w : D} {n : Int} (hn : n = (l.length : Int) + 1) (hp : p.Is Int) (hp' : p.to Int = c.pos) (hw : w.Is Wt) (hw' : w.to Wt = c.wr) : MapCy (m.putKey .i64 n [.int .i64 c.base,.int .i64 c.number,.int .i64 c.time,p,w]) (l ++ [c]) := by
 have hk : m.hasKey n = false := h.hasNot (by omega)
 have hr : (m.putKey .i64 n [.int .i64 c.base,.int .i64 c.number,.int .i64 c.time,p,w]).rows = m.rows ++ [[D.int .i64 n,.int .i64 c.base,.int .i64 c.number,.int .i64 c.time,p,w]] := by simp [D.putKey,hk,D.rows]
 refine ⟨by rw [hr]; simp [h.len],fun i x hx=>?_⟩
 rw [hr]
 by_cases hi : i < l.length
 ·rw [List.getElem?_append_left hi] at hx
  rw [List.getElem?_append_left (by rw [h.len]; exact hi)]
  exact h.row i x hx
 ·rw [List.getElem?_append_right (by omega)] at hx
  rw [List.getElem?_append_right (by rw [h.len]; omega),h.len]
  cases hj : i - l.length with
  | zero =>
   rw [hj] at hx
   simp at hx
   subst hx
   have : (i : Int) + 1 = n := by omega
   exact ⟨p,w,by simp [this],hp,hp',hw,hw'⟩
  | succ j=>rw [hj] at hx; simp at hx
structure CW (ims th mp se an : D) (s : Cas) : Prop where
 ims : ims.Is (List Vol) ∧ ims.sz = 1 ∧ ims.to (List Vol) = s.imgs
 th : th.Is Vol ∧ th.to Vol = s.there
 mp : MapCy mp s.stored
 se : se.Is Msg ∧ se.sz = 8 ∧ se.to Msg = s.sent
 an : an.Is Msg ∧ an.sz = 8 ∧ an.to Msg = s.ans
def Small (s : Cas) : Prop := s.sent.length ≤ 900000 ∧ s.ans.length ≤ 900000 ∧ s.imgs.length ≤ 1000
section
variable {s : Cas} {sz : List Int} {A S Sf Af N : Int} {K : List Cy}
theorem CasOk.rlok (h : CasOk s sz A S Sf Af N K) (o k : D) : (RlD.mk ⟨s.r.near.epoch,s.r.near.site,s.r.near.stored,s.r.near.applied⟩ ⟨s.r.far.epoch,s.r.far.site,s.r.far.stored,s.r.far.applied⟩ ⟨s.r.src.epoch,s.r.src.site,o.like s.r.src.offered,s.r.src.stored,s.r.src.applied⟩ (k.like s.r.kept)).Ok := by
 have hk := h.rel.len
 have e1 : s.r.src.offered.length = K.length := by rw [h.r]; simp [relG]
 have e2 : s.r.kept = K := by rw [h.r]; rfl
 refine ⟨D.like_is _ _,D.like_is _ _,?_,?_,?_⟩
 ·show (o.like s.r.src.offered).len ≤ _
  rw [like_leng]; omega
 ·show (k.like s.r.kept).len ≤ _
  rw [like_leng,e2]; omega
 ·show ∀ c,c ∈ (k.like s.r.kept).to Cy → CyOk c
  rw [D.like_to,e2]; exact fun c hc=>(h.kept c hc).2.1
theorem CasOk.small_img (h : CasOk s sz A S Sf Af N K) {im : List Vol} (hi : im ∈ s.imgs) : im.length ≤ 8 ∧ ∀ v,v ∈ im → v.l.length ≤ 4096 := by
 have hv := h.ims im hi
 obtain ⟨s1,s2,s3⟩ := sizesErr_ok h.sz0
 constructor
 ·have := congrArg List.length hv
  rw [vs_len] at this; omega
 ·intro v hm
  have : (v.l.length : Int) ∈ sz := by rw [← hv]; exact List.mem_map_of_mem hm
  have := s3 _ this
  omega
end
end Sx
end
noncomputable section
open Go Go.Proofs Sx
namespace Sv
section
variable (o k nv m im st tf tn ml mb : D) (r : Rl) (far : Tgt) (lo n : Nat) (num mk mf mt mn mv me : Int)
end
def SysMem (s : Sx.Sys) (mm : Mem) : Prop := ∃ (o k nv m im tf tn : D) (sv : SV) (bl : Mem),SW nv m im tf tn s ∧ Stg 65 s.staged sv bl ∧ mm = sysM o k nv m im tf tn s.r s.far s.numbers sv bl
theorem ctRSOk : Ctrs.Ok Try.prog ctRS := by
 intro x hx
 simp only [ctRS,List.mem_cons,List.not_mem_nil,or_false] at hx
 rcases hx with rfl | rfl | rfl
 ·exact ctrOf_ok lawImS
 ·exact ctrOf_ok lawCk
 ·exact ctrOf_ok lawLag
theorem ctSSOk : Ctrs.Ok Try.prog ctSS := by
 intro x hx
 simp only [ctSS,List.mem_cons,List.not_mem_nil,or_false] at hx
 rcases hx with rfl | rfl
 ·exact ctrOf_ok lawNxt
 ·exact ctrOf_ok lawSto
end Sv
end
noncomputable section
open Go Go.Proofs Sx
namespace Sx
end Sx
namespace Sv
def SysMemF (tf : D) (s : Sx.Sys) (mm : Mem) : Prop := ∃ (o k nv m im tn : D) (sv : SV) (bl : Mem),SW nv m im tf tn s ∧ Stg 65 s.staged sv bl ∧ mm = sysM o k nv m im tf tn s.r s.far s.numbers sv bl
theorem SysMemF.mem {tf : D} {s : Sx.Sys} {mm : Mem} (h : SysMemF tf s mm) : SysMem s mm := by
 obtain ⟨o,k,nv,m,im,tn,sv,bl,h1,h2,h3⟩ := h
 exact ⟨o,k,nv,m,im,tf,tn,sv,bl,h1,h2,h3⟩
theorem SysMemF.at {tf : D} {s : Sx.Sys} {mm : Mem} (h : SysMemF tf s mm) : mm.get 1 = some (.arr 72 tf) := by
 obtain ⟨o,k,nv,m,im,tn,sv,bl,h1,h2,h3⟩ := h
 rw [h3]; rfl
theorem ctFSOk : Ctrs.Ok Try.prog ctFS := by
 intro x hx
 simp only [ctFS,List.mem_cons,List.not_mem_nil,or_false] at hx
 rcases hx with rfl | rfl | rfl
 ·exact ctrOf_ok lawCya
 ·exact ctrOf_ok lawTAp
 ·exact ctrOf_ok lawAns
end Sv
end
noncomputable section
open Go Go.Proofs Sx
namespace Sv
def CasMem (s : Cas) (mm : Mem) : Prop := ∃ (o k ims th mp se an : D),CW ims th mp se an s ∧ mm = casM o k ims th mp se an s.r s.far
def CMeth (f : FuncId) (n : Nat) (args : List (Nat × SV)) (s : Cas) (Φ : Cas → Prop) : Prop :=
 ∀ (w0 : World) (H : HV) (fp : Nat → Nat) (mm : Mem),CasMem s mm → Runs Try.prog (@Ctx.mk w0 H (pinX fp)) (sysE f n args mm) (RetP w0 H fp fun v m=>v = .lb true ∧ ∃ s',Φ s' ∧ CasMem s' m)
theorem retC {P : Program} {w0 : World} {H : HV} {f : Nat → Nat} {Ψ : Mem → Prop} {fn : FuncId} {aw : Option Tmp} {k : List Item} {tmps : List SV} {mem : Mem} {fd : Func} {l : List SV} (m' : Mem) (h : Ψ m') (ht : ∀ E,(one? l).den E = .bool true := by intro _; rfl)
  (hfn : P.funcs[fn]? = some fd := by kernel_rfl) (hres : resS P mem tmps fd.results.toList = some l := by kernel_rfl) (hm : (moveM mem (mvOf 100000 [18,21,22] mem)).map (pickK [100000,100001,0,1,2]) = some m' := by kernel_rfl)
  (hjm : m'.all (fun x=>!x.2.jk 0) = true := by kernel_rfl) : (Tree.leaf ⟨⟨fn,none,aw,.code .ret :: k,tmps⟩,[],mem⟩).holds P (@Ctx.mk w0 H (pinX f)) (RetP w0 H f fun v m=>v = .lb true ∧ Ψ m) :=
 ret_sys 100000 [18,21,22] m' [100000,100001,0,1,2] hfn hres ht hm (by decide) hjm h
theorem runs_cut {P : Program} {C : Ctx} {R : Value → World → Prop} {cs : Ctrs} (hcs : cs.Ok P) {S : List (FuncId × Nat)} {n : Nat} {c : Conf} {bs : List Bool} {t : Tree} (e : Tree.cut (execRS P cs S n c) bs = t) (h : t.holds P C R) : Runs P C c R :=
 execRS_sound hcs S n c (cut_sound (bs := bs) (by rw [e]; exact h))
theorem ctK1Ok : Ctrs.Ok Try.prog ctK1 := by
 intro x hx
 simp only [ctK1,List.mem_cons,List.not_mem_nil,or_false] at hx
 rcases hx with rfl | rfl | rfl
 ·exact ctrOf_ok lawFold
 ·exact ctrOf_ok lawApl
 ·exact ctrOf_ok lawCya
theorem cy_backG (b n : Int) (d : D) (xs : List Wt) : (CyD.mk b n 0 (.slc none 0 []) (d.like xs)).cy = ⟨b,n,0,[],xs⟩ := by simp only [CyD.cy,D.like_to]; rfl
theorem cy_okG (b n : Int) (d : D) {xs : List Wt} (h : GoodW 32768 xs) : (CyD.mk b n 0 (.slc none 0 []) (d.like xs)).Ok :=
 ⟨is_nil _ _,D.like_is _ _,by simp [D.len,D.rows],by show (d.like xs).len ≤ _; rw [like_leng]; have := h.1; omega,fun w hw=>by rw [D.like_to] at hw; have := h.2 w hw; omega⟩
section
variable {s : Cas} {sz : List Int} {A S Sf Af N : Int} {K : List Cy}
theorem cap_meth (h : CasOk s sz A S Sf Af N K) (hsm : Small s) (hk : K.length < 1000) (hn : s.imgs.length < 1000) {wl : D} (hw : wl.Is Wt ∧ wl.len ≤ 1000000 ∧ ∀ w,w ∈ wl.to Wt → w.data.length ≤ 1000000) :
  CMeth 85 88 [(0,.ptr 100000 0),(1,.dat wl)] s fun s'=>∃ N' K',CasOk s' sz A S Sf Af N' K' ∧ K'.length ≤ K.length + 1 ∧ s'.imgs.length ≤ s.imgs.length + 1 ∧ s'.sent.length ≤ s.sent.length + 1 ∧ s'.ans = s.ans := by
 intro w0 H fp mm ⟨o,k,ims,th,mp,se,an,hcw,he⟩
 subst he
 obtain ⟨r1,r2,r3⟩ := h.rel.range
 have ha0 := h.rel.a0
 have hrl := h.rlok o k
 have hil : ims.len = s.imgs.length := by rw [D.Is.length (α := List Vol),hcw.ims.2.2]
 have hN := h.len
 obtain ⟨b1,b2,b3⟩ := hsm
 have hw1 : IntKind.i64.wrap ((ims.len : Int) - 1) = N := by rw [wrap64J (by omega) (by omega)]; omega
 have hw2 : IntKind.i64.wrap (N + 1) = N + 1 := wrap64J (by omega) (by omega)
 have hlt : N.toNat < (ims.to (List Vol)).length := by rw [hcw.ims.2.2]; omega
 have hlt' : N.toNat < s.imgs.length := by omega
 obtain ⟨i1,i2,i3⟩ := img_cell hcw.ims.1 hlt
 have i4 : (ims.cell N.toNat 0).to Vol = s.imgs[N.toNat] := by rw [i3]; simp only [hcw.ims.2.2]
 have hi : s.imgs[N.toNat]? = some s.imgs[N.toNat] := List.getElem?_eq_getElem hlt'
 have hil2 : (ims.cell N.toNat 0).len ≤ 1048576 := by
  rw [D.Is.length (α := Vol),i4]
  have := (h.small_img (List.getElem_mem hlt')).1; omega
 have hsl : se.len = s.sent.length := by rw [D.Is.length (α := Msg),hcw.se.2.2]
 apply execRS_sound ctK1Ok [] 400
 rw [cap_in]
 simp only [rl_backR,hw1,hw2,cy_backG,i4]
 refine ⟨hw,fun hs hs1=>⟨⟨by omega,by omega,hcw.ims.2.1⟩,⟨i1,hcw.ims.2.1⟩,⟨i2,hil2,cy_okG _ _ _ (normW_good _ _)⟩,fun hb=>?_,fun hb=>⟨fun hc=>?_,fun hc hs2=>⟨⟨hrl,cy_okG _ _ _ (normW_good _ _)⟩,fun hs3=>?_⟩⟩⟩⟩
 ·exact retC (fd := Try.f85) (l := [.lb true]) (casM o k ims th mp se an s.r s.far) ⟨s,⟨N,K,h,by omega,by omega,by omega,rfl⟩,_,_,_,_,_,_,_,hcw,rfl⟩
 ·exact retC (fd := Try.f85) (l := [.lb true]) (casM o k ims th mp se an s.r s.far) ⟨s,⟨N,K,h,by omega,by omega,by omega,rfl⟩,_,_,_,_,_,_,_,hcw,rfl⟩
 ·have hc0 : (applyCy s.imgs[N.toNat] ⟨N,N + 1,0,[],normW 32768 (D.to Wt (hs 0 1))⟩).2 = 0 := by simpa using hc
  obtain ⟨a1,a2⟩ := h.apply (w := normW 32768 (D.to Wt (hs 0 1))) (im' := (applyCy s.imgs[N.toNat] ⟨N,N + 1,0,[],normW 32768 (D.to Wt (hs 0 1))⟩).1) (normW_good _ _) hi (Prod.ext rfl hc0) hk (by omega)
  rw [a1]
  simp only
  have hse := rows_app (rows_of hcw.se.1) (rows_of (D.like_is (hs2 5 2) [Msg.mk 8 0 1 (N + 1) 0 1 [] []]))
  rw [D.like_to,hcw.se.2.2] at hse
  obtain ⟨s1,s2⟩ := is_of (h := D.hd (hs3 9 0)) (s := 8) rfl hse
  have hvi := D.like_is (α := Vol) (hs1 8 0) (applyCy s.imgs[N.toNat] ⟨N,N + 1,0,[],normW 32768 (D.to Wt (hs 0 1))⟩).1
  have him := rows_app (rows_of hcw.ims.1) (img_one hvi)
  rw [D.like_to,hcw.ims.2.2] at him
  obtain ⟨m1,m2⟩ := is_of (h := D.hd (hs3 16 0)) (s := 1) rfl him
  refine ⟨⟨hcw.se.2.1,(D.like_is (α := Msg) _ _).fits,by simp only [like_leng,hsl,List.length_cons,List.length_nil]; omega,by simp only [like_leng,hsl,List.length_cons,List.length_nil]; omega⟩,⟨hcw.ims.2.1,.inr rfl,by simp only [len_slc,List.length_cons,List.length_nil]; omega,by simp only [len_slc,List.length_cons,List.length_nil]; omega⟩,fun _=>?_,fun hx=>absurd hx (by decide)⟩
  refine retC (fd := Try.f85) (casM (hs2 5 0) (hs2 5 1) (.slc (D.hd (hs3 16 0)) 1 (List.append ims.rows (D.slc (D.hd (hs3 15 0)) 1 [[(hs1 8 0).like (applyCy s.imgs[N.toNat] ⟨N,N + 1,0,[],normW 32768 (D.to Wt (hs 0 1))⟩).1]]).rows)) th mp (.slc (D.hd (hs3 9 0)) 8 (List.append se.rows ((hs2 5 2).like [Msg.mk 8 0 1 (N + 1) 0 1 [] []]).rows)) an (relG A S (N + 1) (K ++ [⟨N,N + 1,0,[],normW 32768 (D.to Wt (hs 0 1))⟩])) s.far)
   ⟨_,⟨N + 1,_,a2,by simp,by simp,by simp,rfl⟩,_,_,_,_,_,_,_,⟨⟨m1,rfl,m2⟩,hcw.th,hcw.mp,⟨s1,rfl,s2⟩,hcw.an⟩,rfl⟩ (l := [.bool (decide (((D.like (hs2 5 2) [Msg.mk 8 0 1 (N + 1) 0 1 [] []]).len : Int) = 1))]) (fun E=>?_)
  simp only [one?,SV.den,like_leng,List.length_cons,List.length_nil]
  rfl
theorem cda_meth (h : CasOk s sz A S Sf Af N K) (hsm : Small s) : CMeth 33 71 [(0,.ptr 100000 0)] s fun s'=>∃ Sf',CasOk s' sz A S Sf' Af N K ∧ Sf ≤ Sf' ∧ s'.sent = s.sent ∧ s'.imgs = s.imgs ∧ (∃ l,s'.ans = s.ans ++ l ∧ l.length ≤ 1 ∧ (S = Sf → S < N → Sf' = S + 1 ∧ ∃ x,x ∈ l ∧ x.kind = 9 ∧ x.value = S + 1)) := by
 intro w0 H fp mm ⟨o,k,ims,th,mp,se,an,hcw,he⟩
 subst he
 have hrl := h.rlok o k
 obtain ⟨b1,b2,b3⟩ := hsm
 have hal : an.len = s.ans.length := by rw [D.Is.length (α := Msg),hcw.an.2.2]
 have hfst : s.far.stored = Sf := by rw [h.far]
 have same : CasMem s (casM o k ims th mp se an s.r s.far) := ⟨_,_,_,_,_,_,_,hcw,rfl⟩
 by_cases c1 : (nextRl s.r).2 = true
 rotate_left
 ·have c1 : (!(nextRl s.r).2) = true := by simpa using c1
  refine runs_cut ctSSOk (cdA_in ..) ?_
  simp only [rl_backR]
  refine ⟨hrl,fun _ _=>⟨c1,?_⟩⟩
  iterate 9 refine ⟨c1,?_⟩
  refine retC (fd := Try.f33) (l := [.lb true]) (casM o k ims th mp se an s.r s.far) ⟨s,⟨Sf,h,Int.le_refl _,rfl,rfl,[],by simp,by simp,fun h1 h2=>?_⟩,same⟩
  obtain ⟨c,hc,_⟩ := h.next h2
  rw [hc] at c1; cases c1
 have c1' : (!(nextRl s.r).2) = false := by rw [c1]; rfl
 have hx : nextRl s.r = ((nextRl s.r).1,true) := Prod.ext rfl c1
 by_cases c2 : (nextRl s.r).1.number ≤ s.far.stored
 ·have c2' := decide_eq_true c2
  refine runs_cut ctSSOk (cdB_in ..) ?_
  simp only [rl_backR]
  refine ⟨hrl,fun _ _=>⟨c1',c2',?_⟩⟩
  iterate 9 refine ⟨c1',?_⟩
  iterate 9 refine ⟨c2',?_⟩
  refine retC (fd := Try.f33) (l := [.lb true]) (casM o k ims th mp se an s.r s.far) ⟨s,⟨Sf,h,Int.le_refl _,rfl,rfl,[],by simp,by simp,fun h1 h2=>?_⟩,same⟩
  obtain ⟨c,hc,hc2,_⟩ := h.next h2
  rw [hc] at c2; simp only at c2; omega
 have c2' := decide_eq_false c2
 by_cases c3 : (nextRl s.r).1.base > s.far.stored
 ·have c3' := decide_eq_true c3
  refine runs_cut ctSSOk (cdC_in ..) ?_
  simp only [rl_backR]
  refine ⟨hrl,fun _ _=>⟨c1',c2',?_⟩⟩
  iterate 9 refine ⟨c1',?_⟩
  iterate 9 refine ⟨c2',?_⟩
  refine ⟨c3',?_⟩
  refine retC (fd := Try.f33) (l := [.lb true]) (casM o k ims th mp se an s.r s.far) ⟨s,⟨Sf,h,Int.le_refl _,rfl,rfl,[],by simp,by simp,fun h1 h2=>?_⟩,same⟩
  obtain ⟨c,hc,_,hc3⟩ := h.next h2
  rw [hc] at c3; simp only at c3; omega
 have c3' := decide_eq_false c3
 obtain ⟨d1,d2,d3,d4⟩ := h.data hx (by omega) (by omega)
 refine runs_cut ctSSOk (cdD_in ..) ?_
 simp only [rl_backR]
 simp only [tgt_back,d3]
 refine ⟨hrl,fun hs0 _=>⟨c1',c2',?_⟩⟩
 iterate 9 refine ⟨c1',?_⟩
 iterate 9 refine ⟨c2',?_⟩
 refine ⟨c3',?_⟩
 intro hs2 hs3 hs4
 have han := rows_app (rows_of hcw.an.1) (rows_of (D.like_is (hs2 6 0) [Msg.mk 9 1 0 0 (Sf + 1) 1 [] []]))
 rw [D.like_to,hcw.an.2.2] at han
 obtain ⟨s1,s2⟩ := is_of (h := D.hd (hs4 8 0)) (s := 8) rfl han
 refine ⟨⟨hcw.an.2.1,(D.like_is (α := Msg) _ _).fits,by simp only [like_leng,hal,List.length_cons,List.length_nil]; omega,by simp only [like_leng,hal,List.length_cons,List.length_nil]; omega⟩,?_⟩
 refine retC (fd := Try.f33) (l := [.bool (decide ((0 : Int) = 0))]) (casM o k ims th (mp.putKey .i64 (nextRl s.r).1.number [.int .i64 (nextRl s.r).1.base,.int .i64 (nextRl s.r).1.number,.int .i64 (nextRl s.r).1.time,(hs0 0 0).like (nextRl s.r).1.pos,(hs0 0 1).like (nextRl s.r).1.wr]) se (.slc (D.hd (hs4 8 0)) 8 (List.append an.rows ((hs2 6 0).like [Msg.mk 9 1 0 0 (Sf + 1) 1 [] []]).rows)) s.r ⟨1,1,Sf + 1,Af⟩)
  ⟨_,⟨Sf + 1,d4,by omega,rfl,rfl,_,rfl,by simp,fun h1 _=>⟨by omega,_,List.mem_singleton.2 rfl,rfl,by simp only; omega⟩⟩,_,_,_,_,_,_,_,⟨hcw.ims,hcw.th,hcw.mp.put (by rw [d1]; have := h.stn; omega) (D.like_is _ _) (D.like_to _ _) (D.like_is _ _) (D.like_to _ _),hcw.se,⟨s1,rfl,s2⟩⟩,rfl⟩ (fun E=>?_)
 simp [one?,SV.den]
end
def heL (o k ims th mp se an ml mb : D) (r : Rl) (far : Tgt) (mk mf mt mn mv me n : Int) (ki ks ka : Nat) : Conf :=
 Conf.mk (SFrm.mk 34 none none [Item.inLoop (cA 34 [1,1,1,1,0,1,0,0]),Item.inBlock 0,Item.code (cA 34 [1,1,1,1,1])] (mkJ 0 [(0,.ptr 100000 0),(3,.ptr 1 0),(7,.int .i64 n)] 0 114)) []
 [(1,OBlk.cells 72 [.int .i64 mk,.int .i64 mf,.int .i64 mt,.int .i64 mn,.int .i64 mv,.int .i64 me,.dat ml,.dat mb]),(ki,.arr 23 ims),(ks,.arr 72 se),(ka,.arr 72 an),
 (100000,.cells 82 (rlL o k r ++ [.int .i64 far.epoch,.int .i64 far.site,.int .i64 far.stored,.int .i64 far.applied,.vec ki,.dat th,.mapp 100001,.vec ks,.vec ka])),
 (100001,.mapD .i64 true [.int .i64,.int .i64,.int .i64,.slc,.slc] mp)]
section
variable (o k ims th mp se an ml mb wl : D) (r : Rl) (far : Tgt) (mk mf mt mn mv me n : Int)
theorem heA_go : 
 let z2 := (applyT (Tgt.mk (Tgt.epoch far) (Tgt.site far) (Tgt.stored far) (Tgt.applied far)) n)
 let z4 := (CyD.mk (D.getInt mp (D.keyIx mp n) 1) (D.getInt mp (D.keyIx mp n) 2) (D.getInt mp (D.keyIx mp n) 3) (D.cell mp (D.keyIx mp n) 4) (D.cell mp (D.keyIx mp n) 5))
 let z6 := (SFrm.mk 34 none none [Item.inLoop (cA 34 [1,1,1,1,0,1,0,0]),Item.inBlock 0,Item.code (cA 34 [1,1,1,1,1])] (mkJ 0 [(0,.ptr 100000 0),(3,.ptr 1 0),(7,.int .i64 (IntKind.wrap .i64 (n + 1)))] 0 114))
 let z7 : List SV := [.int .i64 mk,.int .i64 mf,.int .i64 mt,.int .i64 mn,.int .i64 mv,.int .i64 me,.dat ml,.dat mb]
 let z8 := (D.like o (Src.offered (Rl.src r)))
 let z1 : List SV := [.int .i64 (Tgt.epoch (Rl.near r)),.int .i64 (Tgt.site (Rl.near r)),.int .i64 (Tgt.stored (Rl.near r)),.int .i64 (Tgt.applied (Rl.near r)),.int .i64 (Tgt.epoch (Rl.far r)),.int .i64 (Tgt.site (Rl.far r)),.int .i64 (Tgt.stored (Rl.far r)),.int .i64 (Tgt.applied (Rl.far r)),.int .i64 (Src.epoch (Rl.src r)),.int .i64 (Src.site (Rl.src r)),.dat z8,.int .i64 (Src.stored (Rl.src r)),.int .i64 (Src.applied (Rl.src r)),.dat (D.like k (Rl.kept r)),.int .i64 (Tgt.epoch far),.int .i64 (Tgt.site far),.int .i64 (Tgt.stored far),.int .i64 (Tgt.applied far),.vec 0,.dat th,.mapp 100001,.vec 1,.vec 2]
 let z3 : Tree := (.leaf (Conf.mk (SFrm.mk 34 none none [Item.code (cA 34 [1,1,1,0,1,0,1]),Item.code (cA 34 [1,1,1,1,0,1,0,0,1,0,0,1,1,1,1,1]),Item.inBlock 1,Item.code (cA 34 [1,1,1,1,0,1,0,0,1,1]),Item.inLoop (cA 34 [1,1,1,1,0,1,0,0]),Item.inBlock 0,Item.code (cA 34 [1,1,1,1,1])] (mkJ 0 [(4,.lb false)] 0 114)) [] [(0,OBlk.arr 23 ims),(1,OBlk.arr 72 se),(2,OBlk.arr 72 an),(100000,OBlk.cells 82 z1),(100001,OBlk.mapD .i64 true [FT.int .i64,FT.int .i64,FT.int .i64,FT.slc,FT.slc] mp)]))
 let z5 : Tree := (.leaf (Conf.mk (SFrm.mk 34 none none [Item.code (cA 34 [1,1,1,0,1,0,1])] (mkJ 0 [(4,.lb true)] 0 114)) [] [(0,OBlk.arr 23 ims),(1,OBlk.arr 72 se),(2,OBlk.arr 72 an),(100000,OBlk.cells 82 z1),(100001,OBlk.mapD .i64 true [FT.int .i64,FT.int .i64,FT.int .i64,FT.slc,FT.slc] mp)]))
 execRS Try.prog ctFS [] 400 (unroll (heL o k ims th mp se an ml mb r far mk mf mt mn mv me n 2 4 5)) =
 Tree.br (decide (n ≤ mn)) (.br (decide (n ≤ Tgt.stored far)) (.br (D.hasKey mp n) (.all fun hs=>.need (D.Is Vol th ∧ D.len th ≤ 1048576 ∧ CyD.Ok z4) (.all fun hs_1=>.br (Prod.snd (applyCy (D.to Vol th)
 (CyD.cy z4)) != 0) z3 (.br (Prod.snd (Prod.snd z2) != 0) z3 (.all fun hs_2=>.need (D.sz an = 8 ∧ D.Fits (D.like (hs_1 0 0) (Prod.fst (Prod.snd z2))) 8 ∧ (D.len an + D.len (D.like (hs_1 0 0) (Prod.fst
 (Prod.snd z2)))) * 96 ≤ 140737488355328 ∧ D.len an + D.len (D.like (hs_1 0 0) (Prod.fst (Prod.snd z2))) ≤ 9223372036854775807) (.leaf (Conf.mk z6 [] [(1,OBlk.cells 72 z7),(2,OBlk.arr 23 ims),(4,OBlk.arr 72 se),
 (5,OBlk.arr 72 (D.slc (D.hd (hs_2 10 0)) 8 (List.append (D.rows an) (D.rows (D.like (hs_1 0 0) (Prod.fst (Prod.snd z2))))))),(100000,OBlk.cells 82 [.int .i64 (Tgt.epoch (Rl.near r)),.int .i64 (Tgt.site
 (Rl.near r)),.int .i64 (Tgt.stored (Rl.near r)),.int .i64 (Tgt.applied (Rl.near r)),.int .i64 (Tgt.epoch (Rl.far r)),.int .i64 (Tgt.site (Rl.far r)),.int .i64 (Tgt.stored (Rl.far r)),.int .i64 (Tgt.applied
 (Rl.far r)),.int .i64 (Src.epoch (Rl.src r)),.int .i64 (Src.site (Rl.src r)),.dat z8,.int .i64 (Src.stored (Rl.src r)),.int .i64 (Src.applied (Rl.src r)),.dat (D.like k (Rl.kept r)),.int .i64 (Tgt.epoch
 (Prod.fst z2)),.int .i64 (Tgt.site (Prod.fst z2)),.int .i64 (Tgt.stored (Prod.fst z2)),.int .i64 (Tgt.applied (Prod.fst z2)),.vec 2,.dat (D.like (hs 5 0) (Prod.fst (applyCy (D.to Vol th) (CyD.cy z4)))),.mapp 100001,.vec 4,.vec 5]),
 (100001,OBlk.mapD .i64 true [FT.int .i64,FT.int .i64,FT.int .i64,FT.slc,FT.slc] mp)])))))) (.leaf (Conf.mk z6 [] [(1,OBlk.cells 72 z7),(2,OBlk.arr 23 ims),(4,OBlk.arr 72 se),(5,OBlk.arr 72 an),
 (100000,OBlk.cells 82 [.int .i64 (Tgt.epoch (Rl.near r)),.int .i64 (Tgt.site (Rl.near r)),.int .i64 (Tgt.stored (Rl.near r)),.int .i64 (Tgt.applied (Rl.near r)),.int .i64 (Tgt.epoch (Rl.far r)),.int .i64
 (Tgt.site (Rl.far r)),.int .i64 (Tgt.stored (Rl.far r)),.int .i64 (Tgt.applied (Rl.far r)),.int .i64 (Src.epoch (Rl.src r)),.int .i64 (Src.site (Rl.src r)),.dat z8,.int .i64 (Src.stored (Rl.src r)),.int .i64
 (Src.applied (Rl.src r)),.dat (D.like k (Rl.kept r)),.int .i64 (Tgt.epoch far),.int .i64 (Tgt.site far),.int .i64 (Tgt.stored far),.int .i64 (Tgt.applied far),.vec 2,.dat th,.mapp 100001,.vec 4,.vec 5]),
 (100001,OBlk.mapD .i64 true [FT.int .i64,FT.int .i64,FT.int .i64,FT.slc,FT.slc] mp)]))) z5) z5 := by
 intros; kernel_rfl
end
section
variable {s : Cas} {sz : List Int} {A S Sf Af N : Int} {K : List Cy}
theorem cri_meth (h : CasOk s sz A S Sf Af N K) (hsm : Small s) : CMeth 36 75 [(0,.ptr 100000 0)] s fun s'=>s' = s := by
 intro w0 H fp mm ⟨o,k,ims,th,mp,se,an,hcw,he⟩
 subst he
 have hfa : s.far.applied = Af := by rw [h.far]
 subst hfa
 obtain ⟨r1,r2,r3⟩ := h.rel.range
 obtain ⟨l1,l2,l3,l4⟩ := h.le
 have ha0 := h.rel.a0
 have hrl := h.rlok o k
 obtain ⟨b1,b2,b3⟩ := hsm
 have hN := h.len
 have hil : ims.len = s.imgs.length := by rw [D.Is.length (α := List Vol),hcw.ims.2.2]
 have hw1 : IntKind.i64.wrap ((ims.len : Int) - 1) = N := by rw [wrap64J (by omega) (by omega)]; omega
 have hw2 : IntKind.i64.wrap (N - s.far.applied) = N - s.far.applied := wrap64J (by omega) (by omega)
 obtain ⟨g1,g2⟩ := List.getElem?_eq_some_iff.1 h.there
 have hlt : s.far.applied.toNat < (ims.to (List Vol)).length := by rw [hcw.ims.2.2]; exact g1
 obtain ⟨i1,i2,i3⟩ := img_cell hcw.ims.1 hlt
 have i4 : (ims.cell s.far.applied.toNat 0).to Vol = s.there := by rw [i3]; simp only [hcw.ims.2.2]; exact g2
 have hth := h.small_img (im := s.there) (List.mem_of_getElem? h.there)
 have hv : ∀ v : Vol,List.Mem v s.there → v.l.length ≤ 1048576 := fun v hv=>by have := hth.2 v hv; omega
 have hl1 : th.len ≤ 1048576 := by rw [D.Is.length (α := Vol),hcw.th.2]; omega
 have hl2 : (ims.cell s.far.applied.toNat 0).len ≤ 1048576 := by rw [D.Is.length (α := Vol),i4]; omega
 obtain ⟨k1,k2⟩ := h.lag
 have c1 : decide (s.far.applied < 0) = false := decide_eq_false (by omega)
 have c2 : decide (s.far.applied > N) = false := decide_eq_false (by omega)
 have c3 : decide (s.r.near.applied = N) = true := decide_eq_true (by rw [h.r]; rfl)
 have c4 : decide (s.r.far.applied ≤ s.far.applied) = true := decide_eq_true (by rw [h.r]; exact l1)
 have c5 : decide (N - A ≥ N - s.far.applied) = true := decide_eq_true (by omega)
 have hin : (0 : Int) ≤ s.far.applied ∧ s.far.applied < (ims.len : Int) ∧ ims.sz = 1 := ⟨by omega,by omega,hcw.ims.2.1⟩
 have hcl : ims.HasCell s.far.applied.toNat 0 .slc ∧ ims.sz = 1 := ⟨i1,hcw.ims.2.1⟩
 have hsame : th.Is Vol ∧ (ims.cell s.far.applied.toNat 0).Is Vol ∧ th.len ≤ 1048576 ∧ (ims.cell s.far.applied.toNat 0).len ≤ 1048576 ∧ (∀ v : Vol,List.Mem v s.there → v.l.length ≤ 1048576) ∧ ∀ v : Vol,List.Mem v s.there → v.l.length ≤ 1048576 := ⟨hcw.th.1,i2,hl1,hl2,hv,hv⟩
 refine runs_cut ctRSOk (cri_in ..) ?_
 simp only [rl_backR]
 simp only [hw1,hcw.th.2,i4,decide_true,Bool.not_true,k1,k2,hw2,c1,c2,c3,c4,c5,bne_self_eq_false,holds_need_i,holds_all_i,true_and]
 refine fun _ _=>⟨hin,hcl,hsame,hrl,hrl,?_⟩
 exact retC (fd := Try.f36) (l := [.bool true]) (casM o k ims th mp se an s.r s.far) ⟨s,rfl,_,_,_,_,_,_,_,hcw,rfl⟩ (fun E=>by simp [one?,SV.den])
end
section
variable {s : Cas} {sz : List Int} {A S Sf Af N : Int} {K : List Cy}
theorem he_loop {mk mf mt mn mv me : Int} {ml mb o k ims mp se : D} {Φ : Cas → Prop} (w0 : World) (H : HV) (fp : Nat → Nat) : ∀ (q : Nat) {s : Cas} {Af : Int} {th an : D},CasOk s sz A S Sf Af N K → (Sf - Af).toNat = q → s.imgs.length ≤ 1000 → s.ans.length + q ≤ 1000000 → CW ims th mp se an s →
  (∀ s' Af',CasOk s' sz A S Sf Af' N K → Af ≤ Af' → (mn ≤ Af' ∨ Sf ≤ Af') → s'.sent = s.sent → s'.imgs = s.imgs → (∃ l,s'.ans = s.ans ++ l ∧ l.length ≤ (Af' - Af).toNat ∧ (Af < Af' → ∃ x,x ∈ l ∧ x.kind = 11 ∧ x.value = Af')) → Φ s') →
  Runs Try.prog (@Ctx.mk w0 H (pinX fp)) (heL o k ims th mp se an ml mb s.r s.far mk mf mt mn mv me (Af + 1) 2 4 5) (RetP w0 H fp fun v m=>v = .lb true ∧ ∃ s',Φ s' ∧ CasMem s' m) := by
 intro q
 induction q with
 | zero =>
  intro s Af th an h hq him hal hcw hΦ
  have hfs : s.far.stored = Sf := by rw [h.far]
  obtain ⟨l1,l2,l3,l4⟩ := h.le
  refine unroll_sound rfl ?_
  apply execRS_sound ctFSOk [] 400
  rw [heA_go]
  have fin : (mn ≤ Af ∨ Sf ≤ Af) → ∃ s',Φ s' ∧ CasMem s' (casM o k ims th mp se an s.r s.far) := fun he=>⟨s,hΦ s Af h (Int.le_refl _) he rfl rfl ⟨[],by simp,by simp,fun hx=>absurd hx (by omega)⟩,_,_,_,_,_,_,_,hcw,rfl⟩
  refine ⟨fun c1=>⟨fun c2=>?_,fun c2=>?_⟩,fun c1=>?_⟩
  ·have := of_decide_eq_true c2; omega
  ·exact retC (fd := Try.f34) (l := [.lb true]) (casM o k ims th mp se an s.r s.far) (fin (.inr (by omega)))
  ·exact retC (fd := Try.f34) (l := [.lb true]) (casM o k ims th mp se an s.r s.far) (fin (.inr (by omega)))
 | succ q ih =>
  intro s Af th an h hq him hal hcw hΦ
  have hfs : s.far.stored = Sf := by rw [h.far]
  obtain ⟨r1,r2,r3⟩ := h.rel.range
  have ha0 := h.rel.a0
  have htop := h.rel.top
  obtain ⟨l1,l2,l3,l4⟩ := h.le
  have hN := h.len
  have hst := h.stn
  have hanl : an.len = s.ans.length := by rw [D.Is.length (α := Msg),hcw.an.2.2]
  obtain ⟨c,im',p1,p2,p3,p4,p5⟩ := h.put (by omega)
  have hlt : Af.toNat < s.stored.length := (List.getElem?_eq_some_iff.1 p1).1
  have hkey := hcw.mp.has hlt
  rw [show ((Af.toNat : Nat) : Int) + 1 = Af + 1 by omega] at hkey
  obtain ⟨q1,q2,q3⟩ := hcw.mp.at p1
  have hw1 : IntKind.i64.wrap (Af + 1 + 1) = Af + 1 + 1 := wrap64J (by omega) (by omega)
  have hth := h.small_img (im := s.there) (List.mem_of_getElem? h.there)
  have hl1 : th.len ≤ 1048576 := by rw [D.Is.length (α := Vol),hcw.th.2]; omega
  refine unroll_sound rfl ?_
  apply execRS_sound ctFSOk [] 400
  rw [heA_go]
  simp only [hkey.1,hkey.2,q1,hcw.th.2,tgt_back,p3,p4,hw1]
  refine ⟨fun c1=>⟨fun c2=>⟨fun _ hs0=>⟨⟨hcw.th.1,hl1,cy_ok_of q1 q2 q3 p2⟩,fun hs1=>⟨fun hb=>absurd hb (by decide),fun _=>⟨fun hb=>absurd hb (by decide),fun _ hs2=>⟨?_,?_⟩⟩⟩⟩,fun hb=>absurd hb (by decide)⟩,fun c2=>?_⟩,fun c1=>?_⟩
  ·exact ⟨hcw.an.2.1,(D.like_is (α := Msg) _ _).fits,by simp only [like_leng,hanl,List.length_cons,List.length_nil]; omega,by simp only [like_leng,hanl,List.length_cons,List.length_nil]; omega⟩
  ·have han := rows_app (rows_of hcw.an.1) (rows_of (D.like_is (hs1 0 0) [Msg.mk 11 1 0 0 (Af + 1) 1 [] []]))
   rw [D.like_to,hcw.an.2.2] at han
   obtain ⟨s1,s2⟩ := is_of (h := D.hd (hs2 10 0)) (s := 8) rfl han
   refine ih (an := .slc (D.hd (hs2 10 0)) 8 (List.append an.rows ((hs1 0 0).like [Msg.mk 11 1 0 0 (Af + 1) 1 [] []]).rows)) (th := (hs0 5 0).like im') p5 (by omega) him (by simp only [List.length_append,List.length_cons,List.length_nil]; omega) ⟨hcw.ims,⟨D.like_is _ _,D.like_to _ _⟩,hcw.mp,hcw.se,⟨s1,rfl,s2⟩⟩ fun s' Af' g1 g2 g3 g4 g5 ⟨l,g6,g7,g8⟩=>hΦ s' Af' g1 (by omega) g3 g4 g5 ⟨[⟨11,1,0,0,Af + 1,1,[],[]⟩] ++ l,by rw [g6]; simp,by simp only [List.length_append,List.length_cons,List.length_nil]; omega,fun _=>?_⟩
   by_cases hx : Af + 1 < Af'
   ·obtain ⟨x,x1,x2⟩ := g8 hx
    exact ⟨x,List.mem_append_right _ x1,x2⟩
   ·exact ⟨_,List.mem_append_left _ (List.mem_singleton.2 rfl),rfl,by simp only; omega⟩
  ·have := of_decide_eq_false c2; omega
  ·have c1 := of_decide_eq_false c1
   refine retC (fd := Try.f34) (l := [.lb true]) (casM o k ims th mp se an s.r s.far) ⟨s,hΦ s Af h (Int.le_refl _) (.inl (by omega)) rfl rfl ⟨[],by simp,by simp,fun hx=>absurd hx (by omega)⟩,_,_,_,_,_,_,_,hcw,rfl⟩
theorem che_meth (h : CasOk s sz A S Sf Af N K) (hsm : Small s) (mk mf mt mn mv me : Int) (ml mb : D) (hm : ((MsgD.mk mk mf mt mn mv me ml mb).msg.kind = 8 ∨ (MsgD.mk mk mf mt mn mv me ml mb).msg.kind = 10) ∧ (MsgD.mk mk mf mt mn mv me ml mb).msg.to = 1 ∧ (MsgD.mk mk mf mt mn mv me ml mb).msg.epoch = 1) :
  CMeth 34 114 [(0,.ptr 100000 0),(1,.agg [.int .i64 mk,.int .i64 mf,.int .i64 mt,.int .i64 mn,.int .i64 mv,.int .i64 me,.dat ml,.dat mb])] s fun s' =>
   ∃ Af',CasOk s' sz A S Sf Af' N K ∧ Af ≤ Af' ∧ s'.sent = s.sent ∧ s'.imgs = s.imgs ∧ (∃ l,s'.ans = s.ans ++ l ∧ l.length ≤ 1 + (Af' - Af).toNat ∧ (mk = 8 → ∃ x,x ∈ l ∧ x.kind = 9 ∧ x.value = Sf) ∧ (mk = 10 → (mn ≤ Af' ∨ Sf ≤ Af') ∧ ∃ x,x ∈ l ∧ x.kind = 11 ∧ x.value = Af')) := by
 intro w0 H fp mm ⟨o,k,ims,th,mp,se,an,hcw,he⟩
 subst he
 obtain ⟨b1,b2,b3⟩ := hsm
 obtain ⟨r1,r2,r3⟩ := h.rel.range
 have ha0 := h.rel.a0
 have htop := h.rel.top
 obtain ⟨l1,l2,l3,l4⟩ := h.le
 have hN := h.len
 have hanl : an.len = s.ans.length := by rw [D.Is.length (α := Msg),hcw.an.2.2]
 obtain ⟨x,a1,a2,a3,a4,a5,a6⟩ := h.answer hm
 have hw1 : IntKind.i64.wrap (Af + 1) = Af + 1 := wrap64J (by omega) (by omega)
 apply execRS_sound ctFSOk [] 400
 rw [che_in]
 simp only [tgt_back,a1,hw1]
 refine fun hs0 hs1=>⟨⟨hcw.an.2.1,(D.like_is (α := Msg) _ _).fits,by simp only [like_leng,hanl,List.length_cons,List.length_nil]; omega,by simp only [like_leng,hanl,List.length_cons,List.length_nil]; omega⟩,fun hc=>?_,fun hc=>?_⟩
 ·have hc : mk ≠ 10 := by simpa using hc
  have h8 : mk = 8 := by
   rcases hm.1 with h | h
   ·exact h
   ·exact absurd h hc
  have han := rows_app (rows_of hcw.an.1) (rows_of (D.like_is (hs0 5 0) [x]))
  rw [D.like_to,hcw.an.2.2] at han
  obtain ⟨s1,s2⟩ := is_of (h := D.hd (hs1 8 0)) (s := 8) rfl han
  refine retC (fd := Try.f34) (l := [.lb true]) (casM o k ims th mp se (.slc (D.hd (hs1 8 0)) 8 (List.append an.rows ((hs0 5 0).like [x]).rows)) s.r ⟨1,1,Sf,Af⟩) ⟨_,⟨Af,a6,Int.le_refl _,rfl,rfl,[x],rfl,by simp,fun _=>⟨x,List.mem_singleton.2 rfl,a4 h8⟩,fun h=>absurd h hc⟩,_,_,_,_,_,_,_,⟨hcw.ims,hcw.th,hcw.mp,hcw.se,⟨s1,rfl,s2⟩⟩,rfl⟩
 ·have hc : mk = 10 := by simpa using hc
  have han := rows_app (rows_of hcw.an.1) (rows_of (D.like_is (hs0 5 0) [x]))
  rw [D.like_to,hcw.an.2.2] at han
  obtain ⟨s1,s2⟩ := is_of (h := D.hd (hs1 8 0)) (s := 8) rfl han
  refine he_loop w0 H fp (Sf - Af).toNat (th := th) (an := .slc (D.hd (hs1 8 0)) 8 (List.append an.rows ((hs0 5 0).like [x]).rows)) a6 rfl b3 (by simp only [List.length_append,List.length_cons,List.length_nil]; omega) ⟨hcw.ims,hcw.th,hcw.mp,hcw.se,⟨s1,rfl,s2⟩⟩ fun s' Af' g1 g2 g3 g4 g5 ⟨l,g6,g7,g8⟩=>⟨Af',g1,g2,g4,g5,x :: l,by rw [g6]; simp,by simp only [List.length_cons]; omega,fun h=>absurd (hc.symm.trans h) (by decide),fun _=>⟨g3,?_⟩⟩
  by_cases hx : Af < Af'
  ·obtain ⟨y,y1,y2⟩ := g8 hx
   exact ⟨y,List.mem_cons_of_mem _ y1,y2⟩
  ·have := a5 hc
   exact ⟨x,List.mem_cons_self,this.1,by omega⟩
end
def ctSt : Ctrs := [(31,ctrOf ((rdRl.two rdMsg).sp spLearnRl)),(71,ctrOf (rdSrc.one.sp spResend))]
section
variable (o k nv m im st tf tn : D) (r : Rl) (far : Tgt) (lo n : Nat) (num xk xw xd : Int)
end
section
variable (se : D) (hw : Int)
theorem rpk_in : 
 let z1 := (Int.toNat (IntKind.wrap .i64 (IntKind.wrap .i64 ((↑(D.len se) : Int) - 1) - IntKind.wrap .i64 (Int.tmod hw (↑(D.len se) : Int) + (↑(D.len se) : Int)))))
 let z2 := (Int.toNat (IntKind.wrap .i64 (IntKind.wrap .i64 ((↑(D.len se) : Int) - 1) - Int.tmod hw (↑(D.len se) : Int))))
 exec Try.prog [] 400 (entry Try.prog 86 [.dat se,.int .i64 hw]) =
 Tree.br (decide ((↑(D.len se) : Int) = 0)) (.ret (SV.tup [.agg [.int .i64 0,.int .i64 0,.int .i64 0,.int .i64 0,.int .i64 0,.int .i64 0,.nils,.nils],.lb false])) (.need ((↑(D.len se) : Int) ≠ 0)
 (.br (decide (Int.tmod hw (↑(D.len se) : Int) < 0)) (.need (0 ≤ IntKind.wrap .i64 (IntKind.wrap .i64 ((↑(D.len se) : Int) - 1) - IntKind.wrap .i64 (Int.tmod hw (↑(D.len se) : Int) + (↑(D.len se) : Int))) ∧ IntKind.wrap .i64
 (IntKind.wrap .i64 ((↑(D.len se) : Int) - 1) - IntKind.wrap .i64 (Int.tmod hw (↑(D.len se) : Int) + (↑(D.len se) : Int))) < (↑(D.len se) : Int) ∧ D.sz se = 8) (.need (D.HasCells se z1 0 [FT.int .i64,FT.int .i64,FT.int .i64,FT.int .i64,FT.int .i64,FT.int .i64,FT.slc,FT.slc])
 (.ret (SV.tup [.agg [.int .i64 (D.getInt se z1 0),.int .i64 (D.getInt se z1 1),.int .i64 (D.getInt se z1 2),.int .i64 (D.getInt se z1 3),.int .i64 (D.getInt se z1 4),.int .i64 (D.getInt se z1 5),.dat
 (D.cell se z1 6),.dat (D.cell se z1 7)],.lb true])))) (.need (0 ≤ IntKind.wrap .i64 (IntKind.wrap .i64 ((↑(D.len se) : Int) - 1) - Int.tmod hw (↑(D.len se) : Int)) ∧ IntKind.wrap .i64 (IntKind.wrap .i64
 ((↑(D.len se) : Int) - 1) - Int.tmod hw (↑(D.len se) : Int)) < (↑(D.len se) : Int) ∧ D.sz se = 8) (.need (D.HasCells se z2 0 [FT.int .i64,FT.int .i64,FT.int .i64,FT.int .i64,FT.int .i64,FT.int .i64,FT.slc,FT.slc])
 (.ret (SV.tup [.agg [.int .i64 (D.getInt se z2 0),.int .i64 (D.getInt se z2 1),.int .i64 (D.getInt se z2 2),.int .i64 (D.getInt se z2 3),.int .i64 (D.getInt se z2 4),.int .i64 (D.getInt se z2 5),.dat
 (D.cell se z2 6),.dat (D.cell se z2 7)],.lb true])))))) := by
 intros; kernel_rfl
end
end Sv
end
noncomputable section
namespace Sx
open Go RowKit
def kCtr (spec : List SV → SpecR) : Ctr := fun args _ m=>match args with
 | [.vec k,x]=>match m.get k with
  | some (.arr _ d)=>match spec [.dat d,x] with
   | .data ps g=>match x.flat with
    | true=>.val ps (g fun _=>.slc none 0 []) m
    | false=>.bad
   | _=>.bad
  | _=>.bad
 | _=>.bad
theorem kCtr_ro {spec : List SV → SpecR} : CtrRO (kCtr spec) := by
 intro args key m h
 have hb : kCtr spec args key m = .bad := by
  unfold kCtr
  split
  ·split
   ·rename_i hg
    exact (roM_arr h hg).elim
   ·rfl
  ·rfl
 rw [hb]
 trivial
theorem kCtr_ok {P : Program} {f : FuncId} {spec : List SV → SpecR} (h : Law P f spec) (hc : ∀ args ps g,spec args = .data ps g → ∀ a b,g a = g b)
  (hok : ∀ (H : HV) hd sz rows x ps g,spec [.dat (.slc hd sz rows),x] = .data ps g → x.Ok H → (∀ r,r ∈ rows → ∀ y,y ∈ r → D.Ok H y) → (∀ p,p ∈ ps → p) → ∀ a,(g a).Ok H) : CtrOk P f (kCtr spec) := by
 refine ⟨bodied_spec h.1,fun C E H w args key m g hargs hk hk2=>?_,kCtr_ro⟩
 unfold CallRight kCtr
 split
 ·rename_i r ps v m2 heq
  split at heq
  ·rename_i k x
   split at heq
   ·rename_i e d hg
    split at heq
    ·rename_i ps1 g1' hs
     split at heq
     ·rename_i hfl
      cases heq
      intro hp
      obtain ⟨H1,hle,g1,hdok,_⟩ := pubR_spec g (.vec k)
      obtain ⟨hd,sz,rows,rfl,hv,q3,q4,q5,q6⟩ := g.own k _ (Mem.get_mem hg)
      have hd1 := hdok (D.slc hd sz rows) (by simp [dataOf,hg]) (by simp [SV.Ok])
      have hx1 : ∀ H1,x.Ok H1 := fun H1=>by cases x <;> simp [SV.flat] at hfl <;> simp [SV.Ok]
      have hl := h.2 H1 E [.dat (D.slc hd sz rows),x] ⟨⟨hd1,_,_,_,rfl⟩,hx1 _,trivial⟩
      rw [hs] at hl
      have hc1 := hl hp w g1.cell
      have e1 : SV.denL E [.dat (D.slc hd sz rows),x] = SV.denL E [.vec k,x] := by
       simp only [SV.denL,SV.den,hv]; rfl
      rw [e1] at hc1
      refine Calls.mono hc1 fun e w' ⟨u,H',he,ha,hs',hu,_⟩=>?_
      refine ⟨E,H,by rw [he,hu,hc _ _ _ hs hs' (fun _=>.slc none 0 [])],Agree.refl _ _,HLe.refl _,g.call ha.below (HLe.refl _) (fun _ _ _ h=>.inl h) (fun b o v hb=>ha.cell b o v (ha.le b o v (hle b o v hb))),?_⟩
      refine ⟨hok H hd sz rows x _ _ hs (hx1 _) q5 hp _,ha.below.size,fun b hb _=>ha.below.block b hb,fun _ _ _ h=>.inl h,fun k o h=>.inr ⟨o,h⟩,fun k o h hl=>.inr ⟨k,o,h,hl,rfl⟩,ha.below.os,ha.below.tape,ha.below.output⟩
     ·cases heq
    ·cases heq
   ·cases heq
  ·cases heq
 ·rename_i r ps g heq
  split at heq
  ·split at heq
   ·split at heq
    ·split at heq <;> cases heq
    ·cases heq
   ·cases heq
  ·cases heq
 ·trivial
end Sx
end
noncomputable section
open Go Go.Proofs Sx
namespace Sx
def rpX (d : D) (n : Int) : Nat := ((d.len : Int) - 1 - (if Int.tmod n d.len < 0 then Int.tmod n d.len + d.len else Int.tmod n d.len)).toNat
def rpI (d : D) (n : Int) (j : Nat) : Int := if d.len = 0 then 0 else d.getInt (rpX d n) j
def rpD (d : D) (n : Int) (j : Nat) : D := if d.len = 0 then .slc none 0 [] else d.cell (rpX d n) j
def spPk (x : D × Int) : SpecR := .data [x.1.Is Msg ∧ x.1.sz = 8 ∧ x.1.len ≤ 1000000] fun _=>.tup [.agg [.int .i64 (rpI x.1 x.2 0),.int .i64 (rpI x.1 x.2 1),.int .i64 (rpI x.1 x.2 2),.int .i64 (rpI x.1 x.2 3),.int .i64 (rpI x.1 x.2 4),.int .i64 (rpI x.1 x.2 5),.dat (rpD x.1 x.2 6),.dat (rpD x.1 x.2 7)],.bool (decide (x.1.len ≠ 0))]
theorem pk_lt {d : D} {n : Int} (h : 0 < d.len) : rpX d n < d.len ∧ (0 : Int) ≤ (d.len : Int) - 1 - (if Int.tmod n d.len < 0 then Int.tmod n d.len + d.len else Int.tmod n d.len) ∧ -(d.len : Int) < Int.tmod n d.len ∧ Int.tmod n d.len < d.len := by
 have h1 : Int.tmod n d.len < d.len := Int.tmod_lt_of_pos _ (by omega)
 have h2 : -(d.len : Int) < Int.tmod n d.len := by
  have h3 := Int.tmod_lt_of_pos (-n) (b := (d.len : Int)) (by omega)
  rw [Int.neg_tmod] at h3
  omega
 unfold rpX
 refine ⟨?_,?_,h2,h1⟩
 ·split <;> omega
 ·split <;> omega
theorem se_nil {s : Nat} : SE .nils (.dat (.slc none s [])) := ⟨fun _ _=>by simp [SV.den,D.val,hval],fun H _=>by simp only [SV.Ok]; exact ⟨.nil s,_,_,_,rfl⟩⟩
theorem se_dat {d : D} : SE (.dat d) (.dat d) := ⟨fun _ _=>rfl,fun _ h=>h⟩
theorem cell_ok {H : HV} {hd : Hd} {sz : Nat} {rows : List (List D)} (h : ∀ r,r ∈ rows → ∀ y,y ∈ r → D.Ok H y) (i j : Nat) : (D.cell (.slc hd sz rows) i j).Ok H := by
 unfold D.cell D.cellAt
 cases hr : (D.slc hd sz rows).rows[i]? with
 | none=>exact .nil 0
 | some r =>
  cases hy : r[j]? with
  | none=>simp only [Option.bind_some,hy]; exact .nil 0
  | some y=>simp only [Option.bind_some,hy]; exact h r (List.mem_of_getElem? hr) y (List.mem_of_getElem? hy)
end Sx
namespace Sv
theorem lawPk1 : Law Try.prog 86 ((rdD.two rdInt).sp spPk) := by
 refine law_in _ (by kernel_rfl) fun H w ⟨se,n⟩ hok hp=>?_
 obtain ⟨hse,hz,hbig⟩ := hp _ (List.mem_singleton.2 rfl)
 simp only at hse hz hbig
 have hl := D.Is.length (α := Msg) se
 apply exec_sound (noCtr _) 400
 rw [show (rdD.two rdInt).canon (se,n) = [.dat se,.int .i64 n] from rfl,rpk_in]
 refine ⟨fun h0=>?_,fun h0=>?_⟩
 ·have h0 : se.len = 0 := by have := of_decide_eq_true h0; omega
  refine ret_se (fun _=>se) (se_tup (.cons (se_agg ?_) (.cons (se_lb (by simp [h0])) .nil)))
  simp only [rpI,rpD,h0,if_true]
  exact .cons (se_int rfl) (.cons (se_int rfl) (.cons (se_int rfl) (.cons (se_int rfl) (.cons (se_int rfl) (.cons (se_int rfl) (.cons se_nil (.cons se_nil .nil)))))))
 ·have h0 : se.len ≠ 0 := by have := of_decide_eq_false h0; omega
  obtain ⟨p1,p2,p3,p4⟩ := pk_lt (d := se) (n := n) (by omega)
  have hx : (rpX se n : Int) = (se.len : Int) - 1 - (if Int.tmod n se.len < 0 then Int.tmod n se.len + se.len else Int.tmod n se.len) := by unfold rpX; omega
  have hcell := (msg_cell hse (i := rpX se n) (by omega)).1
  have fin : (Tree.ret (SV.tup [.agg [.int .i64 (se.getInt (rpX se n) 0),.int .i64 (se.getInt (rpX se n) 1),.int .i64 (se.getInt (rpX se n) 2),.int .i64 (se.getInt (rpX se n) 3),.int .i64 (se.getInt (rpX se n) 4),.int .i64 (se.getInt (rpX se n) 5),.dat (se.cell (rpX se n) 6),.dat (se.cell (rpX se n) 7)],.lb true])).holds Try.prog ⟨w,H⟩ (RetD w H fun _=>.tup [.agg [.int .i64 (rpI se n 0),.int .i64 (rpI se n 1),.int .i64 (rpI se n 2),.int .i64 (rpI se n 3),.int .i64 (rpI se n 4),.int .i64 (rpI se n 5),.dat (rpD se n 6),.dat (rpD se n 7)],.bool (decide (se.len ≠ 0))]) := by
   refine ret_se (fun _=>se) (se_tup (.cons (se_agg ?_) (.cons (se_lb (by simp [h0])) .nil)))
   simp only [rpI,rpD,h0,if_false]
   exact .cons (se_int rfl) (.cons (se_int rfl) (.cons (se_int rfl) (.cons (se_int rfl) (.cons (se_int rfl) (.cons (se_int rfl) (.cons se_dat (.cons se_dat .nil)))))))
  have w1 : IntKind.i64.wrap ((se.len : Int) - 1) = (se.len : Int) - 1 := wrap64J (by omega) (by omega)
  rw [w1]
  refine ⟨by omega,fun hn=>?_,fun hn=>?_⟩
  ·have hn := of_decide_eq_true hn
   rw [if_pos hn] at hx
   have w2 : IntKind.i64.wrap (Int.tmod n se.len + se.len) = Int.tmod n se.len + se.len := wrap64J (by omega) (by omega)
   rw [w2]
   have w3 : IntKind.i64.wrap ((se.len : Int) - 1 - (Int.tmod n se.len + se.len)) = (rpX se n : Int) := by rw [wrap64J (by omega) (by omega)]; omega
   rw [w3]
   simp only [Int.toNat_natCast]
   exact ⟨⟨by omega,by omega,hz⟩,hcell,fin⟩
  ·have hn := of_decide_eq_false hn
   rw [if_neg hn] at hx
   have w3 : IntKind.i64.wrap ((se.len : Int) - 1 - Int.tmod n se.len) = (rpX se n : Int) := by rw [wrap64J (by omega) (by omega)]; omega
   rw [w3]
   simp only [Int.toNat_natCast]
   exact ⟨⟨by omega,by omega,hz⟩,hcell,fin⟩
theorem ctrPk : CtrOk Try.prog 86 (kCtr ((rdD.two rdInt).sp spPk)) := by
 refine kCtr_ok lawPk1 (fun args ps g h a b=>?_) fun H hd sz rows x ps g h hx hr hp a=>?_
 ·unfold Rd.sp at h
  split at h
  ·simp only [spPk,SpecR.data.injEq] at h
   rw [← h.2]
  ·cases h
 ·unfold Rd.sp at h
  split at h
  ·rename_i y hy
   simp only [spPk,SpecR.data.injEq] at h
   rw [← h.2]
   have hh := hp _ (by rw [← h.1]; exact List.mem_singleton.2 rfl)
   have hd1 : y.1 = .slc hd sz rows := by
    cases hq : rdInt.read x with
    | none=>simp [Rd1.two,rdD,SV.d?,hq] at hy
    | some n=>simp [Rd1.two,rdD,SV.d?,hq] at hy; rw [← hy]
   obtain ⟨g1,g2,g3⟩ := hh
   rw [hd1] at g1 g2 g3 ⊢
   have hl := D.Is.length (α := Msg) (.slc hd sz rows)
   have h6 : (rpD (.slc hd sz rows) y.2 6).Ok H ∧ (rpD (.slc hd sz rows) y.2 6).IsSlc := by
    unfold rpD; split
    ·exact ⟨.nil 0,_,_,_,rfl⟩
    ·rename_i h0
     obtain ⟨_,_,_,_,_,_,_,c6,_,c7,_⟩ := msg_cell g1 (i := rpX (.slc hd sz rows) y.2) (by have := (pk_lt (d := .slc hd sz rows) (n := y.2) (by omega)).1; omega)
     exact ⟨cell_ok hr _ _,c6.slc⟩
   have h7 : (rpD (.slc hd sz rows) y.2 7).Ok H ∧ (rpD (.slc hd sz rows) y.2 7).IsSlc := by
    unfold rpD; split
    ·exact ⟨.nil 0,_,_,_,rfl⟩
    ·rename_i h0
     obtain ⟨_,_,_,_,_,_,_,c6,_,c7,_⟩ := msg_cell g1 (i := rpX (.slc hd sz rows) y.2) (by have := (pk_lt (d := .slc hd sz rows) (n := y.2) (by omega)).1; omega)
     exact ⟨cell_ok hr _ _,c7.slc⟩
   simp only [SV.Ok,SV.OkL,and_true,true_and]
   exact ⟨h6,h7⟩
  ·cases h
end Sv
end
noncomputable section
open Go Go.Proofs Sx
namespace Sv
def ctK3 : Ctrs := (86,kCtr ((rdD.two rdInt).sp spPk)) :: ctSt
section
variable (o k ims th mp se an wl : D) (r : Rl) (far : Tgt) (hk hw : Int)
theorem cst_in : 
 let z7 := (D.like o (Src.offered (Rl.src r)))
 let z4 := (SrcD.mk (Src.epoch (Rl.src r)) (Src.site (Rl.src r)) z7 (Src.stored (Rl.src r)) (Src.applied (Rl.src r)))
 let z8 := (cA 42 [1,0,1,0,1,0,1])
 let z5 := (SFrm.mk 42 none none [Item.code z8] (mkJ 0 [(4,.lb true)] 0 55))
 let z9 := (Tgt.applied (Rl.near r))
 let z2 : List SV := [.int .i64 (Tgt.epoch (Rl.near r)),.int .i64 (Tgt.site (Rl.near r)),.int .i64 (Tgt.stored (Rl.near r)),.int .i64 z9,.int .i64 (Tgt.epoch (Rl.far r)),.int .i64 (Tgt.site (Rl.far r)),.int .i64 (Tgt.stored (Rl.far r)),.int .i64 (Tgt.applied (Rl.far r)),.int .i64 (Src.epoch (Rl.src r)),.int .i64 (Src.site (Rl.src r)),.dat z7,.int .i64 (Src.stored (Rl.src r)),.int .i64 (Src.applied (Rl.src r)),.dat (D.like k (Rl.kept r)),.int .i64 (Tgt.epoch far),.int .i64 (Tgt.site far),.int .i64 (Tgt.stored far),.int .i64 (Tgt.applied far),.vec 1,.dat th,.mapp 100001,.vec 3,.vec 4]
 let z3 : List SV := [.int .i64 (Tgt.epoch (Rl.near r)),.int .i64 (Tgt.site (Rl.near r)),.int .i64 (Tgt.stored (Rl.near r)),.int .i64 z9,.int .i64 (Tgt.epoch (Rl.far r)),.int .i64 (Tgt.site (Rl.far r)),.int .i64 (Tgt.stored (Rl.far r)),.int .i64 (Tgt.applied (Rl.far r)),.int .i64 (Src.epoch (Rl.src r)),.int .i64 (Src.site (Rl.src r)),.dat z7,.int .i64 (Src.stored (Rl.src r)),.int .i64 (Src.applied (Rl.src r)),.dat (D.like k (Rl.kept r)),.int .i64 (Tgt.epoch far),.int .i64 (Tgt.site far),.int .i64 (Tgt.stored far),.int .i64 (Tgt.applied far),.vec 2,.dat th,.mapp 100001,.vec 0,.vec 4]
 let z6 := (RlD.mk (Tgt.mk (Tgt.epoch (Rl.near r)) (Tgt.site (Rl.near r)) (Tgt.stored (Rl.near r)) z9) (Tgt.mk (Tgt.epoch (Rl.far r)) (Tgt.site (Rl.far r)) (Tgt.stored (Rl.far r)) (Tgt.applied (Rl.far r))) z4 (D.like k (Rl.kept r)))
 let z1 := (learnRl (RlD.rl z6) (MsgD.msg (MsgD.mk (rpI an hw 0) (rpI an hw 1) (rpI an hw 2) (rpI an hw 3) (rpI an hw 4) (rpI an hw 5) (rpD an hw 6) (rpD an hw 7))))
 execRE Try.prog ctK3 [85,33,34] 400 (sysE 42 55 [(0,.ptr 100000 0),(1,.agg [.int .i64 hk,.int .i64 hw,.dat wl])] (casM o k ims th mp se an r far)) =
 Tree.br (decide (hk = 0)) (.leaf (Conf.mk (SFrm.mk 85 none none [Item.code (cA 85 [])] (mkJ 1 [(0,.ptr 100000 0),(1,.dat wl)] 0 88)) [SFrm.mk 42 (some (oA 42 [1,0,1,0,1,0,0],[4])) (some 18) [Item.code z8,Item.inBlock 0,Item.code
 (cA 42 [1,1])] (mkJ 0 [] 0 55)] [(1,OBlk.arr 23 ims),(3,OBlk.arr 72 se),(4,OBlk.arr 72 an),(100000,OBlk.cells 82 z2),(100001,OBlk.mapD .i64 true [FT.int .i64,FT.int .i64,FT.int .i64,FT.slc,FT.slc] mp)]))
 (.br (decide (hk = 1)) (.leaf (Conf.mk (SFrm.mk 33 none none [Item.code (cA 33 [])] (mkJ 1 [(0,.ptr 100000 0)] 0 71)) [SFrm.mk 42 (some (oA 42 [1,0,1,0,1,1,1,0,0],[2])) (some 22) [Item.code z8,Item.inBlock 0,Item.code
 (cA 42 [1,1])] (mkJ 0 [] 0 55)] [(1,OBlk.arr 23 ims),(3,OBlk.arr 72 se),(4,OBlk.arr 72 an),(100000,OBlk.cells 82 z2),(100001,OBlk.mapD .i64 true [FT.int .i64,FT.int .i64,FT.int .i64,FT.slc,FT.slc] mp)]))
 (.br (decide (hk = 2)) (.all fun hs=>.need (D.Is Msg se ∧ D.sz se = 8 ∧ D.len se ≤ 1000000) (.br (decide (D.len se ≠ 0)) (.leaf (Conf.mk (SFrm.mk 34 none none [Item.code (cA 34 [])] (mkJ 1 [(0,.ptr 100000 0),
 (1,.agg [.int .i64 (rpI se hw 0),.int .i64 (rpI se hw 1),.int .i64 (rpI se hw 2),.int .i64 (rpI se hw 3),.int .i64 (rpI se hw 4),.int .i64 (rpI se hw 5),.dat (rpD se hw 6),.dat (rpD se hw 7)])] 0 114)) [SFrm.mk 42
 (some (oA 42 [1,0,1,0,1,1,1,1,1,0,1,1,0,0],[3])) (some 38) [Item.code z8,Item.inBlock 0,Item.code (cA 42 [1,1])] (mkJ 0 [] 0 55)] [(1,OBlk.arr 23 ims),(3,OBlk.arr 72 se),(4,OBlk.arr 72 an),
 (100000,OBlk.cells 82 z2),(100001,OBlk.mapD .i64 true [FT.int .i64,FT.int .i64,FT.int .i64,FT.slc,FT.slc] mp)])) (.leaf (Conf.mk z5 [] [(0,OBlk.arr 72 se),(2,OBlk.arr 23 ims),(4,OBlk.arr 72 an),
 (100000,OBlk.cells 82 z3),(100001,OBlk.mapD .i64 true [FT.int .i64,FT.int .i64,FT.int .i64,FT.slc,FT.slc] mp)])))) (.br (decide (hk = 3)) (.all fun hs=>.need (D.Is Msg an ∧ D.sz an = 8 ∧ D.len an ≤ 1000000)
 (.br (decide (D.len an ≠ 0)) (.all fun hs=>.need (RlD.Ok z6) (.all fun hs_1=>.need (D.sz se = 8 ∧ D.Fits (D.like (hs 5 2) (Prod.snd z1)) 8 ∧ (D.len se + D.len (D.like (hs 5 2) (Prod.snd z1))) * 96 ≤ 140737488355328 ∧ D.len se + D.len
 (D.like (hs 5 2) (Prod.snd z1)) ≤ 9223372036854775807) (.leaf (Conf.mk z5 [] [(0,OBlk.arr 72 (D.slc (D.hd (hs_1 8 0)) 8 (List.append (D.rows se) (D.rows (D.like (hs 5 2) (Prod.snd z1)))))),(1,OBlk.arr 72 an),
 (3,OBlk.arr 23 ims),(100000,OBlk.cells 82 [.int .i64 (Tgt.epoch (Rl.near (Prod.fst z1))),.int .i64 (Tgt.site (Rl.near (Prod.fst z1))),.int .i64 (Tgt.stored (Rl.near (Prod.fst z1))),.int .i64 (Tgt.applied
 (Rl.near (Prod.fst z1))),.int .i64 (Tgt.epoch (Rl.far (Prod.fst z1))),.int .i64 (Tgt.site (Rl.far (Prod.fst z1))),.int .i64 (Tgt.stored (Rl.far (Prod.fst z1))),.int .i64 (Tgt.applied (Rl.far (Prod.fst z1))),.int .i64
 (Src.epoch (Rl.src (Prod.fst z1))),.int .i64 (Src.site (Rl.src (Prod.fst z1))),.dat (D.like (hs 5 0) (Src.offered (Rl.src (Prod.fst z1)))),.int .i64 (Src.stored (Rl.src (Prod.fst z1))),.int .i64 (Src.applied
 (Rl.src (Prod.fst z1))),.dat (D.like (hs 5 1) (Rl.kept (Prod.fst z1))),.int .i64 (Tgt.epoch far),.int .i64 (Tgt.site far),.int .i64 (Tgt.stored far),.int .i64 (Tgt.applied far),.vec 3,.dat th,.mapp 100001,.vec 0,.vec 1]),
 (100001,OBlk.mapD .i64 true [FT.int .i64,FT.int .i64,FT.int .i64,FT.slc,FT.slc] mp)])))) (.leaf (Conf.mk z5 [] [(0,OBlk.arr 72 an),(2,OBlk.arr 23 ims),(4,OBlk.arr 72 se),(100000,OBlk.cells 82 [.int .i64
 (Tgt.epoch (Rl.near r)),.int .i64 (Tgt.site (Rl.near r)),.int .i64 (Tgt.stored (Rl.near r)),.int .i64 z9,.int .i64 (Tgt.epoch (Rl.far r)),.int .i64 (Tgt.site (Rl.far r)),.int .i64 (Tgt.stored (Rl.far r)),.int .i64
 (Tgt.applied (Rl.far r)),.int .i64 (Src.epoch (Rl.src r)),.int .i64 (Src.site (Rl.src r)),.dat z7,.int .i64 (Src.stored (Rl.src r)),.int .i64 (Src.applied (Rl.src r)),.dat (D.like k (Rl.kept r)),.int .i64
 (Tgt.epoch far),.int .i64 (Tgt.site far),.int .i64 (Tgt.stored far),.int .i64 (Tgt.applied far),.vec 2,.dat th,.mapp 100001,.vec 4,.vec 0]),(100001,OBlk.mapD .i64 true [FT.int .i64,FT.int .i64,FT.int .i64,FT.slc,FT.slc] mp)]))))
 (.all fun hs=>.need (D.Is Int z7) (.need (D.sz se = 8 ∧ D.Fits (D.like (hs 10 0) (resend (SrcD.src z4))) 8 ∧ (D.len se + D.len (D.like (hs 10 0) (resend (SrcD.src z4)))) * 96 ≤ 140737488355328 ∧ D.len se + D.len
 (D.like (hs 10 0) (resend (SrcD.src z4))) ≤ 9223372036854775807) (.leaf (Conf.mk z5 [] [(0,OBlk.arr 72 (D.slc (D.hd (hs 11 0)) 8 (List.append (D.rows se) (D.rows (D.like (hs 10 0) (resend (SrcD.src z4))))))),
 (2,OBlk.arr 23 ims),(4,OBlk.arr 72 an),(100000,OBlk.cells 82 z3),(100001,OBlk.mapD .i64 true [FT.int .i64,FT.int .i64,FT.int .i64,FT.slc,FT.slc] mp)]))))))) := by
 intros; kernel_rfl
end
def ckF (p : List Nat) (i aw : Nat) : SFrm := SFrm.mk 42 (some (oA 42 p,[i])) (some aw) [Item.code (cA 42 [1,0,1,0,1,0,1]),Item.inBlock 0,Item.code (cA 42 [1,1])] (mkJ 0 [] 0 55)
def ckK (p : List Nat) (i aw : Nat) (m : Mem) : Conf := ⟨{ ckF p i aw with tmps := putS (ckF p i aw).tmps (some aw) (.lb true),await := none },[],m⟩
section
variable (o k ims th mp se an wl : D) (r : Rl) (far : Tgt)
theorem cka_in : execRS Try.prog [] [] 100 (ckK [1,0,1,0,1,0,0] 4 18 (casM o k ims th mp se an r far)) =
 Tree.leaf
 (Conf.mk
 (SFrm.mk 42 none none
 [Item.code (cA 42 [1,0,1,0,1,0,1]),Item.inBlock 0,Item.code (cA 42 [1,1])]
 (mkJ 0 [(4,.lb true)] 0 55))
 []
 [(1,OBlk.arr 23 ims),(3,OBlk.arr 72 se),(4,OBlk.arr 72 an),
 (100000,
 OBlk.cells 82
 [.int .i64 (Tgt.epoch (Rl.near r)),.int .i64 (Tgt.site (Rl.near r)),
 .int .i64 (Tgt.stored (Rl.near r)),.int .i64 (Tgt.applied (Rl.near r)),
 .int .i64 (Tgt.epoch (Rl.far r)),.int .i64 (Tgt.site (Rl.far r)),
 .int .i64 (Tgt.stored (Rl.far r)),.int .i64 (Tgt.applied (Rl.far r)),
 .int .i64 (Src.epoch (Rl.src r)),.int .i64 (Src.site (Rl.src r)),
 .dat (D.like o (Src.offered (Rl.src r))),.int .i64 (Src.stored (Rl.src r)),
 .int .i64 (Src.applied (Rl.src r)),.dat (D.like k (Rl.kept r)),
 .int .i64 (Tgt.epoch far),.int .i64 (Tgt.site far),.int .i64 (Tgt.stored far),
 .int .i64 (Tgt.applied far),.vec 1,.dat th,.mapp 100001,.vec 3,.vec 4]),
 (100001,
 OBlk.mapD .i64 true [FT.int .i64,FT.int .i64,FT.int .i64,FT.slc,FT.slc] mp)]) := by kernel_rfl
theorem ckd_in : execRS Try.prog [] [] 100 (ckK [1,0,1,0,1,1,1,0,0] 2 22 (casM o k ims th mp se an r far)) =
 Tree.leaf
 (Conf.mk
 (SFrm.mk 42 none none
 [Item.code (cA 42 [1,0,1,0,1,0,1]),Item.inBlock 0,Item.code (cA 42 [1,1])]
 (mkJ 0 [(4,.lb true)] 0 55))
 []
 [(1,OBlk.arr 23 ims),(3,OBlk.arr 72 se),(4,OBlk.arr 72 an),
 (100000,
 OBlk.cells 82
 [.int .i64 (Tgt.epoch (Rl.near r)),.int .i64 (Tgt.site (Rl.near r)),
 .int .i64 (Tgt.stored (Rl.near r)),.int .i64 (Tgt.applied (Rl.near r)),
 .int .i64 (Tgt.epoch (Rl.far r)),.int .i64 (Tgt.site (Rl.far r)),
 .int .i64 (Tgt.stored (Rl.far r)),.int .i64 (Tgt.applied (Rl.far r)),
 .int .i64 (Src.epoch (Rl.src r)),.int .i64 (Src.site (Rl.src r)),
 .dat (D.like o (Src.offered (Rl.src r))),.int .i64 (Src.stored (Rl.src r)),
 .int .i64 (Src.applied (Rl.src r)),.dat (D.like k (Rl.kept r)),
 .int .i64 (Tgt.epoch far),.int .i64 (Tgt.site far),.int .i64 (Tgt.stored far),
 .int .i64 (Tgt.applied far),.vec 1,.dat th,.mapp 100001,.vec 3,.vec 4]),
 (100001,
 OBlk.mapD .i64 true [FT.int .i64,FT.int .i64,FT.int .i64,FT.slc,FT.slc] mp)]) := by kernel_rfl
theorem ckh_in : execRS Try.prog [] [] 100 (ckK [1,0,1,0,1,1,1,1,1,0,1,1,0,0] 3 38 (casM o k ims th mp se an r far)) =
 Tree.leaf
 (Conf.mk
 (SFrm.mk 42 none none
 [Item.code (cA 42 [1,0,1,0,1,0,1]),Item.inBlock 0,Item.code (cA 42 [1,1])]
 (mkJ 0 [(4,.lb true)] 0 55))
 []
 [(1,OBlk.arr 23 ims),(3,OBlk.arr 72 se),(4,OBlk.arr 72 an),
 (100000,
 OBlk.cells 82
 [.int .i64 (Tgt.epoch (Rl.near r)),.int .i64 (Tgt.site (Rl.near r)),
 .int .i64 (Tgt.stored (Rl.near r)),.int .i64 (Tgt.applied (Rl.near r)),
 .int .i64 (Tgt.epoch (Rl.far r)),.int .i64 (Tgt.site (Rl.far r)),
 .int .i64 (Tgt.stored (Rl.far r)),.int .i64 (Tgt.applied (Rl.far r)),
 .int .i64 (Src.epoch (Rl.src r)),.int .i64 (Src.site (Rl.src r)),
 .dat (D.like o (Src.offered (Rl.src r))),.int .i64 (Src.stored (Rl.src r)),
 .int .i64 (Src.applied (Rl.src r)),.dat (D.like k (Rl.kept r)),
 .int .i64 (Tgt.epoch far),.int .i64 (Tgt.site far),.int .i64 (Tgt.stored far),
 .int .i64 (Tgt.applied far),.vec 1,.dat th,.mapp 100001,.vec 3,.vec 4]),
 (100001,
 OBlk.mapD .i64 true [FT.int .i64,FT.int .i64,FT.int .i64,FT.slc,FT.slc] mp)]) := by kernel_rfl
end
section
variable (o k nv m im st tf tn : D) (r : Rl) (far : Tgt) (lo n : Nat) (num : Int)
end

end Sv
end
noncomputable section
open Go Go.Proofs Sx
namespace Sx
theorem msg_at {d : D} (h : d.Is Msg) {i : Nat} (hi : i < (d.to Msg).length) : (MsgD.mk (d.getInt i 0) (d.getInt i 1) (d.getInt i 2) (d.getInt i 3) (d.getInt i 4) (d.getInt i 5) (d.cell i 6) (d.cell i 7)).msg = (d.to Msg)[i] := by
 obtain ⟨_,h0,h1,h2,h3,h4,h5,_,h6,_,h7⟩ := msg_cell h hi
 simp only [MsgD.msg,h0,h1,h2,h3,h4,h5,h6,h7]
end Sx
namespace Sv
theorem ctStOk : Ctrs.Ok Try.prog ctSt := by
 intro x hx
 simp only [ctSt,List.mem_cons,List.not_mem_nil,or_false] at hx
 rcases hx with rfl | rfl
 ·exact ctrOf_ok lawCln
 ·exact ctrOf_ok lawRsd
end Sv
end
noncomputable section
open Go Go.Proofs Sx
namespace Sv
theorem ctK3Ok : Ctrs.Ok Try.prog ctK3 := by
 intro x hx
 rcases List.mem_cons.1 hx with rfl | hx
 ·exact ctrPk
 ·exact ctStOk x hx
theorem cmeth_call {s : Cas} {f : FuncId} {n : Nat} {args : List (Nat × SV)} {Φ : Cas → Prop} (hm : CMeth f n args s Φ) {g : SFrm} {w0 : World} {H : HV} {f0 : Nat → Nat} {R : Value → World → Prop} {mem : Mem} (m' : Mem)
  (hs : CasMem s m') (k : ∀ s' m'',Φ s' → CasMem s' m'' → Runs Try.prog (@Ctx.mk w0 H (pinX f0)) ⟨{ g with tmps := putS g.tmps g.await (.lb true),await := none },[],m''⟩ R)
  (hto : (moveM mem (mvOf 100000 [18,21,22] mem)).map (pickK [100000,100001,0,1,2]) = some m' := by kernel_rfl) (hfx : (SV.fixedL (mkJ 1 args 0 n) && [g].all fun f=>SV.fixedL f.tmps) = true := by kernel_rfl) (hgp : (g.tmps.all SV.pinned && ([] : List SFrm).all fun f=>f.tmps.all SV.pinned) = true := by kernel_rfl) :
  Runs Try.prog (@Ctx.mk w0 H (pinX f0)) ⟨SFrm.mk f none none [Item.code (cA f [])] (mkJ 1 args 0 n),[g],mem⟩ R :=
 runs_to (MemTo.to _ _ hto (by decide)) hfx (runs_methP hgp (fun H f _=>hm w0 H f m' hs) (fun v m ⟨hv,s',hΦ,hm⟩=>by subst hv; exact k s' m hΦ hm))
theorem rp_msg {se : D} {l : List Msg} (hz : se.Is Msg) (hl : se.to Msg = l) (h0 : se.len ≠ 0) (n : Int) : (MsgD.mk (rpI se n 0) (rpI se n 1) (rpI se n 2) (rpI se n 3) (rpI se n 4) (rpI se n 5) (rpD se n 6) (rpD se n 7)).msg ∈ l := by
 have h := (pk_lt (d := se) (n := n) (by omega)).1
 have hlen := D.Is.length (α := Msg) se
 rw [← hl]
 simp only [rpI,rpD,h0,if_false]
 rw [msg_at hz (by omega)]
 exact List.getElem_mem _
section
variable {s : Cas} {sz : List Int} {A S Sf Af N : Int} {K : List Cy}
theorem cstep_ka {w0 : World} {H : HV} {fp : Nat → Nat} {mm : Mem} {Φ : Cas → Prop} (h : CasMem s mm) (hΦ : Φ s) : Runs Try.prog (@Ctx.mk w0 H (pinX fp)) (ckK [1,0,1,0,1,0,0] 4 18 mm) (RetP w0 H fp fun v m=>v = .lb true ∧ ∃ s',Φ s' ∧ CasMem s' m) := by
 obtain ⟨o,k,ims,th,mp,se,an,hcw,he⟩ := h
 subst he
 apply execRS_sound (noCtr _) [] 100
 rw [cka_in]
 exact retC (fd := Try.f42) (l := [.lb true]) (casM o k ims th mp se an s.r s.far) ⟨s,hΦ,_,_,_,_,_,_,_,hcw,rfl⟩
theorem cstep_kd {w0 : World} {H : HV} {fp : Nat → Nat} {mm : Mem} {Φ : Cas → Prop} (h : CasMem s mm) (hΦ : Φ s) : Runs Try.prog (@Ctx.mk w0 H (pinX fp)) (ckK [1,0,1,0,1,1,1,0,0] 2 22 mm) (RetP w0 H fp fun v m=>v = .lb true ∧ ∃ s',Φ s' ∧ CasMem s' m) := by
 obtain ⟨o,k,ims,th,mp,se,an,hcw,he⟩ := h
 subst he
 apply execRS_sound (noCtr _) [] 100
 rw [ckd_in]
 exact retC (fd := Try.f42) (l := [.lb true]) (casM o k ims th mp se an s.r s.far) ⟨s,hΦ,_,_,_,_,_,_,_,hcw,rfl⟩
theorem cstep_kh {w0 : World} {H : HV} {fp : Nat → Nat} {mm : Mem} {Φ : Cas → Prop} (h : CasMem s mm) (hΦ : Φ s) : Runs Try.prog (@Ctx.mk w0 H (pinX fp)) (ckK [1,0,1,0,1,1,1,1,1,0,1,1,0,0] 3 38 mm) (RetP w0 H fp fun v m=>v = .lb true ∧ ∃ s',Φ s' ∧ CasMem s' m) := by
 obtain ⟨o,k,ims,th,mp,se,an,hcw,he⟩ := h
 subst he
 apply execRS_sound (noCtr _) [] 100
 rw [ckh_in]
 exact retC (fd := Try.f42) (l := [.lb true]) (casM o k ims th mp se an s.r s.far) ⟨s,hΦ,_,_,_,_,_,_,_,hcw,rfl⟩
def StepTo (s : Cas) (sz : List Int) (N : Int) (K : List Cy) (s' : Cas) : Prop := ∃ A' S' Sf' Af' N' K',CasOk s' sz A' S' Sf' Af' N' K' ∧ K'.length ≤ K.length + 1 ∧ s'.imgs.length ≤ s.imgs.length + 1 ∧ s'.sent.length ≤ s.sent.length + K.length + 2 ∧ s'.ans.length ≤ s.ans.length + s.imgs.length + 2
theorem cst_meth (h : CasOk s sz A S Sf Af N K) (hsm : Small s) (hk : K.length < 1000) (hn : s.imgs.length < 1000) (xk xw : Int) {wl : D} (hw : wl.Is Wt ∧ wl.len ≤ 1000000 ∧ ∀ w,w ∈ wl.to Wt → w.data.length ≤ 1000000) :
  CMeth 42 55 [(0,.ptr 100000 0),(1,.agg [.int .i64 xk,.int .i64 xw,.dat wl])] s (StepTo s sz N K) := by
 intro w0 H fp mm ⟨o,k,ims,th,mp,se,an,hcw,he⟩
 subst he
 have hrl := h.rlok o k
 have hall := hsm
 obtain ⟨b1,b2,b3⟩ := hsm
 have hN := h.len
 obtain ⟨r1,r2,r3⟩ := h.rel.range
 obtain ⟨l1,l2,l3,l4⟩ := h.le
 have ha0 := h.rel.a0
 have hsl : se.len = s.sent.length := by rw [D.Is.length (α := Msg),hcw.se.2.2]
 have hal : an.len = s.ans.length := by rw [D.Is.length (α := Msg),hcw.an.2.2]
 have hmem : CasMem s (casM o k ims th mp se an s.r s.far) := ⟨_,_,_,_,_,_,_,hcw,rfl⟩
 have same : StepTo s sz N K s := ⟨A,S,Sf,Af,N,K,h,by omega,by omega,by omega,by omega⟩
 apply execRE_sound ctK3Ok _ 400
 rw [cst_in]
 simp only [rl_backR,src_back]
 refine ⟨fun hc=>?_,fun c0=>⟨fun hc=>?_,fun c1=>⟨fun hc hs0=>⟨⟨hcw.se.1,hcw.se.2.1,by omega⟩,fun hp=>?_,fun hp=>?_⟩,fun c2=>⟨fun hc hs0=>⟨⟨hcw.an.1,hcw.an.2.1,by omega⟩,fun hp=>?_,fun hp=>?_⟩,fun c3 hs0=>⟨D.like_is _ _,⟨hcw.se.2.1,(D.like_is (α := Msg) _ _).fits,?_,?_⟩,?_⟩⟩⟩⟩⟩
 ·refine cmeth_call (cap_meth h hall hk hn hw) (g := ckF [1,0,1,0,1,0,0] 4 18) (casM o k ims th mp se an s.r s.far) hmem fun s' m'' ⟨N',K',g1,g2,g3,g4,g5⟩ hm''=>cstep_ka hm'' ⟨A,S,Sf,Af,N',K',g1,g2,g3,by omega,by rw [g5]; omega⟩
 ·refine cmeth_call (cda_meth h hall) (g := ckF [1,0,1,0,1,1,1,0,0] 2 22) (casM o k ims th mp se an s.r s.far) hmem fun s' m'' ⟨Sf',g1,g2,g3,g4,l,g5,g6,_⟩ hm''=>cstep_kd hm'' ⟨A,S,Sf',Af,N,K,g1,by omega,by rw [g4]; omega,by rw [g3]; omega,by rw [g5,List.length_append]; omega⟩
 ·have hp : se.len ≠ 0 := of_decide_eq_true hp
  have hin := h.far_m _ (rp_msg hcw.se.1 hcw.se.2.2 hp xw)
  refine cmeth_call (che_meth h hall _ _ _ _ _ _ _ _ hin) (g := ckF [1,0,1,0,1,1,1,1,1,0,1,1,0,0] 3 38) (casM o k ims th mp se an s.r s.far) hmem fun s' m'' hx hm''=>?_
  obtain ⟨Af',g1,g2,g3,g4,l,g5,g6,_⟩ := hx
  have h4 := g1.le.2.1
  have hb : (Af' - Af).toNat ≤ s.imgs.length := by clear g6; omega
  have hc : s'.ans.length ≤ s.ans.length + s.imgs.length + 2 := by rw [g5,List.length_append]; omega
  exact cstep_kh hm'' ⟨A,S,Sf,Af',N,K,g1,Nat.le_succ _,by rw [g4]; exact Nat.le_succ _,by rw [g3]; omega,hc⟩
 ·exact retC (fd := Try.f42) (l := [.lb true]) (casM o k ims th mp se an s.r s.far) ⟨s,same,hmem⟩
 ·have hp : an.len ≠ 0 := of_decide_eq_true hp
  obtain ⟨q1,q2,q3⟩ := h.near_m _ (rp_msg hcw.an.1 hcw.an.2.2 hp xw)
  obtain ⟨A',S',K',g1,g2,g3,g4,g5,g6,g7⟩ := h.learn q1 q2 q3
  refine fun hs1=>⟨hrl,fun hs2=>⟨⟨hcw.se.2.1,(D.like_is (α := Msg) _ _).fits,by simp only [like_leng]; omega,by simp only [like_leng]; omega⟩,?_⟩⟩
  have hse := rows_app (rows_of hcw.se.1) (rows_of (D.like_is (hs1 5 2) (learnRl s.r (MsgD.mk (rpI an xw 0) (rpI an xw 1) (rpI an xw 2) (rpI an xw 3) (rpI an xw 4) (rpI an xw 5) (rpD an xw 6) (rpD an xw 7)).msg).2))
  rw [D.like_to,hcw.se.2.2] at hse
  obtain ⟨s1,s2⟩ := is_of (h := D.hd (hs2 8 0)) (s := 8) rfl hse
  exact retC (fd := Try.f42) (l := [.lb true]) (casM (hs1 5 0) (hs1 5 1) ims th mp (.slc (D.hd (hs2 8 0)) 8 (List.append se.rows ((hs1 5 2).like (learnRl s.r (MsgD.mk (rpI an xw 0) (rpI an xw 1) (rpI an xw 2) (rpI an xw 3) (rpI an xw 4) (rpI an xw 5) (rpD an xw 6) (rpD an xw 7)).msg).2).rows)) an (learnRl s.r (MsgD.mk (rpI an xw 0) (rpI an xw 1) (rpI an xw 2) (rpI an xw 3) (rpI an xw 4) (rpI an xw 5) (rpD an xw 6) (rpD an xw 7)).msg).1 s.far)
   ⟨_,⟨A',S',Sf,Af,N,K',g1,by omega,by simp only; omega,by simp only [List.length_append]; omega,by simp only; omega⟩,_,_,_,_,_,_,_,⟨hcw.ims,hcw.th,hcw.mp,⟨s1,rfl,s2⟩,hcw.an⟩,rfl⟩
 ·exact retC (fd := Try.f42) (l := [.lb true]) (casM o k ims th mp se an s.r s.far) ⟨s,same,hmem⟩
 all_goals
  obtain ⟨g1,g2,_,_⟩ := h.resend
 ·simp only [like_leng]; omega
 ·simp only [like_leng]; omega
 ·have hse := rows_app (rows_of hcw.se.1) (rows_of (D.like_is (hs0 10 0) (resend s.r.src)))
  rw [D.like_to,hcw.se.2.2] at hse
  obtain ⟨s1,s2⟩ := is_of (h := D.hd (hs0 11 0)) (s := 8) rfl hse
  exact retC (fd := Try.f42) (l := [.lb true]) (casM o k ims th mp (.slc (D.hd (hs0 11 0)) 8 (List.append se.rows ((hs0 10 0).like (resend s.r.src)).rows)) an s.r s.far)
   ⟨_,⟨A,S,Sf,Af,N,K,g1,by omega,by simp only; omega,by simp only [List.length_append]; omega,by simp only; omega⟩,_,_,_,_,_,_,_,⟨hcw.ims,hcw.th,hcw.mp,⟨s1,rfl,s2⟩,hcw.an⟩,rfl⟩
end
end Sv
end
noncomputable section
open Go Go.Proofs Sx
namespace Sx
def likeY (d : D) (l : List Cy) : D := d.like l
def likeM (d : D) (l : List Int) : D := d.like l
def rlLY (o k : D) (r : Rl) : List SV := [.int .i64 r.near.epoch,.int .i64 r.near.site,.int .i64 r.near.stored,.int .i64 r.near.applied,.int .i64 r.far.epoch,.int .i64 r.far.site,.int .i64 r.far.stored,.int .i64 r.far.applied,
 .int .i64 r.src.epoch,.int .i64 r.src.site,.dat (likeM o r.src.offered),.int .i64 r.src.stored,.int .i64 r.src.applied,.dat (likeY k r.kept)]
def spNewY (x : Int × Int × Int × Int) : SpecR := .data [] fun ds=>.tup [.agg (rlLY (ds 0) (ds 1) (newRl x.1 x.2.1 x.2.2.1 x.2.2.2).1),.int .i64 (newRl x.1 x.2.1 x.2.2.1 x.2.2.2).2]
def spSz0 (x : D) : SpecR := .scalar [x.Is Int] (.int .i64 (sizesErr (x.to Int)))
def spNw0 (x : D) : SpecR := .data [x.Is Int] fun ds=>.tup [.dat ((ds 0).like (imgOf (x.to Int))),.int .i64 (sizesErr (x.to Int))]
end Sx
namespace Sv
def ctSz0 : Ctrs := [(82,ctrOf (rdD.one.sp spSz0)),(83,ctrOf ((rdD.two (rdFn 84)).sp spMapN))]
def ctHp : Ctrs := [(38,ctrOf (rdD.one.sp spRz)),(37,ctrOf (rdD.one.sp spNw0)),(39,ctrOf (rdD.one.sp spFewI)),(40,ctrOf (rdD.one.sp spFewW)),(14,ctrOf (rdQuad.sp spNewY)),(48,ctrOf ((rdInt.three rdInt rdInt).sp spNewT32))]
section
variable (im l d : D)
theorem new0_in : exec Try.prog ctSz0 200 (entry Try.prog 37 [.dat d]) =
 Tree.need (D.Is Int d)
 (.br (sizesErr (D.to Int d) != 0) (.ret (SV.tup [.nils,.int .i64 (sizesErr (D.to Int d))]))
 (.need (D.Is Int d ∧ D.len d ≤ 8 ∧ ∀ (n : Int),List.Mem n (D.to Int d) → 0 ≤ n ∧ n ≤ 4096)
 (.all fun hs =>
 .ret (SV.tup [.dat (D.like (hs 0 0) (List.map volOf (D.to Int d))),.int .i64 0])))) := by kernel_rfl

theorem rhp_in : execRS Try.prog ctHp [] 400 (sysE 11 66 [(0,.dat im),(1,.dat l)] []) =
 Tree.need (D.Is Vol im ∧ D.len im * 24 ≤ 140737488355328)
 (.all fun hs =>
 .need (D.Is Int (D.like (hs 0 0) (volSizes (D.to Vol im))))
 (.all fun hs_1 =>
 .br (sizesErr (D.to Int (D.like (hs 0 0) (volSizes (D.to Vol im)))) != 0)
 (.leaf
 (Conf.mk
 (SFrm.mk 11 none none [Item.code (cA 11 [1,0,1,1,0,1]),Item.code (cA 11 [1,1])]
 (mkJ 0 [(4,SV.nilp),(5,.lb false),(6,.lb true)] 0 66))
 [] []))
 (.need (D.Is Vol im)
 (.br (!fewI (D.to Vol im))
 (.leaf
 (Conf.mk
 (SFrm.mk 11 none none
 [Item.code (cA 11 [1,0,1,1,0,1]),Item.code (cA 11 [1,1])]
 (mkJ 0 [(4,SV.nilp),(5,.lb false),(6,.lb true)] 0 66))
 [] []))
 (.br (decide ((↑(D.len l) : Int) > 60))
 (.leaf
 (Conf.mk
 (SFrm.mk 11 none none
 [Item.code (cA 11 [1,0,1,1,0,1]),Item.code (cA 11 [1,1])]
 (mkJ 0 [(4,SV.nilp),(5,.lb false),(6,.lb true)] 0 66))
 [] []))
 (.leaf
 (Conf.mk
 (SFrm.mk 11 none none
 [Item.inLoop (cA 11 [1,1,0,1,0,0]),Item.inBlock 0,
 Item.code (cA 11 [1,1,1])]
 (mkJ 0
 [(0,.dat im),(1,.dat l),(31,.dat l),(32,.int .i64 (↑(D.len l) : Int)),
 (33,.int .i64 0)]
 0 66))
 [] []))))))) := by kernel_rfl


theorem tcc_in : execRE Try.prog ctHp [11] 400 (entry Try.prog 10 [.dat im,.dat l]) =
 Tree.leaf
 (Conf.mk (SFrm.mk 11 none none [Item.code (cA 11 [])] (mkJ 1 [(0,.dat im),(1,.dat l)] 0 66))
 [SFrm.mk 10 (some (oA 10 [1,0],[3,4,5,6,7,8,9])) (some 17) [Item.code (cA 10 [1,1])]
 (mkJ 0 [] 0 115)]
 []) := by kernel_rfl

end
end Sv
end
noncomputable section
open Go Go.Proofs Sx
namespace Sx
def begC (im : List Vol) : Cas := ⟨relG 0 0 0 [],⟨1,1,0,0⟩,[im],im,[],[],[]⟩
theorem begC_ok {im : List Vol} (h : sizesErr (volSizes im) = 0) : CasOk (begC im) (volSizes im) 0 0 0 0 0 [] :=
 ⟨by simp [begC],h,fun x hx=>by rw [List.mem_singleton.1 hx],⟨Int.le_refl _,trivial,Nat.zero_le _,rfl,by omega,.inl rfl⟩,rfl,rfl,⟨Int.le_refl _,Int.le_refl _,Int.le_refl _,Int.le_refl _⟩,fun c hc=>absurd hc (by simp),rfl,fun i c hc=>absurd hc (by simp [begC]),rfl,fun m hm=>absurd hm (by simp [begC]),fun m hm=>absurd hm (by simp [begC])⟩
theorem fewW_okC {l : List Wt} (h : fewW l = true) : l.length ≤ 40 ∧ ∀ w,w ∈ l → w.data.length ≤ 24 := by
 unfold fewW at h
 simp only [Bool.and_eq_true,Bool.not_eq_true',decide_eq_true_eq] at h
 obtain ⟨h1,h2⟩ := h
 refine ⟨h2,fun w hw=>?_⟩
 rw [List.take_of_length_le (by omega)] at h1
 have := (List.any_eq_false.1 h1) w hw
 simpa using this
end Sx
namespace Sv
def RunC (s : Cas) (sz : List Int) (t : Nat) : Prop := ∃ A S Sf Af N K,CasOk s sz A S Sf Af N K ∧ K.length ≤ t ∧ s.imgs.length ≤ t + 1 ∧ s.sent.length ≤ 200 * t ∧ s.ans.length ≤ 200 * t ∧ t ≤ 60
theorem RunC.small {s : Cas} {sz : List Int} {t : Nat} (h : RunC s sz t) : Small s := by
 obtain ⟨A,S,Sf,Af,N,K,h1,h2,h3,h4,h5,h6⟩ := h
 exact ⟨by omega,by omega,by omega⟩
theorem RunC.step {s s' : Cas} {sz : List Int} {t : Nat} {N : Int} {K : List Cy} (h2 : K.length ≤ t) (h3 : s.imgs.length ≤ t + 1) (h4 : s.sent.length ≤ 200 * t) (h5 : s.ans.length ≤ 200 * t) (ht : t < 60) (h : StepTo s sz N K s') : RunC s' sz (t + 1) := by
 obtain ⟨A',S',Sf',Af',N',K',g1,g2,g3,g4,g5⟩ := h
 exact ⟨A',S',Sf',Af',N',K',g1,by omega,by omega,by omega,by omega,by omega⟩
theorem run_beg {im : List Vol} (h : sizesErr (volSizes im) = 0) : RunC (begC im) (volSizes im) 0 := ⟨0,0,0,0,0,[],begC_ok h,Nat.le_refl _,by simp [begC],by simp [begC],by simp [begC],by omega⟩
theorem lawSz0 : Law Try.prog 82 (rdD.one.sp spSz0) := by
 refine law_in _ (by kernel_rfl) fun H w d hok hp=>?_
 have hd : d.Is Int := hp _ (List.mem_singleton.2 rfl)
 have hl := D.Is.length (α := Int) d
 apply exec_sound ctAnyOk 200
 rw [show rdD.one.canon d = [.dat d] from rfl,cs_in]
 refine ⟨fun hc=>ret_int ?_,fun hc=>⟨fun hc2=>ret_int ?_,fun hc2=>⟨⟨hd,by have := of_decide_eq_false hc2; omega⟩,fun h=>ret_int ?_,fun h=>ret_int ?_⟩⟩⟩
 ·have := of_decide_eq_true hc; unfold sizesErr; rw [if_pos (by omega)]
 ·have := of_decide_eq_true hc2; unfold sizesErr; rw [if_pos (by omega)]
 ·have := of_decide_eq_false hc; have := of_decide_eq_false hc2; unfold sizesErr; rw [if_neg (by omega),if_pos h]
 ·have := of_decide_eq_false hc; have := of_decide_eq_false hc2; unfold sizesErr; rw [if_neg (by omega),if_neg (by simp [h])]
theorem ctSz0Ok : Ctrs.Ok Try.prog ctSz0 := by
 intro x hx
 rcases List.mem_cons.1 hx with rfl | hx
 ·exact ctrOf_ok lawSz0
 ·rw [List.mem_singleton.1 hx]; exact ctrOf_ok lawMapN
theorem lawNw0 : Law Try.prog 37 (rdD.one.sp spNw0) := by
 refine law_in _ (by kernel_rfl) fun H w d hok hp=>?_
 have hd : d.Is Int := hp _ (List.mem_singleton.2 rfl)
 have hl := D.Is.length (α := Int) d
 apply exec_sound ctSz0Ok 200
 rw [show rdD.one.canon d = [.dat d] from rfl,new0_in]
 refine ⟨hd,fun h=>?_,fun h=>?_⟩
 ·refine ret_oneI stands_nils ?_ rfl
  unfold imgOf
  rw [if_pos (by simpa using h)]
 ·have h0 : sizesErr (d.to Int) = 0 := by simpa using h
  obtain ⟨s1,s2,s3⟩ := sizesErr_ok h0
  refine ⟨⟨hd,by omega,fun n hn=>by have := s3 n hn; omega⟩,fun hs=>ret_oneI stands_like ?_ h0.symm⟩
  unfold imgOf
  rw [if_neg (by simp [h0])]
theorem lawNewY : Law Try.prog 14 (rdQuad.sp spNewY) := lawNew
theorem ctHpOk : Ctrs.Ok Try.prog ctHp := by
 intro x hx
 simp only [ctHp,List.mem_cons,List.not_mem_nil,or_false] at hx
 rcases hx with rfl | rfl | rfl | rfl | rfl | rfl
 ·exact ctrOf_ok lawRz
 ·exact ctrOf_ok lawNw0
 ·exact ctrOf_ok lawFewI
 ·exact ctrOf_ok lawFewWR
 ·exact ctrOf_ok lawNewY
 ·exact ctrOf_ok lawNewT1
end Sv
end
noncomputable section
open Go Go.Proofs Sx
namespace Sv
def rhQ (im l : D) (j : Int) : Conf := Conf.mk (SFrm.mk 11 none none [Item.inLoop (cA 11 [1,1,0,1,0,0]),Item.inBlock 0,Item.code (cA 11 [1,1,1])] (mkJ 0 [(0,.dat im),(1,.dat l),(31,.dat l),(32,.int .i64 (l.len : Int)),(33,.int .i64 j)] 0 66)) [] []
section
variable (im l : D) (j : Int)
theorem rhq_go : execRS Try.prog ctHp [] 400 (unroll (rhQ im l j)) =
 Tree.br (decide (j < (↑(D.len l) : Int)))
 (.need (0 ≤ j ∧ j < (↑(D.len l) : Int) ∧ D.sz l = 3)
 (.need (D.HasCells l (Int.toNat j) 0 [FT.int .i64,FT.int .i64,FT.slc])
 (.need (D.Is Wt (D.cell l (Int.toNat j) 2))
 (.br (!fewW (D.to Wt (D.cell l (Int.toNat j) 2)))
 (.leaf
 (Conf.mk
 (SFrm.mk 11 none none
 [Item.code (cA 11 [1,0,1,1,0,1]),Item.inBlock 1,
 Item.code (cA 11 [1,1,0,1,0,0,1,1,1]),
 Item.inLoop (cA 11 [1,1,0,1,0,0]),Item.inBlock 0,
 Item.code (cA 11 [1,1,1])]
 (mkJ 0 [(4,SV.nilp),(5,.lb false),(6,.lb true)] 0 66))
 [] []))
 (.leaf
 (Conf.mk
 (SFrm.mk 11 none none
 [Item.inLoop (cA 11 [1,1,0,1,0,0]),Item.inBlock 0,
 Item.code (cA 11 [1,1,1])]
 (mkJ 0
 [(0,.dat im),(1,.dat l),(31,.dat l),(32,.int .i64 (↑(D.len l) : Int)),
 (33,.int .i64 (IntKind.wrap .i64 (j + 1)))]
 0 66))
 [] []))))))
 (.all fun hs =>
 .all fun hs_1 =>
 .all fun hs_2 =>
 .br true
 (.leaf
 (Conf.mk
 (SFrm.mk 11 none none
 [Item.inLoop (cA 11 [1,1,1,1,0,1,0,0]),Item.inBlock 2,
 Item.code (cA 11 [1,1,1,1,1])]
 (mkJ 0
 [(4,.ptr 0 0),(6,.bool true),(47,.dat l),(48,.int .i64 (↑(D.len l) : Int)),
 (49,.int .i64 0)]
 0 66))
 []
 [(0,
 OBlk.cells 82
 [.int .i64 1,.int .i64 0,.int .i64 0,.int .i64 0,
 .int .i64 1,.int .i64 1,.int .i64 0,.int .i64 0,
 .int .i64 1,.int .i64 1,.dat (likeM (hs 0 0) []),.int .i64 0,
 .int .i64 0,.dat (likeY (hs 0 1) []),.int .i64 1,.int .i64 1,
 .int .i64 0,.int .i64 0,.vec 1,.dat im,.mapp 2,.nils,.nils]),
 (1,OBlk.arr 23 (D.slc (D.hd (hs_2 0 0)) 1 [[im]])),(2,OBlk.map [])]))
 (.leaf
 (Conf.mk
 (SFrm.mk 11 none none
 [Item.inLoop (cA 11 [1,1,1,1,0,1,0,0]),Item.inBlock 2,
 Item.code (cA 11 [1,1,1,1,1])]
 (mkJ 0
 [(4,.ptr 0 0),(6,.lb false),(47,.dat l),(48,.int .i64 (↑(D.len l) : Int)),
 (49,.int .i64 0)]
 0 66))
 []
 [(0,
 OBlk.cells 82
 [.int .i64 1,.int .i64 0,.int .i64 0,.int .i64 0,
 .int .i64 1,.int .i64 1,.int .i64 0,.int .i64 0,
 .int .i64 1,.int .i64 1,.dat (likeM (hs 0 0) []),.int .i64 0,
 .int .i64 0,.dat (likeY (hs 0 1) []),.int .i64 1,.int .i64 1,
 .int .i64 0,.int .i64 0,.vec 1,.dat im,.mapp 2,.nils,.nils]),
 (1,OBlk.arr 23 (D.slc (D.hd (hs_2 0 0)) 1 [[im]])),(2,OBlk.map [])]))) := by kernel_rfl
end
end Sv
end
