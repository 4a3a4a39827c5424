/- A region whose order is drawn, whose operations only look (calls that are lent what they look at among them). -/
import Derived.Test.YtllmgnhjljmihaaN32toVT178
import Derived.KernelRfl
import Derived.Test.YtllmgnhjljmihaaPztoN31
import Derived.Test.YtllmgnhjljmihaaOutoFr
set_option linter.all false
set_option maxRecDepth 100000
set_option maxHeartbeats 0
noncomputable section
namespace Sx
open Go RowKit
theorem q_calls {P : Program} {f : FuncId} {spec : List D → SpecR} (h : QLaw P f spec) {C : Ctx} {m : Mem} {E : Env} {H : HV} {w : World} (gd : Good C m E H w) {k : Nat} {t : TypeId} {cs : List SV} {row : List D} {ps : List Prop} {v : SV}
  (hget : m.get k = some (.cells t cs)) (hrow : rowOfD (closeL (pubsR (leavesL cs) m) cs) = some row) (hspec : spec row = .scalar ps v) (hp : ∀ p,p ∈ ps → p) :
  Calls P f #[(SV.ptr k 0).den E] w fun e w'=>e = .returned (v.den E) ∧ Good C m E H w' := by
 obtain ⟨d1,d2,d3,d4⟩ := gd.own k _ (Mem.get_mem hget)
 obtain ⟨H1,hle,g1,nw⟩ := pubsR_spec (leavesL cs) gd
 obtain ⟨e1,e2⟩ := closeL_spec g1 cs (SV.OkL.mono hle _ d4)
 obtain ⟨c1,c2,c3,c4⟩ := g1.own k _ (Mem.get_mem (get_pubs_cells (leavesL cs) hget))
 obtain ⟨r1,r2⟩ := rowOfD_spec (E := E) hrow e2
 rw [e1] at r1
 let Hp : HV := fun b o=>if b = E.b k then (SV.denL E cs)[o]? else H1 b o
 have hHp : HLe H1 Hp := fun b o u hu=>by
  have : b ≠ E.b k := by rintro rfl; rw [c3] at hu; cases hu
  simp only [Hp,this,if_false,hu]
 have hrw : (rowD (E.b k) row).Ok Hp := by
  refine .slc _ 1 _ _ (fun _=>rfl) (by simp) (fun r hr=>by rw [List.mem_singleton.1 hr]) (fun i j r x hi hj=>?_) (fun r hr x hx=>by rw [List.mem_singleton.1 hr] at hx; exact (r2 x hx).mono hHp)
  have hi0 : i = 0 := by
   cases i with
   | zero=>rfl
   | succ i=>simp at hi
  subst hi0
  simp only [List.getElem?_cons_zero,Option.some.injEq] at hi
  subst hi
  simp only [Hp,if_true,← r1]
  simp [hj]
 have hmem : InMem Hp w := fun b o u hu=>by
  simp only [Hp] at hu
  split at hu
  ·rename_i hb
   subst hb
   simp only [World.cell?,c2]
   simpa using hu
  ·exact g1.cell b o u hu
 have hl := h.2 Hp w (E.b k) row hrw
 rw [hspec] at hl
 have hc := calls_of (args := [.elt (rowD (E.b k) row) 0 0]) h.1 ⟨hrw,trivial⟩ E hmem (hl hp)
 have eargs : SV.denL E [.elt (rowD (E.b k) row) 0 0] = SV.denL E [.ptr k 0] := by
  simp only [SV.denL,SV.den,rowD,D.addr,D.hd]
  simp
 rw [eargs] at hc
 refine Calls.mono hc fun e w' ⟨u,he',H',ha',hu⟩=>?_
 have hcell : ∀ b o u,H b o = some u → w'.cell? ⟨b,o,none⟩ = some u := fun b o u hu=>ha'.cell b o u (ha'.le b o u (hHp b o u (hle b o u hu)))
 exact ⟨by rw [he',hu E],gd.call ha'.below (HLe.refl _) (fun _ _ _ h=>.inl h) hcell⟩
section
variable {P : Program} {ops : Array Oper} {Q : Exit → Act → World → Prop}
theorem wpAny_quiet {dst : Nat → Nat} {vals : Nat → Value} {base : Array Value} {J : World → Prop}
  (hlt : ∀ i,i < ops.size → ∀ j,j ∈ predsOf ops i → j < i)
  (hdst : ∀ (i : Nat) (o : Oper),ops[i]? = some o → o.dst = some (dst i) ∧ o.guard = none ∧ dst i < base.size)
  (hinj : ∀ i j,i < ops.size → j < ops.size → dst i = dst j → i = j)
  (hex : ∀ (i : Nat) (o : Oper),ops[i]? = some o → ∀ (l : List Nat) (T : Array Value) (w : World),Begun ops l → i ∉ l → (∀ j,j ∈ predsOf ops i → j ∈ l) → FInv dst vals base l T → J w →
   o.wp P ⟨T,[]⟩ w (fun a w'=>a = ⟨T.setIfInBounds (dst i) (vals i),[]⟩ ∧ J w') Q)
  (hQ : ∀ T l w,(∀ i,i < ops.size → i ∈ l) → FInv dst vals base l T → J w → Q .normal ⟨T,[]⟩ w) :
  ∀ (fuel : Nat) (l : List Nat) (listed : Array Bool) (T : Array Value) (w : World),l.length + fuel = ops.size → Begun ops l → l.Nodup → (∀ j,j ∈ l → j < ops.size) → listed.size = ops.size → (∀ j,j < ops.size → listed[j]? = some (l.contains j)) →
   FInv dst vals base l T → J w → wpAny P .any ops Q fuel listed ⟨T,[]⟩ w := by
 have all : ∀ l : List Nat,l.Nodup → (∀ j,j ∈ l → j < ops.size) → l.length = ops.size → ∀ i,i < ops.size → i ∈ l := by
  intro l hn hl he i hi
  by_cases h : i ∈ l
  ·exact h
  ·have := flow_len (N := ops.size) (l := i :: l) (List.nodup_cons.2 ⟨h,hn⟩) (fun j hj=>by
    rcases List.mem_cons.1 hj with hj | hj
    ·rw [hj]; exact hi
    ·exact hl j hj)
   simp only [List.length_cons] at this; omega
 intro fuel
 induction fuel with
 | zero =>
  intro l listed T w hlen hb hn hl hsz hls hI hJ
  have ha := all l hn hl (by omega)
  refine ⟨?_,hQ T l w ha hI hJ⟩
  rw [List.eq_nil_iff_forall_not_mem]
  intro i hi
  obtain ⟨h1,h2,_⟩ := (ready_iff hsz hls hlt).1 hi
  exact h2 (ha i h1)
 | succ fuel ih =>
  intro l listed T w hlen hb hn hl hsz hls hI hJ
  refine ⟨fun hnil=>?_,fun i hi=>?_⟩
  ·exfalso
   have hex : ∃ m,m < ops.size ∧ m ∉ l := by
    by_cases h : ∃ m,m < ops.size ∧ m ∉ l
    ·exact h
    ·have h' : ∀ i,i < ops.size → i ∈ l := fun i hi=>by
      by_cases hm : i ∈ l
      ·exact hm
      ·exact absurd ⟨i,hi,hm⟩ h
     have := len_ge ops.size l h'
     omega
   obtain ⟨m,hm1,hm2⟩ := hex
   have key : ∀ m,m < ops.size → m ∉ l → False := by
    intro m
    induction m using Nat.strongRecOn with
    | _ m ihm =>
     intro h1 h2
     have : m ∈ Region.ready .any ops listed := (ready_iff hsz hls hlt).2 ⟨h1,h2,fun j hj=>by
      by_cases hjl : j ∈ l
      ·exact hjl
      ·exact (ihm j (hlt m h1 j hj) (by have := hlt m h1 j hj; omega) hjl).elim⟩
     rw [hnil] at this; cases this
   exact key m hm1 hm2
  ·obtain ⟨h1,h2,h3⟩ := (ready_iff hsz hls hlt).1 hi
   have ho : ops[i]? = some ops[i] := by simp [h1]
   obtain ⟨d1,d2,d3⟩ := hdst i _ ho
   obtain ⟨s1,s2⟩ := listed_step hsz hls h1
   have hst := hI.step (i := i) d3 (fun j hj e=>h2 (by rw [← hinj j i (hl j hj) h1 e]; exact hj))
   unfold wpOp
   rw [ho]
   simp only [wanted_none d2,if_true]
   left
   refine Oper.wp_mono (fun a' w' hk=>?_) (hex i _ ho l T w hb h2 h3 hI hJ)
   obtain ⟨rfl,hJ'⟩ := hk
   exact ih (l ++ [i]) _ _ w' (by simp; omega) (.snoc hb h2 h1 h3) (by
    rw [List.nodup_append]
    exact ⟨hn,by simp,fun a ha b hb e=>by rw [List.mem_singleton] at hb; subst hb; subst e; exact h2 ha⟩) (fun j hj=>by
    rcases List.mem_append.1 hj with hj | hj
    ·exact hl j hj
    ·rw [List.mem_singleton.1 hj]; exact h1) s1 s2 hst hJ'
theorem wp_look {o : Oper} {T : Array Value} {w : World} {d : Nat} {v : Value} {J : World → Prop} (hd : o.dst = some d) (h : (execOp (Act.eval ⟨T,[]⟩) o).run P w = .ok (.value v) w) (hJ : J w) :
  o.wp P ⟨T,[]⟩ w (fun a w'=>a = ⟨T.setIfInBounds d v,[]⟩ ∧ J w') Q := by
 unfold Oper.wp
 rw [h]
 simp only [Oper.upon,hd,Act.put]
 exact ⟨trivial,hJ⟩
theorem wp_call {o : Oper} {T : Array Value} {w : World} {d : Nat} {v : Value} {J : World → Prop} {f : FuncId} {args : Array Value} (hd : o.dst = some d) (h : (execOp (Act.eval ⟨T,[]⟩) o).run P w = .ok (.enter f args) w) (hc : Calls P f args w fun e w'=>e = .returned v ∧ J w') :
  o.wp P ⟨T,[]⟩ w (fun a w'=>a = ⟨T.setIfInBounds d v,[]⟩ ∧ J w') Q := by
 unfold Oper.wp
 rw [h]
 simp only [Oper.upon]
 refine Calls.mono hc fun e w' ⟨he,hJ⟩=>?_
 subst he
 simp only [hd,Act.put]
 exact ⟨trivial,hJ⟩
end
end Sx
namespace Sx
open Go RowKit
theorem runs_at {P : Program} {C : Ctx} {f : FuncId} {ri : Option (Array Oper × List Nat)} {aw : Option Tmp} {k : List Item} {T : Array Value} {sl : List (Nat × SV)} {n : Nat} {mem : Mem} {E : Env} {H : HV} {w : World} {R : Value → World → Prop} (hx : C.x = ctxPlain) (hn : n = T.size)
  (hj : mem.all (fun x=>!x.2.jk 0) = true) (hjs : sl.all (fun x=>!x.2.jk 0) = true) (g : Good C mem E H w) (hs : ∀ p,p ∈ sl → p.2.den E = T.getD p.1 Go.undef) (hok : ∀ p,p ∈ sl → p.2.Ok H)
  (h : Runs P C ⟨⟨f,ri,aw,k,mkJ 0 sl 0 n⟩,[],mem⟩ R) : StkRun P ctxPlain ⟨f,ri,aw,k,⟨T,[]⟩,none⟩ [] w R := by
 have hsame : Same 0 E (envJ E T) := ⟨rfl,rfl,fun i hi=>absurd hi (Nat.not_lt_zero _)⟩
 have g' := g.same' hsame (fun x hx=>by have := List.all_eq_true.1 hj x hx; simpa using this)
 have := h (envJ E T) H w g' ⟨ok_mkJ hok _ _,by simp⟩
 simp only [SFrm.den,List.map_nil] at this
 rw [den_mkJ (fun p hp=>by
  have := List.all_eq_true.1 hjs p hp
  rw [den_same hsame p.2 (by simpa using this)]; exact hs p hp) n 0 (by omega),List.drop_zero,Array.toArray_toList,hx] at this
 exact this
end Sx
end
noncomputable section
open Go Go.Proofs Sx
namespace Sv
section
variable (d s o k p q mb ml cp cw r : D) (b : Nat) (n j a a1 a2 a3 a4 b1 b2 b3 b4 e si st ap ep na cb cn ct mk mf mt mn mv me : Int)
theorem aplA_go : goS Try.prog ctAp (fun _=>false) [(44,58)] 600 (aplA ⟨⟨a1,a2,a3,a4⟩,⟨b1,b2,b3,b4⟩,⟨e,si,o,st,ap⟩,k⟩ p q cb cn ct cp cw) =
 Tree.all fun hs =>
 .leaf
 (Conf.mk
 (SFrm.mk 44 none none
 [Item.code (cA 44 [1,1,1,1,1,1,0,0]),Item.code (cA 44 [1,1,1,1,1,1,0,1]),
 Item.code (cA 44 [1,1,1,1,1,1,1])]
 (mkJ 0 [(3,.ptr 0 0),(4,.ptr 1 0),(9,.ptr 2 0)] 0 106))
 []
 [(0,OBlk.cells 65 [.int .i64 cb,.int .i64 cn,.int .i64 ct,.dat cp,.dat cw]),
 (1,
 OBlk.cells 37
 [.int .i64 0,.int .i64 0,.int .i64 0,.int .i64 0,
 .int .i64 0,.int .i64 0,.int .i64 0,.int .i64 0,
 .int .i64 0,.int .i64 0,.nils,.int .i64 0,.int .i64 0,
 .nils]),
 (2,
 OBlk.cells 115
 [.int .i64 a1,.int .i64 a2,.int .i64 cn,.int .i64 cn,
 .int .i64 b1,.int .i64 b2,.int .i64 b3,.int .i64 b4,
 .int .i64 e,.int .i64 si,.vec 3,.int .i64 st,.int .i64 ap,
 .vec 4]),
 (3,OBlk.arr 3 p),(4,OBlk.arr 65 q)]) := by kernel_rfl
end
def aplM (x : RlD) (o q : D) (cb cn ct : Int) (cp cw : D) : Mem := [(0,OBlk.cells 65 [.int .i64 cb,.int .i64 cn,.int .i64 ct,.dat cp,.dat cw]),(1,OBlk.cells 37 rlZ),(2,OBlk.cells 115 (rlV x (.vec 3) (.vec 4))),(3,.arr 3 o),(4,.arr 65 q)]
def aplC (x : RlD) (o q : D) (cb cn ct : Int) (cp cw : D) (bb : Bool) : Conf := Conf.mk (SFrm.mk 44 none none [Item.code (cA 44 [1,1,1,1,1,1,0,1]),Item.code (cA 44 [1,1,1,1,1,1,1])] (mkJ 0 [(3,.ptr 0 0),(4,.ptr 1 0),(9,.ptr 2 0),(62,.bool bb)] 0 106)) [] (aplM x o q cb cn ct cp cw)
section
variable (d s o k p q mb ml cp cw r : D) (bb : Bool) (n j a a1 a2 a3 a4 b1 b2 b3 b4 e si st ap ep na cb cn ct mk mf mt mn mv me : Int)
theorem aplC_go : exec Try.prog ctAp 600 (aplC ⟨⟨a1,a2,a3,a4⟩,⟨b1,b2,b3,b4⟩,⟨e,si,o,st,ap⟩,k⟩ p q cb cn ct cp cw bb) =
 Tree.br bb
 (.ret
 (SV.tup
 [.agg
 [.int .i64 a1,.int .i64 a2,.int .i64 a3,.int .i64 a4,
 .int .i64 b1,.int .i64 b2,.int .i64 b3,.int .i64 b4,
 .int .i64 e,.int .i64 si,.dat p,.int .i64 st,.int .i64 ap,
 .dat q],
 .nils,.int .i64 0]))
 (.all fun hs =>
 .need (D.Is Int p)
 (.br (Prod.snd (Prod.snd (offer (SrcD.src (SrcD.mk e si p st ap)) cn)) != 0)
 (.ret
 (SV.tup
 [.agg
 [.int .i64 0,.int .i64 0,.int .i64 0,.int .i64 0,
 .int .i64 0,.int .i64 0,.int .i64 0,.int .i64 0,
 .int .i64 0,.int .i64 0,.nils,.int .i64 0,.int .i64 0,
 .nils],
 .nils,.int .i64 (Prod.snd (Prod.snd (offer (SrcD.src (SrcD.mk e si p st ap)) cn)))]))
 (.all fun hs_1 =>
 .need (CyD.Ok (CyD.mk cb cn ct cp cw))
 (.need
 (D.sz q = 5 ∧
 D.Fits
 (D.slc (D.hd (hs_1 10 0)) 5
 [[D.int .i64 cb,D.int .i64 cn,D.int .i64 ct,
 D.like (hs_1 9 0) (D.to Int cp),D.like (hs_1 9 1) (D.to Wt cw)]])
 5 ∧
 (D.len q +
 D.len
 (D.slc (D.hd (hs_1 10 0)) 5
 [[D.int .i64 cb,D.int .i64 cn,D.int .i64 ct,
 D.like (hs_1 9 0) (D.to Int cp),D.like (hs_1 9 1) (D.to Wt cw)]])) *
 72 ≤
 140737488355328 ∧
 D.len q +
 D.len
 (D.slc (D.hd (hs_1 10 0)) 5
 [[D.int .i64 cb,D.int .i64 cn,D.int .i64 ct,
 D.like (hs_1 9 0) (D.to Int cp),D.like (hs_1 9 1) (D.to Wt cw)]]) ≤
 9223372036854775807)
 (.ret
 (SV.tup
 [.agg
 [.int .i64 a1,.int .i64 a2,.int .i64 a3,.int .i64 a4,
 .int .i64 b1,.int .i64 b2,.int .i64 b3,.int .i64 b4,
 .int .i64 (Src.epoch (Prod.fst (offer (SrcD.src (SrcD.mk e si p st ap)) cn))),
 .int .i64 (Src.site (Prod.fst (offer (SrcD.src (SrcD.mk e si p st ap)) cn))),
 .dat (D.like (hs 7 0) (Src.offered (Prod.fst (offer (SrcD.src (SrcD.mk e si p st ap)) cn)))),
 .int .i64 (Src.stored (Prod.fst (offer (SrcD.src (SrcD.mk e si p st ap)) cn))),
 .int .i64 (Src.applied (Prod.fst (offer (SrcD.src (SrcD.mk e si p st ap)) cn))),
 .dat
 (D.slc (D.hd (hs_1 11 0)) 5
 (List.append (D.rows q)
 (D.rows
 (D.slc (D.hd (hs_1 10 0)) 5
 [[D.int .i64 cb,D.int .i64 cn,D.int .i64 ct,
 D.like (hs_1 9 0) (D.to Int cp),D.like (hs_1 9 1) (D.to Wt cw)]]))))],
 .dat (D.like (hs 7 1) (Prod.fst (Prod.snd (offer (SrcD.src (SrcD.mk e si p st ap)) cn)))),
 .int .i64 0])))))) := by kernel_rfl
end
end Sv
end
noncomputable section
open Go Go.Proofs Sx
namespace Sx
theorem ret_rl3 {P : Program} {w : World} {H : HV} {a b c d e f g h i j k l m : Int} {X Y Z : SV} {os : List Int} {ks : List Cy} {ms : List Msg} {r : Rl × List Msg × Int} (hx : Stands Int X os) (hy : Stands Cy Y ks) (hz : Stands Msg Z ms) (hr : r = (⟨⟨a,b,c,d⟩,⟨e,f,g,h⟩,⟨i,j,os,k,l⟩,ks⟩,ms,m)) :
  (Tree.ret (.tup [.agg [.int .i64 a,.int .i64 b,.int .i64 c,.int .i64 d,.int .i64 e,.int .i64 f,.int .i64 g,.int .i64 h,.int .i64 i,.int .i64 j,X,.int .i64 k,.int .i64 l,Y],Z,.int .i64 m])).holds P ⟨w,H⟩ (RetD w H fun ds=>.tup [.agg (rlL (ds 0) (ds 1) r.1),.dat ((ds 2).like r.2.1),.int .i64 r.2.2]) := by
 subst hr
 obtain ⟨p,q,hs⟩ := rlL_sel (a := a) (b := b) (c := c) (d := d) (e := e) (f := f) (g := g) (h := h) (i := i) (j := j) (k := k) (l := l) hx hy rfl
 obtain ⟨z,hz⟩ := hz.se
 exact ret_se (fun i=>match i with | 0=>p | 1=>q | _=>z) (se_tup (.cons (se_agg hs) (.cons hz (.cons (se_int rfl) .nil))))
theorem rl3_bad {P : Program} {w : World} {H : HV} {r : Rl × List Msg × Int} {m : Int} (h : r = (zRl,[],m)) : (Tree.ret (.tup [.agg [.int .i64 0,.int .i64 0,.int .i64 0,.int .i64 0,.int .i64 0,.int .i64 0,.int .i64 0,.int .i64 0,.int .i64 0,.int .i64 0,SV.nils,.int .i64 0,.int .i64 0,SV.nils],.nils,.int .i64 m])).holds P ⟨w,H⟩ (RetD w H fun ds=>.tup [.agg (rlL (ds 0) (ds 1) r.1),.dat ((ds 2).like r.2.1),.int .i64 r.2.2]) :=
 ret_rl3 stands_nils stands_nils stands_nils (by rw [h]; rfl)
theorem run_fieldO {P : Program} {o : Oper} {t : TypeId} {x : Operand} {f : Nat} (ho : o.op = .fieldAddr t x f) (ev : Operand → Value) (w : World) {E : Env} {H : HV} {X v : SV} (hx : ev x = X.den E) (hX : X.Ok H) (h : fieldR P t X f = some v) : (execOp ev o).run P w = .ok (.value (v.den E)) w := by
 obtain ⟨a,b,c,d,e,g⟩ := o
 simp only at ho; subst ho
 obtain ⟨h1,_⟩ := fieldR_spec (P := P) (E := E) (w := w) h hX
 simp only [execOp,Sem.run_bind,hx,h1]; rfl
theorem run_loadO {P : Program} {o : Oper} {t : TypeId} {x : Operand} (ho : o.op = .load t x) (ev : Operand → Value) {C : Ctx} {m : Mem} {w : World} {E : Env} {H : HV} (g : Good C m E H w) {X v : SV} (hx : ev x = X.den E) (hX : X.Ok H) {ps : List Prop} (h : loadR P m t X = some (ps,v)) (hp : ∀ p,p ∈ ps → p) : (execOp ev o).run P w = .ok (.value (v.den E)) w := by
 obtain ⟨a,b,c,d,e,g'⟩ := o
 simp only at ho; subst ho
 obtain ⟨h1,_⟩ := loadR_spec (P := P) g hX h hp
 simp only [execOp,Sem.run_bind,hx,h1]; rfl
theorem run_binO {P : Program} {o : Oper} {op : BinOp} {t z : TypeId} {x y : Operand} (ho : o.op = .binOp op t x y z) (ev : Operand → Value) {C : Ctx} {m : Mem} {w : World} {E : Env} {H : HV} (g : Good C m E H w) {X Y v : SV} (hx : ev x = X.den E) (hy : ev y = Y.den E) (hX : X.Ok H) {ps : List Prop} (h : binR P m op t X Y = some (ps,v)) (hp : ∀ p,p ∈ ps → p) : (execOp ev o).run P w = .ok (.value (v.den E)) w := by
 obtain ⟨a,b,c,d,e,g'⟩ := o
 simp only at ho; subst ho
 obtain ⟨h1,_⟩ := binR_spec (P := P) g (op := op) (t := t) (a := X) (b := Y) hX h hp x y
 simp only [execOp,hx,hy]
 rw [Sem.run_bind,h1]; rfl
end Sx
namespace Sv
def apO : Array Oper := oA 44 [1,1,1,1,1,1,0,0]
def apId : Nat := match cA 44 [1,1,1,1,1,1,0,0] with | .region id _ _=>id | _=>0
theorem ap_reg : cA 44 [1,1,1,1,1,1,0,0] = .region apId apO true := by kernel_rfl
theorem ap_size : apO.size = 5 := by kernel_rfl
theorem ap_k0 : opK apO 0 = some (.fieldAddr 65 (.tmp 3) 0,58) := by kernel_rfl
theorem ap_k1 : opK apO 1 = some (.load 3 (.tmp 58),59) := by kernel_rfl
theorem ap_k2 : opK apO 2 = some (.move (.tmp 9),60) := by kernel_rfl
theorem ap_k3 : opK apO 3 = some (.call ⟨.value (.func 88),#[.tmp 60],#[113]⟩,61) := by kernel_rfl
theorem ap_k4 : opK apO 4 = some (.binOp .gtr 3 (.tmp 59) (.tmp 61) 3,62) := by kernel_rfl
theorem ap_p1 : predsOf apO 1 = [0] := by kernel_rfl
theorem ap_p3 : predsOf apO 3 = [2] := by kernel_rfl
theorem ap_p4 : predsOf apO 4 = [1,3] := by kernel_rfl
theorem ap_lt : ∀ i,i < apO.size → ∀ j,j ∈ predsOf apO i → j < i := by
 have h : ((List.range 5).all fun i=>(predsOf apO i).all fun j=>decide (j < i)) = true := by kernel_rfl
 intro i hi j hj
 rw [ap_size] at hi
 have := List.all_eq_true.1 h i (List.mem_range.2 hi)
 exact of_decide_eq_true (List.all_eq_true.1 this j hj)
theorem ap_five {i : Nat} (h : i < 5) : i = 0 ∨ i = 1 ∨ i = 2 ∨ i = 3 ∨ i = 4 := by omega
theorem ap_dst (n : Nat) (hn : n = 106) : ∀ (i : Nat) (o : Oper),apO[i]? = some o → o.dst = some (58 + i) ∧ o.guard = none ∧ 58 + i < n := by
 intro i o ho
 have hi : i < 5 := by rw [← ap_size]; exact (Array.getElem?_eq_some_iff.1 ho).1
 subst hn
 rcases ap_five hi with rfl | rfl | rfl | rfl | rfl
 ·exact ⟨(opK_spec ap_k0 ho).1,(opK_spec ap_k0 ho).2.1,by decide⟩
 ·exact ⟨(opK_spec ap_k1 ho).1,(opK_spec ap_k1 ho).2.1,by decide⟩
 ·exact ⟨(opK_spec ap_k2 ho).1,(opK_spec ap_k2 ho).2.1,by decide⟩
 ·exact ⟨(opK_spec ap_k3 ho).1,(opK_spec ap_k3 ho).2.1,by decide⟩
 ·exact ⟨(opK_spec ap_k4 ho).1,(opK_spec ap_k4 ho).2.1,by decide⟩
theorem ap_mixed : Try.prog.follows .mixedOrders = true := by kernel_rfl
theorem ap_calm : calmOps apO = true := by kernel_rfl
theorem ap_calee {o : Oper} (h : o.op = .call ⟨.value (.func 88),#[.tmp 60],#[113]⟩) (T : Array Value) (w : World) : (execOp (Act.eval ⟨T,[]⟩) o).run Try.prog w = .ok (.enter 88 #[Act.eval ⟨T,[]⟩ (.tmp 60)]) w := by
 obtain ⟨fn,hfn,hbs,hnm⟩ := bodied_spec lawFront.1
 let E : Env := ⟨fun _=>0,fun _=>(none,0),fun _=>Go.undef⟩
 have hT : (SV.denL E (T.toList.map SV.raw)).toArray = T := by
  rw [SV.denL_eq,List.map_map]
  have : T.toList.map (SV.den E ∘ SV.raw) = T.toList := by
   conv=>rhs; rw [← List.map_id T.toList]
   exact List.map_congr_left fun x _=>by simp [SV.den]
  rw [this,Array.toArray_toList]
 have hev : ∀ x,(Act.eval ⟨T,[]⟩ x) = (evS (T.toList.map SV.raw) x).den E := fun x=>by
  rw [← den_evS E (T.toList.map SV.raw) [] x,hT]
 have := run_call (P := Try.prog) (a := ⟨T,[]⟩) (E := E) (tmps := T.toList.map SV.raw) hev (f := 88) (first := []) (captured := []) (cl := ⟨.value (.func 88),#[.tmp 60],#[113]⟩) rfl hfn hbs hnm h w
 rw [this,hev (.tmp 60)]
 rfl
def aplB (x : RlD) (o q : D) (cb cn ct : Int) (cp cw : D) : Conf := Conf.mk (SFrm.mk 44 none none [Item.code (.region apId apO true),Item.code (cA 44 [1,1,1,1,1,1,0,1]),Item.code (cA 44 [1,1,1,1,1,1,1])] (mkJ 0 [(3,SV.ptr 0 0),(4,SV.ptr 1 0),(9,SV.ptr 2 0)] 0 106)) [] (aplM x o q cb cn ct cp cw)
def apS (x : RlD) (q : D) (cb : Int) (i : Nat) : SV := match i with | 0=>.ptr 0 0 | 1=>.int .i64 cb | 2=>.ptr 2 0 | 3=>.int .i64 (frontI x.src.ap (q.to Cy)) | _=>.bool (decide (cb > frontI x.src.ap (q.to Cy)))
theorem ap_base (E : Env) : (SV.denL E (mkJ 0 [(3,SV.ptr 0 0),(4,SV.ptr 1 0),(9,SV.ptr 2 0)] 0 106)).toArray[3]? = some ((SV.ptr 0 0).den E) ∧ (SV.denL E (mkJ 0 [(3,SV.ptr 0 0),(4,SV.ptr 1 0),(9,SV.ptr 2 0)] 0 106)).toArray[4]? = some ((SV.ptr 1 0).den E) ∧ (SV.denL E (mkJ 0 [(3,SV.ptr 0 0),(4,SV.ptr 1 0),(9,SV.ptr 2 0)] 0 106)).toArray[9]? = some ((SV.ptr 2 0).den E) := ⟨rfl,rfl,rfl⟩
theorem apl_region {H : HV} {w : World} {R : Value → World → Prop} {x : RlD} {o q : D} {cb cn ct : Int} {cp cw : D} (hq : q.Is Cy) (hql : q.len ≤ 1048576)
  (h : Runs Try.prog ⟨w,H⟩ (aplC x o q cb cn ct cp cw (decide (cb > frontI x.src.ap (q.to Cy)))) R) : Runs Try.prog ⟨w,H⟩ (aplB x o q cb cn ct cp cw) R := by
 obtain ⟨qh,qz,qr,rfl⟩ := hq.slc
 intro E H1 w1 g1 ok1
 have hb3 := ap_base E
 obtain ⟨b3,b4,b9⟩ := hb3
 show Go1 Try.prog none 44 _ _ w1 R
 refine Go1.draw ap_mixed ap_calm ?_
 have old : ∀ {l : List Nat} {T : Array Value} (s : Nat),FInv (fun i=>58 + i) (fun i=>(apS x (D.slc qh qz qr) cb i).den E) (SV.denL E (mkJ 0 [(3,SV.ptr 0 0),(4,SV.ptr 1 0),(9,SV.ptr 2 0)] 0 106)).toArray l T → s < 58 → T[s]? = (SV.denL E (mkJ 0 [(3,SV.ptr 0 0),(4,SV.ptr 1 0),(9,SV.ptr 2 0)] 0 106)).toArray[s]? := fun s hI hs=>hI.old s fun i _=>by omega
 have := wpAny_quiet (P := Try.prog) (ops := apO) (dst := fun i=>58 + i) (vals := fun i=>(apS x (D.slc qh qz qr) cb i).den E) (base := (SV.denL E (mkJ 0 [(3,SV.ptr 0 0),(4,SV.ptr 1 0),(9,SV.ptr 2 0)] 0 106)).toArray) (J := fun w'=>Sx.Good ⟨w,H⟩ (aplM x o (D.slc qh qz qr) cb cn ct cp cw) E H1 w')
  ap_lt (ap_dst _ rfl) (fun i j _ _ e=>by simpa using e) (Q := Qk Try.prog none 44 [Item.code (cA 44 [1,1,1,1,1,1,0,1]),Item.code (cA 44 [1,1,1,1,1,1,1])] R) ?_ ?_ apO.size [] (Array.replicate apO.size false) _ w1.drew (by simp) .nil (by simp) (by simp) (by simp) (fun j hj=>by simp [hj]) ⟨rfl,by simp,fun _ _=>rfl⟩ g1.drew
 ·exact this
 ·intro i op ho l T w2 hb hil hp hI hJ
  have hi : i < 5 := by rw [← ap_size]; exact (Array.getElem?_eq_some_iff.1 ho).1
  have t3 : T[3]? = some ((SV.ptr 0 0).den E) := (old 3 hI (by decide)).trans b3
  have t9 : T[9]? = some ((SV.ptr 2 0).den E) := (old 9 hI (by decide)).trans b9
  rcases ap_five hi with rfl | rfl | rfl | rfl | rfl
  ·exact wp_look (opK_spec ap_k0 ho).1 (run_fieldO (opK_spec ap_k0 ho).2.2 _ w2 (H := H1) (X := .ptr 0 0) (v := .ptr 0 0) (eval_tmp t3) trivial (by kernel_rfl)) hJ
  ·rw [ap_p1] at hp
   have m1 : T[58]? = some ((SV.ptr 0 0).den E) := hI.done 0 (hp 0 (by simp))
   exact wp_look (opK_spec ap_k1 ho).1 (run_loadO (opK_spec ap_k1 ho).2.2 _ hJ (X := .ptr 0 0) (v := .int .i64 cb) (ps := []) (eval_tmp m1) trivial (by kernel_rfl) (by simp)) hJ
  ·have := run_moveO (P := Try.prog) (opK_spec ap_k2 ho).2.2 (Act.eval ⟨T,[]⟩) w2
   rw [eval_tmp t9] at this
   exact wp_look (opK_spec ap_k2 ho).1 this hJ
  ·rw [ap_p3] at hp
   have m1 : T[60]? = some ((SV.ptr 2 0).den E) := hI.done 2 (hp 2 (by simp))
   have hcall := ap_calee (opK_spec ap_k3 ho).2.2 T w2
   rw [eval_tmp m1] at hcall
   refine wp_call (opK_spec ap_k3 ho).1 hcall ?_
   exact q_calls lawFront hJ (k := 2) (cs := rlV x (.vec 3) (.vec 4)) (row := [.int .i64 x.near.epoch,.int .i64 x.near.site,.int .i64 x.near.stored,.int .i64 x.near.applied,.int .i64 x.far.epoch,.int .i64 x.far.site,.int .i64 x.far.stored,.int .i64 x.far.applied,.int .i64 x.src.e,.int .i64 x.src.s,o,.int .i64 x.src.st,.int .i64 x.src.ap,D.slc qh qz qr]) rfl (by kernel_rfl) rfl (fun p hp=>by rw [List.mem_singleton.1 hp]; exact ⟨hq,hql⟩)
  ·rw [ap_p4] at hp
   have m1 : T[59]? = some ((SV.int .i64 cb).den E) := hI.done 1 (hp 1 (by simp))
   have m2 : T[61]? = some ((SV.int .i64 (frontI x.src.ap ((D.slc qh qz qr).to Cy))).den E) := hI.done 3 (hp 3 (by simp))
   exact wp_look (opK_spec ap_k4 ho).1 (run_binO (opK_spec ap_k4 ho).2.2 _ hJ (X := .int .i64 cb) (Y := .int .i64 (frontI x.src.ap ((D.slc qh qz qr).to Cy))) (v := .bool (decide (cb > frontI x.src.ap ((D.slc qh qz qr).to Cy)))) (ps := []) (eval_tmp m1) (eval_tmp m2) trivial (by kernel_rfl) (by simp)) hJ
 ·intro T l w2 ha hI hJ
  refine ⟨rfl,?_⟩
  have t62 : T[62]? = some ((SV.bool (decide (cb > frontI x.src.ap ((D.slc qh qz qr).to Cy)))).den E) := hI.done 4 (ha 4 (by rw [ap_size]; decide))
  have := runs_at (aw := none) (T := T) (n := 106) (sl := [(3,SV.ptr 0 0),(4,SV.ptr 1 0),(9,SV.ptr 2 0),(62,.bool (decide (cb > frontI x.src.ap ((D.slc qh qz qr).to Cy))))]) (C := ⟨w,H⟩) rfl (by rw [hI.size]; rfl) (by kernel_rfl) (by kernel_rfl) hJ (fun p hp=>?_) (fun p hp=>?_) h
  ·exact this
  ·simp only [List.mem_cons,List.not_mem_nil,or_false] at hp
   rw [Array.getD_eq_getD_getElem?]
   rcases hp with rfl | rfl | rfl | rfl
   ·rw [old 3 hI (by decide),b3]; rfl
   ·rw [old 4 hI (by decide),b4]; rfl
   ·rw [old 9 hI (by decide),b9]; rfl
   ·rw [t62]; rfl
  ·simp only [List.mem_cons,List.not_mem_nil,or_false] at hp
   rcases hp with rfl | rfl | rfl | rfl <;> trivial
end Sv
end
noncomputable section
open Go Go.Proofs Sx
namespace Sv
theorem ctApOk : Ctrs.Ok Try.prog ctAp := by
 intro x hx
 simp only [ctAp,List.mem_cons,List.not_mem_nil,or_false] at hx
 rcases hx with rfl | rfl | rfl | rfl | rfl | rfl
 ·exact ctrOf_ok lawCk
 ·exact ctrOf_ok lawSz
 ·exact ctrOf_ok lawCyCk
 ·exact ctrOf_ok lawOfr
 ·exact ctrOf_ok lawLrn
 ·exact ctrOf_ok lawCpC
theorem ctNxOk : Ctrs.Ok Try.prog ctNx := by
 intro x hx
 simp only [ctNx,List.mem_cons,List.not_mem_nil,or_false] at hx
 rcases hx with rfl | rfl
 ·exact ctrOf_ok lawCk
 ·exact ctrOf_ok lawCpC
theorem lawApl : Law Try.prog 44 ((rdRl.two rdCy).sp spApplyRl) := by
 refine law_in _ (by kernel_rfl) fun H w ⟨⟨⟨a1,a2,a3,a4⟩,⟨b1,b2,b3,b4⟩,⟨e,s,o,st,ap⟩,k⟩,⟨cb,cn,ct,cp,cw⟩⟩ hok hp=>?_
 obtain ⟨hx,hc⟩ := hp _ (List.mem_singleton.2 rfl)
 apply goS_sound ctApOk (fun _=>false) [(62,1)] 400
 rw [show (rdRl.two rdCy).canon (⟨⟨a1,a2,a3,a4⟩,⟨b1,b2,b3,b4⟩,⟨e,s,o,st,ap⟩,k⟩,⟨cb,cn,ct,cp,cw⟩) = [.agg [.int .i64 a1,.int .i64 a2,.int .i64 a3,.int .i64 a4,.int .i64 b1,.int .i64 b2,.int .i64 b3,.int .i64 b4,.int .i64 e,.int .i64 s,.dat o,.int .i64 st,.int .i64 ap,.dat k],.agg [.int .i64 cb,.int .i64 cn,.int .i64 ct,.dat cp,.dat cw]] from rfl,apl_in]
 show Tree.holds _ _ (RetD w H fun ds=>.tup [.agg (rlL (ds 0) (ds 1) (applyRl (RlD.rl ⟨⟨a1,a2,a3,a4⟩,⟨b1,b2,b3,b4⟩,⟨e,s,o,st,ap⟩,k⟩) (CyD.cy ⟨cb,cn,ct,cp,cw⟩)).1),.dat ((ds 2).like (applyRl (RlD.rl ⟨⟨a1,a2,a3,a4⟩,⟨b1,b2,b3,b4⟩,⟨e,s,o,st,ap⟩,k⟩) (CyD.cy ⟨cb,cn,ct,cp,cw⟩)).2.1),.int .i64 (applyRl (RlD.rl ⟨⟨a1,a2,a3,a4⟩,⟨b1,b2,b3,b4⟩,⟨e,s,o,st,ap⟩,k⟩) (CyD.cy ⟨cb,cn,ct,cp,cw⟩)).2.2]) _
 have hdef : ckRl (RlD.rl ⟨⟨a1,a2,a3,a4⟩,⟨b1,b2,b3,b4⟩,⟨e,s,o,st,ap⟩,k⟩) = 0 → applyRl (RlD.rl ⟨⟨a1,a2,a3,a4⟩,⟨b1,b2,b3,b4⟩,⟨e,s,o,st,ap⟩,k⟩) (CyD.cy ⟨cb,cn,ct,cp,cw⟩) = (if cyErr (CyD.cy ⟨cb,cn,ct,cp,cw⟩) most ≠ 0 then (zRl,[],cyErr (CyD.cy ⟨cb,cn,ct,cp,cw⟩) most)
   else if cn ≤ a4 then (zRl,[],8) else if cb > a4 then (zRl,[],15)
   else if cb > frontI ap (k.to Cy) then (⟨⟨a1,a2,cn,cn⟩,⟨b1,b2,b3,b4⟩,⟨e,s,o.to Int,st,ap⟩,k.to Cy⟩,[],0)
   else if (offer ⟨e,s,o.to Int,st,ap⟩ cn).2.2 ≠ 0 then (zRl,[],(offer ⟨e,s,o.to Int,st,ap⟩ cn).2.2)
   else (⟨⟨a1,a2,cn,cn⟩,⟨b1,b2,b3,b4⟩,(offer ⟨e,s,o.to Int,st,ap⟩ cn).1,k.to Cy ++ [CyD.cy ⟨cb,cn,ct,cp,cw⟩]⟩,(offer ⟨e,s,o.to Int,st,ap⟩ cn).2.1,0)) := fun h=>by
  unfold applyRl; rw [if_neg (by simp [h])]; rfl
 refine ⟨hx,fun c1=>rl3_bad ?_,fun c1=>?_⟩
 ·have c1 : ckRl (RlD.rl ⟨⟨a1,a2,a3,a4⟩,⟨b1,b2,b3,b4⟩,⟨e,s,o,st,ap⟩,k⟩) ≠ 0 := by simpa using c1
  unfold applyRl; rw [if_pos c1]
 have c1 : ckRl (RlD.rl ⟨⟨a1,a2,a3,a4⟩,⟨b1,b2,b3,b4⟩,⟨e,s,o,st,ap⟩,k⟩) = 0 := by simpa using c1
 rw [hdef c1]
 obtain ⟨_,_,_,hf⟩ := ck_range c1
 have hmin : ∀ c,c ∈ k.to Cy → c.number > -9223372036854775808 := fun c hc=>by
  have := cy_num (ck_cy hf c hc); omega
 obtain ⟨h1,h2,h3,h4,h5⟩ := id hx
 refine holds_all.2 fun hs=>holds_need.2 ⟨⟨hc,D.like_is _ _,by rw [D.Is.length (α := Int),D.like_to]; decide⟩,?_⟩
 rw [D.like_to]
 refine ⟨fun c2=>rl3_bad ?_,fun c2=>⟨fun c3=>rl3_bad ?_,fun c3=>⟨fun c4=>rl3_bad ?_,fun c4=>?_⟩⟩⟩
 ·have c2 : cyErr (CyD.cy ⟨cb,cn,ct,cp,cw⟩) most ≠ 0 := by simpa using c2
  rw [if_pos c2]
 all_goals (have c2' : ¬cyErr (CyD.cy ⟨cb,cn,ct,cp,cw⟩) most ≠ 0 := by simpa using c2); rw [if_neg c2']
 ·rw [if_pos (of_decide_eq_true c3)]
 all_goals rw [if_neg (of_decide_eq_false c3)]
 ·rw [if_pos (of_decide_eq_true c4)]
 rw [if_neg (of_decide_eq_false c4)]
 refine runs_frame (Φ := bgPhi ⟨⟨a1,a2,a3,a4⟩,⟨b1,b2,b3,b4⟩,⟨e,s,o,st,ap⟩,k⟩) (top := bgC ⟨⟨a1,a2,a3,a4⟩,⟨b1,b2,b3,b4⟩,⟨e,s,o,st,ap⟩,k⟩) bgC_pure (fun kx hk=>?_) (fun H w _=>bgRuns hx hmin) fun v m hv=>?_
 ·have h : (SV.keysL (mkJ 0 [(3,SV.ptr 0 0),(4,SV.ptr 1 0)] 0 106) ++ ((([] : List SFrm).flatMap fun f=>SV.keysL f.tmps) ++ Mem.named [(0,OBlk.cells 65 [.int .i64 cb,.int .i64 cn,.int .i64 ct,SV.dat cp,SV.dat cw]),(1,OBlk.cells 37 rlZ)])).all (fun k=>decide (k < 500)) = true := by kernel_rfl
  exact of_decide_eq_true (List.all_eq_true.1 h kx hk)
 ·obtain ⟨rfl,p,q,rfl,⟨p1,p2,p3⟩,q1,q2,q3⟩ := hv
  show Runs _ _ (aplA ⟨⟨a1,a2,a3,a4⟩,⟨b1,b2,b3,b4⟩,⟨e,s,o,st,ap⟩,k⟩ p q cb cn ct cp cw) _
  apply goS_sound ctApOk (fun _=>false) [(44,58)] 600
  rw [aplA_go]
  simp only at h1 h2 h3 h4 h5 q3 p3
  have kl := D.Is.length (α := Cy) k
  have ql := D.Is.length (α := Cy) q
  have hql : q.len ≤ 1048576 := by rw [ql,q3]; omega
  refine holds_all.2 fun hs=>?_
  have key : Runs Try.prog ⟨w,H⟩ (aplB ⟨⟨a1,a2,cn,cn⟩,⟨b1,b2,b3,b4⟩,⟨e,s,o,st,ap⟩,k⟩ p q cb cn ct cp cw) (RetD w H fun ds=>.tup [.agg (rlL (ds 0) (ds 1) (if cb > frontI ap (k.to Cy) then ((⟨⟨a1,a2,cn,cn⟩,⟨b1,b2,b3,b4⟩,⟨e,s,o.to Int,st,ap⟩,k.to Cy⟩ : Rl),([] : List Msg),(0 : Int))
   else if (offer ⟨e,s,o.to Int,st,ap⟩ cn).2.2 ≠ 0 then (zRl,[],(offer ⟨e,s,o.to Int,st,ap⟩ cn).2.2)
   else (⟨⟨a1,a2,cn,cn⟩,⟨b1,b2,b3,b4⟩,(offer ⟨e,s,o.to Int,st,ap⟩ cn).1,k.to Cy ++ [CyD.cy ⟨cb,cn,ct,cp,cw⟩]⟩,(offer ⟨e,s,o.to Int,st,ap⟩ cn).2.1,0)).1),.dat ((ds 2).like (if cb > frontI ap (k.to Cy) then ((⟨⟨a1,a2,cn,cn⟩,⟨b1,b2,b3,b4⟩,⟨e,s,o.to Int,st,ap⟩,k.to Cy⟩ : Rl),([] : List Msg),(0 : Int))
   else if (offer ⟨e,s,o.to Int,st,ap⟩ cn).2.2 ≠ 0 then (zRl,[],(offer ⟨e,s,o.to Int,st,ap⟩ cn).2.2)
   else (⟨⟨a1,a2,cn,cn⟩,⟨b1,b2,b3,b4⟩,(offer ⟨e,s,o.to Int,st,ap⟩ cn).1,k.to Cy ++ [CyD.cy ⟨cb,cn,ct,cp,cw⟩]⟩,(offer ⟨e,s,o.to Int,st,ap⟩ cn).2.1,0)).2.1),.int .i64 (if cb > frontI ap (k.to Cy) then ((⟨⟨a1,a2,cn,cn⟩,⟨b1,b2,b3,b4⟩,⟨e,s,o.to Int,st,ap⟩,k.to Cy⟩ : Rl),([] : List Msg),(0 : Int))
   else if (offer ⟨e,s,o.to Int,st,ap⟩ cn).2.2 ≠ 0 then (zRl,[],(offer ⟨e,s,o.to Int,st,ap⟩ cn).2.2)
   else (⟨⟨a1,a2,cn,cn⟩,⟨b1,b2,b3,b4⟩,(offer ⟨e,s,o.to Int,st,ap⟩ cn).1,k.to Cy ++ [CyD.cy ⟨cb,cn,ct,cp,cw⟩]⟩,(offer ⟨e,s,o.to Int,st,ap⟩ cn).2.1,0)).2.2]) := by
   refine apl_region q1 hql ?_
   apply exec_sound ctApOk 600
   rw [aplC_go]
   have ef : frontI (RlD.mk ⟨a1,a2,cn,cn⟩ ⟨b1,b2,b3,b4⟩ ⟨e,s,o,st,ap⟩ k).src.ap (q.to Cy) = frontI ap (k.to Cy) := by rw [q3]
   have eo : SrcD.src ⟨e,s,p,st,ap⟩ = ⟨e,s,o.to Int,st,ap⟩ := by rw [← p3]; rfl
   rw [ef,eo]
   refine ⟨fun d1=>ret_rl3 (stands_dat p1 p3) (stands_dat q1 q3) stands_nils ?_,fun d1=>?_⟩
   ·rw [if_pos (of_decide_eq_true d1)]
   rw [if_neg (of_decide_eq_false d1)]
   refine fun hs=>⟨p1,fun d2=>rl3_bad ?_,fun d2 hs1=>⟨hc,⟨q2,.inr rfl,?_,?_⟩,?_⟩⟩
   ·have d2 : (offer ⟨e,s,o.to Int,st,ap⟩ cn).2.2 ≠ 0 := by simpa using d2
    rw [if_pos d2]
   ·simp only [len_slc,List.length_cons,List.length_nil]; omega
   ·simp only [len_slc,List.length_cons,List.length_nil]; omega
   ·have d2 : ¬(offer ⟨e,s,o.to Int,st,ap⟩ cn).2.2 ≠ 0 := by simpa using d2
    have hrow := rows_app (rows_of q1) (cy_one (b := cb) (n := cn) (t := ct) (D.like_is (hs1 9 0) (cp.to Int)) (D.like_to _ _) (D.like_is (hs1 9 1) (cw.to Wt)) (D.like_to _ _))
    refine ret_rl3 stands_like (stands_rows rfl hrow) stands_like ?_
    rw [if_neg d2,q3]; rfl
  unfold aplB at key
  rw [← ap_reg] at key
  exact key
def nextL (l : List Cy) : Cy × Bool := match l with | []=>(zCy,false) | c :: _=>(c,true)
theorem head_match : ∀ {l : List Cy} (h : 0 < l.length),nextL l = (l[0],true)
 | [],h=>by simp at h
 | c :: t,_=>rfl
theorem lawNxt : Law Try.prog 30 (rdRl.one.sp spNextRl) := by
 refine law_in _ (by kernel_rfl) fun H w ⟨⟨a1,a2,a3,a4⟩,⟨b1,b2,b3,b4⟩,⟨e,s,o,st,ap⟩,k⟩ hok hp=>?_
 have hx := hp _ (List.mem_singleton.2 rfl)
 apply goS_sound ctNxOk (fun _=>false) [(63,8)] 400
 rw [show rdRl.one.canon ⟨⟨a1,a2,a3,a4⟩,⟨b1,b2,b3,b4⟩,⟨e,s,o,st,ap⟩,k⟩ = [.agg [.int .i64 a1,.int .i64 a2,.int .i64 a3,.int .i64 a4,.int .i64 b1,.int .i64 b2,.int .i64 b3,.int .i64 b4,.int .i64 e,.int .i64 s,.dat o,.int .i64 st,.int .i64 ap,.dat k]] from rfl,nxt_in]
 show Tree.holds _ _ (RetD w H fun ds=>.tup [.agg (cyL (ds 0) (ds 1) (nextRl (RlD.rl ⟨⟨a1,a2,a3,a4⟩,⟨b1,b2,b3,b4⟩,⟨e,s,o,st,ap⟩,k⟩)).1),.bool (nextRl (RlD.rl ⟨⟨a1,a2,a3,a4⟩,⟨b1,b2,b3,b4⟩,⟨e,s,o,st,ap⟩,k⟩)).2]) _
 obtain ⟨h1,h2,h3,h4,h5⟩ := id hx
 simp only at h1 h2 h3 h4 h5
 have no : ∀ {r : Cy × Bool},r = (zCy,false) → (Tree.ret (.tup [.agg [.int .i64 0,.int .i64 0,.int .i64 0,.nils,.nils],.lb false])).holds Try.prog ⟨w,H⟩ (RetD w H fun ds=>.tup [.agg (cyL (ds 0) (ds 1) r.1),.bool r.2]) := fun h=>by
  subst h
  obtain ⟨p,q,hs⟩ := cyL_sel (b := 0) (n := 0) (t := 0) stands_nils stands_nils (c := zCy) rfl
  exact ret_se (fun i=>match i with | 0=>p | _=>q) (se_tup (.cons (se_agg hs) (.cons (se_lb rfl) .nil)))
 refine ⟨hx,fun c1=>no ?_,fun c1=>?_⟩
 ·have c1 : ckRl (RlD.rl ⟨⟨a1,a2,a3,a4⟩,⟨b1,b2,b3,b4⟩,⟨e,s,o,st,ap⟩,k⟩) ≠ 0 := by simpa using c1
  unfold nextRl; rw [if_pos c1]
 have c1 : ckRl (RlD.rl ⟨⟨a1,a2,a3,a4⟩,⟨b1,b2,b3,b4⟩,⟨e,s,o,st,ap⟩,k⟩) = 0 := by simpa using c1
 have hdef : nextRl (RlD.rl ⟨⟨a1,a2,a3,a4⟩,⟨b1,b2,b3,b4⟩,⟨e,s,o,st,ap⟩,k⟩) = nextL (behindL (k.to Cy) st) := by
  unfold nextRl; rw [if_neg (by simp [c1])]; rfl
 rw [hdef]
 show Runs _ _ (nxA ⟨⟨a1,a2,a3,a4⟩,⟨b1,b2,b3,b4⟩,⟨e,s,o,st,ap⟩,k⟩ st) _
 apply exec_sound ctNxOk 400
 rw [nxA_go]
 refine vecIn_to 9 65 5 none 5 (nxL ⟨⟨a1,a2,a3,a4⟩,⟨b1,b2,b3,b4⟩,⟨e,s,o,st,ap⟩,k⟩ st (.slc none 5 []) 0) (by kernel_rfl) ?_
 apply beh_loop false h2 h4 h5 st (fun r j=>nxL ⟨⟨a1,a2,a3,a4⟩,⟨b1,b2,b3,b4⟩,⟨e,s,o,st,ap⟩,k⟩ st r j)
 ·exact fun _ _=>rfl
 ·intro r j hh
  apply exec_sound ctNxOk 400
  rw [nxL_go]
  exact hh
 ·intro r hr hz hto
  have rl := D.Is.length (α := Cy) r
  rw [← hto]
  refine ⟨fun d1=>no ?_,fun d1=>?_⟩
  ·have d1 : r.to Cy = [] := List.eq_nil_of_length_eq_zero (by have := of_decide_eq_true d1; omega)
   rw [d1]; rfl
  ·have d1 : 0 < (r.to Cy).length := by have := of_decide_eq_false d1; omega
   obtain ⟨q1,q2,q3,q4⟩ := cy_cell hr d1
   refine ⟨⟨by omega,by omega,hz⟩,⟨q1,hz⟩,?_⟩
   have e0 := head_match (l := r.to Cy) d1
   rw [e0,q4]
   obtain ⟨p,q,hs⟩ := cyL_sel (b := r.getInt 0 0) (n := r.getInt 0 1) (t := r.getInt 0 2) (stands_dat q2 rfl) (stands_dat q3 rfl) (c := CyD.cy ⟨r.getInt 0 0,r.getInt 0 1,r.getInt 0 2,r.cell 0 3,r.cell 0 4⟩) rfl
   exact ret_se (fun i=>match i with | 0=>p | _=>q) (se_tup (.cons (se_agg hs) (.cons (se_lb rfl) .nil)))
def lnS (x : RlD) : List SV := [.int .i64 x.src.e,.int .i64 x.src.s,.dat x.src.d,.int .i64 x.src.st,.int .i64 x.src.ap]
def clnB (x : RlD) (q md : D) (sup : Bool) (n : Int) : Conf := Conf.mk (bhTop n) [SFrm.mk 31 (some (oA 31 [1,1,1,1,1,1,0],[5,6,7,8])) (some 42) [Item.code (cA 31 [1,1,1,1,1,1,1])] (mkJ 0 [(4,.ptr 1 0),(6,.ptr 0 0),(7,.ptr 2 0),(8,.dat md),(9,.bool sup),(38,.ptr 0 0)] 0 60)]
 [(0,OBlk.cells 115 (rlV x (.dat x.src.d) (.vec 3))),(1,OBlk.cells 37 rlZ),(2,OBlk.cells 34 (lnS x)),(3,.arr 65 q)]
def clnL (x : RlD) (q md : D) (sup : Bool) (n : Int) (r : D) (j : Int) : Conf := Conf.mk (bhLop n (.vec 1) (q.len : Int) j) [SFrm.mk 31 (some (oA 31 [1,1,1,1,1,1,0],[5,6,7,8])) (some 42) [Item.code (cA 31 [1,1,1,1,1,1,1])] (mkJ 0 [(4,.ptr 2 0),(6,.ptr 3 0),(7,.ptr 4 0),(8,.dat md),(9,.bool sup),(38,.ptr 3 0)] 0 60)]
 [(0,.arr 65 r),(1,.arr 65 q),(2,OBlk.cells 37 rlZ),(3,OBlk.cells 115 (rlV x (.dat x.src.d) (.vec 1))),(4,OBlk.cells 34 (lnS x))]
section
variable (d s o k p q md r : D) (b : Nat) (sup : Bool) (n j a a1 a2 a3 a4 b1 b2 b3 b4 e si st ap : Int)
theorem clnB_go : exec Try.prog ctAp 400 (clnB ⟨⟨a1,a2,a3,a4⟩,⟨b1,b2,b3,b4⟩,⟨e,si,o,st,ap⟩,k⟩ q md sup n) =
 Tree.leaf
 (Conf.mk
 (SFrm.mk 63 none none
 [Item.inLoop (cA 63 [1,1,0,1,0,0]),Item.inBlock 0,Item.code (cA 63 [1,1,1])]
 (mkJ 1
 [(1,.int .i64 n),(5,.nils),(12,.vec 0),(13,.int .i64 (↑(D.len q) : Int)),
 (14,.int .i64 0)]
 0 29))
 [SFrm.mk 31 (some (oA 31 [1,1,1,1,1,1,0],[5,6,7,8])) (some 42)
 [Item.code (cA 31 [1,1,1,1,1,1,1])]
 (mkJ 0 [(4,.ptr 1 0),(6,.ptr 2 0),(7,.ptr 3 0),(8,.dat md),(9,.bool sup),(38,.ptr 2 0)] 0
 60)]
 [(0,OBlk.arr 65 q),
 (1,
 OBlk.cells 37
 [.int .i64 0,.int .i64 0,.int .i64 0,.int .i64 0,.int .i64 0,
 .int .i64 0,.int .i64 0,.int .i64 0,.int .i64 0,
 .int .i64 0,.nils,.int .i64 0,.int .i64 0,.nils]),
 (2,
 OBlk.cells 115
 [.int .i64 a1,.int .i64 a2,.int .i64 a3,.int .i64 a4,
 .int .i64 b1,.int .i64 b2,.int .i64 b3,.int .i64 b4,
 .int .i64 e,.int .i64 si,.dat o,.int .i64 st,.int .i64 ap,
 .vec 0]),
 (3,
 OBlk.cells 34
 [.int .i64 e,.int .i64 si,.dat o,.int .i64 st,.int .i64 ap])]) := by kernel_rfl
theorem clnL_go : 
 let z1 := (SFrm.mk 63 none none [Item.inLoop (cA 63 [1,1,0,1,0,0]),Item.inBlock 0,Item.code (cA 63 [1,1,1])] (mkJ 1 [(1,.int .i64 n),(5,.vec 0),(12,.vec 1),(13,.int .i64 (↑(D.len q) : Int)),(14,.int .i64 (IntKind.wrap .i64 (j + 1)))] 0 29))
 let z2 : List SV := [.int .i64 a1,.int .i64 a2,.int .i64 a3,.int .i64 a4,.int .i64 b1,.int .i64 b2,.int .i64 b3,.int .i64 b4,.int .i64 e,.int .i64 si,.dat o,.int .i64 st,.int .i64 ap,.vec 1]
 let z3 : List SV := [.int .i64 0,.int .i64 0,.int .i64 0,.int .i64 0,.int .i64 0,.int .i64 0,.int .i64 0,.int .i64 0,.int .i64 0,.int .i64 0,.nils,.int .i64 0,.int .i64 0,.nils]
 let z4 := (D.getInt q (Int.toNat j) 2)
 let z5 := (D.getInt q (Int.toNat j) 1)
 let z6 := (D.getInt q (Int.toNat j) 0)
 let z7 := (D.to Int (D.cell q (Int.toNat j) 3))
 let z8 := (D.to Wt (D.cell q (Int.toNat j) 4))
 let z9 := (mkJ 0 [(4,.ptr 2 0),(6,.ptr 3 0),(7,.ptr 4 0),(8,.dat md),(9,.bool sup),(38,.ptr 3 0)] 0 60)
 let z10 : List SV := [.int .i64 e,.int .i64 si,.dat o,.int .i64 st,.int .i64 ap]
 exec Try.prog ctAp 600 (unroll (clnL ⟨⟨a1,a2,a3,a4⟩,⟨b1,b2,b3,b4⟩,⟨e,si,o,st,ap⟩,k⟩ q md sup n r j)) =
 Tree.br (decide (j < (↑(D.len q) : Int))) (.need (0 ≤ j ∧ j < (↑(D.len q) : Int) ∧ D.sz q = 5) (.need (D.HasCells q (Int.toNat j) 0 [FT.int .i64,FT.int .i64,FT.int .i64,FT.slc,FT.slc] ∧ D.sz q = 5)
 (.br (decide (D.getInt q (Int.toNat j) 1 > n)) (.need (CyD.Ok (CyD.mk z6 z5 z4 (D.cell q (Int.toNat j) 3) (D.cell q (Int.toNat j) 4))) (.all fun hs=>.all fun hs_1=>.need (D.sz r = 5 ∧ D.Fits (D.slc
 (D.hd (hs_1 0 0)) 5 [[D.int .i64 z6,D.int .i64 z5,D.int .i64 z4,D.like (hs 0 0) z7,D.like (hs 0 1) z8]]) 5 ∧ (D.len r + D.len (D.slc (D.hd (hs_1 0 0)) 5 [[D.int .i64 z6,D.int .i64 z5,D.int .i64 z4,D.like
 (hs 0 0) z7,D.like (hs 0 1) z8]])) * 72 ≤ 140737488355328 ∧ D.len r + D.len (D.slc (D.hd (hs_1 0 0)) 5 [[D.int .i64 z6,D.int .i64 z5,D.int .i64 z4,D.like (hs 0 0) z7,D.like (hs 0 1) z8]]) ≤ 9223372036854775807)
 (.all fun hs_2=>.leaf (Conf.mk z1 [SFrm.mk 31 (some (oA 31 [1,1,1,1,1,1,0],[5,6,7,8])) (some 42) [Item.code (cA 31 [1,1,1,1,1,1,1])] z9] [(0,OBlk.arr 65 (D.slc (D.hd (hs_2 0 0)) 5 (List.append
 (D.rows r) (D.rows (D.slc (D.hd (hs_1 0 0)) 5 [[D.int .i64 z6,D.int .i64 z5,D.int .i64 z4,D.like (hs 0 0) z7,D.like (hs 0 1) z8]]))))),(1,OBlk.arr 65 q),(2,OBlk.cells 37 z3),(3,OBlk.cells 115 z2),
 (4,OBlk.cells 34 z10)])))) (.leaf (Conf.mk z1 [SFrm.mk 31 (some (oA 31 [1,1,1,1,1,1,0],[5,6,7,8])) (some 42) [Item.code (cA 31 [1,1,1,1,1,1,1])] z9] [(0,OBlk.arr 65 r),(1,OBlk.arr 65 q),
 (2,OBlk.cells 37 z3),(3,OBlk.cells 115 z2),(4,OBlk.cells 34 z10)]))))) (.br sup (.ret (SV.tup [.agg [.int .i64 e,.int .i64 a2,.int .i64 a3,.int .i64 a4,.int .i64 e,.int .i64 b2,.int .i64 b3,.int .i64 b4,.int .i64 e,.int .i64 si,.dat o,.int .i64 st,.int .i64 ap,.nils],.dat md]))
 (.ret (SV.tup [.agg [.int .i64 a1,.int .i64 a2,.int .i64 a3,.int .i64 a4,.int .i64 b1,.int .i64 b2,.int .i64 b3,.int .i64 b4,.int .i64 e,.int .i64 si,.dat o,.int .i64 st,.int .i64 ap,.dat r],.dat md]))) := by
 intros; kernel_rfl
end
end Sv
end
noncomputable section
open Go Go.Proofs Sx
namespace Sx
theorem ret_rl2 {P : Program} {w : World} {H : HV} {a b c d e f g h i j k l : Int} {X Y Z : SV} {os : List Int} {ks : List Cy} {ms : List Msg} {r : Rl × List Msg} (hx : Stands Int X os) (hy : Stands Cy Y ks) (hz : Stands Msg Z ms) (hr : r = (⟨⟨a,b,c,d⟩,⟨e,f,g,h⟩,⟨i,j,os,k,l⟩,ks⟩,ms)) :
  (Tree.ret (.tup [.agg [.int .i64 a,.int .i64 b,.int .i64 c,.int .i64 d,.int .i64 e,.int .i64 f,.int .i64 g,.int .i64 h,.int .i64 i,.int .i64 j,X,.int .i64 k,.int .i64 l,Y],Z])).holds P ⟨w,H⟩ (RetD w H fun ds=>.tup [.agg (rlL (ds 0) (ds 1) r.1),.dat ((ds 2).like r.2)]) := by
 subst hr
 obtain ⟨p,q,hs⟩ := rlL_sel (a := a) (b := b) (c := c) (d := d) (e := e) (f := f) (g := g) (h := h) (i := i) (j := j) (k := k) (l := l) hx hy rfl
 obtain ⟨z,hz⟩ := hz.se
 exact ret_se (fun i=>match i with | 0=>p | 1=>q | _=>z) (se_tup (.cons (se_agg hs) (.cons hz .nil)))
end Sx
namespace Sv
theorem cln_loop {H : HV} {w : World} {a1 a2 a3 a4 b1 b2 b3 b4 e s st ap n : Int} {o k q md : D} {sup : Bool} {ks : List Cy} {os : List Int} {ms : List Msg} {r : Rl × List Msg} (q1 : q.Is Cy) (q3 : q.to Cy = ks) (hl : ks.length ≤ 1048576) (h5 : ∀ c,c ∈ ks → CyOk c) (ho : Stands Int (.dat o) os) (hm : Stands Msg (.dat md) ms)
  (hr1 : sup = true → r = (⟨⟨e,a2,a3,a4⟩,⟨e,b2,b3,b4⟩,⟨e,s,os,st,ap⟩,[]⟩,ms)) (hr2 : sup = false → r = (⟨⟨a1,a2,a3,a4⟩,⟨b1,b2,b3,b4⟩,⟨e,s,os,st,ap⟩,behindL ks n⟩,ms)) :
  Runs Try.prog ⟨w,H⟩ (clnB ⟨⟨a1,a2,a3,a4⟩,⟨b1,b2,b3,b4⟩,⟨e,s,o,st,ap⟩,k⟩ q md sup n) (RetD w H fun ds=>.tup [.agg (rlL (ds 0) (ds 1) r.1),.dat ((ds 2).like r.2)]) := by
 have ql := D.Is.length (α := Cy) q
 have hql : q.len ≤ 1048576 := by rw [ql,q3]; omega
 apply exec_sound ctApOk 400
 rw [clnB_go]
 refine vecIn_to 9 65 5 none 5 (clnL ⟨⟨a1,a2,a3,a4⟩,⟨b1,b2,b3,b4⟩,⟨e,s,o,st,ap⟩,k⟩ q md sup n (.slc none 5 []) 0) (by kernel_rfl) ?_
 apply beh_loop true q1 hql (by rw [q3]; exact h5) n (fun r j=>clnL ⟨⟨a1,a2,a3,a4⟩,⟨b1,b2,b3,b4⟩,⟨e,s,o,st,ap⟩,k⟩ q md sup n r j)
 ·exact fun _ _=>rfl
 ·intro r j hh
  apply exec_sound ctApOk 600
  rw [clnL_go]
  exact hh
 ·intro y hy hz hto
  rw [q3] at hto
  exact ⟨fun c=>ret_rl2 ho stands_nils hm (hr1 c),fun c=>ret_rl2 ho (stands_dat hy hto) hm (hr2 c)⟩
theorem lawCln : Law Try.prog 31 ((rdRl.two rdMsg).sp spLearnRl) := by
 refine law_in _ (by kernel_rfl) fun H w ⟨⟨⟨a1,a2,a3,a4⟩,⟨b1,b2,b3,b4⟩,⟨e,s,o,st,ap⟩,k⟩,⟨mk,mf,mt,mn,mv,me,mb,ml⟩⟩ hok hp=>?_
 have hx := hp _ (List.mem_singleton.2 rfl)
 apply goS_sound ctApOk (fun _=>false) [(62,1)] 400
 rw [show (rdRl.two rdMsg).canon (⟨⟨a1,a2,a3,a4⟩,⟨b1,b2,b3,b4⟩,⟨e,s,o,st,ap⟩,k⟩,⟨mk,mf,mt,mn,mv,me,mb,ml⟩) = [.agg [.int .i64 a1,.int .i64 a2,.int .i64 a3,.int .i64 a4,.int .i64 b1,.int .i64 b2,.int .i64 b3,.int .i64 b4,.int .i64 e,.int .i64 s,.dat o,.int .i64 st,.int .i64 ap,.dat k],.agg [.int .i64 mk,.int .i64 mf,.int .i64 mt,.int .i64 mn,.int .i64 mv,.int .i64 me,.dat mb,.dat ml]] from rfl,cln_in]
 show Tree.holds _ _ (RetD w H fun ds=>.tup [.agg (rlL (ds 0) (ds 1) (learnRl (RlD.rl ⟨⟨a1,a2,a3,a4⟩,⟨b1,b2,b3,b4⟩,⟨e,s,o,st,ap⟩,k⟩) (MsgD.msg ⟨mk,mf,mt,mn,mv,me,mb,ml⟩)).1),.dat ((ds 2).like (learnRl (RlD.rl ⟨⟨a1,a2,a3,a4⟩,⟨b1,b2,b3,b4⟩,⟨e,s,o,st,ap⟩,k⟩) (MsgD.msg ⟨mk,mf,mt,mn,mv,me,mb,ml⟩)).2)]) _
 obtain ⟨h1,h2,h3,h4,h5⟩ := id hx
 simp only at h1 h2 h3 h4 h5
 refine ⟨hx,fun c1=>ret_rl2 (stands_self h1) (stands_self h2) stands_nils ?_,fun c1=>?_⟩
 ·have c1 : ckRl (RlD.rl ⟨⟨a1,a2,a3,a4⟩,⟨b1,b2,b3,b4⟩,⟨e,s,o,st,ap⟩,k⟩) ≠ 0 := by simpa using c1
  unfold learnRl; rw [if_pos c1]; rfl
 have c1 : ckRl (RlD.rl ⟨⟨a1,a2,a3,a4⟩,⟨b1,b2,b3,b4⟩,⟨e,s,o,st,ap⟩,k⟩) = 0 := by simpa using c1
 obtain ⟨_,_,_,hf⟩ := ck_range c1
 have hmin : ∀ c,c ∈ k.to Cy → c.number > -9223372036854775808 := fun c hc=>by
  have := cy_num (ck_cy hf c hc); omega
 have kl := D.Is.length (α := Cy) k
 refine runs_frame (Φ := bgPhi ⟨⟨a1,a2,a3,a4⟩,⟨b1,b2,b3,b4⟩,⟨e,s,o,st,ap⟩,k⟩) (top := bgC ⟨⟨a1,a2,a3,a4⟩,⟨b1,b2,b3,b4⟩,⟨e,s,o,st,ap⟩,k⟩) bgC_pure (fun kx hk=>?_) (fun H w _=>bgRuns hx hmin) fun v m hv=>?_
 ·have h : (SV.keysL (mkJ 0 [(3,SV.ptr 0 0),(4,SV.ptr 1 0)] 0 60) ++ ((([] : List SFrm).flatMap fun f=>SV.keysL f.tmps) ++ Mem.named [(0,OBlk.cells 72 [.int .i64 mk,.int .i64 mf,.int .i64 mt,.int .i64 mn,.int .i64 mv,.int .i64 me,SV.dat mb,SV.dat ml]),(1,OBlk.cells 37 rlZ)])).all (fun k=>decide (k < 500)) = true := by kernel_rfl
  exact of_decide_eq_true (List.all_eq_true.1 h kx hk)
 ·obtain ⟨rfl,p,q,rfl,⟨p1,p2,p3⟩,q1,q2,q3⟩ := hv
  simp only at q3 p3
  show Runs _ _ (clnA ⟨⟨a1,a2,a3,a4⟩,⟨b1,b2,b3,b4⟩,⟨e,s,o,st,ap⟩,k⟩ p q mk mf mt mn mv me mb ml) _
  apply goS_sound ctApOk (fun _=>false) [(63,8)] 400
  rw [clnA_go]
  have eo : SrcD.src ⟨e,s,p,st,ap⟩ = Rl.src (RlD.rl ⟨⟨a1,a2,a3,a4⟩,⟨b1,b2,b3,b4⟩,⟨e,s,o,st,ap⟩,k⟩) := by
   show (⟨e,s,p.to Int,st,ap⟩ : Src) = ⟨e,s,o.to Int,st,ap⟩
   rw [p3]
  rw [eo]
  refine fun hs=>⟨p1,fun _ _=>?_⟩
  generalize hL : learn (Rl.src (RlD.rl ⟨⟨a1,a2,a3,a4⟩,⟨b1,b2,b3,b4⟩,⟨e,s,o,st,ap⟩,k⟩)) (MsgD.msg ⟨mk,mf,mt,mn,mv,me,mb,ml⟩) = L
  obtain ⟨⟨le,ls,lo,lst,lap⟩,lm⟩ := L
  have hdef : learnRl (RlD.rl ⟨⟨a1,a2,a3,a4⟩,⟨b1,b2,b3,b4⟩,⟨e,s,o,st,ap⟩,k⟩) (MsgD.msg ⟨mk,mf,mt,mn,mv,me,mb,ml⟩) = if le > e then (⟨⟨le,a2,a3,a4⟩,⟨le,b2,lst,lap⟩,⟨le,ls,lo,lst,lap⟩,[]⟩,lm) else (⟨⟨a1,a2,a3,a4⟩,⟨b1,b2,lst,lap⟩,⟨le,ls,lo,lst,lap⟩,behindL (k.to Cy) lap⟩,lm) := by
   unfold learnRl
   rw [if_neg (by simp [c1])]
   simp only [hL]
   rfl
  rw [hdef]
  refine cln_loop (k := k) (n := lap) q1 q3 (by omega) h5 stands_like stands_like (fun c=>?_) (fun c=>?_)
  ·rw [if_pos (of_decide_eq_true c)]
  ·rw [if_neg (of_decide_eq_false c)]
end Sv
end
noncomputable section
open Go Go.Proofs Sx
namespace Sv
theorem lawNewX : Law Try.prog 14 (rdQuad.sp spNewX) :=
 law_tab lawNew _ _ _ _ fun b h=>⟨_,_,rfl,(fun _ p hp=>by cases hp),fun ds=>⟨dsR ds (newRl b.1 b.2.1 b.2.2.1 b.2.2.2).1 [],by simp only [dsR,rlP_like]⟩⟩
theorem lawAplX : Law Try.prog 44 ((rdRl.two rdCy).sp spAplX) :=
 law_tab lawApl _ _ _ _ fun b h=>⟨_,_,rfl,fun _ p hp=>by
  rw [List.mem_singleton.1 hp]
  simp only [Bool.and_eq_true] at h
  exact ⟨rlB_is h.1,cyB_is h.2⟩,fun ds=>⟨dsR ds (applyRl b.1.rl b.2.cy).1 (applyRl b.1.rl b.2.cy).2.1,by simp only [dsR,rlP_like,pMs,plain_like]⟩⟩
theorem lawNxtX : Law Try.prog 30 (rdRl.one.sp spNxtX) :=
 law_tab lawNxt _ _ _ _ fun b h=>⟨_,_,rfl,fun _ p hp=>by rw [List.mem_singleton.1 hp]; exact rlB_is h,fun ds=>⟨fun i=>match i with | 0=>(ds 0).like (nextRl b.rl).1.pos | _=>(ds 1).like (nextRl b.rl).1.wr,by simp only [cyP_like]⟩⟩
theorem lawClnX : Law Try.prog 31 ((rdRl.two rdMsg).sp spLrnX) :=
 law_tab lawCln _ _ _ _ fun b h=>⟨_,_,rfl,fun _ p hp=>by rw [List.mem_singleton.1 hp]; exact rlB_is h,fun ds=>⟨dsR ds (learnRl b.1.rl b.2.msg).1 (learnRl b.1.rl b.2.msg).2,by simp only [dsR,rlP_like,pMs,plain_like]⟩⟩
theorem lawRstX : Law Try.prog 21 ((rdRl.three rdInt rdInt).sp spRstX) :=
 law_tab lawRst _ _ _ _ fun b h=>⟨_,_,rfl,fun _ p hp=>by rw [List.mem_singleton.1 hp]; exact rlB_is h,fun ds=>⟨dsR ds (restartRl b.1.rl b.2.1 b.2.2).1 [],by simp only [dsR,rlP_like]⟩⟩
theorem lawLagX : Law Try.prog 19 (rdRl.one.sp spLagX) :=
 law_tab lawLag _ _ _ _ fun b h=>⟨_,_,rfl,fun _ p hp=>by rw [List.mem_singleton.1 hp]; exact rlB_is h,rfl⟩
theorem lawEqIS : Law Try.prog 47 ((rdD.two rdD).sp spIntsS) :=
 law_sure lawEqI fun b=>⟨_,_,_,rfl,rfl,fun hp=>by
  obtain ⟨h1,h2,h3,h4⟩ := hp _ (List.mem_singleton.2 rfl)
  exact ⟨fun p hp'=>by rw [List.mem_singleton.1 hp']; exact ⟨h1,h2,h3⟩,decide_eq_true h4⟩⟩
def ctTX : Ctrs := [(14,ctrOf (rdQuad.sp spNewX)),(44,ctrOf ((rdRl.two rdCy).sp spAplX)),(30,ctrOf (rdRl.one.sp spNxtX)),(31,ctrOf ((rdRl.two rdMsg).sp spLrnX)),(21,ctrOf ((rdRl.three rdInt rdInt).sp spRstX)),(19,ctrOf (rdRl.one.sp spLagX)),(47,ctrOf ((rdD.two rdD).sp spIntsS))]
theorem ctTXOk : Ctrs.Ok Try.prog ctTX := by
 intro x hx
 simp only [ctTX,List.mem_cons,List.not_mem_nil,or_false] at hx
 rcases hx with rfl | rfl | rfl | rfl | rfl | rfl | rfl
 ·exact ctrOf_ok lawNewX
 ·exact ctrOf_ok lawAplX
 ·exact ctrOf_ok lawNxtX
 ·exact ctrOf_ok lawClnX
 ·exact ctrOf_ok lawRstX
 ·exact ctrOf_ok lawLagX
 ·exact ctrOf_ok lawEqIS
section
variable (b n d k v : Int)
theorem sml_in : exec Try.prog [] 300 (entry Try.prog 45 [.int .i64 b,.int .i64 n,.int .u8 d]) =
 Tree.need ((4 : Int) ≠ 0)
 (.all fun hs =>
 .all fun hs_1 =>
 .ret
 (.agg
 [.int .i64 b,.int .i64 n,.int .i64 0,.nils,
 .dat
 (D.slc (D.hd (hs_1 0 0)) 3
 [[D.int .i64 0,D.int .i64 (Int.tmod n 4),
 D.slc (D.hd (hs 0 0)) 8
 [[D.int .u8 (IntKind.wrap .u8 n),D.int .u8 d,D.int .u8 0,
 D.int .u8 0,D.int .u8 0,D.int .u8 0,D.int .u8 0,
 D.int .u8 0]]]])])) := by kernel_rfl
theorem asw_in : exec Try.prog [] 300 (entry Try.prog 46 [.int .i64 k,.int .i64 v]) =
 Tree.ret
 (.agg
 [.int .i64 k,.int .i64 2,.int .i64 0,.int .i64 0,.int .i64 v,
 .int .i64 1,.nils,.nils]) := by kernel_rfl
end
end Sv
end
noncomputable section
open Go Go.Proofs Sx
namespace Sx
def rdB8 : Rd1 Int where
 read x := match x with | .int .u8 n=>some n | _=>none
 canon n := .int .u8 n
 right H E x b h hok := by
  split at h
  ·cases h; exact ⟨rfl,trivial⟩
  ·cases h
def smallC (b n d : Int) : Cy := ⟨b,n,0,[],[⟨0,Int.tmod n 4,[⟨IntKind.u8.wrap n,d,0,0,0,0,0,0⟩]⟩]⟩
def spSmL (x : Int × Int × Int) : SpecR := .data [] fun ds=>.agg (cyL (ds 0) (ds 1) (smallC x.1 x.2.1 x.2.2))
def spSmX (x : Int × Int × Int) : SpecR := .data [] fun ds=>.agg (cyP (ds 0) (ds 1) (smallC x.1 x.2.1 x.2.2))
def spAsw (x : Int × Int) : SpecR := .data [] fun _=>.agg [.int .i64 x.1,.int .i64 2,.int .i64 0,.int .i64 0,.int .i64 x.2,.int .i64 1,.nils,.nils]
end Sx
namespace Sv
theorem lawSml : Law Try.prog 45 ((rdInt.three rdInt rdB8).sp spSmL) := by
 refine law_in _ (by kernel_rfl) fun H w ⟨b,n,d⟩ hok hp=>?_
 apply exec_sound (noCtr _) 300
 rw [show (rdInt.three rdInt rdB8).canon (b,n,d) = [.int .i64 b,.int .i64 n,.int .u8 d] from rfl,sml_in]
 refine ⟨by decide,fun hs hs1=>?_⟩
 have hx : (D.slc (D.hd (hs 0 0)) 8 [[.int .u8 (IntKind.u8.wrap n),.int .u8 d,.int .u8 0,.int .u8 0,.int .u8 0,.int .u8 0,.int .u8 0,.int .u8 0]]).Is Sec := is_rows rfl fun r hr=>by
  rw [List.mem_singleton.1 hr]
  exact ⟨_,_,_,_,_,_,_,_,rfl⟩
 exact ret_cy stands_nils (stands_rows (α := Wt) rfl (wt_one 0 (Int.tmod n 4) hx)) rfl
theorem lawSmX : Law Try.prog 45 ((rdInt.three rdInt rdB8).sp spSmX) :=
 law_alt lawSml fun b=>⟨_,_,rfl,(fun _ p hp=>by cases hp),fun ds=>⟨fun i=>match i with | 0=>(ds 0).like (smallC b.1 b.2.1 b.2.2).pos | _=>(ds 1).like (smallC b.1 b.2.1 b.2.2).wr,by simp only [cyP_like]⟩⟩
theorem lawAsw : Law Try.prog 46 ((rdInt.two rdInt).sp spAsw) := by
 refine law_in _ (by kernel_rfl) fun H w ⟨k,v⟩ hok hp=>?_
 apply exec_sound (noCtr _) 300
 rw [show (rdInt.two rdInt).canon (k,v) = [.int .i64 k,.int .i64 v] from rfl,asw_in]
 exact ret_D (fun _=>default) (fun _ _=>rfl) (fun _ h=>h)
def ctTY : Ctrs := (45,ctrOf ((rdInt.three rdInt rdB8).sp spSmX)) :: (46,ctrOf ((rdInt.two rdInt).sp spAsw)) :: ctTX
theorem ctTYOk : Ctrs.Ok Try.prog ctTY := by
 intro x hx
 rcases List.mem_cons.1 hx with rfl | hx
 ·exact ctrOf_ok lawSmX
 ·rcases List.mem_cons.1 hx with rfl | hx
  ·exact ctrOf_ok lawAsw
  ·exact ctTXOk _ hx
end Sv
end
noncomputable section
open Go Go.Proofs Sx
namespace Sv
section
theorem awake_in : (execU Try.prog ctTY (fun _=>true) 900 (entry Try.prog 13 [])).dec =
 Tree.all fun hs =>
 .all fun hs =>
 .all fun hs =>
 .all fun hs =>
 .all fun hs =>
 .all fun hs_1 =>
 .all fun hs_2 =>
 .all fun hs_3 =>
 .all fun hs_4 =>
 .need
 ((0 : Int) ≤ 0 ∧
 0 < (↑(D.len (pMs (hs 2 2) [Msg.mk 10 0 2 5 0 1 [] []])) : Int) ∧
 D.sz (pMs (hs 2 2) [Msg.mk 10 0 2 5 0 1 [] []]) = 8)
 (.need (D.HasCell (pMs (hs 2 2) [Msg.mk 10 0 2 5 0 1 [] []]) 0 0 (FT.int .i64))
 (.need
 ((0 : Int) ≤ 0 ∧
 0 < (↑(D.len (pMs (hs 2 2) [Msg.mk 10 0 2 5 0 1 [] []])) : Int) ∧
 D.sz (pMs (hs 2 2) [Msg.mk 10 0 2 5 0 1 [] []]) = 8)
 (.need (D.HasCell (pMs (hs 2 2) [Msg.mk 10 0 2 5 0 1 [] []]) 0 3 (FT.int .i64))
 (.need
 ((0 : Int) ≤ 0 ∧ 0 < (↑(D.len (pC (hs_2 2 1) [xc2])) : Int) ∧ D.sz (pC (hs_2 2 1) [xc2]) = 5)
 (.need (D.HasCell (pC (hs_2 2 1) [xc2]) 0 1 (FT.int .i64))
 (.all fun hs =>
 .need
 (D.Is Int (pI (hs_3 0 0) [6]) ∧
 D.Is Int (D.slc (D.hd (hs 0 0)) 1 [[D.int .i64 6]]) ∧
 D.len (pI (hs_3 0 0) [6]) ≤ 1048576 ∧
 D.to Int (pI (hs_3 0 0) [6]) =
 D.to Int (D.slc (D.hd (hs 0 0)) 1 [[D.int .i64 6]]))
 (.ret (.lb true)))))))) := by kernel_rfl
end
end Sv
end
noncomputable section
open Go Go.Proofs Sx
namespace Sx
end Sx
namespace Sv
section
variable (d s o k r o' k' : D) (b : Nat) (n j a a1 a2 a3 a4 b1 b2 b3 b4 e si st ap ep na a1' a2' a3' a4' b1' b2' b3' b4' e' si' st' ap' : Int)




end
end Sv
end
noncomputable section
open Go Go.Proofs Sx
namespace Sv
section
variable (d s o k r o' k' : D) (b : Nat) (n j a a1 a2 a3 a4 b1 b2 b3 b4 e si st ap ep na a1' a2' a3' a4' b1' b2' b3' b4' e' si' st' ap' : Int)
end
section
variable (e s st ap j n last k m e' s' st' ap' mk mf mt mn mv me mx xk xf xt xn xv xe : Int) (d d' mb ml xb xl : D) (o ms : D)
end

end Sv
end
noncomputable section
open Go Go.Proofs Sx
namespace Sx
end Sx
namespace Sv
end Sv
end
noncomputable section
open Go Go.Proofs Sx
namespace Sv
theorem lawAwk : Law Try.prog 13 (rdNone.sp spTrue) := by
 refine law_in _ (by kernel_rfl) fun H w _ hok hp=>?_
 refine dec_sound ctTYOk (fun _=>true) 900 (entry Try.prog 13 []) awake_in ?_
 refine fun _ _ _ _ hs _ hs2 hs3 _=>⟨⟨Int.le_refl _,Int.zero_lt_one,rfl⟩,⟨_,rfl⟩,⟨Int.le_refl _,Int.zero_lt_one,rfl⟩,⟨_,rfl⟩,⟨Int.le_refl _,Int.zero_lt_one,rfl⟩,⟨_,rfl⟩,fun _=>⟨⟨allInt_is rfl,allInt_is rfl,Nat.le_of_ble_eq_true rfl,rfl⟩,ret_lbt⟩⟩
def sC (o k : D) (r : Rl) (nv : D) (f : Tgt) (im : D) (x y z : SV) (n : Int) : List SV := rlL o k r ++ [.dat nv,.mapp 100001,.int .i64 f.epoch,.int .i64 f.site,.int .i64 f.stored,.int .i64 f.applied,.dat im,x,y,z,.int .i64 n]
def sysM (o k nv m im tf tn : D) (r : Rl) (far : Tgt) (num : Int) (sv : SV) (bl : Mem) : Mem :=
 (100000,.cells 62 (rlL o k r ++ [.dat nv,.mapp 100001,.int .i64 far.epoch,.int .i64 far.site,.int .i64 far.stored,.int .i64 far.applied,.dat im,sv,.vec 1,.vec 2,.int .i64 num])) ::
 (100001,.mapD .i64 false [.slc] m) :: (1,.arr 72 tf) :: (2,.arr 72 tn) :: bl
def sysE (f : FuncId) (n : Nat) (args : List (Nat × SV)) (m : Mem) : Conf := ⟨SFrm.mk f none none [Item.code (cA f [])] (mkJ 1 args 0 n),[],m⟩
def ctAS : Ctrs := [(45,ctrOf ((rdInt.three rdInt rdB8).sp spSmL)),(44,ctrOf ((rdRl.two rdCy).sp spApplyRl)),(25,ctrOf ((rdD.two rdCy).sp spCyA))]
section
variable (o k nv m im st tf tn : D) (r : Rl) (far : Tgt) (lo n : Nat) (num w d : Int)
theorem apA_in : 
 let z1 := (IntKind.wrap .i64 (IntKind.wrap .i64 (num + 1) + Int.tmod w 2))
 let z2 := (RlD.mk (Tgt.mk (Tgt.epoch (Rl.near r)) (Tgt.site (Rl.near r)) (Tgt.stored (Rl.near r)) (Tgt.applied (Rl.near r))) (Tgt.mk (Tgt.epoch (Rl.far r)) (Tgt.site (Rl.far r)) (Tgt.stored (Rl.far r)) (Tgt.applied (Rl.far r))) (SrcD.mk (Src.epoch (Rl.src r)) (Src.site (Rl.src r)) (D.like o (Src.offered (Rl.src r))) (Src.stored (Rl.src r)) (Src.applied (Rl.src r))) (D.like k (Rl.kept r)))
 let z3 : Tree := (.leaf (Conf.mk (SFrm.mk 69 none none [Item.code (cA 69 [1,1,1,1,1,0,1,0,1]),Item.code (cA 69 [1,1,1,1,1,1])] (mkJ 0 [(6,.lb false)] 0 81)) [] [(2,OBlk.arr 65 st),(3,OBlk.arr 72 tf),(4,OBlk.arr 72 tn),(100000,OBlk.cells 62 (sC o k r nv far im (.view 2 5 lo n) (.vec 3) (.vec 4) z1)),(100001,OBlk.mapD .i64 false [FT.slc] m)]))
 execRS Try.prog ctAS [] 400 (sysE 69 81 [(0,.ptr 100000 0),(1,.int .i64 w),(2,.int .u8 d)] (sysM o k nv m im tf tn r far num (.view 0 5 lo n) [(0,.arr 65 st)])) =
 Tree.all fun hs=>.need ((2 : Int) ≠ 0) (.all fun hs_1=>.need (RlD.Ok z2 ∧ CyD.Ok (CyD.mk num z1 0 (D.like (hs 13 0) ([] : List Int)) (D.like (hs 13 1) [Wt.mk 0 (Int.tmod z1 4) [Sec.mk (IntKind.wrap .u8 z1) d 0 0 0 0 0 0]])))
 (.all fun hs_2=>.need (D.Is Vol nv ∧ D.len nv ≤ 1048576 ∧ CyD.Ok (CyD.mk num z1 0 (D.like (hs 13 0) ([] : List Int)) (D.like (hs 13 1) [Wt.mk 0 (Int.tmod z1 4) [Sec.mk (IntKind.wrap .u8 z1) d 0 0 0 0 0 0]])))
 (.br (Prod.snd (Prod.snd (applyRl (RlD.rl z2) (CyD.cy (CyD.mk num z1 0 (D.like (hs 13 0) ([] : List Int)) (D.like (hs 13 1) [Wt.mk 0 (Int.tmod z1 4) [Sec.mk (IntKind.wrap .u8 z1) d 0 0 0 0 0 0]]))))) != 0) z3
 (.br (Prod.snd (applyCy (D.to Vol nv) (CyD.cy (CyD.mk num z1 0 (D.like (hs 13 0) ([] : List Int)) (D.like (hs 13 1) [Wt.mk 0 (Int.tmod z1 4) [Sec.mk (IntKind.wrap .u8 z1) d 0 0 0 0 0 0]])))) != 0) z3 (.all fun hs_3=>.need
 (D.sz tf = 8 ∧ D.Fits (D.like (hs_1 5 2) (Prod.fst (Prod.snd (applyRl (RlD.rl z2) (CyD.cy (CyD.mk num z1 0 (D.like (hs 13 0) ([] : List Int)) (D.like (hs 13 1) [Wt.mk 0 (Int.tmod z1 4) [Sec.mk (IntKind.wrap .u8 z1) d 0 0 0 0 0 0]]))))))) 8 ∧
 (D.len tf + D.len (D.like (hs_1 5 2) (Prod.fst (Prod.snd (applyRl (RlD.rl z2) (CyD.cy (CyD.mk num z1 0 (D.like (hs 13 0) ([] : List Int)) (D.like (hs 13 1) [Wt.mk 0 (Int.tmod z1 4) [Sec.mk (IntKind.wrap .u8 z1) d 0 0 0 0 0 0]])))))))) * 96 ≤ 140737488355328 ∧ D.len tf + D.len
 (D.like (hs_1 5 2) (Prod.fst (Prod.snd (applyRl (RlD.rl z2) (CyD.cy (CyD.mk num z1 0 (D.like (hs 13 0) ([] : List Int)) (D.like (hs 13 1) [Wt.mk 0 (Int.tmod z1 4) [Sec.mk (IntKind.wrap .u8 z1) d 0 0 0 0 0 0]]))))))) ≤ 9223372036854775807)
 (.all fun hs_4=>.leaf (Conf.mk (SFrm.mk 69 none none [Item.code (cA 69 [1,1,1,1,1,0,1,0,1])] (mkJ 0 [(6,.lb true)] 0 81)) [] [(0,OBlk.arr 72 (D.slc (D.hd (hs_4 0 0)) 8 (List.append (D.rows tf)
 (D.rows (D.like (hs_1 5 2) (Prod.fst (Prod.snd (applyRl (RlD.rl z2) (CyD.cy (CyD.mk num z1 0 (D.like (hs 13 0) ([] : List Int)) (D.like (hs 13 1) [Wt.mk 0 (Int.tmod z1 4) [Sec.mk (IntKind.wrap .u8 z1) d 0 0 0 0 0 0]]))))))))))),
 (3,OBlk.arr 65 st),(4,OBlk.arr 72 tn),(100000,OBlk.cells 62 (sC (hs_1 5 0) (hs_1 5 1) (Prod.fst (applyRl (RlD.rl z2) (CyD.cy (CyD.mk num z1 0 (D.like (hs 13 0) ([] : List Int)) (D.like (hs 13 1) [Wt.mk 0
 (Int.tmod z1 4) [Sec.mk (IntKind.wrap .u8 z1) d 0 0 0 0 0 0]]))))) (D.like (hs_2 5 0) (Prod.fst (applyCy (D.to Vol nv) (CyD.cy (CyD.mk num z1 0 (D.like (hs 13 0) ([] : List Int)) (D.like (hs 13 1) [Wt.mk 0
 (Int.tmod z1 4) [Sec.mk (IntKind.wrap .u8 z1) d 0 0 0 0 0 0]])))))) far im (.view 3 5 lo n) (.vec 0) (.vec 4) z1)),(100001,OBlk.mapD .i64 false [FT.slc] (D.putKey m .i64 z1 [D.like (hs_2 5 0) (Prod.fst
 (applyCy (D.to Vol nv) (CyD.cy (CyD.mk num z1 0 (D.like (hs 13 0) ([] : List Int)) (D.like (hs 13 1) [Wt.mk 0 (Int.tmod z1 4) [Sec.mk (IntKind.wrap .u8 z1) d 0 0 0 0 0 0]])))))]))]))))))) := by
 intros; kernel_rfl
theorem apB_in : 
 let z1 := (IntKind.wrap .i64 (IntKind.wrap .i64 (num + 1) + Int.tmod w 2))
 let z2 := (RlD.mk (Tgt.mk (Tgt.epoch (Rl.near r)) (Tgt.site (Rl.near r)) (Tgt.stored (Rl.near r)) (Tgt.applied (Rl.near r))) (Tgt.mk (Tgt.epoch (Rl.far r)) (Tgt.site (Rl.far r)) (Tgt.stored (Rl.far r)) (Tgt.applied (Rl.far r))) (SrcD.mk (Src.epoch (Rl.src r)) (Src.site (Rl.src r)) (D.like o (Src.offered (Rl.src r))) (Src.stored (Rl.src r)) (Src.applied (Rl.src r))) (D.like k (Rl.kept r)))
 let z3 : Tree := (.leaf (Conf.mk (SFrm.mk 69 none none [Item.code (cA 69 [1,1,1,1,1,0,1,0,1]),Item.code (cA 69 [1,1,1,1,1,1])] (mkJ 0 [(6,.lb false)] 0 81)) [] [(2,OBlk.arr 72 tf),(3,OBlk.arr 72 tn),(100000,OBlk.cells 62 (sC o k r nv far im (.dat st) (.vec 2) (.vec 3) z1)),(100001,OBlk.mapD .i64 false [FT.slc] m)]))
 execRS Try.prog ctAS [] 400 (sysE 69 81 [(0,.ptr 100000 0),(1,.int .i64 w),(2,.int .u8 d)] (sysM o k nv m im tf tn r far num (.dat st) [])) =
 Tree.all fun hs=>.need ((2 : Int) ≠ 0) (.all fun hs_1=>.need (RlD.Ok z2 ∧ CyD.Ok (CyD.mk num z1 0 (D.like (hs 13 0) ([] : List Int)) (D.like (hs 13 1) [Wt.mk 0 (Int.tmod z1 4) [Sec.mk (IntKind.wrap .u8 z1) d 0 0 0 0 0 0]])))
 (.all fun hs_2=>.need (D.Is Vol nv ∧ D.len nv ≤ 1048576 ∧ CyD.Ok (CyD.mk num z1 0 (D.like (hs 13 0) ([] : List Int)) (D.like (hs 13 1) [Wt.mk 0 (Int.tmod z1 4) [Sec.mk (IntKind.wrap .u8 z1) d 0 0 0 0 0 0]])))
 (.br (Prod.snd (Prod.snd (applyRl (RlD.rl z2) (CyD.cy (CyD.mk num z1 0 (D.like (hs 13 0) ([] : List Int)) (D.like (hs 13 1) [Wt.mk 0 (Int.tmod z1 4) [Sec.mk (IntKind.wrap .u8 z1) d 0 0 0 0 0 0]]))))) != 0) z3
 (.br (Prod.snd (applyCy (D.to Vol nv) (CyD.cy (CyD.mk num z1 0 (D.like (hs 13 0) ([] : List Int)) (D.like (hs 13 1) [Wt.mk 0 (Int.tmod z1 4) [Sec.mk (IntKind.wrap .u8 z1) d 0 0 0 0 0 0]])))) != 0) z3 (.all fun hs_3=>.need
 (D.sz tf = 8 ∧ D.Fits (D.like (hs_1 5 2) (Prod.fst (Prod.snd (applyRl (RlD.rl z2) (CyD.cy (CyD.mk num z1 0 (D.like (hs 13 0) ([] : List Int)) (D.like (hs 13 1) [Wt.mk 0 (Int.tmod z1 4) [Sec.mk (IntKind.wrap .u8 z1) d 0 0 0 0 0 0]]))))))) 8 ∧
 (D.len tf + D.len (D.like (hs_1 5 2) (Prod.fst (Prod.snd (applyRl (RlD.rl z2) (CyD.cy (CyD.mk num z1 0 (D.like (hs 13 0) ([] : List Int)) (D.like (hs 13 1) [Wt.mk 0 (Int.tmod z1 4) [Sec.mk (IntKind.wrap .u8 z1) d 0 0 0 0 0 0]])))))))) * 96 ≤ 140737488355328 ∧ D.len tf + D.len
 (D.like (hs_1 5 2) (Prod.fst (Prod.snd (applyRl (RlD.rl z2) (CyD.cy (CyD.mk num z1 0 (D.like (hs 13 0) ([] : List Int)) (D.like (hs 13 1) [Wt.mk 0 (Int.tmod z1 4) [Sec.mk (IntKind.wrap .u8 z1) d 0 0 0 0 0 0]]))))))) ≤ 9223372036854775807)
 (.all fun hs_4=>.leaf (Conf.mk (SFrm.mk 69 none none [Item.code (cA 69 [1,1,1,1,1,0,1,0,1])] (mkJ 0 [(6,.lb true)] 0 81)) [] [(0,OBlk.arr 72 (D.slc (D.hd (hs_4 0 0)) 8 (List.append (D.rows tf)
 (D.rows (D.like (hs_1 5 2) (Prod.fst (Prod.snd (applyRl (RlD.rl z2) (CyD.cy (CyD.mk num z1 0 (D.like (hs 13 0) ([] : List Int)) (D.like (hs 13 1) [Wt.mk 0 (Int.tmod z1 4) [Sec.mk (IntKind.wrap .u8 z1) d 0 0 0 0 0 0]]))))))))))),
 (3,OBlk.arr 72 tn),(100000,OBlk.cells 62 (sC (hs_1 5 0) (hs_1 5 1) (Prod.fst (applyRl (RlD.rl z2) (CyD.cy (CyD.mk num z1 0 (D.like (hs 13 0) ([] : List Int)) (D.like (hs 13 1) [Wt.mk 0 (Int.tmod z1 4) [Sec.mk
 (IntKind.wrap .u8 z1) d 0 0 0 0 0 0]]))))) (D.like (hs_2 5 0) (Prod.fst (applyCy (D.to Vol nv) (CyD.cy (CyD.mk num z1 0 (D.like (hs 13 0) ([] : List Int)) (D.like (hs 13 1) [Wt.mk 0 (Int.tmod z1 4) [Sec.mk
 (IntKind.wrap .u8 z1) d 0 0 0 0 0 0]])))))) far im (.dat st) (.vec 0) (.vec 3) z1)),(100001,OBlk.mapD .i64 false [FT.slc] (D.putKey m .i64 z1 [D.like (hs_2 5 0) (Prod.fst (applyCy (D.to Vol nv) (CyD.cy
 (CyD.mk num z1 0 (D.like (hs 13 0) ([] : List Int)) (D.like (hs 13 1) [Wt.mk 0 (Int.tmod z1 4) [Sec.mk (IntKind.wrap .u8 z1) d 0 0 0 0 0 0]])))))]))]))))))) := by
 intros; kernel_rfl
end
end Sv
end
noncomputable section
open Go Go.Proofs Sx
namespace Sx
def likeC (d : D) (l : List Cy) : D := d.like l
def likeN (d : D) (l : List Int) : D := d.like l
def rlLC (o k : D) (r : Rl) : List SV := [.int .i64 r.near.epoch,.int .i64 r.near.site,.int .i64 r.near.stored,.int .i64 r.near.applied,.int .i64 r.far.epoch,.int .i64 r.far.site,.int .i64 r.far.stored,.int .i64 r.far.applied,
 .int .i64 r.src.epoch,.int .i64 r.src.site,.dat (likeN o r.src.offered),.int .i64 r.src.stored,.int .i64 r.src.applied,.dat (likeC k r.kept)]
def spNewR0 (x : Int × Int × Int × Int) : SpecR := .data [] fun ds=>.tup [.agg (rlLC (ds 0) (ds 1) (newRl x.1 x.2.1 x.2.2.1 x.2.2.2).1),.int .i64 (newRl x.1 x.2.1 x.2.2.1 x.2.2.2).2]
end Sx
namespace Sv
def ctLS : Ctrs := [(14,ctrOf (rdQuad.sp spNewR0)),(48,ctrOf ((rdInt.three rdInt rdInt).sp spNewT32)),(37,ctrOf (rdD.one.sp spNewI)),(13,ctrOf (rdNone.sp spTrue))]
section
variable (l : D) (ep : Int)

theorem ar_in : exec Try.prog ctLS 400 (entry Try.prog 8 [.dat l]) =
 Tree.all fun hs =>
 .all fun hs_1 =>
 .all fun hs_2 =>
 .need
 (D.Is Int (D.slc (D.hd (hs_2 0 0)) 1 [[D.int .i64 4]]) ∧
 D.len (D.slc (D.hd (hs_2 0 0)) 1 [[D.int .i64 4]]) ≤ 1048576)
 (.all fun hs_3 =>
 .br
 (!decide
 (IntKind.wrap .i64
 (IntKind.wrap .i64 (0 + 0) +
 sizesErr (D.to Int (D.slc (D.hd (hs_2 0 0)) 1 [[D.int .i64 4]]))) =
 0))
 (.br
 (decide
 (IntKind.wrap .i64
 (IntKind.wrap .i64 (0 + 0) +
 sizesErr (D.to Int (D.slc (D.hd (hs_2 0 0)) 1 [[D.int .i64 4]]))) =
 0))
 (.ret (.lb true)) (.ret (.lb false)))
 (.br (decide ((↑(D.len l) : Int) > 30))
 (.br
 (decide
 (IntKind.wrap .i64
 (IntKind.wrap .i64 (0 + 0) +
 sizesErr (D.to Int (D.slc (D.hd (hs_2 0 0)) 1 [[D.int .i64 4]]))) =
 0))
 (.ret (.lb true)) (.ret (.lb false)))
 (.leaf
 (Conf.mk
 (SFrm.mk 8 none none
 [Item.inLoop (cA 8 [1,1,1,0,1,0,0]),Item.inBlock 0,
 Item.code (cA 8 [1,1,1,1])]
 (mkJ 0
 [(3,.ptr 0 0),(25,.dat l),(26,.int .i64 (↑(D.len l) : Int)),
 (27,.int .i64 0)]
 0 137))
 []
 [(0,
 OBlk.cells 62
 [.int .i64 1,.int .i64 1,.int .i64 0,.int .i64 0,
 .int .i64 1,.int .i64 2,.int .i64 0,.int .i64 0,
 .int .i64 1,.int .i64 2,.dat (likeN (hs 0 0) []),.int .i64 0,
 .int .i64 0,.dat (likeC (hs 0 1) []),
 .dat
 (D.like (hs_3 0 0) (imgOf (D.to Int (D.slc (D.hd (hs_2 0 0)) 1 [[D.int .i64 4]])))),
 .mapp 1,.int .i64 1,.int .i64 2,.int .i64 0,
 .int .i64 0,
 .dat
 (D.like (hs_3 0 0) (imgOf (D.to Int (D.slc (D.hd (hs_2 0 0)) 1 [[D.int .i64 4]])))),
 .nils,.nils,.nils,.int .i64 0]),
 (1,
 OBlk.map
 [(.int .i64 0,
 .dat
 (D.like (hs_3 0 0)
 (imgOf (D.to Int (D.slc (D.hd (hs_2 0 0)) 1 [[D.int .i64 4]])))))])])))) := by kernel_rfl



end
end Sv
end
noncomputable section
open Go Go.Proofs Sx
namespace Sv
section
variable (l o k nv m im st tf tn : D) (r : Rl) (far : Tgt) (lo n : Nat) (num j : Int)
end
def backK (g : SFrm) (mm : Mem) : Conf := ⟨{ g with tmps := putS g.tmps g.await (.lb true),await := none },[],mm⟩
section
variable (l o k nv m im st tf tn : D) (r : Rl) (far : Tgt) (lo n : Nat) (num j : Int)
end
def ctAr : Ctrs := [(19,ctrOf (rdRl.one.sp spLagRl)),(29,ctrOf ((rdD.two rdD).sp spSameI)),(13,ctrOf (rdNone.sp spTrue))]
def arL (l : D) (j : Int) (mm : Mem) : Conf := Conf.mk (SFrm.mk 8 none none [Item.inLoop (cA 8 [1,1,1,0,1,0,0]),Item.inBlock 0,Item.code (cA 8 [1,1,1,1])] (mkJ 0 [(3,.ptr 100000 0),(25,.dat l),(26,.int .i64 (l.len : Int)),(27,.int .i64 j)] 0 137)) [] mm
section
variable (l o k nv m im st tf tn : D) (r : Rl) (far : Tgt) (lo n : Nat) (num j : Int)
theorem arA_go : execRE Try.prog ctAr [24] 400 (unroll (arL l j (sysM o k nv m im tf tn r far num (.view 0 5 lo n) [(0,.arr 65 st)]))) =
 Tree.br (decide (j < (↑(D.len l) : Int)))
 (.need (0 ≤ j ∧ j < (↑(D.len l) : Int) ∧ D.sz l = 3)
 (.need (D.HasCells l (Int.toNat j) 0 [FT.int .i64,FT.int .i64,FT.int .u8])
 (.leaf
 (Conf.mk
 (SFrm.mk 24 none none [Item.code (cA 24 [])]
 (mkJ 1
 [(0,.ptr 100000 0),
 (1,
 .agg
 [.int .i64 (D.getInt l (Int.toNat j) 0),.int .i64 (D.getInt l (Int.toNat j) 1),
 .int .u8 (D.getInt l (Int.toNat j) 2)])]
 0 105))
 [SFrm.mk 8 (some (oA 8 [1,1,1,0,1,0,0,1,1,0,0,1,0],[3])) (some 33)
 [Item.code (cA 8 [1,1,1,0,1,0,0,1,1,0,0,1,1]),Item.inBlock 1,
 Item.code (cA 8 [1,1,1,0,1,0,0,1,1,1]),
 Item.inLoop (cA 8 [1,1,1,0,1,0,0]),Item.inBlock 0,
 Item.code (cA 8 [1,1,1,1])]
 (mkJ 0
 [(3,.ptr 100000 0),(25,.dat l),(26,.int .i64 (↑(D.len l) : Int)),
 (27,.int .i64 j)]
 0 137)]
 [(2,OBlk.arr 65 st),(3,OBlk.arr 72 tf),(4,OBlk.arr 72 tn),
 (100000,
 OBlk.cells 62 (sC o k r nv far im (.view 2 5 lo n) (.vec 3) (.vec 4) num)),
 (100001,OBlk.mapD .i64 false [FT.slc] m)]))))
 (.leaf
 (Conf.mk
 (SFrm.mk 8 none none
 [Item.inLoop (cA 8 [1,1,1,1,0,1,0,0]),Item.inBlock 2,
 Item.code (cA 8 [1,1,1,1,1])]
 (mkJ 0 [(3,.ptr 100000 0),(36,.int .i64 0)] 0 137))
 []
 [(2,OBlk.arr 65 st),(3,OBlk.arr 72 tf),(4,OBlk.arr 72 tn),
 (100000,
 OBlk.cells 62 (sC o k r nv far im (.view 2 5 lo n) (.vec 3) (.vec 4) num)),
 (100001,OBlk.mapD .i64 false [FT.slc] m)])) := by kernel_rfl
theorem arB_go : execRE Try.prog ctAr [24] 400 (unroll (arL l j (sysM o k nv m im tf tn r far num (.dat st) []))) =
 Tree.br (decide (j < (↑(D.len l) : Int)))
 (.need (0 ≤ j ∧ j < (↑(D.len l) : Int) ∧ D.sz l = 3)
 (.need (D.HasCells l (Int.toNat j) 0 [FT.int .i64,FT.int .i64,FT.int .u8])
 (.leaf
 (Conf.mk
 (SFrm.mk 24 none none [Item.code (cA 24 [])]
 (mkJ 1
 [(0,.ptr 100000 0),
 (1,
 .agg
 [.int .i64 (D.getInt l (Int.toNat j) 0),.int .i64 (D.getInt l (Int.toNat j) 1),
 .int .u8 (D.getInt l (Int.toNat j) 2)])]
 0 105))
 [SFrm.mk 8 (some (oA 8 [1,1,1,0,1,0,0,1,1,0,0,1,0],[3])) (some 33)
 [Item.code (cA 8 [1,1,1,0,1,0,0,1,1,0,0,1,1]),Item.inBlock 1,
 Item.code (cA 8 [1,1,1,0,1,0,0,1,1,1]),
 Item.inLoop (cA 8 [1,1,1,0,1,0,0]),Item.inBlock 0,
 Item.code (cA 8 [1,1,1,1])]
 (mkJ 0
 [(3,.ptr 100000 0),(25,.dat l),(26,.int .i64 (↑(D.len l) : Int)),
 (27,.int .i64 j)]
 0 137)]
 [(2,OBlk.arr 72 tf),(3,OBlk.arr 72 tn),
 (100000,
 OBlk.cells 62 (sC o k r nv far im (.dat st) (.vec 2) (.vec 3) num)),
 (100001,OBlk.mapD .i64 false [FT.slc] m)]))))
 (.leaf
 (Conf.mk
 (SFrm.mk 8 none none
 [Item.inLoop (cA 8 [1,1,1,1,0,1,0,0]),Item.inBlock 2,
 Item.code (cA 8 [1,1,1,1,1])]
 (mkJ 0 [(3,.ptr 100000 0),(36,.int .i64 0)] 0 137))
 []
 [(2,OBlk.arr 72 tf),(3,OBlk.arr 72 tn),
 (100000,
 OBlk.cells 62 (sC o k r nv far im (.dat st) (.vec 2) (.vec 3) num)),
 (100001,OBlk.mapD .i64 false [FT.slc] m)])) := by kernel_rfl
end
end Sv
end
noncomputable section
namespace Sx
open Go RowKit
mutual
def SV.fixed : SV → Bool
 | .ptr k _=>Nat.ble PIN k
 | .mapp k=>Nat.ble PIN k
 | .vec _=>false
 | .velt ..=>false
 | .view ..=>false
 | .agg l=>SV.fixedL l
 | .tup l=>SV.fixedL l
 | .fn ..=>false
 | _=>true
def SV.fixedL : List SV → Bool
 | []=>true
 | x :: r=>SV.fixed x && SV.fixedL r
end
mutual
theorem den_fixed {E E' : Env} (hj : E'.j = E.j) (hb : ∀ k,PIN ≤ k → E'.b k = E.b k) : ∀ x : SV,x.fixed = true → x.den E' = x.den E
 | .ptr k _,h=>by simp only [SV.fixed] at h; simp only [SV.den,hb k (Nat.le_of_ble_eq_true h)]
 | .mapp k,h=>by simp only [SV.fixed] at h; simp only [SV.den,hb k (Nat.le_of_ble_eq_true h)]
 | .agg l,h=>by simp only [SV.fixed] at h; simp only [SV.den,denL_fixed hj hb l h]
 | .tup l,h=>by simp only [SV.fixed] at h; simp only [SV.den,denL_fixed hj hb l h]
 | .vec _,h=>by simp [SV.fixed] at h
 | .velt ..,h=>by simp [SV.fixed] at h
 | .view ..,h=>by simp [SV.fixed] at h
 | .fn ..,h=>by simp [SV.fixed] at h
 | .int ..,_=>by simp [SV.den]
 | .bool _,_=>by simp [SV.den]
 | .lb _,_=>by simp [SV.den]
 | .str _,_=>by simp [SV.den]
 | .nils,_=>by simp [SV.den]
 | .dat _,_=>by simp [SV.den]
 | .elt ..,_=>by simp [SV.den]
 | .nilp,_=>by simp [SV.den]
 | .nilf,_=>by simp [SV.den]
 | .undef,_=>by simp [SV.den]
 | .junk _,_=>by simp [SV.den,hj]
 | .raw _,_=>by simp [SV.den]
theorem denL_fixed {E E' : Env} (hj : E'.j = E.j) (hb : ∀ k,PIN ≤ k → E'.b k = E.b k) : ∀ l : List SV,SV.fixedL l = true → SV.denL E' l = SV.denL E l
 | [],_=>by simp [SV.denL]
 | x :: r,h=>by
  simp only [SV.fixedL,Bool.and_eq_true] at h
  simp only [SV.denL,den_fixed hj hb x h.1,denL_fixed hj hb r h.2]
end
section
variable {P : Program} {R : Value → World → Prop}
theorem runs_to {C : Ctx} {top : SFrm} {rest : List SFrm} {m m' : Mem} (hm : MemTo m m') (hp : (SV.fixedL top.tmps && rest.all fun f=>SV.fixedL f.tmps) = true) (h : Runs P C ⟨top,rest,m'⟩ R) : Runs P C ⟨top,rest,m⟩ R := by
 intro E H w g ok
 simp only [Bool.and_eq_true,List.all_eq_true] at hp
 obtain ⟨E',e1,e2,g'⟩ := hm C E H w g
 have hr := h E' H w g' ok
 have ht : top.den E' = top.den E := by simp only [SFrm.den,denL_fixed e1 e2 _ hp.1]
 have hrt : rest.map (SFrm.den E') = rest.map (SFrm.den E) := by
  apply List.map_congr_left
  intro f hf
  simp only [SFrm.den,denL_fixed e1 e2 _ (hp.2 f hf)]
 simp only [ht,hrt] at hr
 exact hr
theorem runs_methP {w0 : World} {H0 : HV} {f0 : Nat → Nat} {top g : SFrm} {rest : List SFrm} {mem : Mem} {Φ : SV → Mem → Prop}
  (hgp : (g.tmps.all SV.pinned && rest.all fun f=>f.tmps.all SV.pinned) = true)
  (h1 : ∀ (H : HV) (f : Nat → Nat),SV.OkL H top.tmps → Runs P (@Ctx.mk w0 H (pinX f)) ⟨top,[],mem⟩ (RetP w0 H f Φ))
  (h2 : ∀ v m,Φ v m → Runs P (@Ctx.mk w0 H0 (pinX f0)) ⟨{ g with tmps := putS g.tmps g.await v,await := none },rest,m⟩ R) :
  Runs P (@Ctx.mk w0 H0 (pinX f0)) ⟨top,g :: rest,mem⟩ R := by
 intro E H w gd ok
 simp only [Bool.and_eq_true,List.all_eq_true] at hgp
 have gd1 : Good (@Ctx.mk w0 H (pinX E.b)) mem E H w :=
  ⟨gd.below,HLe.refl _,fun _ _ _ h=>.inl h,gd.cell,fun k o h=>by have := gd.own k o h; cases o <;> exact this,gd.keys,gd.apart,⟨(fun _ _ h=>nomatch h),(fun _ h=>nomatch h),List.nodup_nil,fun f hf k _=>by cases hf; rfl⟩⟩
 have hr := h1 H E.b ok.1 E H w gd1 ⟨ok.1,by simp⟩
 rw [stkRun_eq] at hr ⊢
 simp only [List.map_nil,restOf] at hr
 simp only [List.map_cons,restOf]
 refine CFrm.run_mono hr fun u w' ⟨v,m,E1,H',hΦ,hu,g1,hpin,hv,hvj,hmj⟩=>?_
 let E2 : Env := ⟨E1.b,E1.v,E.j⟩
 have hs1 : Same 0 E1 E2 := ⟨rfl,rfl,fun i hi=>absurd hi (Nat.not_lt_zero _)⟩
 have g2 : Good ⟨w0,H⟩ m E2 H' w' := g1.same' hs1 hmj
 have hu' : u = v.den E2 := by rw [hu]; exact (den_same hs1 v hvj).symm
 have hb : ∀ k,PIN ≤ k → E2.b k = E.b k := hpin
 have g3 : Good (@Ctx.mk w0 H0 (pinX f0)) m E2 H' w' :=
  ⟨g2.below,gd.ext.trans g2.ext,fun b o x h=>by
   rcases g2.fresh b o x h with h | h
   ·exact gd.fresh b o x h
   ·exact .inr h,g2.cell,fun k o h=>by have := g2.own k o h; cases o <;> exact this,g2.keys,g2.apart,⟨(fun _ _ h=>nomatch h),(fun _ h=>nomatch h),List.nodup_nil,fun f hf k hk=>(hb k hk).trans (gd.fix.pin f hf k hk)⟩⟩
 have hgt : SV.denL E2 g.tmps = SV.denL E g.tmps := denL_pinned (E := E) (E' := E2) rfl hb _ (List.all_eq_true.2 hgp.1)
 have hrt : rest.map (SFrm.den E2) = rest.map (SFrm.den E) := by
  apply List.map_congr_left
  intro f hf
  simp only [SFrm.den]
  rw [denL_pinned (E := E) (E' := E2) rfl hb _ (List.all_eq_true.2 (hgp.2 f hf))]
 have okg : SV.OkL H' g.tmps := SV.OkL.mono g2.ext _ (ok.2 g List.mem_cons_self)
 have fin := h2 v m hΦ E2 H' w' g3 ⟨okL_putS okg hv,fun f hf=>SV.OkL.mono g2.ext _ (ok.2 f (List.mem_cons_of_mem _ hf))⟩
 simp only [SFrm.den] at fin ⊢
 rw [← put_den,hgt,← hu'] at fin
 rw [hrt] at fin
 cases rest <;> exact fin
theorem retS {w0 : World} {H : HV} {f : Nat → Nat} {Ψ : Mem → Prop} {fn : FuncId} {aw : Option Tmp} {k : List Item} {tmps : List SV} {mem : Mem} {fd : Func} {l : List SV} (m' : Mem) (ks : List Nat) (h : Ψ m')
  (hfn : P.funcs[fn]? = some fd := by kernel_rfl) (hres : resS P mem tmps fd.results.toList = some l := by kernel_rfl) (ht : ∀ E,(one? l).den E = .bool true := by intro _; rfl) (hm : (moveM mem (mvOf 100000 [21,22,23] mem)).map (pickK ks) = some m' := by kernel_rfl) (hn : ks.Nodup := by decide)
  (hjm : m'.all (fun x=>!x.2.jk 0) = true := by kernel_rfl) : (Tree.leaf ⟨⟨fn,none,aw,.code .ret :: k,tmps⟩,[],mem⟩).holds P (@Ctx.mk w0 H (pinX f)) (RetP w0 H f fun v m=>v = .lb true ∧ Ψ m) :=
 ret_sys 100000 [21,22,23] m' ks hfn hres ht hm hn hjm h
end
end Sx
end
noncomputable section
namespace Sx
open Go RowKit
section
variable {P : Program} {R : Value → World → Prop}
theorem leaf_ret {C : Ctx} {fn : FuncId} {aw : Option Tmp} {k : List Item} {tmps : List SV} {mem : Mem} {f : Func} {l : List SV} (hfn : P.funcs[fn]? = some f) (hres : resS P mem tmps f.results.toList = some l) (h : (Tree.ret (one? l)).holds P C R) :
  (Tree.leaf ⟨⟨fn,none,aw,.code .ret :: k,tmps⟩,[],mem⟩).holds P C R :=
 runs_ret hfn hres (fun E H w g hv=>h.2 E H w (g.sub (List.nil_sublist _)) hv) h.1
def beginC (e1 e2 : TypeId) (s1 s2 : Nat) (o1 o2 o3 : Nat) (c : Conf) : Option Conf :=
 (((((mapIn 1 .i64 false [.slc] c).bind (pinC 100000)).bind (vecIn 0 e1 s1 (some 100000) o1)).bind (vecIn 1 e2 s2 (some 100000) o2)).bind (vecIn 2 e2 s2 (some 100000) o3)).bind (viewIn 100000 o1 s1)
theorem begin_to {C : Ctx} (e1 e2 : TypeId) (s1 s2 o1 o2 o3 : Nat) {c : Conf} (c' : Conf) (hc : beginC e1 e2 s1 s2 o1 o2 o3 c = some c') (h : Runs P C c' R) (hpn : C.x.pn = none := by rfl) : Runs P C c R := by
 unfold beginC at hc
 simp only [Option.bind_eq_some_iff] at hc
 obtain ⟨c5,⟨c4,⟨c3,⟨c2,⟨c1,h1,h2⟩,h3⟩,h4⟩,h5⟩,h6⟩ := hc
 exact mapIn_to 1 .i64 false [.slc] c1 h1 (pin_to 100000 c2 h2 (vecIn_sound h3 (vecIn_sound h4 (vecIn_sound h5 (viewIn_to 100000 o1 s1 c' h6 h)))) hpn)
end
end Sx
end
noncomputable section
namespace Sx
open Go RowKit
def execRX (P : Program) (cs : Ctrs) (F : List FuncId) (S : List (FuncId × Nat)) (n : Nat) : Conf → Tree :=
 Nat.rec (motive := fun _=>Conf → Tree) (fun _=>.stuck) (fun _ ih c=>match atRet c || atIn F c || restsAt S c with
  | true=>restC P c
  | false=>stepC P cs (fun _=>false) ih c) n
section
variable {P : Program} {C : Ctx} {R : Value → World → Prop} {cs : Ctrs}
theorem execRX_sound (hcs : cs.Ok P) (F : List FuncId) (S : List (FuncId × Nat)) : ∀ (n : Nat) (c : Conf),(execRX P cs F S n c).holds P C R → Runs P C c R
 | 0,_,h=>h.elim
 | n + 1,c,h=>by
  have e : execRX P cs F S (n + 1) c = match atRet c || atIn F c || restsAt S c with
   | true=>restC P c
   | false=>stepC P cs (fun _=>false) (execRX P cs F S n) c := rfl
  rw [e] at h
  cases hs : atRet c || atIn F c || restsAt S c with
  | true=>rw [hs] at h; exact fgtR_sound (headR_sound h)
  | false=>rw [hs] at h; exact step_sound (U := fun _=>false) (ih := execRX P cs F S n) hcs (fun c h=>execRX_sound hcs F S n c h) c h
end
section
variable {P : Program} {R : Value → World → Prop}
theorem denL_set_pinned {E E' : Env} (hj : E'.j = E.j) (hb : ∀ k,PIN ≤ k → E'.b k = E.b k) {T : List SV} (hT : T.all SV.pinned = true) (p : Nat) {x y : SV} (hx : y.den E' = x.den E) : SV.denL E' (T.set p y) = SV.denL E (T.set p x) := by
 have h0 := denL_pinned hj hb T hT
 rw [SV.denL_eq,SV.denL_eq] at h0
 rw [SV.denL_eq,SV.denL_eq,List.map_set,List.map_set,h0,hx]
theorem vec_den {C C' : Ctx} {m m' : Mem} {E E' : Env} {H H' : HV} {w w' : World} (g : Good C m E H w) (g' : Good C' m' E' H' w') {a b : Nat} {e e' : TypeId} {d : D} (ha : m.get a = some (.arr e d)) (hb : m'.get b = some (.arr e' d)) : (SV.vec b).den E' = (SV.vec a).den E := by
 obtain ⟨hd,sz,rows,rfl,_⟩ := g.own a _ (Mem.get_mem ha)
 obtain ⟨h1,_⟩ := arr_facts g ha
 obtain ⟨h2,_⟩ := arr_facts g' hb
 simp only [SV.den,h1,h2]
theorem okL_set {H : HV} {T : List SV} {p a b : Nat} (h : SV.OkL H (T.set p (.vec a))) : SV.OkL H (T.set p (.vec b)) := by
 rw [SV.OkL_iff] at h ⊢
 intro x hx
 obtain ⟨i,hi,rfl⟩ := List.mem_iff_getElem.1 hx
 by_cases hip : p = i
 ·subst hip; simp [SV.Ok]
 ·rw [List.getElem_set_ne hip]
  exact h _ (List.mem_iff_getElem.2 ⟨i,by simpa using hi,by rw [List.getElem_set_ne hip]⟩)
theorem runs_toV {C : Ctx} {top : SFrm} {m m' : Mem} (p a b : Nat) {e e' : TypeId} {d : D} (hm : MemTo m m') (hT : top.tmps.all SV.pinned = true) (ha : m.get a = some (.arr e d)) (hb : m'.get b = some (.arr e' d))
  (h : Runs P C ⟨{ top with tmps := top.tmps.set p (.vec b) },[],m'⟩ R) : Runs P C ⟨{ top with tmps := top.tmps.set p (.vec a) },[],m⟩ R := by
 intro E H w g ok
 obtain ⟨E',e1,e2,g'⟩ := hm C E H w g
 have hv := vec_den g g' ha hb
 have hd := denL_set_pinned e1 e2 hT p hv
 have okT := okL_set (b := b) (a := a) (p := p) ok.1
 have hr := h E' H w g' ⟨okT,by simp⟩
 simp only [SFrm.den,hd] at hr
 exact hr
theorem runs_methV {w0 : World} {H0 : HV} {top g : SFrm} {mem m1 : Mem} {Φ : SV → Mem → Prop} (p a b : Nat) {e : TypeId} {d : D} (hT : g.tmps.all SV.pinned = true) (htop : SV.fixedL top.tmps = true) (hm : MemTo mem m1) (ha : mem.get a = some (.arr e d))
  (h1 : ∀ (H : HV) (f : Nat → Nat),SV.OkL H top.tmps → Runs P (@Ctx.mk w0 H (pinX f)) ⟨top,[],m1⟩ (RetP w0 H f Φ)) (hΦ : ∀ v m,Φ v m → m.get b = some (.arr e d))
  (h2 : ∀ v m,Φ v m → Runs P ⟨w0,H0⟩ ⟨{ g with tmps := putS (g.tmps.set p (.vec b)) g.await v,await := none },[],m⟩ R) :
  Runs P ⟨w0,H0⟩ ⟨top,[{ g with tmps := g.tmps.set p (.vec a) }],mem⟩ R := by
 intro E0 H w gd0 ok
 obtain ⟨E,ej,eb,gd⟩ := hm _ E0 H w gd0
 have htd : SV.denL E top.tmps = SV.denL E0 top.tmps := denL_fixed ej eb _ htop
 have gd1 : Good (@Ctx.mk w0 H (pinX E.b)) m1 E H w :=
  ⟨gd.below,HLe.refl _,fun _ _ _ h=>.inl h,gd.cell,fun k o h=>by have := gd.own k o h; cases o <;> exact this,gd.keys,gd.apart,⟨(fun _ _ h=>nomatch h),(fun _ h=>nomatch h),List.nodup_nil,fun f hf k _=>by cases hf; rfl⟩⟩
 have hr := h1 H E.b ok.1 E H w gd1 ⟨ok.1,by simp⟩
 rw [stkRun_eq] at hr ⊢
 simp only [List.map_nil,restOf] at hr
 simp only [List.map_cons,List.map_nil,restOf]
 have htop2 : top.dn [] none E = top.dn [] none E0 := by simp only [SFrm.dn,htd]
 have hr : (top.dn [] none E0).run P w (RetP w0 H E.b Φ) := by rw [← htop2]; exact hr
 refine CFrm.run_mono hr fun u w' ⟨v,m,E1,H',hΦv,hu,g1,hpin,hv,hvj,hmj⟩=>?_
 let E2 : Env := ⟨E1.b,E1.v,E.j⟩
 have hs1 : Same 0 E1 E2 := ⟨rfl,rfl,fun i hi=>absurd hi (Nat.not_lt_zero _)⟩
 have g2 : Good ⟨w0,H⟩ m E2 H' w' := g1.same' hs1 hmj
 have hu' : u = v.den E2 := by rw [hu]; exact (den_same hs1 v hvj).symm
 have g3 : Good ⟨w0,H0⟩ m E2 H' w' :=
  ⟨g2.below,gd.ext.trans g2.ext,fun b o x h=>by
   rcases g2.fresh b o x h with h | h
   ·exact gd.fresh b o x h
   ·exact .inr h,g2.cell,fun k o h=>by have := g2.own k o h; cases o <;> exact this,g2.keys,g2.apart,fixOk_plain _ _ _⟩
 have hb : ∀ k,PIN ≤ k → E2.b k = E0.b k := fun k hk=>(hpin k hk).trans (eb k hk)
 have hvd := vec_den gd0 g2 ha (hΦ v m hΦv)
 have hgt : SV.denL E2 (g.tmps.set p (.vec b)) = SV.denL E0 (g.tmps.set p (.vec a)) := denL_set_pinned (E := E0) (E' := E2) ej hb hT p hvd
 have okg : SV.OkL H' (g.tmps.set p (.vec b)) := SV.OkL.mono g2.ext _ (okL_set (ok.2 _ List.mem_cons_self))
 have fin := h2 v m hΦv E2 H' w' g3 ⟨okL_putS okg hv,by simp⟩
 simp only [SFrm.den] at fin ⊢
 rw [← put_den,hgt,← hu'] at fin
 exact fin
end
end Sx
end
noncomputable section
open Go Go.Proofs Sx
namespace Sv
def arF (l : D) (j : Int) : SFrm := SFrm.mk 8 (some (oA 8 [1,1,1,0,1,0,0,1,1,0,0,1,0],[3])) (some 33) [Item.code (cA 8 [1,1,1,0,1,0,0,1,1,0,0,1,1]),Item.inBlock 1,Item.code (cA 8 [1,1,1,0,1,0,0,1,1,1]),Item.inLoop (cA 8 [1,1,1,0,1,0,0]),Item.inBlock 0,Item.code (cA 8 [1,1,1,1])] (mkJ 0 [(3,.ptr 100000 0),(25,.dat l),(26,.int .i64 (l.len : Int)),(27,.int .i64 j)] 0 137)
def arR (i : Int) (mm : Mem) : Conf := Conf.mk (SFrm.mk 8 none none [Item.inLoop (cA 8 [1,1,1,1,0,1,0,0]),Item.inBlock 2,Item.code (cA 8 [1,1,1,1,1])] (mkJ 0 [(3,.ptr 100000 0),(36,.int .i64 i)] 0 137)) [] mm
section
variable (l o k nv m im st tf tn : D) (r : Rl) (far : Tgt) (lo n : Nat) (num j i : Int)
theorem arA_k : execRE Try.prog ctAr [] 400 (backK (arF l j) (sysM o k nv m im tf tn r far num (.view 0 5 lo n) [(0,.arr 65 st)])) =
 Tree.leaf
 (Conf.mk
 (SFrm.mk 8 none none
 [Item.inLoop (cA 8 [1,1,1,0,1,0,0]),Item.inBlock 0,Item.code (cA 8 [1,1,1,1])]
 (mkJ 0
 [(3,.ptr 100000 0),(25,.dat l),(26,.int .i64 (↑(D.len l) : Int)),
 (27,.int .i64 (IntKind.wrap .i64 (j + 1)))]
 0 137))
 []
 [(2,OBlk.arr 65 st),(3,OBlk.arr 72 tf),(4,OBlk.arr 72 tn),
 (100000,
 OBlk.cells 62 (sC o k r nv far im (.view 2 5 lo n) (.vec 3) (.vec 4) num)),
 (100001,OBlk.mapD .i64 false [FT.slc] m)]) := by kernel_rfl
theorem arB_k : execRE Try.prog ctAr [] 400 (backK (arF l j) (sysM o k nv m im tf tn r far num (.dat st) [])) =
 Tree.leaf
 (Conf.mk
 (SFrm.mk 8 none none
 [Item.inLoop (cA 8 [1,1,1,0,1,0,0]),Item.inBlock 0,Item.code (cA 8 [1,1,1,1])]
 (mkJ 0
 [(3,.ptr 100000 0),(25,.dat l),(26,.int .i64 (↑(D.len l) : Int)),
 (27,.int .i64 (IntKind.wrap .i64 (j + 1)))]
 0 137))
 []
 [(2,OBlk.arr 72 tf),(3,OBlk.arr 72 tn),
 (100000,
 OBlk.cells 62 (sC o k r nv far im (.dat st) (.vec 2) (.vec 3) num)),
 (100001,OBlk.mapD .i64 false [FT.slc] m)]) := by kernel_rfl
theorem arA_r : execRX Try.prog ctAr [24,27] [(8,90)] 400 (unroll (arR i (sysM o k nv m im tf tn r far num (.view 0 5 lo n) [(0,.arr 65 st)]))) =
 Tree.br (decide (i < 70))
 (.br (decide ((↑(D.len (D.like k (Rl.kept r))) : Int) = 0))
 (.leaf
 (Conf.mk
 (SFrm.mk 8 none none
 [Item.code (cA 8 [1,1,1,1,1,0]),Item.code (cA 8 [1,1,0,1,0,1])]
 (mkJ 0 [(3,.ptr 100000 0)] 0 137))
 []
 [(2,OBlk.arr 65 st),(3,OBlk.arr 72 tf),(4,OBlk.arr 72 tn),
 (100000,
 OBlk.cells 62 (sC o k r nv far im (.view 2 5 lo n) (.vec 3) (.vec 4) num)),
 (100001,OBlk.mapD .i64 false [FT.slc] m)]))
 (.leaf
 (Conf.mk
 (SFrm.mk 24 none none [Item.code (cA 24 [])]
 (mkJ 1 [(0,.ptr 100000 0),(1,.agg [.int .i64 1,.int .i64 0,.int .u8 0])] 0
 105))
 [SFrm.mk 8 (some (oA 8 [1,1,1,1,0,1,0,0,1,1,0,0,1,1,0,0],[3,4,5,6,7,8,9]))
 (some 53)
 [Item.code (cA 8 [1,1,1,1,0,1,0,0,1,1,0,0,1,1,0,1]),
 Item.code (cA 8 [1,1,1,1,0,1,0,0,1,1,0,0,1,1,1]),Item.inBlock 3,
 Item.code (cA 8 [1,1,1,1,0,1,0,0,1,1,1]),
 Item.inLoop (cA 8 [1,1,1,1,0,1,0,0]),Item.inBlock 2,
 Item.code (cA 8 [1,1,1,1,1])]
 (mkJ 0 [(3,.ptr 100000 0),(36,.int .i64 i)] 0 137)]
 [(2,OBlk.arr 65 st),
 (100000,
 OBlk.cells 62 (sC o k r nv far im (.view 2 5 lo n) .nils .nils num)),
 (100001,OBlk.mapD .i64 false [FT.slc] m)])))
 (.leaf
 (Conf.mk
 (SFrm.mk 8 none none
 [Item.code (cA 8 [1,1,1,1,1,0]),Item.code (cA 8 [1,1,0,1,0,1])]
 (mkJ 0 [(3,.ptr 100000 0)] 0 137))
 []
 [(2,OBlk.arr 65 st),(3,OBlk.arr 72 tf),(4,OBlk.arr 72 tn),
 (100000,
 OBlk.cells 62 (sC o k r nv far im (.view 2 5 lo n) (.vec 3) (.vec 4) num)),
 (100001,OBlk.mapD .i64 false [FT.slc] m)])) := by kernel_rfl
theorem arB_r : execRX Try.prog ctAr [24,27] [(8,90)] 400 (unroll (arR i (sysM o k nv m im tf tn r far num (.dat st) []))) =
 Tree.br (decide (i < 70))
 (.br (decide ((↑(D.len (D.like k (Rl.kept r))) : Int) = 0))
 (.leaf
 (Conf.mk
 (SFrm.mk 8 none none
 [Item.code (cA 8 [1,1,1,1,1,0]),Item.code (cA 8 [1,1,0,1,0,1])]
 (mkJ 0 [(3,.ptr 100000 0)] 0 137))
 []
 [(2,OBlk.arr 72 tf),(3,OBlk.arr 72 tn),
 (100000,
 OBlk.cells 62 (sC o k r nv far im (.dat st) (.vec 2) (.vec 3) num)),
 (100001,OBlk.mapD .i64 false [FT.slc] m)]))
 (.leaf
 (Conf.mk
 (SFrm.mk 24 none none [Item.code (cA 24 [])]
 (mkJ 1 [(0,.ptr 100000 0),(1,.agg [.int .i64 1,.int .i64 0,.int .u8 0])] 0
 105))
 [SFrm.mk 8 (some (oA 8 [1,1,1,1,0,1,0,0,1,1,0,0,1,1,0,0],[3,4,5,6,7,8,9]))
 (some 53)
 [Item.code (cA 8 [1,1,1,1,0,1,0,0,1,1,0,0,1,1,0,1]),
 Item.code (cA 8 [1,1,1,1,0,1,0,0,1,1,0,0,1,1,1]),Item.inBlock 3,
 Item.code (cA 8 [1,1,1,1,0,1,0,0,1,1,1]),
 Item.inLoop (cA 8 [1,1,1,1,0,1,0,0]),Item.inBlock 2,
 Item.code (cA 8 [1,1,1,1,1])]
 (mkJ 0 [(3,.ptr 100000 0),(36,.int .i64 i)] 0 137)]
 [(100000,
 OBlk.cells 62 (sC o k r nv far im (.dat st) .nils .nils num)),
 (100001,OBlk.mapD .i64 false [FT.slc] m)])))
 (.leaf
 (Conf.mk
 (SFrm.mk 8 none none
 [Item.code (cA 8 [1,1,1,1,1,0]),Item.code (cA 8 [1,1,0,1,0,1])]
 (mkJ 0 [(3,.ptr 100000 0)] 0 137))
 []
 [(2,OBlk.arr 72 tf),(3,OBlk.arr 72 tn),
 (100000,
 OBlk.cells 62 (sC o k r nv far im (.dat st) (.vec 2) (.vec 3) num)),
 (100001,OBlk.mapD .i64 false [FT.slc] m)])) := by kernel_rfl
end
def arX : List Item := [Item.code (cA 8 [1,1,1,1,0,1,0,0,1,1,0,0,1,1,0,1]),Item.code (cA 8 [1,1,1,1,0,1,0,0,1,1,0,0,1,1,1]),Item.inBlock 3,Item.code (cA 8 [1,1,1,1,0,1,0,0,1,1,1]),Item.inLoop (cA 8 [1,1,1,1,0,1,0,0]),Item.inBlock 2,Item.code (cA 8 [1,1,1,1,1])]
def arG (i : Int) : SFrm := SFrm.mk 8 (some (oA 8 [1,1,1,1,0,1,0,0,1,1,0,0,1,1,0,0],[3,4,5,6,7,8,9])) (some 53) arX (mkJ 0 [(3,.ptr 100000 0),(36,.int .i64 i)] 0 137)
section
variable (l o k nv m im st tf tn : D) (r : Rl) (far : Tgt) (lo n : Nat) (num j i : Int)
theorem arA_k1 : execRX Try.prog ctAr [24,28] [] 400 (backK (arG i) (sysM o k nv m im tf tn r far num (.view 0 5 lo n) [(0,.arr 65 st)])) =
 Tree.leaf
 (Conf.mk
 (SFrm.mk 24 none none [Item.code (cA 24 [])]
 (mkJ 1 [(0,.ptr 100000 0),(1,.agg [.int .i64 4,.int .i64 0,.int .u8 0])] 0
 105))
 [SFrm.mk 8 (some (oA 8 [1,1,1,1,0,1,0,0,1,1,0,0,1,1,0,0],[8,9])) (some 58)
 [Item.code (cA 8 [1,1,1,1,0,1,0,0,1,1,0,0,1,1,0,1]),
 Item.code (cA 8 [1,1,1,1,0,1,0,0,1,1,0,0,1,1,1]),Item.inBlock 3,
 Item.code (cA 8 [1,1,1,1,0,1,0,0,1,1,1]),
 Item.inLoop (cA 8 [1,1,1,1,0,1,0,0]),Item.inBlock 2,
 Item.code (cA 8 [1,1,1,1,1])]
 (mkJ 0 [(3,.ptr 100000 0),(36,.int .i64 i),(55,.lb false)] 0 137)]
 [(2,OBlk.arr 65 st),(3,OBlk.arr 72 tf),(4,OBlk.arr 72 tn),
 (100000,
 OBlk.cells 62 (sC o k r nv far im (.view 2 5 lo n) (.vec 3) (.vec 4) num)),
 (100001,OBlk.mapD .i64 false [FT.slc] m)]) := by kernel_rfl
theorem arB_k1 : execRX Try.prog ctAr [24,28] [] 400 (backK (arG i) (sysM o k nv m im tf tn r far num (.dat st) [])) =
 Tree.leaf
 (Conf.mk
 (SFrm.mk 24 none none [Item.code (cA 24 [])]
 (mkJ 1 [(0,.ptr 100000 0),(1,.agg [.int .i64 4,.int .i64 0,.int .u8 0])] 0
 105))
 [SFrm.mk 8 (some (oA 8 [1,1,1,1,0,1,0,0,1,1,0,0,1,1,0,0],[8,9])) (some 58)
 [Item.code (cA 8 [1,1,1,1,0,1,0,0,1,1,0,0,1,1,0,1]),
 Item.code (cA 8 [1,1,1,1,0,1,0,0,1,1,0,0,1,1,1]),Item.inBlock 3,
 Item.code (cA 8 [1,1,1,1,0,1,0,0,1,1,1]),
 Item.inLoop (cA 8 [1,1,1,1,0,1,0,0]),Item.inBlock 2,
 Item.code (cA 8 [1,1,1,1,1])]
 (mkJ 0 [(3,.ptr 100000 0),(36,.int .i64 i),(55,.lb false)] 0 137)]
 [(2,OBlk.arr 72 tf),(3,OBlk.arr 72 tn),
 (100000,
 OBlk.cells 62 (sC o k r nv far im (.dat st) (.vec 2) (.vec 3) num)),
 (100001,OBlk.mapD .i64 false [FT.slc] m)]) := by kernel_rfl
end
def arH (i : Int) : SFrm := SFrm.mk 8 (some (oA 8 [1,1,1,1,0,1,0,0,1,1,0,0,1,1,0,0],[8,9])) (some 58) arX (mkJ 0 [(3,.ptr 100000 0),(36,.int .i64 i),(55,.lb false)] 0 137)
section
variable (l o k nv m im st tf tn : D) (r : Rl) (far : Tgt) (lo n : Nat) (num j i : Int)
theorem arA_k2 : execRX Try.prog ctAr [24,28] [] 400 (backK (arH i) (sysM o k nv m im tf tn r far num (.view 0 5 lo n) [(0,.arr 65 st)])) =
 Tree.leaf
 (Conf.mk
 (SFrm.mk 8 none none
 [Item.inLoop (cA 8 [1,1,1,1,0,1,0,0,1,1,0,0,1,1,1,0,1,0,0]),Item.inBlock 4,
 Item.code (cA 8 [1,1,1,1,0,1,0,0,1,1,0,0,1,1,1,1]),Item.inBlock 3,
 Item.code (cA 8 [1,1,1,1,0,1,0,0,1,1,1]),
 Item.inLoop (cA 8 [1,1,1,1,0,1,0,0]),Item.inBlock 2,
 Item.code (cA 8 [1,1,1,1,1])]
 (mkJ 0
 [(3,.ptr 100000 0),(36,.int .i64 i),(64,.vec 1),(65,.int .i64 (↑(D.len tf) : Int)),
 (66,.int .i64 0)]
 0 137))
 []
 [(1,OBlk.arr 72 tf),(3,OBlk.arr 65 st),(4,OBlk.arr 72 tn),
 (100000,
 OBlk.cells 62 (sC o k r nv far im (.view 3 5 lo n) (.vec 1) (.vec 4) num)),
 (100001,OBlk.mapD .i64 false [FT.slc] m)]) := by kernel_rfl
theorem arB_k2 : execRX Try.prog ctAr [24,28] [] 400 (backK (arH i) (sysM o k nv m im tf tn r far num (.dat st) [])) =
 Tree.leaf
 (Conf.mk
 (SFrm.mk 8 none none
 [Item.inLoop (cA 8 [1,1,1,1,0,1,0,0,1,1,0,0,1,1,1,0,1,0,0]),Item.inBlock 4,
 Item.code (cA 8 [1,1,1,1,0,1,0,0,1,1,0,0,1,1,1,1]),Item.inBlock 3,
 Item.code (cA 8 [1,1,1,1,0,1,0,0,1,1,1]),
 Item.inLoop (cA 8 [1,1,1,1,0,1,0,0]),Item.inBlock 2,
 Item.code (cA 8 [1,1,1,1,1])]
 (mkJ 0
 [(3,.ptr 100000 0),(36,.int .i64 i),(64,.vec 1),(65,.int .i64 (↑(D.len tf) : Int)),
 (66,.int .i64 0)]
 0 137))
 []
 [(1,OBlk.arr 72 tf),(3,OBlk.arr 72 tn),
 (100000,
 OBlk.cells 62 (sC o k r nv far im (.dat st) (.vec 1) (.vec 3) num)),
 (100001,OBlk.mapD .i64 false [FT.slc] m)]) := by kernel_rfl
end
def arY : List Item := [Item.code (cA 8 [1,1,1,1,0,1,0,0,1,1,0,0,1,1,1,1]),Item.inBlock 3,Item.code (cA 8 [1,1,1,1,0,1,0,0,1,1,1]),Item.inLoop (cA 8 [1,1,1,1,0,1,0,0]),Item.inBlock 2,Item.code (cA 8 [1,1,1,1,1])]
def arTF (tf : D) (i j : Int) : SFrm := SFrm.mk 8 none none (Item.inLoop (cA 8 [1,1,1,1,0,1,0,0,1,1,0,0,1,1,1,0,1,0,0]) :: Item.inBlock 4 :: arY) (mkJ 0 [(3,.ptr 100000 0),(36,.int .i64 i),(65,.int .i64 (tf.len : Int)),(66,.int .i64 j)] 0 137)
def arT (tf : D) (i j : Int) (mm : Mem) : Conf := ⟨{ arTF tf i j with tmps := (arTF tf i j).tmps.set 64 (.vec 1) },[],mm⟩
section
variable (l o k nv m im st tf tn : D) (r : Rl) (far : Tgt) (lo n : Nat) (num j i : Int)
theorem arA_t : execRX Try.prog ctAr [24,28] [] 400 (unroll (arT tf i j (sysM o k nv m im tf tn r far num (.view 0 5 lo n) [(0,.arr 65 st)]))) =
 Tree.br (decide (j < (↑(D.len tf) : Int)))
 (.need (0 ≤ j ∧ j < (↑(D.len tf) : Int) ∧ D.sz tf = 8)
 (.need
 (D.HasCells tf (Int.toNat j) 0
 [FT.int .i64,FT.int .i64,FT.int .i64,FT.int .i64,FT.int .i64,
 FT.int .i64,FT.slc,FT.slc] ∧
 D.sz tf = 8)
 (.leaf
 (Conf.mk
 (SFrm.mk 28 none none [Item.code (cA 28 [])]
 (mkJ 1
 [(0,.ptr 100000 0),
 (1,
 .agg
 [.int .i64 (D.getInt tf (Int.toNat j) 0),.int .i64 (D.getInt tf (Int.toNat j) 1),
 .int .i64 (D.getInt tf (Int.toNat j) 2),
 .int .i64 (D.getInt tf (Int.toNat j) 3),
 .int .i64 (D.getInt tf (Int.toNat j) 4),
 .int .i64 (D.getInt tf (Int.toNat j) 5),.dat (D.cell tf (Int.toNat j) 6),
 .dat (D.cell tf (Int.toNat j) 7)])]
 0 116))
 [SFrm.mk 8
 (some (oA 8 [1,1,1,1,0,1,0,0,1,1,0,0,1,1,1,0,1,0,0,1,1,0,0,1,0],[3]))
 (some 72)
 [Item.code (cA 8 [1,1,1,1,0,1,0,0,1,1,0,0,1,1,1,0,1,0,0,1,1,0,0,1,1]),
 Item.inBlock 5,
 Item.code (cA 8 [1,1,1,1,0,1,0,0,1,1,0,0,1,1,1,0,1,0,0,1,1,1]),
 Item.inLoop (cA 8 [1,1,1,1,0,1,0,0,1,1,0,0,1,1,1,0,1,0,0]),Item.inBlock 4,
 Item.code (cA 8 [1,1,1,1,0,1,0,0,1,1,0,0,1,1,1,1]),Item.inBlock 3,
 Item.code (cA 8 [1,1,1,1,0,1,0,0,1,1,1]),
 Item.inLoop (cA 8 [1,1,1,1,0,1,0,0]),Item.inBlock 2,
 Item.code (cA 8 [1,1,1,1,1])]
 (mkJ 0
 [(3,.ptr 100000 0),(36,.int .i64 i),(64,.vec 1),
 (65,.int .i64 (↑(D.len tf) : Int)),(66,.int .i64 j)]
 0 137)]
 [(1,OBlk.arr 72 tf),(3,OBlk.arr 65 st),(4,OBlk.arr 72 tn),
 (100000,
 OBlk.cells 62 (sC o k r nv far im (.view 3 5 lo n) (.vec 1) (.vec 4) num)),
 (100001,OBlk.mapD .i64 false [FT.slc] m)]))))
 (.leaf
 (Conf.mk
 (SFrm.mk 8 none none
 [Item.inLoop (cA 8 [1,1,1,1,0,1,0,0,1,1,0,0,1,1,1,1,1,0,0]),Item.inBlock 6,
 Item.inBlock 3,Item.code (cA 8 [1,1,1,1,0,1,0,0,1,1,1]),
 Item.inLoop (cA 8 [1,1,1,1,0,1,0,0]),Item.inBlock 2,
 Item.code (cA 8 [1,1,1,1,1])]
 (mkJ 0
 [(3,.ptr 100000 0),(36,.int .i64 i),(79,.int .i64 (↑(D.len tn) : Int)),
 (80,.int .i64 0)]
 0 137))
 []
 [(2,OBlk.arr 65 st),(3,OBlk.arr 72 tf),(4,OBlk.arr 72 tn),
 (100000,
 OBlk.cells 62 (sC o k r nv far im (.view 2 5 lo n) (.vec 3) (.vec 4) num)),
 (100001,OBlk.mapD .i64 false [FT.slc] m)])) := by kernel_rfl
theorem arB_t : execRX Try.prog ctAr [24,28] [] 400 (unroll (arT tf i j (sysM o k nv m im tf tn r far num (.dat st) []))) =
 Tree.br (decide (j < (↑(D.len tf) : Int)))
 (.need (0 ≤ j ∧ j < (↑(D.len tf) : Int) ∧ D.sz tf = 8)
 (.need
 (D.HasCells tf (Int.toNat j) 0
 [FT.int .i64,FT.int .i64,FT.int .i64,FT.int .i64,FT.int .i64,
 FT.int .i64,FT.slc,FT.slc] ∧
 D.sz tf = 8)
 (.leaf
 (Conf.mk
 (SFrm.mk 28 none none [Item.code (cA 28 [])]
 (mkJ 1
 [(0,.ptr 100000 0),
 (1,
 .agg
 [.int .i64 (D.getInt tf (Int.toNat j) 0),.int .i64 (D.getInt tf (Int.toNat j) 1),
 .int .i64 (D.getInt tf (Int.toNat j) 2),
 .int .i64 (D.getInt tf (Int.toNat j) 3),
 .int .i64 (D.getInt tf (Int.toNat j) 4),
 .int .i64 (D.getInt tf (Int.toNat j) 5),.dat (D.cell tf (Int.toNat j) 6),
 .dat (D.cell tf (Int.toNat j) 7)])]
 0 116))
 [SFrm.mk 8
 (some (oA 8 [1,1,1,1,0,1,0,0,1,1,0,0,1,1,1,0,1,0,0,1,1,0,0,1,0],[3]))
 (some 72)
 [Item.code (cA 8 [1,1,1,1,0,1,0,0,1,1,0,0,1,1,1,0,1,0,0,1,1,0,0,1,1]),
 Item.inBlock 5,
 Item.code (cA 8 [1,1,1,1,0,1,0,0,1,1,0,0,1,1,1,0,1,0,0,1,1,1]),
 Item.inLoop (cA 8 [1,1,1,1,0,1,0,0,1,1,0,0,1,1,1,0,1,0,0]),Item.inBlock 4,
 Item.code (cA 8 [1,1,1,1,0,1,0,0,1,1,0,0,1,1,1,1]),Item.inBlock 3,
 Item.code (cA 8 [1,1,1,1,0,1,0,0,1,1,1]),
 Item.inLoop (cA 8 [1,1,1,1,0,1,0,0]),Item.inBlock 2,
 Item.code (cA 8 [1,1,1,1,1])]
 (mkJ 0
 [(3,.ptr 100000 0),(36,.int .i64 i),(64,.vec 1),
 (65,.int .i64 (↑(D.len tf) : Int)),(66,.int .i64 j)]
 0 137)]
 [(1,OBlk.arr 72 tf),(3,OBlk.arr 72 tn),
 (100000,
 OBlk.cells 62 (sC o k r nv far im (.dat st) (.vec 1) (.vec 3) num)),
 (100001,OBlk.mapD .i64 false [FT.slc] m)]))))
 (.leaf
 (Conf.mk
 (SFrm.mk 8 none none
 [Item.inLoop (cA 8 [1,1,1,1,0,1,0,0,1,1,0,0,1,1,1,1,1,0,0]),Item.inBlock 6,
 Item.inBlock 3,Item.code (cA 8 [1,1,1,1,0,1,0,0,1,1,1]),
 Item.inLoop (cA 8 [1,1,1,1,0,1,0,0]),Item.inBlock 2,
 Item.code (cA 8 [1,1,1,1,1])]
 (mkJ 0
 [(3,.ptr 100000 0),(36,.int .i64 i),(79,.int .i64 (↑(D.len tn) : Int)),
 (80,.int .i64 0)]
 0 137))
 []
 [(2,OBlk.arr 72 tf),(3,OBlk.arr 72 tn),
 (100000,
 OBlk.cells 62 (sC o k r nv far im (.dat st) (.vec 2) (.vec 3) num)),
 (100001,OBlk.mapD .i64 false [FT.slc] m)])) := by kernel_rfl
end
def arTG (tf : D) (i j : Int) : SFrm := SFrm.mk 8 (some (oA 8 [1,1,1,1,0,1,0,0,1,1,0,0,1,1,1,0,1,0,0,1,1,0,0,1,0],[3])) (some 72) (Item.code (cA 8 [1,1,1,1,0,1,0,0,1,1,0,0,1,1,1,0,1,0,0,1,1,0,0,1,1]) :: Item.inBlock 5 :: Item.code (cA 8 [1,1,1,1,0,1,0,0,1,1,0,0,1,1,1,0,1,0,0,1,1,1]) :: Item.inLoop (cA 8 [1,1,1,1,0,1,0,0,1,1,0,0,1,1,1,0,1,0,0]) :: Item.inBlock 4 :: arY) (mkJ 0 [(3,.ptr 100000 0),(36,.int .i64 i),(65,.int .i64 (tf.len : Int)),(66,.int .i64 j)] 0 137)
def arTB (tf : D) (i j : Int) (mm : Mem) : Conf := ⟨{ arTG tf i j with tmps := putS ((arTG tf i j).tmps.set 64 (.vec 1)) (arTG tf i j).await (.lb true),await := none },[],mm⟩
def arZ : List Item := [Item.inBlock 6,Item.inBlock 3,Item.code (cA 8 [1,1,1,1,0,1,0,0,1,1,1]),Item.inLoop (cA 8 [1,1,1,1,0,1,0,0]),Item.inBlock 2,Item.code (cA 8 [1,1,1,1,1])]
def arU (q i j : Int) (mm : Mem) : Conf := Conf.mk (SFrm.mk 8 none none (Item.inLoop (cA 8 [1,1,1,1,0,1,0,0,1,1,0,0,1,1,1,1,1,0,0]) :: arZ) (mkJ 0 [(3,.ptr 100000 0),(36,.int .i64 i),(79,.int .i64 q),(80,.int .i64 j)] 0 137)) [] mm
section
variable (l o k nv m im st tf tn : D) (r : Rl) (far : Tgt) (lo n : Nat) (num q j i : Int)
theorem arA_k3 : execRX Try.prog ctAr [24,28] [] 400 (arTB tf i j (sysM o k nv m im tf tn r far num (.view 0 5 lo n) [(0,.arr 65 st)])) =
 Tree.leaf
 (Conf.mk
 (SFrm.mk 8 none none
 [Item.inLoop (cA 8 [1,1,1,1,0,1,0,0,1,1,0,0,1,1,1,0,1,0,0]),Item.inBlock 4,
 Item.code (cA 8 [1,1,1,1,0,1,0,0,1,1,0,0,1,1,1,1]),Item.inBlock 3,
 Item.code (cA 8 [1,1,1,1,0,1,0,0,1,1,1]),
 Item.inLoop (cA 8 [1,1,1,1,0,1,0,0]),Item.inBlock 2,
 Item.code (cA 8 [1,1,1,1,1])]
 (mkJ 0
 [(3,.ptr 100000 0),(36,.int .i64 i),(64,.vec 1),(65,.int .i64 (↑(D.len tf) : Int)),
 (66,.int .i64 (IntKind.wrap .i64 (j + 1)))]
 0 137))
 []
 [(1,OBlk.arr 72 tf),(3,OBlk.arr 65 st),(4,OBlk.arr 72 tn),
 (100000,
 OBlk.cells 62 (sC o k r nv far im (.view 3 5 lo n) (.vec 1) (.vec 4) num)),
 (100001,OBlk.mapD .i64 false [FT.slc] m)]) := by kernel_rfl
theorem arB_k3 : execRX Try.prog ctAr [24,28] [] 400 (arTB tf i j (sysM o k nv m im tf tn r far num (.dat st) [])) =
 Tree.leaf
 (Conf.mk
 (SFrm.mk 8 none none
 [Item.inLoop (cA 8 [1,1,1,1,0,1,0,0,1,1,0,0,1,1,1,0,1,0,0]),Item.inBlock 4,
 Item.code (cA 8 [1,1,1,1,0,1,0,0,1,1,0,0,1,1,1,1]),Item.inBlock 3,
 Item.code (cA 8 [1,1,1,1,0,1,0,0,1,1,1]),
 Item.inLoop (cA 8 [1,1,1,1,0,1,0,0]),Item.inBlock 2,
 Item.code (cA 8 [1,1,1,1,1])]
 (mkJ 0
 [(3,.ptr 100000 0),(36,.int .i64 i),(64,.vec 1),(65,.int .i64 (↑(D.len tf) : Int)),
 (66,.int .i64 (IntKind.wrap .i64 (j + 1)))]
 0 137))
 []
 [(1,OBlk.arr 72 tf),(3,OBlk.arr 72 tn),
 (100000,
 OBlk.cells 62 (sC o k r nv far im (.dat st) (.vec 1) (.vec 3) num)),
 (100001,OBlk.mapD .i64 false [FT.slc] m)]) := by kernel_rfl
theorem arA_u : execRX Try.prog ctAr [24,28] [] 400 (unroll (arU q i j (sysM o k nv m im tf tn r far num (.view 0 5 lo n) [(0,.arr 65 st)]))) =
 Tree.br (decide (j < q))
 (.leaf
 (Conf.mk
 (SFrm.mk 24 none none [Item.code (cA 24 [])]
 (mkJ 1 [(0,.ptr 100000 0),(1,.agg [.int .i64 3,.int .i64 j,.int .u8 0])] 0
 105))
 [SFrm.mk 8
 (some (oA 8 [1,1,1,1,0,1,0,0,1,1,0,0,1,1,1,1,1,0,0,1,1,0,0,1,0],[4]))
 (some 86)
 [Item.code (cA 8 [1,1,1,1,0,1,0,0,1,1,0,0,1,1,1,1,1,0,0,1,1,0,0,1,1]),
 Item.inBlock 7,
 Item.code (cA 8 [1,1,1,1,0,1,0,0,1,1,0,0,1,1,1,1,1,0,0,1,1,1]),
 Item.inLoop (cA 8 [1,1,1,1,0,1,0,0,1,1,0,0,1,1,1,1,1,0,0]),Item.inBlock 6,
 Item.inBlock 3,Item.code (cA 8 [1,1,1,1,0,1,0,0,1,1,1]),
 Item.inLoop (cA 8 [1,1,1,1,0,1,0,0]),Item.inBlock 2,
 Item.code (cA 8 [1,1,1,1,1])]
 (mkJ 0
 [(3,.ptr 100000 0),(36,.int .i64 i),(79,.int .i64 q),(80,.int .i64 j)] 0
 137)]
 [(2,OBlk.arr 65 st),(3,OBlk.arr 72 tf),(4,OBlk.arr 72 tn),
 (100000,
 OBlk.cells 62 (sC o k r nv far im (.view 2 5 lo n) (.vec 3) (.vec 4) num)),
 (100001,OBlk.mapD .i64 false [FT.slc] m)]))
 (.leaf
 (Conf.mk
 (SFrm.mk 8 none none
 [Item.inLoop (cA 8 [1,1,1,1,0,1,0,0]),Item.inBlock 2,
 Item.code (cA 8 [1,1,1,1,1])]
 (mkJ 0 [(3,.ptr 100000 0),(36,.int .i64 (IntKind.wrap .i64 (i + 1)))] 0 137))
 []
 [(2,OBlk.arr 65 st),(3,OBlk.arr 72 tf),(4,OBlk.arr 72 tn),
 (100000,
 OBlk.cells 62 (sC o k r nv far im (.view 2 5 lo n) (.vec 3) (.vec 4) num)),
 (100001,OBlk.mapD .i64 false [FT.slc] m)])) := by kernel_rfl
theorem arB_u : execRX Try.prog ctAr [24,28] [] 400 (unroll (arU q i j (sysM o k nv m im tf tn r far num (.dat st) []))) =
 Tree.br (decide (j < q))
 (.leaf
 (Conf.mk
 (SFrm.mk 24 none none [Item.code (cA 24 [])]
 (mkJ 1 [(0,.ptr 100000 0),(1,.agg [.int .i64 3,.int .i64 j,.int .u8 0])] 0
 105))
 [SFrm.mk 8
 (some (oA 8 [1,1,1,1,0,1,0,0,1,1,0,0,1,1,1,1,1,0,0,1,1,0,0,1,0],[4]))
 (some 86)
 [Item.code (cA 8 [1,1,1,1,0,1,0,0,1,1,0,0,1,1,1,1,1,0,0,1,1,0,0,1,1]),
 Item.inBlock 7,
 Item.code (cA 8 [1,1,1,1,0,1,0,0,1,1,0,0,1,1,1,1,1,0,0,1,1,1]),
 Item.inLoop (cA 8 [1,1,1,1,0,1,0,0,1,1,0,0,1,1,1,1,1,0,0]),Item.inBlock 6,
 Item.inBlock 3,Item.code (cA 8 [1,1,1,1,0,1,0,0,1,1,1]),
 Item.inLoop (cA 8 [1,1,1,1,0,1,0,0]),Item.inBlock 2,
 Item.code (cA 8 [1,1,1,1,1])]
 (mkJ 0
 [(3,.ptr 100000 0),(36,.int .i64 i),(79,.int .i64 q),(80,.int .i64 j)] 0
 137)]
 [(2,OBlk.arr 72 tf),(3,OBlk.arr 72 tn),
 (100000,
 OBlk.cells 62 (sC o k r nv far im (.dat st) (.vec 2) (.vec 3) num)),
 (100001,OBlk.mapD .i64 false [FT.slc] m)]))
 (.leaf
 (Conf.mk
 (SFrm.mk 8 none none
 [Item.inLoop (cA 8 [1,1,1,1,0,1,0,0]),Item.inBlock 2,
 Item.code (cA 8 [1,1,1,1,1])]
 (mkJ 0 [(3,.ptr 100000 0),(36,.int .i64 (IntKind.wrap .i64 (i + 1)))] 0 137))
 []
 [(2,OBlk.arr 72 tf),(3,OBlk.arr 72 tn),
 (100000,
 OBlk.cells 62 (sC o k r nv far im (.dat st) (.vec 2) (.vec 3) num)),
 (100001,OBlk.mapD .i64 false [FT.slc] m)])) := by kernel_rfl
end
end Sv
end
noncomputable section
namespace Sx
open Go RowKit
def Tree.cut (t : Tree) : List Bool → Tree := Tree.rec (motive := fun _=>List Bool → Tree) (fun c _=>.leaf c) (fun v _=>.ret v)
 (fun b _ _ ht hf bs=>match bs with
  | []=>.stuck
  | true :: r=>.need (b = true) (ht r)
  | false :: r=>.need (b = false) (hf r)) (fun p _ ih bs=>.need p (ih bs)) (fun _ ih bs=>.all fun hs=>ih hs bs) (fun _=>.stuck) t
theorem cut_sound {P : Program} {C : Ctx} {R : Value → World → Prop} : ∀ {t : Tree} {bs : List Bool},(t.cut bs).holds P C R → t.holds P C R
 | .leaf _,_,h=>h
 | .ret _,_,h=>h
 | .br _ _ _,[],h=>h.elim
 | .br _ _ _,true :: _,⟨h1,h2⟩=>⟨fun _=>cut_sound h2,fun h=>(nomatch h1.symm.trans h)⟩
 | .br _ _ _,false :: _,⟨h1,h2⟩=>⟨fun h=>(nomatch h1.symm.trans h),fun _=>cut_sound h2⟩
 | .need _ _,_,⟨h1,h2⟩=>⟨h1,cut_sound h2⟩
 | .all _,_,h=>fun hs=>cut_sound (h hs)
 | .stuck,_,h=>h.elim
end Sx
end
noncomputable section
open Go Go.Proofs Sx
namespace Sv
def arUF (q i j : Int) : SFrm := SFrm.mk 8 (some (oA 8 [1,1,1,1,0,1,0,0,1,1,0,0,1,1,1,1,1,0,0,1,1,0,0,1,0],[4])) (some 86) (Item.code (cA 8 [1,1,1,1,0,1,0,0,1,1,0,0,1,1,1,1,1,0,0,1,1,0,0,1,1]) :: Item.inBlock 7 :: Item.code (cA 8 [1,1,1,1,0,1,0,0,1,1,0,0,1,1,1,1,1,0,0,1,1,1]) :: Item.inLoop (cA 8 [1,1,1,1,0,1,0,0,1,1,0,0,1,1,1,1,1,0,0]) :: arZ) (mkJ 0 [(3,.ptr 100000 0),(36,.int .i64 i),(79,.int .i64 q),(80,.int .i64 j)] 0 137)
def arE (mm : Mem) : Conf := Conf.mk (SFrm.mk 8 none none [Item.code (cA 8 [1,1,1,1,1,0]),Item.code (cA 8 [1,1,0,1,0,1])] (mkJ 0 [(3,.ptr 100000 0)] 0 137)) [] mm
def arEF : SFrm := SFrm.mk 8 (some (oA 8 [1,1,1,1,1,0],[43,44,45,46,47])) (some 132) [Item.code (cA 8 [1,1,0,1,0,1])] (mkJ 0 [(130,.lb true)] 0 137)
section
variable (l o k nv m im st tf tn : D) (r : Rl) (far : Tgt) (lo n : Nat) (num q j i : Int)
theorem arA_v : execRX Try.prog ctAr [24,28] [] 400 (backK (arUF q i j) (sysM o k nv m im tf tn r far num (.view 0 5 lo n) [(0,.arr 65 st)])) =
 Tree.leaf
 (Conf.mk
 (SFrm.mk 8 none none
 [Item.inLoop (cA 8 [1,1,1,1,0,1,0,0,1,1,0,0,1,1,1,1,1,0,0]),Item.inBlock 6,
 Item.inBlock 3,Item.code (cA 8 [1,1,1,1,0,1,0,0,1,1,1]),
 Item.inLoop (cA 8 [1,1,1,1,0,1,0,0]),Item.inBlock 2,
 Item.code (cA 8 [1,1,1,1,1])]
 (mkJ 0
 [(3,.ptr 100000 0),(36,.int .i64 i),(79,.int .i64 q),
 (80,.int .i64 (IntKind.wrap .i64 (j + 1)))]
 0 137))
 []
 [(2,OBlk.arr 65 st),(3,OBlk.arr 72 tf),(4,OBlk.arr 72 tn),
 (100000,
 OBlk.cells 62 (sC o k r nv far im (.view 2 5 lo n) (.vec 3) (.vec 4) num)),
 (100001,OBlk.mapD .i64 false [FT.slc] m)]) := by kernel_rfl
theorem arB_v : execRX Try.prog ctAr [24,28] [] 400 (backK (arUF q i j) (sysM o k nv m im tf tn r far num (.dat st) [])) =
 Tree.leaf
 (Conf.mk
 (SFrm.mk 8 none none
 [Item.inLoop (cA 8 [1,1,1,1,0,1,0,0,1,1,0,0,1,1,1,1,1,0,0]),Item.inBlock 6,
 Item.inBlock 3,Item.code (cA 8 [1,1,1,1,0,1,0,0,1,1,1]),
 Item.inLoop (cA 8 [1,1,1,1,0,1,0,0]),Item.inBlock 2,
 Item.code (cA 8 [1,1,1,1,1])]
 (mkJ 0
 [(3,.ptr 100000 0),(36,.int .i64 i),(79,.int .i64 q),
 (80,.int .i64 (IntKind.wrap .i64 (j + 1)))]
 0 137))
 []
 [(2,OBlk.arr 72 tf),(3,OBlk.arr 72 tn),
 (100000,
 OBlk.cells 62 (sC o k r nv far im (.dat st) (.vec 2) (.vec 3) num)),
 (100001,OBlk.mapD .i64 false [FT.slc] m)]) := by kernel_rfl
theorem arA_e : 
 let z1 := (RlD.mk (Tgt.mk (Tgt.epoch (Rl.near r)) (Tgt.site (Rl.near r)) (Tgt.stored (Rl.near r)) (Tgt.applied (Rl.near r))) (Tgt.mk (Tgt.epoch (Rl.far r)) (Tgt.site (Rl.far r)) (Tgt.stored (Rl.far r)) (Tgt.applied (Rl.far r))) (SrcD.mk (Src.epoch (Rl.src r)) (Src.site (Rl.src r)) (D.like o (Src.offered (Rl.src r))) (Src.stored (Rl.src r)) (Src.applied (Rl.src r))) (D.like k (Rl.kept r)))
 let z2 : Prop := (decide ((↑(D.len (D.like k (Rl.kept r))) : Int) = 0) = true)
 let z3 : Prop := (decide (Tgt.applied far = Tgt.applied (Rl.near r)) = true)
 let z4 : Prop := (decide (D.to Vol im = D.to Vol nv) = true)
 let z5 : Prop := (decide (lagRl (RlD.rl z1) = 0) = true)
 Tree.cut (execRX Try.prog ctAr [27] [] 400 (arE (sysM o k nv m im tf tn r far num (.view 0 5 lo n) [(0,.arr 65 st)]))) [true,true,true,true,true] =
 Tree.all fun hs=>.need z2 (.need z3 (.need z4 (.need z5 (.need z2 (.need z2 (.need z2 (.need z2 (.need z2 (.need z2 (.need z2 (.need z2 (.need z2 (.need z2 (.need z2 (.need z2 (.need z2 (.need z3 (.need z3
 (.need z3 (.need z3 (.need z3 (.need z3 (.need z3 (.need z3 (.need z3 (.need (D.Is Vol im ∧ D.Is Vol nv ∧ D.len im ≤ 1048576 ∧ D.len nv ≤ 1048576 ∧ (∀ (v : Vol),List.Mem v (D.to Vol im) → List.length
 (Vol.l v) ≤ 1048576) ∧ ∀ (v : Vol),List.Mem v (D.to Vol nv) → List.length (Vol.l v) ≤ 1048576) (.need z3 (.need z4 (.need z4 (.need z4 (.need z4 (.need z4 (.need (RlD.Ok z1) (.need z4 (.need z4 (.need z5
 (.need z5 (.leaf (Conf.mk (SFrm.mk 27 none none [Item.code (cA 27 [])] (mkJ 1 [(0,.ptr 100000 0)] 0 97)) [SFrm.mk 8 (some (oA 8 [1,1,1,1,1,0],[43,44,45,46,47])) (some 132) [Item.code (cA 8 [1,1,0,1,0,1])]
 (mkJ 0 [(130,.lb true)] 0 137)] [(2,OBlk.arr 65 st),(3,OBlk.arr 72 tf),(4,OBlk.arr 72 tn),(100000,OBlk.cells 62 (sC o k r nv far im (.view 2 5 lo n) (.vec 3) (.vec 4) num)),(100001,OBlk.mapD .i64 false [FT.slc] m)]))))))))))))))))))))))))))))))))))))))) := by
 intros; kernel_rfl
theorem arB_e : 
 let z1 := (RlD.mk (Tgt.mk (Tgt.epoch (Rl.near r)) (Tgt.site (Rl.near r)) (Tgt.stored (Rl.near r)) (Tgt.applied (Rl.near r))) (Tgt.mk (Tgt.epoch (Rl.far r)) (Tgt.site (Rl.far r)) (Tgt.stored (Rl.far r)) (Tgt.applied (Rl.far r))) (SrcD.mk (Src.epoch (Rl.src r)) (Src.site (Rl.src r)) (D.like o (Src.offered (Rl.src r))) (Src.stored (Rl.src r)) (Src.applied (Rl.src r))) (D.like k (Rl.kept r)))
 let z2 : Prop := (decide ((↑(D.len (D.like k (Rl.kept r))) : Int) = 0) = true)
 let z3 : Prop := (decide (Tgt.applied far = Tgt.applied (Rl.near r)) = true)
 let z4 : Prop := (decide (D.to Vol im = D.to Vol nv) = true)
 let z5 : Prop := (decide (lagRl (RlD.rl z1) = 0) = true)
 Tree.cut (execRX Try.prog ctAr [27] [] 400 (arE (sysM o k nv m im tf tn r far num (.dat st) []))) [true,true,true,true,true] =
 Tree.all fun hs=>.need z2 (.need z3 (.need z4 (.need z5 (.need z2 (.need z2 (.need z2 (.need z2 (.need z2 (.need z2 (.need z2 (.need z2 (.need z2 (.need z2 (.need z2 (.need z2 (.need z2 (.need z3 (.need z3
 (.need z3 (.need z3 (.need z3 (.need z3 (.need z3 (.need z3 (.need z3 (.need (D.Is Vol im ∧ D.Is Vol nv ∧ D.len im ≤ 1048576 ∧ D.len nv ≤ 1048576 ∧ (∀ (v : Vol),List.Mem v (D.to Vol im) → List.length
 (Vol.l v) ≤ 1048576) ∧ ∀ (v : Vol),List.Mem v (D.to Vol nv) → List.length (Vol.l v) ≤ 1048576) (.need z3 (.need z4 (.need z4 (.need z4 (.need z4 (.need z4 (.need (RlD.Ok z1) (.need z4 (.need z4 (.need z5
 (.need z5 (.leaf (Conf.mk (SFrm.mk 27 none none [Item.code (cA 27 [])] (mkJ 1 [(0,.ptr 100000 0)] 0 97)) [SFrm.mk 8 (some (oA 8 [1,1,1,1,1,0],[43,44,45,46,47])) (some 132) [Item.code (cA 8 [1,1,0,1,0,1])]
 (mkJ 0 [(130,.lb true)] 0 137)] [(2,OBlk.arr 72 tf),(3,OBlk.arr 72 tn),(100000,OBlk.cells 62 (sC o k r nv far im (.dat st) (.vec 2) (.vec 3) num)),(100001,OBlk.mapD .i64 false [FT.slc] m)]))))))))))))))))))))))))))))))))))))))) := by
 intros; kernel_rfl
end
section
variable (l o k nv m im st tf tn : D) (r : Rl) (far : Tgt) (lo n : Nat) (num : Int)
theorem arA_f : execRX Try.prog ctAr [] [] 400 (backK arEF (sysM o k nv m im tf tn r far num (.view 0 5 lo n) [(0,.arr 65 st)])) =
 Tree.leaf
 (Conf.mk (SFrm.mk 8 none none [Item.code (cA 8 [1,1,0,1,0,1])] (mkJ 0 [(2,.lb true)] 0 137)) []
 [(2,OBlk.arr 65 st),(3,OBlk.arr 72 tf),(4,OBlk.arr 72 tn),
 (100000,
 OBlk.cells 62 (sC o k r nv far im (.view 2 5 lo n) (.vec 3) (.vec 4) num)),
 (100001,OBlk.mapD .i64 false [FT.slc] m)]) := by kernel_rfl
theorem arB_f : execRX Try.prog ctAr [] [] 400 (backK arEF (sysM o k nv m im tf tn r far num (.dat st) [])) =
 Tree.leaf
 (Conf.mk (SFrm.mk 8 none none [Item.code (cA 8 [1,1,0,1,0,1])] (mkJ 0 [(2,.lb true)] 0 137)) []
 [(2,OBlk.arr 72 tf),(3,OBlk.arr 72 tn),
 (100000,
 OBlk.cells 62 (sC o k r nv far im (.dat st) (.vec 2) (.vec 3) num)),
 (100001,OBlk.mapD .i64 false [FT.slc] m)]) := by kernel_rfl
end
section
variable (l o k nv m im st tf tn : D) (r : Rl) (far : Tgt) (lo n : Nat) (num j : Int)
end
def ctSt : Ctrs := [(31,ctrOf ((rdRl.two rdMsg).sp spLearnRl)),(71,ctrOf (rdSrc.one.sp spResend))]
section
variable (o k nv m im st tf tn : D) (r : Rl) (far : Tgt) (lo n : Nat) (num xk xw xd : Int)
theorem stA_in : 
 let z3 := (SrcD.mk (Src.epoch (Rl.src r)) (Src.site (Rl.src r)) (D.like o (Src.offered (Rl.src r))) (Src.stored (Rl.src r)) (Src.applied (Rl.src r)))
 let z4 := (Int.toNat (Int.tmod (if xw > 0 then xw else 0) (↑(D.len tf) : Int)))
 let z5 := (cA 24 [1,1,0,1,0,1,0,1])
 let z6 := (sC o k r nv far im (.view 2 5 lo n) (.vec 3) (.vec 4) num)
 let z7 := (SFrm.mk 24 none none [Item.code z5] (mkJ 0 [(4,.lb true)] 0 105))
 let z2 : Tree := (.leaf (Conf.mk z7 [] [(2,OBlk.arr 65 st),(3,OBlk.arr 72 tf),(4,OBlk.arr 72 tn),(100000,OBlk.cells 62 z6),(100001,OBlk.mapD .i64 false [FT.slc] m)]))
 let z8 := (Int.toNat (Int.tmod (if xw > 0 then xw else 0) (↑(D.len tn) : Int)))
 let z9 := (RlD.mk (Tgt.mk (Tgt.epoch (Rl.near r)) (Tgt.site (Rl.near r)) (Tgt.stored (Rl.near r)) (Tgt.applied (Rl.near r))) (Tgt.mk (Tgt.epoch (Rl.far r)) (Tgt.site (Rl.far r)) (Tgt.stored (Rl.far r)) (Tgt.applied (Rl.far r))) z3 (D.like k (Rl.kept r)))
 let z1 := (learnRl (RlD.rl z9) (MsgD.msg (MsgD.mk (D.getInt tn z8 0) (D.getInt tn z8 1) (D.getInt tn z8 2) (D.getInt tn z8 3) (D.getInt tn z8 4) (D.getInt tn z8 5) (D.cell tn z8 6) (D.cell tn z8 7))))
 execRE Try.prog ctSt [69,70,28] 400 (sysE 24 105 [(0,.ptr 100000 0),(1,.agg [.int .i64 xk,.int .i64 xw,.int .u8 xd])] (sysM o k nv m im tf tn r far num (.view 0 5 lo n) [(0,.arr 65 st)])) =
 Tree.br (decide (xk = 0)) (.leaf (Conf.mk (SFrm.mk 69 none none [Item.code (cA 69 [])] (mkJ 1 [(0,.ptr 100000 0),(1,.int .i64 (if xw > 0 then xw else 0)),(2,.int .u8 xd)] 0 81)) [SFrm.mk 24 (some
 (oA 24 [1,1,0,1,0,1,0,0],[5])) (some 19) [Item.code z5,Item.inBlock 0,Item.code (cA 24 [1,1,1])] (mkJ 0 [] 0 105)] [(2,OBlk.arr 65 st),(3,OBlk.arr 72 tf),(4,OBlk.arr 72 tn),(100000,OBlk.cells 62 z6),
 (100001,OBlk.mapD .i64 false [FT.slc] m)])) (.br (decide (xk = 1)) (.leaf (Conf.mk (SFrm.mk 70 none none [Item.code (cA 70 [])] (mkJ 1 [(0,.ptr 100000 0)] 0 74)) [SFrm.mk 24 (some (oA 24 [1,1,0,1,0,1,1,1,0,0],[2]))
 (some 23) [Item.code z5,Item.inBlock 0,Item.code (cA 24 [1,1,1])] (mkJ 0 [] 0 105)] [(2,OBlk.arr 65 st),(3,OBlk.arr 72 tf),(4,OBlk.arr 72 tn),(100000,OBlk.cells 62 z6),(100001,OBlk.mapD .i64 false [FT.slc] m)]))
 (.br (decide (xk = 2)) (.br (decide ((↑(D.len tf) : Int) > 0)) (.all fun hs=>.need ((↑(D.len tf) : Int) ≠ 0) (.need (0 ≤ Int.tmod (if xw > 0 then xw else 0) (↑(D.len tf) : Int) ∧ Int.tmod (if xw > 0 then xw else 0)
 (↑(D.len tf) : Int) < (↑(D.len tf) : Int) ∧ D.sz tf = 8) (.need (D.HasCells tf z4 0 [FT.int .i64,FT.int .i64,FT.int .i64,FT.int .i64,FT.int .i64,FT.int .i64,FT.slc,FT.slc] ∧ D.sz tf = 8) (.leaf
 (Conf.mk (SFrm.mk 28 none none [Item.code (cA 28 [])] (mkJ 1 [(0,.ptr 100000 0),(1,.agg [.int .i64 (D.getInt tf z4 0),.int .i64 (D.getInt tf z4 1),.int .i64 (D.getInt tf z4 2),.int .i64 (D.getInt tf z4 3),.int .i64
 (D.getInt tf z4 4),.int .i64 (D.getInt tf z4 5),.dat (D.cell tf z4 6),.dat (D.cell tf z4 7)])] 0 116)) [SFrm.mk 24 (some (oA 24 [1,1,0,1,0,1,1,1,1,1,0,1,0,0],[15])) (some 46) [Item.code z5,Item.inBlock 0,Item.code
 (cA 24 [1,1,1])] (mkJ 0 [] 0 105)] [(2,OBlk.arr 65 st),(3,OBlk.arr 72 tf),(4,OBlk.arr 72 tn),(100000,OBlk.cells 62 z6),(100001,OBlk.mapD .i64 false [FT.slc] m)]))))) z2) (.br (decide (xk = 3))
 (.br (decide ((↑(D.len tn) : Int) > 0)) (.all fun hs=>.need ((↑(D.len tn) : Int) ≠ 0) (.need (0 ≤ Int.tmod (if xw > 0 then xw else 0) (↑(D.len tn) : Int) ∧ Int.tmod (if xw > 0 then xw else 0) (↑(D.len tn) : Int) <
 (↑(D.len tn) : Int) ∧ D.sz tn = 8) (.need (D.HasCells tn z8 0 [FT.int .i64,FT.int .i64,FT.int .i64,FT.int .i64,FT.int .i64,FT.int .i64,FT.slc,FT.slc] ∧ D.sz tn = 8) (.need (RlD.Ok z9) (.all fun hs_1=>.need
 (D.sz tf = 8 ∧ D.Fits (D.like (hs 17 2) (Prod.snd z1)) 8 ∧ (D.len tf + D.len (D.like (hs 17 2) (Prod.snd z1))) * 96 ≤ 140737488355328 ∧ D.len tf + D.len (D.like (hs 17 2) (Prod.snd z1)) ≤ 9223372036854775807)
 (.leaf (Conf.mk z7 [] [(0,OBlk.arr 72 (D.slc (D.hd (hs_1 8 0)) 8 (List.append (D.rows tf) (D.rows (D.like (hs 17 2) (Prod.snd z1)))))),(3,OBlk.arr 65 st),(4,OBlk.arr 72 tn),(100000,OBlk.cells 62
 (sC (hs 17 0) (hs 17 1) (Prod.fst z1) nv far im (.view 3 5 lo n) (.vec 0) (.vec 4) num)),(100001,OBlk.mapD .i64 false [FT.slc] m)]))))))) z2) (.br (decide (xk = 4)) (.all fun hs=>.need (D.Is Int (D.like o
 (Src.offered (Rl.src r)))) (.need (D.sz tf = 8 ∧ D.Fits (D.like (hs 10 0) (resend (SrcD.src z3))) 8 ∧ (D.len tf + D.len (D.like (hs 10 0) (resend (SrcD.src z3)))) * 96 ≤ 140737488355328 ∧ D.len tf + D.len
 (D.like (hs 10 0) (resend (SrcD.src z3))) ≤ 9223372036854775807) (.leaf (Conf.mk z7 [] [(0,OBlk.arr 72 (D.slc (D.hd (hs 11 0)) 8 (List.append (D.rows tf) (D.rows (D.like (hs 10 0) (resend (SrcD.src z3))))))),
 (3,OBlk.arr 65 st),(4,OBlk.arr 72 tn),(100000,OBlk.cells 62 (sC o k r nv far im (.view 3 5 lo n) (.vec 0) (.vec 4) num)),(100001,OBlk.mapD .i64 false [FT.slc] m)])))) z2)))) := by
 intros; kernel_rfl
theorem stB_in : 
 let z3 := (SrcD.mk (Src.epoch (Rl.src r)) (Src.site (Rl.src r)) (D.like o (Src.offered (Rl.src r))) (Src.stored (Rl.src r)) (Src.applied (Rl.src r)))
 let z4 := (Int.toNat (Int.tmod (if xw > 0 then xw else 0) (↑(D.len tf) : Int)))
 let z5 := (cA 24 [1,1,0,1,0,1,0,1])
 let z6 := (sC o k r nv far im (.dat st) (.vec 2) (.vec 3) num)
 let z7 := (SFrm.mk 24 none none [Item.code z5] (mkJ 0 [(4,.lb true)] 0 105))
 let z2 : Tree := (.leaf (Conf.mk z7 [] [(2,OBlk.arr 72 tf),(3,OBlk.arr 72 tn),(100000,OBlk.cells 62 z6),(100001,OBlk.mapD .i64 false [FT.slc] m)]))
 let z8 := (Int.toNat (Int.tmod (if xw > 0 then xw else 0) (↑(D.len tn) : Int)))
 let z9 := (RlD.mk (Tgt.mk (Tgt.epoch (Rl.near r)) (Tgt.site (Rl.near r)) (Tgt.stored (Rl.near r)) (Tgt.applied (Rl.near r))) (Tgt.mk (Tgt.epoch (Rl.far r)) (Tgt.site (Rl.far r)) (Tgt.stored (Rl.far r)) (Tgt.applied (Rl.far r))) z3 (D.like k (Rl.kept r)))
 let z1 := (learnRl (RlD.rl z9) (MsgD.msg (MsgD.mk (D.getInt tn z8 0) (D.getInt tn z8 1) (D.getInt tn z8 2) (D.getInt tn z8 3) (D.getInt tn z8 4) (D.getInt tn z8 5) (D.cell tn z8 6) (D.cell tn z8 7))))
 execRE Try.prog ctSt [69,70,28] 400 (sysE 24 105 [(0,.ptr 100000 0),(1,.agg [.int .i64 xk,.int .i64 xw,.int .u8 xd])] (sysM o k nv m im tf tn r far num (.dat st) [])) =
 Tree.br (decide (xk = 0)) (.leaf (Conf.mk (SFrm.mk 69 none none [Item.code (cA 69 [])] (mkJ 1 [(0,.ptr 100000 0),(1,.int .i64 (if xw > 0 then xw else 0)),(2,.int .u8 xd)] 0 81)) [SFrm.mk 24 (some
 (oA 24 [1,1,0,1,0,1,0,0],[5])) (some 19) [Item.code z5,Item.inBlock 0,Item.code (cA 24 [1,1,1])] (mkJ 0 [] 0 105)] [(2,OBlk.arr 72 tf),(3,OBlk.arr 72 tn),(100000,OBlk.cells 62 z6),(100001,OBlk.mapD .i64 false [FT.slc] m)]))
 (.br (decide (xk = 1)) (.leaf (Conf.mk (SFrm.mk 70 none none [Item.code (cA 70 [])] (mkJ 1 [(0,.ptr 100000 0)] 0 74)) [SFrm.mk 24 (some (oA 24 [1,1,0,1,0,1,1,1,0,0],[2])) (some 23) [Item.code z5,Item.inBlock 0,Item.code
 (cA 24 [1,1,1])] (mkJ 0 [] 0 105)] [(2,OBlk.arr 72 tf),(3,OBlk.arr 72 tn),(100000,OBlk.cells 62 z6),(100001,OBlk.mapD .i64 false [FT.slc] m)])) (.br (decide (xk = 2)) (.br (decide ((↑(D.len tf) : Int) > 0))
 (.all fun hs=>.need ((↑(D.len tf) : Int) ≠ 0) (.need (0 ≤ Int.tmod (if xw > 0 then xw else 0) (↑(D.len tf) : Int) ∧ Int.tmod (if xw > 0 then xw else 0) (↑(D.len tf) : Int) < (↑(D.len tf) : Int) ∧ D.sz tf = 8)
 (.need (D.HasCells tf z4 0 [FT.int .i64,FT.int .i64,FT.int .i64,FT.int .i64,FT.int .i64,FT.int .i64,FT.slc,FT.slc] ∧ D.sz tf = 8) (.leaf (Conf.mk (SFrm.mk 28 none none [Item.code (cA 28 [])] (mkJ 1 [(0,.ptr 100000 0),
 (1,.agg [.int .i64 (D.getInt tf z4 0),.int .i64 (D.getInt tf z4 1),.int .i64 (D.getInt tf z4 2),.int .i64 (D.getInt tf z4 3),.int .i64 (D.getInt tf z4 4),.int .i64 (D.getInt tf z4 5),.dat (D.cell tf z4 6),.dat
 (D.cell tf z4 7)])] 0 116)) [SFrm.mk 24 (some (oA 24 [1,1,0,1,0,1,1,1,1,1,0,1,0,0],[15])) (some 46) [Item.code z5,Item.inBlock 0,Item.code (cA 24 [1,1,1])] (mkJ 0 [] 0 105)] [(2,OBlk.arr 72 tf),
 (3,OBlk.arr 72 tn),(100000,OBlk.cells 62 z6),(100001,OBlk.mapD .i64 false [FT.slc] m)]))))) z2) (.br (decide (xk = 3)) (.br (decide ((↑(D.len tn) : Int) > 0)) (.all fun hs=>.need ((↑(D.len tn) : Int) ≠ 0)
 (.need (0 ≤ Int.tmod (if xw > 0 then xw else 0) (↑(D.len tn) : Int) ∧ Int.tmod (if xw > 0 then xw else 0) (↑(D.len tn) : Int) < (↑(D.len tn) : Int) ∧ D.sz tn = 8) (.need (D.HasCells tn z8 0 [FT.int .i64,FT.int .i64,FT.int .i64,FT.int .i64,FT.int .i64,FT.int .i64,FT.slc,FT.slc] ∧ D.sz tn = 8)
 (.need (RlD.Ok z9) (.all fun hs_1=>.need (D.sz tf = 8 ∧ D.Fits (D.like (hs 17 2) (Prod.snd z1)) 8 ∧ (D.len tf + D.len (D.like (hs 17 2) (Prod.snd z1))) * 96 ≤ 140737488355328 ∧ D.len tf + D.len (D.like
 (hs 17 2) (Prod.snd z1)) ≤ 9223372036854775807) (.leaf (Conf.mk z7 [] [(0,OBlk.arr 72 (D.slc (D.hd (hs_1 8 0)) 8 (List.append (D.rows tf) (D.rows (D.like (hs 17 2) (Prod.snd z1)))))),(3,OBlk.arr 72 tn),
 (100000,OBlk.cells 62 (sC (hs 17 0) (hs 17 1) (Prod.fst z1) nv far im (.dat st) (.vec 0) (.vec 3) num)),(100001,OBlk.mapD .i64 false [FT.slc] m)]))))))) z2) (.br (decide (xk = 4)) (.all fun hs=>.need
 (D.Is Int (D.like o (Src.offered (Rl.src r)))) (.need (D.sz tf = 8 ∧ D.Fits (D.like (hs 10 0) (resend (SrcD.src z3))) 8 ∧ (D.len tf + D.len (D.like (hs 10 0) (resend (SrcD.src z3)))) * 96 ≤ 140737488355328 ∧ D.len tf + D.len
 (D.like (hs 10 0) (resend (SrcD.src z3))) ≤ 9223372036854775807) (.leaf (Conf.mk z7 [] [(0,OBlk.arr 72 (D.slc (D.hd (hs 11 0)) 8 (List.append (D.rows tf) (D.rows (D.like (hs 10 0) (resend (SrcD.src z3))))))),
 (3,OBlk.arr 72 tn),(100000,OBlk.cells 62 (sC o k r nv far im (.dat st) (.vec 0) (.vec 3) num)),(100001,OBlk.mapD .i64 false [FT.slc] m)])))) z2)))) := by
 intros; kernel_rfl
end
def stF (p : List Nat) (i aw : Nat) : SFrm := SFrm.mk 24 (some (oA 24 p,[i])) (some aw) [Item.code (cA 24 [1,1,0,1,0,1,0,1]),Item.inBlock 0,Item.code (cA 24 [1,1,1])] (mkJ 0 [] 0 105)
def stK (p : List Nat) (i aw : Nat) (m : Mem) : Conf := ⟨{ stF p i aw with tmps := putS (stF p i aw).tmps (some aw) (.lb true),await := none },[],m⟩
section
variable (o k nv m im st tf tn : D) (r : Rl) (far : Tgt) (lo n : Nat) (num : Int)
theorem kaA_in : execRS Try.prog [] [] 100 (stK [1,1,0,1,0,1,0,0] 5 19 (sysM o k nv m im tf tn r far num (.view 0 5 lo n) [(0,.arr 65 st)])) =
 Tree.leaf
 (Conf.mk
 (SFrm.mk 24 none none
 [Item.code (cA 24 [1,1,0,1,0,1,0,1]),Item.inBlock 0,Item.code (cA 24 [1,1,1])]
 (mkJ 0 [(4,.lb true)] 0 105))
 []
 [(2,OBlk.arr 65 st),(3,OBlk.arr 72 tf),(4,OBlk.arr 72 tn),
 (100000,
 OBlk.cells 62 (sC o k r nv far im (.view 2 5 lo n) (.vec 3) (.vec 4) num)),
 (100001,OBlk.mapD .i64 false [FT.slc] m)]) := by kernel_rfl
theorem ksA_in : execRS Try.prog [] [] 100 (stK [1,1,0,1,0,1,1,1,0,0] 2 23 (sysM o k nv m im tf tn r far num (.view 0 5 lo n) [(0,.arr 65 st)])) =
 Tree.leaf
 (Conf.mk
 (SFrm.mk 24 none none
 [Item.code (cA 24 [1,1,0,1,0,1,0,1]),Item.inBlock 0,Item.code (cA 24 [1,1,1])]
 (mkJ 0 [(4,.lb true)] 0 105))
 []
 [(2,OBlk.arr 65 st),(3,OBlk.arr 72 tf),(4,OBlk.arr 72 tn),
 (100000,
 OBlk.cells 62 (sC o k r nv far im (.view 2 5 lo n) (.vec 3) (.vec 4) num)),
 (100001,OBlk.mapD .i64 false [FT.slc] m)]) := by kernel_rfl
theorem kfA_in : execRS Try.prog [] [] 100 (stK [1,1,0,1,0,1,1,1,1,1,0,1,0,0] 15 46 (sysM o k nv m im tf tn r far num (.view 0 5 lo n) [(0,.arr 65 st)])) =
 Tree.leaf
 (Conf.mk
 (SFrm.mk 24 none none
 [Item.code (cA 24 [1,1,0,1,0,1,0,1]),Item.inBlock 0,Item.code (cA 24 [1,1,1])]
 (mkJ 0 [(4,.lb true)] 0 105))
 []
 [(2,OBlk.arr 65 st),(3,OBlk.arr 72 tf),(4,OBlk.arr 72 tn),
 (100000,
 OBlk.cells 62 (sC o k r nv far im (.view 2 5 lo n) (.vec 3) (.vec 4) num)),
 (100001,OBlk.mapD .i64 false [FT.slc] m)]) := by kernel_rfl
theorem kaB_in : execRS Try.prog [] [] 100 (stK [1,1,0,1,0,1,0,0] 5 19 (sysM o k nv m im tf tn r far num (.dat st) [])) =
 Tree.leaf
 (Conf.mk
 (SFrm.mk 24 none none
 [Item.code (cA 24 [1,1,0,1,0,1,0,1]),Item.inBlock 0,Item.code (cA 24 [1,1,1])]
 (mkJ 0 [(4,.lb true)] 0 105))
 []
 [(2,OBlk.arr 72 tf),(3,OBlk.arr 72 tn),
 (100000,
 OBlk.cells 62 (sC o k r nv far im (.dat st) (.vec 2) (.vec 3) num)),
 (100001,OBlk.mapD .i64 false [FT.slc] m)]) := by kernel_rfl
theorem ksB_in : execRS Try.prog [] [] 100 (stK [1,1,0,1,0,1,1,1,0,0] 2 23 (sysM o k nv m im tf tn r far num (.dat st) [])) =
 Tree.leaf
 (Conf.mk
 (SFrm.mk 24 none none
 [Item.code (cA 24 [1,1,0,1,0,1,0,1]),Item.inBlock 0,Item.code (cA 24 [1,1,1])]
 (mkJ 0 [(4,.lb true)] 0 105))
 []
 [(2,OBlk.arr 72 tf),(3,OBlk.arr 72 tn),
 (100000,
 OBlk.cells 62 (sC o k r nv far im (.dat st) (.vec 2) (.vec 3) num)),
 (100001,OBlk.mapD .i64 false [FT.slc] m)]) := by kernel_rfl
theorem kfB_in : execRS Try.prog [] [] 100 (stK [1,1,0,1,0,1,1,1,1,1,0,1,0,0] 15 46 (sysM o k nv m im tf tn r far num (.dat st) [])) =
 Tree.leaf
 (Conf.mk
 (SFrm.mk 24 none none
 [Item.code (cA 24 [1,1,0,1,0,1,0,1]),Item.inBlock 0,Item.code (cA 24 [1,1,1])]
 (mkJ 0 [(4,.lb true)] 0 105))
 []
 [(2,OBlk.arr 72 tf),(3,OBlk.arr 72 tn),
 (100000,
 OBlk.cells 62 (sC o k r nv far im (.dat st) (.vec 2) (.vec 3) num)),
 (100001,OBlk.mapD .i64 false [FT.slc] m)]) := by kernel_rfl
end
def ctSS : Ctrs := [(30,ctrOf (rdRl.one.sp spNextRl)),(81,ctrOf ((rdTgt.two rdInt).sp (spStore Sx.store)))]
def ctRS : Ctrs := [(29,ctrOf ((rdD.two rdD).sp spSameI)),(17,ctrOf (rdRl.one.sp spCkRl)),(19,ctrOf (rdRl.one.sp spLagRl))]
def ctFS : Ctrs := [(25,ctrOf ((rdD.two rdCy).sp spCyA)),(76,ctrOf ((rdTgt.two rdInt).sp (spStore applyT))),(77,ctrOf ((rdTgt.two rdMsg).sp spAnswer))]
section
variable (o k nv m im st tf tn ml mb : D) (r : Rl) (far : Tgt) (lo n : Nat) (num mk mf mt mn mv me : Int)
theorem seA_in : 
 let z2 : Tree := (.leaf (Conf.mk (SFrm.mk 70 none none [Item.code (cA 70 [1,1,0,1,0,1]),Item.code (cA 70 [1,1,1])] (mkJ 0 [(2,.lb true)] 0 74)) [] [(2,OBlk.arr 65 st),(3,OBlk.arr 72 tf),(4,OBlk.arr 72 tn),(100000,OBlk.cells 62 (sC o k r nv far im (.view 2 5 lo n) (.vec 3) (.vec 4) num)),(100001,OBlk.mapD .i64 false [FT.slc] m)]))
 let z7 := (RlD.mk (Tgt.mk (Tgt.epoch (Rl.near r)) (Tgt.site (Rl.near r)) (Tgt.stored (Rl.near r)) (Tgt.applied (Rl.near r))) (Tgt.mk (Tgt.epoch (Rl.far r)) (Tgt.site (Rl.far r)) (Tgt.stored (Rl.far r)) (Tgt.applied (Rl.far r))) (SrcD.mk (Src.epoch (Rl.src r)) (Src.site (Rl.src r)) (D.like o (Src.offered (Rl.src r))) (Src.stored (Rl.src r)) (Src.applied (Rl.src r))) (D.like k (Rl.kept r)))
 let z1 := (nextRl (RlD.rl z7))
 let z4 : Prop := (decide (Cy.number (Prod.fst z1) ≤ Tgt.stored far) = false)
 let z5 : Prop := (decide (Cy.number (Prod.fst z1) ≤ Tgt.stored far) = true)
 let z6 := (Cy.number (Prod.fst z1))
 let z3 := (Sx.store (Tgt.mk (Tgt.epoch far) (Tgt.site far) (Tgt.stored far) (Tgt.applied far)) z6)
 execRS Try.prog ctSS [] 400 (sysE 70 74 [(0,.ptr 100000 0)] (sysM o k nv m im tf tn r far num (.view 0 5 lo n) [(0,.arr 65 st)])) =
 Tree.need (RlD.Ok z7) (.all fun hs=>.all fun hs_1=>.br (!Prod.snd z1) (.need ((!Prod.snd z1) = true) (.need ((!Prod.snd z1) = true) (.need ((!Prod.snd z1) = true) (.need ((!Prod.snd z1) = true) (.need
 ((!Prod.snd z1) = true) (.need ((!Prod.snd z1) = true) (.need ((!Prod.snd z1) = true) (.need ((!Prod.snd z1) = true) (.need ((!Prod.snd z1) = true) z2))))))))) (.br (decide (Cy.number (Prod.fst z1) ≤ Tgt.stored far))
 (.need ((!Prod.snd z1) = false) (.need ((!Prod.snd z1) = false) (.need ((!Prod.snd z1) = false) (.need ((!Prod.snd z1) = false) (.need ((!Prod.snd z1) = false) (.need ((!Prod.snd z1) = false) (.need ((!Prod.snd z1) = false)
 (.need ((!Prod.snd z1) = false) (.need ((!Prod.snd z1) = false) (.need z5 (.need z5 (.need z5 (.need z5 (.need z5 (.need z5 (.need z5 (.need z5 (.need z5 z2)))))))))))))))))) (.need ((!Prod.snd z1) = false)
 (.need ((!Prod.snd z1) = false) (.need ((!Prod.snd z1) = false) (.need ((!Prod.snd z1) = false) (.need ((!Prod.snd z1) = false) (.need ((!Prod.snd z1) = false) (.need ((!Prod.snd z1) = false) (.need ((!Prod.snd z1) = false)
 (.need ((!Prod.snd z1) = false) (.need z4 (.need z4 (.need z4 (.need z4 (.need z4 (.need z4 (.need z4 (.need z4 (.need z4 (.br (decide (Cy.base (Prod.fst z1) > Tgt.stored far)) z2 (.all fun hs_2=>.all fun hs_3=>.need
 (lo + n = D.len st ∧ D.sz st = 5 ∧ D.Fits (D.slc (D.hd (hs_3 9 0)) 5 [[D.int .i64 (Cy.base (Prod.fst z1)),D.int .i64 z6,D.int .i64 (Cy.time (Prod.fst z1)),D.like (hs 0 0) (Cy.pos (Prod.fst z1)),D.like
 (hs 0 1) (Cy.wr (Prod.fst z1))]]) 5 ∧ 0 < D.len (D.slc (D.hd (hs_3 9 0)) 5 [[D.int .i64 (Cy.base (Prod.fst z1)),D.int .i64 z6,D.int .i64 (Cy.time (Prod.fst z1)),D.like (hs 0 0) (Cy.pos (Prod.fst z1)),D.like
 (hs 0 1) (Cy.wr (Prod.fst z1))]]) ∧ (n + D.len (D.slc (D.hd (hs_3 9 0)) 5 [[D.int .i64 (Cy.base (Prod.fst z1)),D.int .i64 z6,D.int .i64 (Cy.time (Prod.fst z1)),D.like (hs 0 0) (Cy.pos (Prod.fst z1)),D.like
 (hs 0 1) (Cy.wr (Prod.fst z1))]])) * 72 ≤ 140737488355328 ∧ n + D.len (D.slc (D.hd (hs_3 9 0)) 5 [[D.int .i64 (Cy.base (Prod.fst z1)),D.int .i64 z6,D.int .i64 (Cy.time (Prod.fst z1)),D.like (hs 0 0)
 (Cy.pos (Prod.fst z1)),D.like (hs 0 1) (Cy.wr (Prod.fst z1))]]) ≤ 9223372036854775807) (.need (D.sz tn = 8 ∧ D.Fits (D.like (hs_2 6 0) (Prod.fst (Prod.snd z3))) 8 ∧ (D.len tn + D.len (D.like (hs_2 6 0)
 (Prod.fst (Prod.snd z3)))) * 96 ≤ 140737488355328 ∧ D.len tn + D.len (D.like (hs_2 6 0) (Prod.fst (Prod.snd z3))) ≤ 9223372036854775807) (.leaf (Conf.mk (SFrm.mk 70 none none [Item.code (cA 70 [1,1,0,1,0,1])]
 (mkJ 0 [(2,.bool (decide (Prod.snd (Prod.snd z3) = 0)))] 0 74)) [] [(0,OBlk.arr 72 (D.slc (D.hd (hs_3 16 0)) 8 (List.append (D.rows tn) (D.rows (D.like (hs_2 6 0) (Prod.fst (Prod.snd z3))))))),(1,OBlk.arr 65
 (D.slc (D.hd (hs_3 10 0)) 5 (List.append (D.rows (hs_3 10 0)) (List.append (List.drop lo (D.rows st)) (D.rows (D.slc (D.hd (hs_3 9 0)) 5 [[D.int .i64 (Cy.base (Prod.fst z1)),D.int .i64 z6,D.int .i64
 (Cy.time (Prod.fst z1)),D.like (hs 0 0) (Cy.pos (Prod.fst z1)),D.like (hs 0 1) (Cy.wr (Prod.fst z1))]])))))),(4,OBlk.arr 72 tf),(100000,OBlk.cells 62 (sC o k r nv (Prod.fst z3) im (.view 1 5 (D.len
 (hs_3 10 0)) (n + D.len (D.slc (D.hd (hs_3 9 0)) 5 [[D.int .i64 (Cy.base (Prod.fst z1)),D.int .i64 z6,D.int .i64 (Cy.time (Prod.fst z1)),D.like (hs 0 0) (Cy.pos (Prod.fst z1)),D.like (hs 0 1) (Cy.wr
 (Prod.fst z1))]]))) (.vec 4) (.vec 0) num)),(100001,OBlk.mapD .i64 false [FT.slc] m)]))))))))))))))))))))))))) := by
 intros; kernel_rfl
theorem riA_in : 
 let z1 := (RlD.mk (Tgt.mk (Tgt.epoch (Rl.near r)) (Tgt.site (Rl.near r)) (Tgt.stored (Rl.near r)) (Tgt.applied (Rl.near r))) (Tgt.mk (Tgt.epoch (Rl.far r)) (Tgt.site (Rl.far r)) (Tgt.stored (Rl.far r)) (Tgt.applied (Rl.far r))) (SrcD.mk (Src.epoch (Rl.src r)) (Src.site (Rl.src r)) (D.like o (Src.offered (Rl.src r))) (Src.stored (Rl.src r)) (Src.applied (Rl.src r))) (D.like k (Rl.kept r)))
 let z3 : Prop := (decide (Tgt.applied far > Tgt.applied (Rl.near r)) = false)
 let z4 : Prop := (decide (Tgt.applied (Rl.far r) > Tgt.applied far) = false)
 let z5 : Prop := (decide (ckRl (RlD.rl z1) = 0) = true)
 let z6 := (D.cell m (D.keyIx m (Tgt.applied far)) 1)
 let z2 : Prop := ((!decide (D.to Vol z6 = D.to Vol im)) = false)
 Tree.cut (execRS Try.prog ctRS [] 400 (sysE 27 97 [(0,.ptr 100000 0)] (sysM o k nv m im tf tn r far num (.view 0 5 lo n) [(0,.arr 65 st)]))) [true,false,false,false,false,true] =
 Tree.all fun hs=>.need (D.hasKey m (Tgt.applied far) = true) (.need (D.hasKey m (Tgt.applied far) = true) (.all fun hs=>.need z2 (.need z3 (.need z4 (.need (D.Is Vol z6 ∧ D.Is Vol im ∧ D.len z6 ≤ 1048576 ∧ D.len im ≤ 1048576 ∧
 (∀ (v : Vol),List.Mem v (D.to Vol z6) → List.length (Vol.l v) ≤ 1048576) ∧ ∀ (v : Vol),List.Mem v (D.to Vol im) → List.length (Vol.l v) ≤ 1048576) (.need z2 (.need z2 (.need z2 (.need z2 (.need z2 (.need z2
 (.need z2 (.need z2 (.need z2 (.need z2 (.need z2 (.need z2 (.need z2 (.need z3 (.need z3 (.need z3 (.need z3 (.need z3 (.need z3 (.need z3 (.need z3 (.need z3 (.need z3 (.need z3 (.need z3 (.need z3 (.need z4
 (.need z4 (.need z4 (.need z4 (.need z4 (.need z4 (.need z4 (.need z4 (.need z4 (.need z4 (.need z4 (.need z4 (.need z4 (.need (decide (Tgt.stored (Rl.far r) > Tgt.stored far) = false) (.all fun hs=>.need z5
 (.need (RlD.Ok z1) (.need z5 (.need z5 (.need z5 (.need z5 (.need z5 (.need (RlD.Ok z1) (.need z5 (.need z5 (.need z5 (.need z5 (.need z5 (.need z5 (.need z5 (.need z5 (.need z5 (.need z5 (.need z5 (.need z5
 (.need z5 (.need z5 (.leaf (Conf.mk (SFrm.mk 27 none none [Item.code (cAt Try.prog 27 [1,1,0,1,0,1])] (mkJ 0 [(2,.bool (decide (lagRl (RlD.rl z1) ≥ IntKind.wrap .i64 (Tgt.applied (Rl.near r) - Tgt.applied far))))] 0 97)) [] [(2,OBlk.arr 65 st),
 (3,OBlk.arr 72 tf),(4,OBlk.arr 72 tn),(100000,OBlk.cells 62 [.int .i64 (Tgt.epoch (Rl.near r)),.int .i64 (Tgt.site (Rl.near r)),.int .i64 (Tgt.stored (Rl.near r)),.int .i64 (Tgt.applied (Rl.near r)),.int .i64
 (Tgt.epoch (Rl.far r)),.int .i64 (Tgt.site (Rl.far r)),.int .i64 (Tgt.stored (Rl.far r)),.int .i64 (Tgt.applied (Rl.far r)),.int .i64 (Src.epoch (Rl.src r)),.int .i64 (Src.site (Rl.src r)),.dat (D.like o
 (Src.offered (Rl.src r))),.int .i64 (Src.stored (Rl.src r)),.int .i64 (Src.applied (Rl.src r)),.dat (D.like k (Rl.kept r)),.dat nv,.mapp 100001,.int .i64 (Tgt.epoch far),.int .i64 (Tgt.site far),.int .i64
 (Tgt.stored far),.int .i64 (Tgt.applied far),.dat im,.view 2 5 lo n,.vec 3,.vec 4,.int .i64 num]),(100001,OBlk.mapD .i64 false [FT.slc] m)]))))))))))))))))))))))))))))))))))))))))))))))))))))))))))))))))))))) := by
 intros; kernel_rfl
theorem faA_in : execRS Try.prog ctFS [] 400 (sysE 28 116 [(0,.ptr 100000 0),(1,.agg [.int .i64 mk,.int .i64 mf,.int .i64 mt,.int .i64 mn,.int .i64 mv,.int .i64 me,.dat ml,.dat mb])] (sysM o k nv m im tf tn r far num (.view 0 5 lo n) [(0,.arr 65 st)])) =
 Tree.br (decide (mk = 10))
 (.leaf
 (Conf.mk
 (SFrm.mk 28 none none
 [Item.inLoop (cA 28 [1,0,1,0,0,0]),Item.inBlock 0,Item.code (cA 28 [1,1])]
 (mkJ 0 [(0,.ptr 100000 0),(3,.ptr 1 0)] 0 116))
 []
 [(1,
 OBlk.cells 72
 [.int .i64 mk,.int .i64 mf,.int .i64 mt,.int .i64 mn,
 .int .i64 mv,.int .i64 me,.dat ml,.dat mb]),
 (3,OBlk.arr 65 st),(4,OBlk.arr 72 tf),(5,OBlk.arr 72 tn),
 (100000,
 OBlk.cells 62 (sC o k r nv far im (.view 3 5 lo n) (.vec 4) (.vec 5) num)),
 (100001,OBlk.mapD .i64 false [FT.slc] m)]))
 (.all fun hs =>
 .all fun hs_1 =>
 .need
 (D.sz tn = 8 ∧
 D.Fits
 (D.like (hs 5 0)
 (Prod.snd
 (answer (Tgt.mk (Tgt.epoch far) (Tgt.site far) (Tgt.stored far) (Tgt.applied far))
 (MsgD.msg (MsgD.mk mk mf mt mn mv me ml mb)))))
 8 ∧
 (D.len tn +
 D.len
 (D.like (hs 5 0)
 (Prod.snd
 (answer (Tgt.mk (Tgt.epoch far) (Tgt.site far) (Tgt.stored far) (Tgt.applied far))
 (MsgD.msg (MsgD.mk mk mf mt mn mv me ml mb)))))) *
 96 ≤
 140737488355328 ∧
 D.len tn +
 D.len
 (D.like (hs 5 0)
 (Prod.snd
 (answer (Tgt.mk (Tgt.epoch far) (Tgt.site far) (Tgt.stored far) (Tgt.applied far))
 (MsgD.msg (MsgD.mk mk mf mt mn mv me ml mb))))) ≤
 9223372036854775807)
 (.leaf
 (Conf.mk
 (SFrm.mk 28 none none [Item.code (cA 28 [1,0,1,0,0,0,1,0,1,1,0,1,0,1])]
 (mkJ 0 [(4,.lb true)] 0 116))
 []
 [(0,
 OBlk.arr 72
 (D.slc (D.hd (hs_1 8 0)) 8
 (List.append (D.rows tn)
 (D.rows
 (D.like (hs 5 0)
 (Prod.snd
 (answer (Tgt.mk (Tgt.epoch far) (Tgt.site far) (Tgt.stored far) (Tgt.applied far))
 (MsgD.msg (MsgD.mk mk mf mt mn mv me ml mb))))))))),
 (3,OBlk.arr 65 st),(4,OBlk.arr 72 tf),
 (100000,
 OBlk.cells 62 (sC o k r nv (Prod.fst (answer (Tgt.mk (Tgt.epoch far) (Tgt.site far) (Tgt.stored far) (Tgt.applied far)) (MsgD.msg (MsgD.mk mk mf mt mn mv me ml mb)))) im (.view 3 5 lo n) (.vec 4) (.vec 0) num)),
 (100001,OBlk.mapD .i64 false [FT.slc] m)]))) := by kernel_rfl
theorem seB_in : 
 let z2 : Tree := (.leaf (Conf.mk (SFrm.mk 70 none none [Item.code (cA 70 [1,1,0,1,0,1]),Item.code (cA 70 [1,1,1])] (mkJ 0 [(2,.lb true)] 0 74)) [] [(2,OBlk.arr 72 tf),(3,OBlk.arr 72 tn),(100000,OBlk.cells 62 (sC o k r nv far im (.dat st) (.vec 2) (.vec 3) num)),(100001,OBlk.mapD .i64 false [FT.slc] m)]))
 let z7 := (RlD.mk (Tgt.mk (Tgt.epoch (Rl.near r)) (Tgt.site (Rl.near r)) (Tgt.stored (Rl.near r)) (Tgt.applied (Rl.near r))) (Tgt.mk (Tgt.epoch (Rl.far r)) (Tgt.site (Rl.far r)) (Tgt.stored (Rl.far r)) (Tgt.applied (Rl.far r))) (SrcD.mk (Src.epoch (Rl.src r)) (Src.site (Rl.src r)) (D.like o (Src.offered (Rl.src r))) (Src.stored (Rl.src r)) (Src.applied (Rl.src r))) (D.like k (Rl.kept r)))
 let z1 := (nextRl (RlD.rl z7))
 let z4 : Prop := (decide (Cy.number (Prod.fst z1) ≤ Tgt.stored far) = false)
 let z5 : Prop := (decide (Cy.number (Prod.fst z1) ≤ Tgt.stored far) = true)
 let z6 := (Cy.number (Prod.fst z1))
 let z3 := (Sx.store (Tgt.mk (Tgt.epoch far) (Tgt.site far) (Tgt.stored far) (Tgt.applied far)) z6)
 execRS Try.prog ctSS [] 400 (sysE 70 74 [(0,.ptr 100000 0)] (sysM o k nv m im tf tn r far num (.dat st) [])) =
 Tree.need (RlD.Ok z7) (.all fun hs=>.all fun hs_1=>.br (!Prod.snd z1) (.need ((!Prod.snd z1) = true) (.need ((!Prod.snd z1) = true) (.need ((!Prod.snd z1) = true) (.need ((!Prod.snd z1) = true) (.need
 ((!Prod.snd z1) = true) (.need ((!Prod.snd z1) = true) (.need ((!Prod.snd z1) = true) (.need ((!Prod.snd z1) = true) (.need ((!Prod.snd z1) = true) z2))))))))) (.br (decide (Cy.number (Prod.fst z1) ≤ Tgt.stored far))
 (.need ((!Prod.snd z1) = false) (.need ((!Prod.snd z1) = false) (.need ((!Prod.snd z1) = false) (.need ((!Prod.snd z1) = false) (.need ((!Prod.snd z1) = false) (.need ((!Prod.snd z1) = false) (.need ((!Prod.snd z1) = false)
 (.need ((!Prod.snd z1) = false) (.need ((!Prod.snd z1) = false) (.need z5 (.need z5 (.need z5 (.need z5 (.need z5 (.need z5 (.need z5 (.need z5 (.need z5 z2)))))))))))))))))) (.need ((!Prod.snd z1) = false)
 (.need ((!Prod.snd z1) = false) (.need ((!Prod.snd z1) = false) (.need ((!Prod.snd z1) = false) (.need ((!Prod.snd z1) = false) (.need ((!Prod.snd z1) = false) (.need ((!Prod.snd z1) = false) (.need ((!Prod.snd z1) = false)
 (.need ((!Prod.snd z1) = false) (.need z4 (.need z4 (.need z4 (.need z4 (.need z4 (.need z4 (.need z4 (.need z4 (.need z4 (.br (decide (Cy.base (Prod.fst z1) > Tgt.stored far)) z2 (.all fun hs_2=>.all fun hs_3=>.need
 (D.Tight st ∧ D.Fits st 5 ∧ D.Fits (D.slc (D.hd (hs_3 9 0)) 5 [[D.int .i64 (Cy.base (Prod.fst z1)),D.int .i64 z6,D.int .i64 (Cy.time (Prod.fst z1)),D.like (hs 0 0) (Cy.pos (Prod.fst z1)),D.like (hs 0 1)
 (Cy.wr (Prod.fst z1))]]) 5 ∧ 0 < D.len (D.slc (D.hd (hs_3 9 0)) 5 [[D.int .i64 (Cy.base (Prod.fst z1)),D.int .i64 z6,D.int .i64 (Cy.time (Prod.fst z1)),D.like (hs 0 0) (Cy.pos (Prod.fst z1)),D.like
 (hs 0 1) (Cy.wr (Prod.fst z1))]]) ∧ (D.len st + D.len (D.slc (D.hd (hs_3 9 0)) 5 [[D.int .i64 (Cy.base (Prod.fst z1)),D.int .i64 z6,D.int .i64 (Cy.time (Prod.fst z1)),D.like (hs 0 0) (Cy.pos (Prod.fst z1)),D.like
 (hs 0 1) (Cy.wr (Prod.fst z1))]])) * 72 ≤ 140737488355328 ∧ D.len st + D.len (D.slc (D.hd (hs_3 9 0)) 5 [[D.int .i64 (Cy.base (Prod.fst z1)),D.int .i64 z6,D.int .i64 (Cy.time (Prod.fst z1)),D.like (hs 0 0)
 (Cy.pos (Prod.fst z1)),D.like (hs 0 1) (Cy.wr (Prod.fst z1))]]) ≤ 9223372036854775807) (.need (D.sz tn = 8 ∧ D.Fits (D.like (hs_2 6 0) (Prod.fst (Prod.snd z3))) 8 ∧ (D.len tn + D.len (D.like (hs_2 6 0)
 (Prod.fst (Prod.snd z3)))) * 96 ≤ 140737488355328 ∧ D.len tn + D.len (D.like (hs_2 6 0) (Prod.fst (Prod.snd z3))) ≤ 9223372036854775807) (.leaf (Conf.mk (SFrm.mk 70 none none [Item.code (cA 70 [1,1,0,1,0,1])]
 (mkJ 0 [(2,.bool (decide (Prod.snd (Prod.snd z3) = 0)))] 0 74)) [] [(0,OBlk.arr 72 (D.slc (D.hd (hs_3 16 0)) 8 (List.append (D.rows tn) (D.rows (D.like (hs_2 6 0) (Prod.fst (Prod.snd z3))))))),(1,OBlk.arr 65
 (D.slc (D.hd (hs_3 10 0)) 5 (List.append (D.rows st) (D.rows (D.slc (D.hd (hs_3 9 0)) 5 [[D.int .i64 (Cy.base (Prod.fst z1)),D.int .i64 z6,D.int .i64 (Cy.time (Prod.fst z1)),D.like (hs 0 0) (Cy.pos
 (Prod.fst z1)),D.like (hs 0 1) (Cy.wr (Prod.fst z1))]]))))),(4,OBlk.arr 72 tf),(100000,OBlk.cells 62 (sC o k r nv (Prod.fst z3) im (.vec 1) (.vec 4) (.vec 0) num)),(100001,OBlk.mapD .i64 false [FT.slc] m)]))))))))))))))))))))))))) := by
 intros; kernel_rfl
theorem riB_in : 
 let z1 := (RlD.mk (Tgt.mk (Tgt.epoch (Rl.near r)) (Tgt.site (Rl.near r)) (Tgt.stored (Rl.near r)) (Tgt.applied (Rl.near r))) (Tgt.mk (Tgt.epoch (Rl.far r)) (Tgt.site (Rl.far r)) (Tgt.stored (Rl.far r)) (Tgt.applied (Rl.far r))) (SrcD.mk (Src.epoch (Rl.src r)) (Src.site (Rl.src r)) (D.like o (Src.offered (Rl.src r))) (Src.stored (Rl.src r)) (Src.applied (Rl.src r))) (D.like k (Rl.kept r)))
 let z3 : Prop := (decide (Tgt.applied far > Tgt.applied (Rl.near r)) = false)
 let z4 : Prop := (decide (Tgt.applied (Rl.far r) > Tgt.applied far) = false)
 let z5 : Prop := (decide (ckRl (RlD.rl z1) = 0) = true)
 let z6 := (D.cell m (D.keyIx m (Tgt.applied far)) 1)
 let z2 : Prop := ((!decide (D.to Vol z6 = D.to Vol im)) = false)
 Tree.cut (execRS Try.prog ctRS [] 400 (sysE 27 97 [(0,.ptr 100000 0)] (sysM o k nv m im tf tn r far num (.dat st) []))) [true,false,false,false,false,true] =
 Tree.all fun hs=>.need (D.hasKey m (Tgt.applied far) = true) (.need (D.hasKey m (Tgt.applied far) = true) (.all fun hs=>.need z2 (.need z3 (.need z4 (.need (D.Is Vol z6 ∧ D.Is Vol im ∧ D.len z6 ≤ 1048576 ∧ D.len im ≤ 1048576 ∧
 (∀ (v : Vol),List.Mem v (D.to Vol z6) → List.length (Vol.l v) ≤ 1048576) ∧ ∀ (v : Vol),List.Mem v (D.to Vol im) → List.length (Vol.l v) ≤ 1048576) (.need z2 (.need z2 (.need z2 (.need z2 (.need z2 (.need z2
 (.need z2 (.need z2 (.need z2 (.need z2 (.need z2 (.need z2 (.need z2 (.need z3 (.need z3 (.need z3 (.need z3 (.need z3 (.need z3 (.need z3 (.need z3 (.need z3 (.need z3 (.need z3 (.need z3 (.need z3 (.need z4
 (.need z4 (.need z4 (.need z4 (.need z4 (.need z4 (.need z4 (.need z4 (.need z4 (.need z4 (.need z4 (.need z4 (.need z4 (.need (decide (Tgt.stored (Rl.far r) > Tgt.stored far) = false) (.all fun hs=>.need z5
 (.need (RlD.Ok z1) (.need z5 (.need z5 (.need z5 (.need z5 (.need z5 (.need (RlD.Ok z1) (.need z5 (.need z5 (.need z5 (.need z5 (.need z5 (.need z5 (.need z5 (.need z5 (.need z5 (.need z5 (.need z5 (.need z5
 (.need z5 (.need z5 (.leaf (Conf.mk (SFrm.mk 27 none none [Item.code (cAt Try.prog 27 [1,1,0,1,0,1])] (mkJ 0 [(2,.bool (decide (lagRl (RlD.rl z1) ≥ IntKind.wrap .i64 (Tgt.applied (Rl.near r) - Tgt.applied far))))] 0 97)) [] [(2,OBlk.arr 72 tf),
 (3,OBlk.arr 72 tn),(100000,OBlk.cells 62 [.int .i64 (Tgt.epoch (Rl.near r)),.int .i64 (Tgt.site (Rl.near r)),.int .i64 (Tgt.stored (Rl.near r)),.int .i64 (Tgt.applied (Rl.near r)),.int .i64 (Tgt.epoch
 (Rl.far r)),.int .i64 (Tgt.site (Rl.far r)),.int .i64 (Tgt.stored (Rl.far r)),.int .i64 (Tgt.applied (Rl.far r)),.int .i64 (Src.epoch (Rl.src r)),.int .i64 (Src.site (Rl.src r)),.dat (D.like o (Src.offered
 (Rl.src r))),.int .i64 (Src.stored (Rl.src r)),.int .i64 (Src.applied (Rl.src r)),.dat (D.like k (Rl.kept r)),.dat nv,.mapp 100001,.int .i64 (Tgt.epoch far),.int .i64 (Tgt.site far),.int .i64 (Tgt.stored far),.int .i64
 (Tgt.applied far),.dat im,.dat st,.vec 2,.vec 3,.int .i64 num]),(100001,OBlk.mapD .i64 false [FT.slc] m)]))))))))))))))))))))))))))))))))))))))))))))))))))))))))))))))))))))) := by
 intros; kernel_rfl
theorem faB_in : execRS Try.prog ctFS [] 400 (sysE 28 116 [(0,.ptr 100000 0),(1,.agg [.int .i64 mk,.int .i64 mf,.int .i64 mt,.int .i64 mn,.int .i64 mv,.int .i64 me,.dat ml,.dat mb])] (sysM o k nv m im tf tn r far num (.dat st) [])) =
 Tree.br (decide (mk = 10))
 (.leaf
 (Conf.mk
 (SFrm.mk 28 none none
 [Item.inLoop (cA 28 [1,0,1,0,0,0]),Item.inBlock 0,Item.code (cA 28 [1,1])]
 (mkJ 0 [(0,.ptr 100000 0),(3,.ptr 1 0)] 0 116))
 []
 [(1,
 OBlk.cells 72
 [.int .i64 mk,.int .i64 mf,.int .i64 mt,.int .i64 mn,
 .int .i64 mv,.int .i64 me,.dat ml,.dat mb]),
 (3,OBlk.arr 72 tf),(4,OBlk.arr 72 tn),
 (100000,
 OBlk.cells 62 (sC o k r nv far im (.dat st) (.vec 3) (.vec 4) num)),
 (100001,OBlk.mapD .i64 false [FT.slc] m)]))
 (.all fun hs =>
 .all fun hs_1 =>
 .need
 (D.sz tn = 8 ∧
 D.Fits
 (D.like (hs 5 0)
 (Prod.snd
 (answer (Tgt.mk (Tgt.epoch far) (Tgt.site far) (Tgt.stored far) (Tgt.applied far))
 (MsgD.msg (MsgD.mk mk mf mt mn mv me ml mb)))))
 8 ∧
 (D.len tn +
 D.len
 (D.like (hs 5 0)
 (Prod.snd
 (answer (Tgt.mk (Tgt.epoch far) (Tgt.site far) (Tgt.stored far) (Tgt.applied far))
 (MsgD.msg (MsgD.mk mk mf mt mn mv me ml mb)))))) *
 96 ≤
 140737488355328 ∧
 D.len tn +
 D.len
 (D.like (hs 5 0)
 (Prod.snd
 (answer (Tgt.mk (Tgt.epoch far) (Tgt.site far) (Tgt.stored far) (Tgt.applied far))
 (MsgD.msg (MsgD.mk mk mf mt mn mv me ml mb))))) ≤
 9223372036854775807)
 (.leaf
 (Conf.mk
 (SFrm.mk 28 none none [Item.code (cA 28 [1,0,1,0,0,0,1,0,1,1,0,1,0,1])]
 (mkJ 0 [(4,.lb true)] 0 116))
 []
 [(0,
 OBlk.arr 72
 (D.slc (D.hd (hs_1 8 0)) 8
 (List.append (D.rows tn)
 (D.rows
 (D.like (hs 5 0)
 (Prod.snd
 (answer (Tgt.mk (Tgt.epoch far) (Tgt.site far) (Tgt.stored far) (Tgt.applied far))
 (MsgD.msg (MsgD.mk mk mf mt mn mv me ml mb))))))))),
 (3,OBlk.arr 72 tf),
 (100000,
 OBlk.cells 62 (sC o k r nv (Prod.fst (answer (Tgt.mk (Tgt.epoch far) (Tgt.site far) (Tgt.stored far) (Tgt.applied far)) (MsgD.msg (MsgD.mk mk mf mt mn mv me ml mb)))) im (.dat st) (.vec 3) (.vec 0) num)),
 (100001,OBlk.mapD .i64 false [FT.slc] m)]))) := by kernel_rfl
end
def faL (o k nv m im tf tn ml mb : D) (r : Rl) (far : Tgt) (num mk mf mt mn mv me : Int) (sv : SV) (bl : Mem) (kf kn : Nat) : Conf :=
 Conf.mk (SFrm.mk 28 none none [Item.inLoop (cA 28 [1,0,1,0,0,0]),Item.inBlock 0,Item.code (cA 28 [1,1])] (mkJ 0 [(0,.ptr 100000 0),(3,.ptr 1 0)] 0 116)) []
 ((1,OBlk.cells 72 [.int .i64 mk,.int .i64 mf,.int .i64 mt,.int .i64 mn,.int .i64 mv,.int .i64 me,.dat ml,.dat mb]) :: bl ++ [(kf,.arr 72 tf),(kn,.arr 72 tn),
 (100000,.cells 62 (rlL o k r ++ [.dat nv,.mapp 100001,.int .i64 far.epoch,.int .i64 far.site,.int .i64 far.stored,.int .i64 far.applied,.dat im,sv,.vec kf,.vec kn,.int .i64 num])),
 (100001,.mapD .i64 false [.slc] m)])
section
variable (o k nv m im st tf tn ml mb : D) (r : Rl) (far : Tgt) (lo n : Nat) (num mk mf mt mn mv me : Int)
theorem faV_go : 
 let z3 : Tree := (.leaf (Conf.mk (SFrm.mk 28 none none [Item.code (cA 28 [1,0,1,0,0,0,1,0,1,1,0,1,0,1]),Item.code (cA 28 [1,0,1,0,0,0,1,0,1,1,1]),Item.inBlock 1,Item.inLoop (cA 28 [1,0,1,0,0,0]),Item.inBlock 0,Item.code (cA 28 [1,1])] (mkJ 0 [(4,.lb false)] 0 116)) [] [(0,OBlk.arr 65 st),(1,OBlk.arr 72 tf),(2,OBlk.arr 72 tn),(100000,OBlk.cells 62 (sC o k r nv far im (.view 0 5 lo n) (.vec 1) (.vec 2) num)),(100001,OBlk.mapD .i64 false [FT.slc] m)]))
 let z4 : Prop := (decide ((↑n : Int) > 0) = false)
 let z5 : Prop := (decide ((↑n : Int) > 0) = true)
 let z6 := (CyD.mk (D.getInt st (lo + 0) 0) (D.getInt st (lo + 0) 1) (D.getInt st (lo + 0) 2) (D.cell st (lo + 0) 3) (D.cell st (lo + 0) 4))
 let z8 := (Tgt.mk (Tgt.epoch far) (Tgt.site far) (Tgt.stored far) (Tgt.applied far))
 let z2 := (applyT z8 (D.getInt st (lo + 0) 1))
 let z7 := (Prod.snd (answer z8 (MsgD.msg (MsgD.mk mk mf mt mn mv me ml mb))))
 let z1 : Tree := (.all fun hs=>.all fun hs_1=>.need (D.sz tn = 8 ∧ D.Fits (D.like (hs 5 0) z7) 8 ∧ (D.len tn + D.len (D.like (hs 5 0) z7)) * 96 ≤ 140737488355328 ∧ D.len tn + D.len (D.like (hs 5 0) z7) ≤ 9223372036854775807) (.leaf (Conf.mk (SFrm.mk 28 none none [Item.code (cA 28 [1,0,1,0,0,0,1,0,1,1,0,1,0,1])] (mkJ 0 [(4,.lb true)] 0 116)) [] [(0,OBlk.arr 72 (D.slc (D.hd (hs_1 8 0)) 8 (List.append (D.rows tn) (D.rows (D.like (hs 5 0) z7))))),(1,OBlk.arr 65 st),(2,OBlk.arr 72 tf),(100000,OBlk.cells 62 (sC o k r nv (Prod.fst (answer z8 (MsgD.msg (MsgD.mk mk mf mt mn mv me ml mb)))) im (.view 1 5 lo n) (.vec 2) (.vec 0) num)),(100001,OBlk.mapD .i64 false [FT.slc] m)])))
 execRS Try.prog ctFS [] 400 (unroll (faL o k nv m im tf tn ml mb r far num mk mf mt mn mv me (.view 3 5 lo n) [(3,.arr 65 st)] 4 5)) =
 Tree.all fun hs=>.br (decide ((↑n : Int) > 0)) (.need (lo + n ≤ D.len st) (.need z5 (.need z5 (.need z5 (.need z5 (.need z5 (.need (lo + n ≤ D.len st ∧ (0 : Int) ≤ 0 ∧ 0 < (↑n : Int) ∧ D.sz st = 5) (.need z5
 (.need z5 (.need (D.HasCell st (lo + 0) 1 (FT.int .i64) ∧ D.sz st = 5) (.need z5 (.need z5 (.need z5 (.need z5 (.br (decide (D.getInt st (lo + 0) 1 ≤ mn)) (.all fun hs=>.need (lo + n ≤ D.len st ∧ (0 : Int) ≤ 0 ∧ 0 <
 (↑n : Int) ∧ D.sz st = 5) (.need (D.HasCells st (lo + 0) 0 [FT.int .i64,FT.int .i64,FT.int .i64,FT.slc,FT.slc] ∧ D.sz st = 5) (.need (D.Is Vol im ∧ D.len im ≤ 1048576 ∧ CyD.Ok z6) (.all fun hs_1=>.need
 (lo + n ≤ D.len st ∧ (0 : Int) ≤ 0 ∧ 0 < (↑n : Int) ∧ D.sz st = 5) (.need (D.HasCell st (lo + 0) 1 (FT.int .i64) ∧ D.sz st = 5) (.br (Prod.snd (applyCy (D.to Vol im) (CyD.cy z6)) != 0) z3 (.br (Prod.snd
 (Prod.snd z2) != 0) z3 (.all fun hs_2=>.need ((0 : Int) ≤ 1 ∧ 1 ≤ (↑n : Int) ∧ lo + n ≤ D.len st ∧ D.sz st = 5 ∧ (1 < (↑n : Int) ∨ D.Past st (lo + 1))) (.need (D.sz tn = 8 ∧ D.Fits (D.like (hs_1 11 0)
 (Prod.fst (Prod.snd z2))) 8 ∧ (D.len tn + D.len (D.like (hs_1 11 0) (Prod.fst (Prod.snd z2)))) * 96 ≤ 140737488355328 ∧ D.len tn + D.len (D.like (hs_1 11 0) (Prod.fst (Prod.snd z2))) ≤ 9223372036854775807)
 (.leaf (Conf.mk (SFrm.mk 28 none none [Item.inLoop (cA 28 [1,0,1,0,0,0]),Item.inBlock 0,Item.code (cA 28 [1,1])] (mkJ 0 [(0,.ptr 100000 0),(3,.ptr 1 0)] 0 116)) [] [(1,OBlk.cells 72 [.int .i64 mk,.int .i64 mf,.int .i64 mt,.int .i64 mn,.int .i64 mv,.int .i64 me,.dat ml,.dat mb]),
 (3,OBlk.arr 65 st),(4,OBlk.arr 72 tf),(5,OBlk.arr 72 (D.slc (D.hd (hs_2 16 0)) 8 (List.append (D.rows tn) (D.rows (D.like (hs_1 11 0) (Prod.fst (Prod.snd z2))))))),(100000,OBlk.cells 62 (sC o k r nv
 (Prod.fst z2) (D.like (hs 10 0) (Prod.fst (applyCy (D.to Vol im) (CyD.cy z6)))) (.view 3 5 (lo + 1) (n - 1)) (.vec 4) (.vec 5) num)),(100001,OBlk.mapD .i64 false [FT.slc] m)]))))))))))) z1)))))))))))))))
 (.need (lo + n ≤ D.len st) (.need z4 (.need z4 (.need z4 (.need z4 (.need z4 (.need z4 (.need z4 (.need z4 (.need z4 (.need z4 (.need z4 z1)))))))))))) := by
 intros; kernel_rfl
theorem faD_go : 
 let z3 : Tree := (.leaf (Conf.mk (SFrm.mk 28 none none [Item.code (cA 28 [1,0,1,0,0,0,1,0,1,1,0,1,0,1]),Item.code (cA 28 [1,0,1,0,0,0,1,0,1,1,1]),Item.inBlock 1,Item.inLoop (cA 28 [1,0,1,0,0,0]),Item.inBlock 0,Item.code (cA 28 [1,1])] (mkJ 0 [(4,.lb false)] 0 116)) [] [(0,OBlk.arr 72 tf),(1,OBlk.arr 72 tn),(100000,OBlk.cells 62 (sC o k r nv far im (.dat st) (.vec 0) (.vec 1) num)),(100001,OBlk.mapD .i64 false [FT.slc] m)]))
 let z4 : Prop := (decide ((↑(D.len st) : Int) > 0) = false)
 let z5 : Prop := (decide ((↑(D.len st) : Int) > 0) = true)
 let z6 := (CyD.mk (D.getInt st 0 0) (D.getInt st 0 1) (D.getInt st 0 2) (D.cell st 0 3) (D.cell st 0 4))
 let z8 := (Tgt.mk (Tgt.epoch far) (Tgt.site far) (Tgt.stored far) (Tgt.applied far))
 let z2 := (applyT z8 (D.getInt st 0 1))
 let z7 := (Prod.snd (answer z8 (MsgD.msg (MsgD.mk mk mf mt mn mv me ml mb))))
 let z1 : Tree := (.all fun hs=>.all fun hs_1=>.need (D.sz tn = 8 ∧ D.Fits (D.like (hs 5 0) z7) 8 ∧ (D.len tn + D.len (D.like (hs 5 0) z7)) * 96 ≤ 140737488355328 ∧ D.len tn + D.len (D.like (hs 5 0) z7) ≤ 9223372036854775807) (.leaf (Conf.mk (SFrm.mk 28 none none [Item.code (cA 28 [1,0,1,0,0,0,1,0,1,1,0,1,0,1])] (mkJ 0 [(4,.lb true)] 0 116)) [] [(0,OBlk.arr 72 (D.slc (D.hd (hs_1 8 0)) 8 (List.append (D.rows tn) (D.rows (D.like (hs 5 0) z7))))),(1,OBlk.arr 72 tf),(100000,OBlk.cells 62 (sC o k r nv (Prod.fst (answer z8 (MsgD.msg (MsgD.mk mk mf mt mn mv me ml mb)))) im (.dat st) (.vec 1) (.vec 0) num)),(100001,OBlk.mapD .i64 false [FT.slc] m)])))
 execRS Try.prog ctFS [] 400 (unroll (faL o k nv m im tf tn ml mb r far num mk mf mt mn mv me (.dat st) [] 4 5)) =
 Tree.all fun hs=>.br (decide ((↑(D.len st) : Int) > 0)) (.need z5 (.need z5 (.need z5 (.need z5 (.need z5 (.need ((0 : Int) ≤ 0 ∧ 0 < (↑(D.len st) : Int) ∧ D.sz st = 5) (.need z5 (.need z5 (.need (D.HasCell st 0 1
 (FT.int .i64)) (.need z5 (.need z5 (.need z5 (.need z5 (.br (decide (D.getInt st 0 1 ≤ mn)) (.all fun hs=>.need ((0 : Int) ≤ 0 ∧ 0 < (↑(D.len st) : Int) ∧ D.sz st = 5) (.need (D.HasCells st 0 0 [FT.int .i64,FT.int .i64,FT.int .i64,FT.slc,FT.slc])
 (.need (D.Is Vol im ∧ D.len im ≤ 1048576 ∧ CyD.Ok z6) (.all fun hs_1=>.need ((0 : Int) ≤ 0 ∧ 0 < (↑(D.len st) : Int) ∧ D.sz st = 5) (.need (D.HasCell st 0 1 (FT.int .i64)) (.br (Prod.snd (applyCy (D.to Vol im)
 (CyD.cy z6)) != 0) z3 (.br (Prod.snd (Prod.snd z2) != 0) z3 (.all fun hs_2=>.need ((0 : Int) ≤ 1 ∧ 1 ≤ (↑(D.len st) : Int) ∧ (↑(D.len st) : Int) ≤ (↑(D.len st) : Int) ∧ D.Fits st 5) (.need (D.sz tn = 8 ∧ D.Fits
 (D.like (hs_1 11 0) (Prod.fst (Prod.snd z2))) 8 ∧ (D.len tn + D.len (D.like (hs_1 11 0) (Prod.fst (Prod.snd z2)))) * 96 ≤ 140737488355328 ∧ D.len tn + D.len (D.like (hs_1 11 0) (Prod.fst (Prod.snd z2))) ≤ 9223372036854775807)
 (.leaf (Conf.mk (SFrm.mk 28 none none [Item.inLoop (cA 28 [1,0,1,0,0,0]),Item.inBlock 0,Item.code (cA 28 [1,1])] (mkJ 0 [(0,.ptr 100000 0),(3,.ptr 1 0)] 0 116)) [] [(1,OBlk.cells 72 [.int .i64 mk,.int .i64 mf,.int .i64 mt,.int .i64 mn,.int .i64 mv,.int .i64 me,.dat ml,.dat mb]),
 (3,OBlk.arr 72 tf),(4,OBlk.arr 72 (D.slc (D.hd (hs_2 16 0)) 8 (List.append (D.rows tn) (D.rows (D.like (hs_1 11 0) (Prod.fst (Prod.snd z2))))))),(100000,OBlk.cells 62 (sC o k r nv (Prod.fst z2) (D.like
 (hs 10 0) (Prod.fst (applyCy (D.to Vol im) (CyD.cy z6)))) (.dat (D.sub st 1 (Int.toNat (↑(D.len st) : Int)))) (.vec 3) (.vec 4) num)),(100001,OBlk.mapD .i64 false [FT.slc] m)]))))))))))) z1))))))))))))))
 (.need z4 (.need z4 (.need z4 (.need z4 (.need z4 (.need z4 (.need z4 (.need z4 (.need z4 (.need z4 (.need z4 z1))))))))))) := by
 intros; kernel_rfl
theorem faE_go : 
 let z3 : Tree := (.leaf (Conf.mk (SFrm.mk 28 none none [Item.code (cA 28 [1,0,1,0,0,0,1,0,1,1,0,1,0,1]),Item.code (cA 28 [1,0,1,0,0,0,1,0,1,1,1]),Item.inBlock 1,Item.inLoop (cA 28 [1,0,1,0,0,0]),Item.inBlock 0,Item.code (cA 28 [1,1])] (mkJ 0 [(4,.lb false)] 0 116)) [] [(0,OBlk.arr 72 tf),(1,OBlk.arr 72 tn),(100000,OBlk.cells 62 (sC o k r nv far im (.dat st) (.vec 0) (.vec 1) num)),(100001,OBlk.mapD .i64 false [FT.slc] m)]))
 let z4 : Prop := (decide ((↑(D.len st) : Int) > 0) = false)
 let z5 : Prop := (decide ((↑(D.len st) : Int) > 0) = true)
 let z6 := (CyD.mk (D.getInt st 0 0) (D.getInt st 0 1) (D.getInt st 0 2) (D.cell st 0 3) (D.cell st 0 4))
 let z8 := (Tgt.mk (Tgt.epoch far) (Tgt.site far) (Tgt.stored far) (Tgt.applied far))
 let z2 := (applyT z8 (D.getInt st 0 1))
 let z7 := (Prod.snd (answer z8 (MsgD.msg (MsgD.mk mk mf mt mn mv me ml mb))))
 let z1 : Tree := (.all fun hs=>.all fun hs_1=>.need (D.sz tn = 8 ∧ D.Fits (D.like (hs 5 0) z7) 8 ∧ (D.len tn + D.len (D.like (hs 5 0) z7)) * 96 ≤ 140737488355328 ∧ D.len tn + D.len (D.like (hs 5 0) z7) ≤ 9223372036854775807) (.leaf (Conf.mk (SFrm.mk 28 none none [Item.code (cA 28 [1,0,1,0,0,0,1,0,1,1,0,1,0,1])] (mkJ 0 [(4,.lb true)] 0 116)) [] [(0,OBlk.arr 72 (D.slc (D.hd (hs_1 8 0)) 8 (List.append (D.rows tn) (D.rows (D.like (hs 5 0) z7))))),(1,OBlk.arr 72 tf),(100000,OBlk.cells 62 (sC o k r nv (Prod.fst (answer z8 (MsgD.msg (MsgD.mk mk mf mt mn mv me ml mb)))) im (.dat st) (.vec 1) (.vec 0) num)),(100001,OBlk.mapD .i64 false [FT.slc] m)])))
 execRS Try.prog ctFS [] 400 (unroll (faL o k nv m im tf tn ml mb r far num mk mf mt mn mv me (.dat st) [] 3 4)) =
 Tree.all fun hs=>.br (decide ((↑(D.len st) : Int) > 0)) (.need z5 (.need z5 (.need z5 (.need z5 (.need z5 (.need ((0 : Int) ≤ 0 ∧ 0 < (↑(D.len st) : Int) ∧ D.sz st = 5) (.need z5 (.need z5 (.need (D.HasCell st 0 1
 (FT.int .i64)) (.need z5 (.need z5 (.need z5 (.need z5 (.br (decide (D.getInt st 0 1 ≤ mn)) (.all fun hs=>.need ((0 : Int) ≤ 0 ∧ 0 < (↑(D.len st) : Int) ∧ D.sz st = 5) (.need (D.HasCells st 0 0 [FT.int .i64,FT.int .i64,FT.int .i64,FT.slc,FT.slc])
 (.need (D.Is Vol im ∧ D.len im ≤ 1048576 ∧ CyD.Ok z6) (.all fun hs_1=>.need ((0 : Int) ≤ 0 ∧ 0 < (↑(D.len st) : Int) ∧ D.sz st = 5) (.need (D.HasCell st 0 1 (FT.int .i64)) (.br (Prod.snd (applyCy (D.to Vol im)
 (CyD.cy z6)) != 0) z3 (.br (Prod.snd (Prod.snd z2) != 0) z3 (.all fun hs_2=>.need ((0 : Int) ≤ 1 ∧ 1 ≤ (↑(D.len st) : Int) ∧ (↑(D.len st) : Int) ≤ (↑(D.len st) : Int) ∧ D.Fits st 5) (.need (D.sz tn = 8 ∧ D.Fits
 (D.like (hs_1 11 0) (Prod.fst (Prod.snd z2))) 8 ∧ (D.len tn + D.len (D.like (hs_1 11 0) (Prod.fst (Prod.snd z2)))) * 96 ≤ 140737488355328 ∧ D.len tn + D.len (D.like (hs_1 11 0) (Prod.fst (Prod.snd z2))) ≤ 9223372036854775807)
 (.leaf (Conf.mk (SFrm.mk 28 none none [Item.inLoop (cA 28 [1,0,1,0,0,0]),Item.inBlock 0,Item.code (cA 28 [1,1])] (mkJ 0 [(0,.ptr 100000 0),(3,.ptr 1 0)] 0 116)) [] [(1,OBlk.cells 72 [.int .i64 mk,.int .i64 mf,.int .i64 mt,.int .i64 mn,.int .i64 mv,.int .i64 me,.dat ml,.dat mb]),
 (3,OBlk.arr 72 tf),(4,OBlk.arr 72 (D.slc (D.hd (hs_2 16 0)) 8 (List.append (D.rows tn) (D.rows (D.like (hs_1 11 0) (Prod.fst (Prod.snd z2))))))),(100000,OBlk.cells 62 (sC o k r nv (Prod.fst z2) (D.like
 (hs 10 0) (Prod.fst (applyCy (D.to Vol im) (CyD.cy z6)))) (.dat (D.sub st 1 (Int.toNat (↑(D.len st) : Int)))) (.vec 3) (.vec 4) num)),(100001,OBlk.mapD .i64 false [FT.slc] m)]))))))))))) z1))))))))))))))
 (.need z4 (.need z4 (.need z4 (.need z4 (.need z4 (.need z4 (.need z4 (.need z4 (.need z4 (.need z4 (.need z4 z1))))))))))) := by
 intros; kernel_rfl
end
end Sv
end
noncomputable section
open Go Go.Proofs Sx
namespace Sx
theorem tmod4 {n : Int} (h : 0 ≤ n) : 0 ≤ Int.tmod n 4 ∧ Int.tmod n 4 < 4 := by
 rw [Int.tmod_eq_emod_of_nonneg h]; omega
theorem small_cy {b n d : Int} {sz : List Int} (hs : sizesErr sz = 0) (h4 : 4 ≤ sz.getD 0 0) (hb : 0 ≤ b) (hn : b < n) (hm : n ≤ 1073741824) : cyErr (smallC b n d) sz = 0 := by
 obtain ⟨h1,h2⟩ := tmod4 (n := n) (by omega)
 obtain ⟨l1,_,_⟩ := sizesErr_ok hs
 unfold cyErr
 rw [if_neg (by simp [hs]),if_neg (by simp only [smallC]; omega),if_neg (by simp [smallC,badTime]),if_neg (by simp [smallC,posErr])]
 unfold coErr
 rw [if_neg (by simp [hs])]
 have hf : fitsErr sz ⟨0,Int.tmod n 4,[⟨IntKind.u8.wrap n,d,0,0,0,0,0,0⟩]⟩ = 0 := by
  unfold fitsErr
  rw [if_neg (by simp only; omega),if_neg (by simp),if_neg (by simp only [List.length_cons,List.length_nil,Int.toNat_zero]; omega)]
 simp [smallC,canonErr,hf,cyBad]
def ChainS : Int → List Cy → Prop
 | _,[]=>True
 | a,c :: r=>(∃ d,c = smallC a c.number d) ∧ a < c.number ∧ c.number ≤ 1073741824 ∧ ChainS c.number r
def lastN (a : Int) (l : List Cy) : Int := (l.map Cy.number).getLastD a
theorem lastN_cons (a : Int) (c : Cy) (l : List Cy) : lastN a (c :: l) = lastN c.number l := by
 unfold lastN; cases l <;> rfl
theorem lastN_snoc (a : Int) (l : List Cy) (c : Cy) : lastN a (l ++ [c]) = c.number := by
 induction l generalizing a with
 | nil=>rfl
 | cons x r ih=>rw [List.cons_append,lastN_cons,ih]
theorem chain_snoc {a : Int} {l : List Cy} {n d : Int} (h : ChainS a l) (h1 : lastN a l < n) (h2 : n ≤ 1073741824) : ChainS a (l ++ [smallC (lastN a l) n d]) := by
 induction l generalizing a with
 | nil=>exact ⟨⟨d,rfl⟩,h1,h2,trivial⟩
 | cons x r ih =>
  obtain ⟨k1,k2,k3,k4⟩ := h
  rw [lastN_cons] at h1 ⊢
  exact ⟨k1,k2,k3,ih k4 h1⟩
theorem chain_le {a : Int} {l : List Cy} (h : ChainS a l) : a ≤ lastN a l ∧ ∀ c,c ∈ l → a < c.number ∧ c.number ≤ lastN a l ∧ a ≤ c.base ∧ c.number ≤ 1073741824 := by
 induction l generalizing a with
 | nil=>exact ⟨Int.le_refl _,fun c hc=>by cases hc⟩
 | cons x r ih =>
  obtain ⟨⟨d,k1⟩,k2,k3,k4⟩ := h
  obtain ⟨i1,i2⟩ := ih k4
  rw [lastN_cons]
  refine ⟨by omega,fun c hc=>?_⟩
  rcases List.mem_cons.1 hc with rfl | hc
  ·refine ⟨k2,i1,?_,k3⟩
   rw [k1]; exact Int.le_refl _
  ·have := i2 c hc; omega
theorem chain_err {a : Int} {l : List Cy} (h0 : 0 ≤ a) (h : ChainS a l) {c : Cy} (hc : c ∈ l) : cyErr c most = 0 := by
 induction l generalizing a with
 | nil=>cases hc
 | cons x r ih =>
  obtain ⟨⟨d,k1⟩,k2,k3,k4⟩ := h
  rcases List.mem_cons.1 hc with rfl | hc
  ·rw [k1]; exact small_cy (by decide) (by decide) h0 k2 k3
  ·exact ih (by omega) k4 hc
theorem chain_leads {a : Int} {l : List Cy} (h : ChainS a l) : leadsI l a = (lastN a l,true) := by
 induction l generalizing a with
 | nil=>rfl
 | cons x r ih =>
  obtain ⟨⟨d,k1⟩,k2,k3,k4⟩ := h
  have hb : x.base = a := by rw [k1]; rfl
  unfold leadsI
  rw [if_neg (by omega),ih k4,lastN_cons]
theorem chain_asc {a : Int} {l : List Cy} (h : ChainS a l) : asc32 a (l.map Cy.number) = true := by
 induction l generalizing a with
 | nil=>rfl
 | cons x r ih =>
  obtain ⟨_,k2,k3,k4⟩ := h
  simp only [List.map_cons,asc32,Bool.and_eq_true,decide_eq_true_eq]
  exact ⟨⟨k2,k3⟩,ih k4⟩
def relR (A S N : Int) (K : List Cy) : Rl := ⟨⟨1,1,N,N⟩,⟨1,2,S,A⟩,⟨1,2,K.map Cy.number,S,A⟩,K⟩
structure RelOk (A S N : Int) (K : List Cy) : Prop where
 a0 : 0 ≤ A
 ch : ChainS A K
 len : K.length ≤ 1000
 last : lastN A K = N
 top : N ≤ 1073741824
 st : S = A ∨ S ∈ K.map Cy.number
theorem RelOk.range {A S N : Int} {K : List Cy} (h : RelOk A S N K) : A ≤ S ∧ S ≤ N ∧ A ≤ N := by
 obtain ⟨c1,c2⟩ := chain_le h.ch
 rw [h.last] at c1
 rcases h.st with rfl | hs
 ·exact ⟨Int.le_refl _,c1,c1⟩
 ·obtain ⟨c,hc,rfl⟩ := List.mem_map.1 hs
  have := c2 c hc
  rw [h.last] at this
  omega
theorem RelOk.src {A S N : Int} {K : List Cy} (h : RelOk A S N K) : checkSource ⟨1,2,K.map Cy.number,S,A⟩ = 0 := by
 obtain ⟨r1,r2,r3⟩ := h.range
 have := h.a0; have := h.top; have := h.len
 unfold checkSource
 rw [if_neg,if_neg,if_neg,if_neg]
 ·rintro ⟨k1,k2⟩
  rcases h.st with k | k
  ·exact k1 k
  ·exact k2 k
 ·rw [chain_asc h.ch]; decide
 ·simp only [List.length_map]; omega
 ·simp [okRight,okTime,okSite]; omega
theorem RelOk.ck {A S N : Int} {K : List Cy} (h : RelOk A S N K) : ckRl (relR A S N K) = 0 := by
 obtain ⟨r1,r2,r3⟩ := h.range
 have := h.a0; have := h.top
 unfold ckRl
 have t1 : checkTarget (relR A S N K).near = 0 := by
  unfold checkTarget relR
  rw [if_neg (by simp [okTime,okSite]),if_neg (by simp only; omega)]
 have t2 : checkTarget (relR A S N K).far = 0 := by
  unfold checkTarget relR
  rw [if_neg (by simp [okTime,okSite]),if_neg (by simp only; omega)]
 have t3 : checkSource (relR A S N K).src = 0 := h.src
 rw [if_neg (by simp [t1]),if_neg (by simp [t2]),if_neg (by simp [t3])]
 have hall : (K.all fun c=>decide (cyErr c most = 0)) = true := by
  rw [List.all_eq_true]
  intro c hc
  rw [decide_eq_true_eq]
  obtain ⟨_,c2⟩ := chain_le h.ch
  have hd := c2 c hc
  exact chain_err h.a0 h.ch hc
 have hf : formedR (relR A S N K) = true := by
  unfold formedR relR
  rw [chain_leads h.ch,h.last]
  simp [hall]
 rw [if_neg (by rw [hf]; decide)]
theorem behind_all {a : Int} {l : List Cy} (h : ChainS a l) {n : Int} (hn : n ≤ a) : behindL l n = l :=
 behindL_all fun c hc=>by have := (chain_le h).2 c hc; omega
theorem apply_rel {A S N n d : Int} {K : List Cy} (h : RelOk A S N K) (hl : K.length < 1000) (h1 : N < n) (h2 : n ≤ 1073741824) :
  applyRl (relR A S N K) (smallC N n d) = (relR A S n (K ++ [smallC N n d]),[⟨8,0,2,n,0,1,[],[]⟩],0) ∧ RelOk A S n (K ++ [smallC N n d]) := by
 obtain ⟨r1,r2,r3⟩ := h.range
 have ha := h.a0
 have hfr : frontRl (relR A S N K) = N := h.last
 have hlo : lastOf A (K.map Cy.number) = N := h.last
 have hof : offer ⟨1,2,K.map Cy.number,S,A⟩ n = (⟨1,2,K.map Cy.number ++ [n],S,A⟩,[⟨8,0,2,n,0,1,[],[]⟩],0) := by
  rw [offer_c h.src hlo,if_neg (by omega),if_neg (by omega),if_neg (by simp only [List.length_map]; omega)]
 constructor
 ·unfold applyRl
  rw [if_neg (by simp [h.ck]),if_neg (by rw [small_cy (by decide) (by decide) (by omega) h1 h2]; simp),if_neg (by simp only [smallC,relR]; omega),if_neg (by simp only [smallC,relR]; omega),if_neg (by rw [hfr]; simp [smallC])]
  have e1 : (relR A S N K).src = ⟨1,2,K.map Cy.number,S,A⟩ := rfl
  have e2 : (smallC N n d).number = n := rfl
  rw [e1,e2,hof,if_neg (by simp)]
  simp [relR,smallC]
 ·refine ⟨ha,?_,by simp only [List.length_append,List.length_cons,List.length_nil]; omega,lastN_snoc _ _ _,h2,?_⟩
  ·have := chain_snoc (d := d) h.ch (n := n) (by rw [h.last]; exact h1) h2
   rw [h.last] at this
   exact this
  ·rcases h.st with k | k
   ·exact .inl k
   ·exact .inr (by rw [List.map_append]; exact List.mem_append_left _ k)
theorem learn_src {A S N : Int} {K : List Cy} (h : RelOk A S N K) (k v mn t : Int) (vs : List Int) (bs : List Byte) :
  learn ⟨1,2,K.map Cy.number,S,A⟩ ⟨k,2,t,mn,v,1,vs,bs⟩ = if k ≠ 9 ∧ k ≠ 11 ∧ k ≠ 12 then (⟨1,2,K.map Cy.number,S,A⟩,[])
   else if k = 9 then (if v ∈ K.map Cy.number ∧ v ≥ S then (⟨1,2,K.map Cy.number,v,A⟩,[⟨10,0,2,v,0,1,[],[]⟩]) else (⟨1,2,K.map Cy.number,S,A⟩,[]))
   else if k = 11 then (if v ∈ K.map Cy.number then (⟨1,2,(K.map Cy.number).filter fun x=>decide (x > v),max S v,v⟩,[]) else (⟨1,2,K.map Cy.number,S,A⟩,[]))
   else (⟨1,2,K.map Cy.number,S,A⟩,[]) := by
 rw [learn_eq h.src rfl (by omega) (by omega)]
 split
 ·rfl
 ·rw [if_neg (by omega)]
theorem behind_map (l : List Cy) (n : Int) : (behindL l n).map Cy.number = (l.map Cy.number).filter fun x=>decide (x > n) := by
 induction l with
 | nil=>rfl
 | cons c r ih =>
  unfold behindL at ih ⊢
  simp only [List.filter_cons,List.map_cons]
  split
  ·rw [List.map_cons,ih]
  ·exact ih
theorem chain_cut {a : Int} {l : List Cy} (h : ChainS a l) {v : Int} (hv : v ∈ l.map Cy.number) : ChainS v (behindL l v) ∧ lastN v (behindL l v) = lastN a l := by
 induction l generalizing a with
 | nil=>cases hv
 | cons x r ih =>
  obtain ⟨⟨d,k1⟩,k2,k3,k4⟩ := h
  rcases List.mem_cons.1 hv with rfl | hv
  ·have e : behindL (x :: r) x.number = r := by
    have := behind_all k4 (n := x.number) (Int.le_refl _)
    unfold behindL at this ⊢
    rw [List.filter_cons,if_neg (by simp),this]
   rw [e,lastN_cons]
   exact ⟨k4,rfl⟩
  ·obtain ⟨c,hc,rfl⟩ := List.mem_map.1 hv
   have hlt := (chain_le k4).2 c hc
   have e : behindL (x :: r) c.number = behindL r c.number := by
    unfold behindL
    rw [List.filter_cons,if_neg (by simp; omega)]
   rw [e,lastN_cons]
   exact ih k4 hv
theorem learnRl_of {A S N s' a' : Int} {K : List Cy} {m : Msg} {O : List Int} {ms : List Msg} (h : RelOk A S N K) (hL : learn ⟨1,2,K.map Cy.number,S,A⟩ m = (⟨1,2,O,s',a'⟩,ms)) :
  learnRl (relR A S N K) m = (⟨⟨1,1,N,N⟩,⟨1,2,s',a'⟩,⟨1,2,O,s',a'⟩,behindL K a'⟩,ms) := by
 have e1 : (relR A S N K).src = ⟨1,2,K.map Cy.number,S,A⟩ := rfl
 unfold learnRl
 rw [if_neg (by simp [h.ck])]
 simp only [e1,hL,gt_iff_lt,Int.lt_irrefl,if_false]
 rfl
theorem learn_stored {A S N v mn t : Int} {K : List Cy} {vs : List Int} {bs : List Byte} (h : RelOk A S N K) :
  (learnRl (relR A S N K) ⟨9,2,t,mn,v,1,vs,bs⟩ = (relR A S N K,[]) ∨ (learnRl (relR A S N K) ⟨9,2,t,mn,v,1,vs,bs⟩ = (relR A v N K,[⟨10,0,2,v,0,1,[],[]⟩]) ∧ RelOk A v N K ∧ v ≥ S)) := by
 have hb : behindL K A = K := behind_all h.ch (Int.le_refl _)
 have hl := learn_src h 9 v mn t vs bs
 rw [if_neg (by omega),if_pos rfl] at hl
 by_cases hv : v ∈ K.map Cy.number ∧ v ≥ S
 ·rw [if_pos hv] at hl
  refine .inr ⟨?_,⟨h.a0,h.ch,h.len,h.last,h.top,.inr hv.1⟩,hv.2⟩
  rw [learnRl_of h hl,hb]; rfl
 ·rw [if_neg hv] at hl
  left
  rw [learnRl_of h hl,hb]; rfl
theorem learn_applied {A S N v mn t : Int} {K : List Cy} {vs : List Int} {bs : List Byte} (h : RelOk A S N K) :
  learnRl (relR A S N K) ⟨11,2,t,mn,v,1,vs,bs⟩ = (relR A S N K,[]) ∨ (v ∈ K.map Cy.number ∧ learnRl (relR A S N K) ⟨11,2,t,mn,v,1,vs,bs⟩ = (relR v (max S v) N (behindL K v),[]) ∧ RelOk v (max S v) N (behindL K v)) := by
 have hb : behindL K A = K := behind_all h.ch (Int.le_refl _)
 have hl := learn_src h 11 v mn t vs bs
 rw [if_neg (by omega),if_neg (by omega),if_pos rfl] at hl
 by_cases hv : v ∈ K.map Cy.number
 ·rw [if_pos hv] at hl
  refine .inr ⟨hv,?_,?_⟩
  ·rw [learnRl_of h hl,← behind_map]; rfl
  ·obtain ⟨c1,c2⟩ := chain_cut h.ch hv
   obtain ⟨c,hc,rfl⟩ := List.mem_map.1 hv
   have hlt := (chain_le h.ch).2 c hc
   have := h.a0
   refine ⟨by omega,c1,Nat.le_trans (List.length_filter_le _ _) h.len,c2.trans h.last,h.top,?_⟩
   rw [Int.max_def]
   split
   ·exact .inl rfl
   ·rename_i hSv
    right
    rw [behind_map]
    rcases h.st with k | k
    ·omega
    ·exact List.mem_filter.2 ⟨k,by simpa using hSv⟩
 ·rw [if_neg hv] at hl
  left
  rw [learnRl_of h hl,hb]; rfl
theorem chain_between {a x : Int} {l : List Cy} (h : ChainS a l) {c : Cy} (hc : c ∈ l) (hx : x = a ∨ x ∈ l.map Cy.number) (h1 : c.base ≤ x) (h2 : x < c.number) : x = c.base := by
 induction l generalizing a with
 | nil=>cases hc
 | cons y r ih =>
  obtain ⟨⟨d,k1⟩,k2,k3,k4⟩ := h
  have hb : y.base = a := by rw [k1]; rfl
  rcases List.mem_cons.1 hc with rfl | hc
  ·rcases hx with rfl | hx
   ·exact hb.symm
   ·exfalso
    rcases List.mem_cons.1 hx with rfl | hx
    ·omega
    ·obtain ⟨z,hz,rfl⟩ := List.mem_map.1 hx
     have := (chain_le k4).2 z hz; omega
  ·have hr := (chain_le k4).2 c hc
   have hx' : x = y.number ∨ x ∈ r.map Cy.number := by
    rcases hx with rfl | hx
    ·omega
    ·rcases List.mem_cons.1 hx with rfl | hx
     ·exact .inl rfl
     ·exact .inr hx
   exact ih k4 hc hx'
def Im4 (im : List Vol) : Prop := volSizes im = [4]
theorem im4_apply {im : List Vol} {b n d : Int} (h : Im4 im) (hb : 0 ≤ b) (hn : b < n) (hm : n ≤ 1073741824) : (applyCy im (smallC b n d)).2 = 0 ∧ Im4 (applyCy im (smallC b n d)).1 := by
 unfold Im4 at h
 obtain ⟨t1,t2⟩ := tmod4 (n := n) (by omega)
 have hs : sizesErr (volSizes im) = 0 := by rw [h]; decide
 have hc : cyErr (smallC b n d) (volSizes im) = 0 := small_cy hs (by rw [h]; decide) hb hn hm
 have hf : fitsErr (volSizes im) ⟨0,Int.tmod n 4,[⟨IntKind.u8.wrap n,d,0,0,0,0,0,0⟩]⟩ = 0 := by
  rw [h]; unfold fitsErr
  rw [if_neg (by simp),if_neg (by simp),if_neg (by simp; omega)]
 have e : applyCy im (smallC b n d) = (putW im ⟨0,Int.tmod n 4,[⟨IntKind.u8.wrap n,d,0,0,0,0,0,0⟩]⟩,0) := by
  unfold applyCy applyI
  rw [if_neg (by simp [hs]),if_neg (by simp [hc]),if_neg (by simp [hs])]
  simp only [smallC,applyV,hf,ne_eq,not_true_eq_false,if_false]
 rw [e]
 refine ⟨rfl,?_⟩
 unfold Im4
 obtain ⟨_,_,f3,f4,f5⟩ := fits_ok hf
 have hlen : im.length = 1 := by have := congrArg List.length h; simpa [volSizes] using this
 obtain ⟨v,rfl⟩ := List.length_eq_one_iff.1 hlen
 have hv : v.l.length = 4 := by simp [volSizes] at h; omega
 simp only [putW,volSizes,Int.toNat_zero,List.set_cons_zero,List.getD_cons_zero,List.map_cons,List.map_nil,List.length_append,List.length_take,List.length_drop,List.length_cons,List.length_nil,List.cons.injEq,and_true]
 omega
structure Sys where
 r : Rl
 near : List Vol
 images : List (Int × List Vol)
 far : Tgt
 image : List Vol
 staged : List Cy
 toFar : List Msg
 toNear : List Msg
 numbers : Int
def looks (l : List (Int × List Vol)) (n : Int) : Option (List Vol) := (l.find? fun p=>decide (p.1 = n)).map Prod.snd
def Leads (l : List (Int × List Vol)) (c : Cy) : Prop := ∃ im im',looks l c.base = some im ∧ looks l c.number = some im' ∧ Im4 im ∧ applyCy im c = (im',0)
structure SysOk (s : Sys) (A S Sf Af : Int) (K : List Cy) : Prop where
 rel : RelOk A S s.numbers K
 r : s.r = relR A S s.numbers K
 far : s.far = ⟨1,2,Sf,Af⟩
 le : A ≤ Af ∧ S ≤ Sf ∧ Sf ≤ s.numbers
 at' : Sf = A ∨ Sf ∈ K.map Cy.number
 ch : ChainS Af s.staged
 last : lastN Af s.staged = Sf
 img : looks s.images Af = some s.image ∧ Im4 s.image
 near : looks s.images s.numbers = some s.near ∧ Im4 s.near
 new : ∀ p,p ∈ s.images → p.1 ≤ s.numbers
 kept : ∀ c,c ∈ K → Leads s.images c
 stg : ∀ c,c ∈ s.staged → Leads s.images c
 far_m : ∀ m,m ∈ s.toFar → (m.kind = 8 ∨ m.kind = 10) ∧ m.to = 2 ∧ m.epoch = 1
 near_m : ∀ m,m ∈ s.toNear → m.frm = 2 ∧ m.epoch = 1 ∧ ((m.kind = 9 ∧ m.value ≤ Sf) ∨ (m.kind = 11 ∧ m.value ≤ Af))
 ims : ∀ p,p ∈ s.images → looks s.images p.1 = some p.2 ∧ (p.1 ≤ A ∨ p.1 ∈ K.map Cy.number)
theorem looks_app {l : List (Int × List Vol)} {k n : Int} {v x : List Vol} (h : looks l k = some x) : looks (l ++ [(n,v)]) k = some x := by
 unfold looks at h ⊢
 rw [List.find?_append]
 cases hf : l.find? fun p=>decide (p.1 = k) with
 | none=>rw [hf] at h; cases h
 | some p=>rw [hf] at h; exact h
theorem looks_new {l : List (Int × List Vol)} {n : Int} {v : List Vol} (h : ∀ p,p ∈ l → p.1 < n) : looks (l ++ [(n,v)]) n = some v := by
 unfold looks
 rw [List.find?_append]
 have : l.find? (fun p=>decide (p.1 = n)) = none := List.find?_eq_none.2 fun p hp=>by have := h p hp; simp; omega
 rw [this]
 simp
theorem Leads.app {l : List (Int × List Vol)} {c : Cy} {n : Int} {v : List Vol} (h : Leads l c) : Leads (l ++ [(n,v)]) c := by
 obtain ⟨im,im',h1,h2,h3,h4⟩ := h
 exact ⟨im,im',looks_app h1,looks_app h2,h3,h4⟩
def applyS (s : Sys) (w d : Int) : Sys × Bool :=
 let c := smallC s.numbers (s.numbers + 1 + Int.tmod w 2) d
 if (applyRl s.r c).2.2 ≠ 0 ∨ (applyCy s.near c).2 ≠ 0 then ({ s with numbers := c.number },false)
 else ({ s with numbers := c.number,r := (applyRl s.r c).1,near := (applyCy s.near c).1,images := s.images ++ [(c.number,(applyCy s.near c).1)],toFar := s.toFar ++ (applyRl s.r c).2.1 },true)
theorem applyS_ok {s : Sys} {A S Sf Af w d : Int} {K : List Cy} (h : SysOk s A S Sf Af K) (hw : 0 ≤ w) (hn : s.numbers + 2 ≤ 1073741824) (hk : K.length < 1000) :
  (applyS s w d).2 = true ∧ (applyS s w d).1.numbers ≤ s.numbers + 2 ∧ SysOk (applyS s w d).1 A S Sf Af (K ++ [smallC s.numbers (s.numbers + 1 + Int.tmod w 2) d]) := by
 obtain ⟨r1,r2,r3⟩ := h.rel.range
 have ha := h.rel.a0
 have ht : 0 ≤ Int.tmod w 2 ∧ Int.tmod w 2 < 2 := by rw [Int.tmod_eq_emod_of_nonneg hw]; omega
 obtain ⟨a1,a2⟩ := apply_rel (n := s.numbers + 1 + Int.tmod w 2) (d := d) h.rel hk (by omega) (by omega)
 obtain ⟨b1,b2⟩ := im4_apply (b := s.numbers) (n := s.numbers + 1 + Int.tmod w 2) (d := d) h.near.2 (by omega) (by omega) (by omega)
 have e : applyS s w d = ({ s with numbers := s.numbers + 1 + Int.tmod w 2,r := relR A S (s.numbers + 1 + Int.tmod w 2) (K ++ [smallC s.numbers (s.numbers + 1 + Int.tmod w 2) d]),near := (applyCy s.near (smallC s.numbers (s.numbers + 1 + Int.tmod w 2) d)).1,images := s.images ++ [(s.numbers + 1 + Int.tmod w 2,(applyCy s.near (smallC s.numbers (s.numbers + 1 + Int.tmod w 2) d)).1)],toFar := s.toFar ++ [⟨8,0,2,s.numbers + 1 + Int.tmod w 2,0,1,[],[]⟩] },true) := by
  unfold applyS
  simp only [h.r,a1,b1,ne_eq,not_true_eq_false,or_self,if_false]
  rfl
 rw [e]
 have hnn : s.numbers < s.numbers + 1 + Int.tmod w 2 := by omega
 have hn2 : s.numbers + 1 + Int.tmod w 2 ≤ s.numbers + 2 := by omega
 generalize s.numbers + 1 + Int.tmod w 2 = n at *
 refine ⟨rfl,hn2,?_⟩
 refine ⟨a2,rfl,h.far,⟨h.le.1,h.le.2.1,by simp only; have := h.le.2.2; omega⟩,?_,h.ch,h.last,⟨looks_app h.img.1,h.img.2⟩,⟨looks_new fun p hp=>by have := h.new p hp; omega,b2⟩,fun p hp=>?_,fun c hc=>?_,fun c hc=>(h.stg c hc).app,fun m hm=>?_,h.near_m,fun p hp=>?_⟩
 ·rcases h.at' with k | k
  ·exact .inl k
  ·exact .inr (by rw [List.map_append]; exact List.mem_append_left _ k)
 ·rcases List.mem_append.1 hp with hp | hp
  ·have := h.new p hp; simp only; omega
  ·rw [List.mem_singleton.1 hp]; exact Int.le_refl _
 ·rcases List.mem_append.1 hc with hc | hc
  ·exact (h.kept c hc).app
  ·rw [List.mem_singleton.1 hc]
   exact ⟨s.near,_,looks_app h.near.1,looks_new fun p hp=>by have := h.new p hp; omega,h.near.2,by rw [← b1]⟩
 ·rcases List.mem_append.1 hm with hm | hm
  ·exact h.far_m m hm
  ·rw [List.mem_singleton.1 hm]; exact ⟨.inl rfl,rfl,rfl⟩
 ·rcases List.mem_append.1 hp with hp | hp
  ·obtain ⟨q1,q2⟩ := h.ims p hp
   refine ⟨looks_app q1,?_⟩
   rcases q2 with q2 | q2
   ·exact .inl q2
   ·exact .inr (by rw [List.map_append]; exact List.mem_append_left _ q2)
  ·rw [List.mem_singleton.1 hp]
   exact ⟨looks_new fun p hp=>by have := h.new p hp; omega,.inr (by rw [List.map_append]; exact List.mem_append_right _ (by simp [smallC]))⟩
def sendS (s : Sys) : Sys × Bool :=
 if (nextRl s.r).2 = false ∨ (nextRl s.r).1.number ≤ s.far.stored ∨ (nextRl s.r).1.base > s.far.stored then (s,true)
 else ({ s with far := (store s.far (nextRl s.r).1.number).1,staged := s.staged ++ [(nextRl s.r).1],toNear := s.toNear ++ (store s.far (nextRl s.r).1.number).2.1 },decide ((store s.far (nextRl s.r).1.number).2.2 = 0))
theorem next_mem {r : Rl} (h : (nextRl r).2 = true) : (nextRl r).1 ∈ r.kept ∧ (nextRl r).1.number > r.src.stored := by
 unfold nextRl at h ⊢
 split
 ·rename_i hc; rw [if_pos hc] at h; cases h
 ·rename_i hc
  rw [if_neg hc] at h
  cases hb : behindL r.kept r.src.stored with
  | nil=>rw [hb] at h; cases h
  | cons c t =>
   have hm : c ∈ behindL r.kept r.src.stored := by rw [hb]; exact List.mem_cons_self
   obtain ⟨m1,m2⟩ := List.mem_filter.1 hm
   exact ⟨m1,by simpa using m2⟩
theorem chain_mem {a : Int} {l : List Cy} (h : ChainS a l) {c : Cy} (hc : c ∈ l) : ∃ d,c = smallC c.base c.number d := by
 induction l generalizing a with
 | nil=>cases hc
 | cons x r ih =>
  obtain ⟨⟨d,k1⟩,k2,k3,k4⟩ := h
  rcases List.mem_cons.1 hc with rfl | hc
  ·have hb : c.base = a := by rw [k1]; rfl
   exact ⟨d,by rw [hb]; exact k1⟩
  ·exact ih k4 hc
theorem tgt_ck {S A : Int} (h1 : 0 ≤ A) (h2 : A ≤ S) (h3 : S ≤ 1073741824) : checkTarget ⟨1,2,S,A⟩ = 0 := by
 unfold checkTarget
 rw [if_neg (by simp [okTime,okSite]),if_neg (by simp only; omega)]
theorem sendS_ok {s : Sys} {A S Sf Af : Int} {K : List Cy} (h : SysOk s A S Sf Af K) : (sendS s).2 = true ∧ (sendS s).1.numbers = s.numbers ∧ ∃ Sf',Sf ≤ Sf' ∧ SysOk (sendS s).1 A S Sf' Af K := by
 obtain ⟨r1,r2,r3⟩ := h.rel.range
 have ha := h.rel.a0
 have htop := h.rel.top
 obtain ⟨l1,l2,l3⟩ := h.le
 obtain ⟨cl,_⟩ := chain_le h.ch
 rw [h.last] at cl
 unfold sendS
 split
 ·exact ⟨rfl,rfl,Sf,Int.le_refl _,h⟩
 ·rename_i hc
  simp only [not_or,Bool.not_eq_false] at hc
  obtain ⟨c1,c2,c3⟩ := hc
  obtain ⟨m1,m2⟩ := next_mem c1
  have hkept : s.r.kept = K := by rw [h.r]; rfl
  have hst : s.far.stored = Sf := by rw [h.far]
  rw [hkept] at m1
  rw [hst] at c2 c3
  generalize (nextRl s.r).1 = c at *
  obtain ⟨k1,k2,k3,k4⟩ := (chain_le h.rel.ch).2 c m1
  rw [h.rel.last] at k2
  have hbase : Sf = c.base := chain_between h.rel.ch m1 h.at' (by omega) (by omega)
  obtain ⟨d,hd⟩ := chain_mem h.rel.ch m1
  have e : store s.far c.number = (⟨1,2,c.number,Af⟩,[⟨9,2,0,0,c.number,1,[],[]⟩],0) := by
   rw [h.far]
   unfold store
   rw [if_neg (by simp [tgt_ck (S := Sf) (A := Af) (by omega) (by omega) (by omega)]),if_neg (by simp only; omega),if_neg (by omega)]
   rfl
  rw [e]
  refine ⟨rfl,rfl,c.number,by omega,h.rel,h.r,rfl,⟨l1,by omega,by simp only; omega⟩,.inr (List.mem_map_of_mem m1),?_,lastN_snoc _ _ _,h.img,h.near,h.new,h.kept,fun x hx=>?_,h.far_m,fun m hm=>?_,h.ims⟩
  ·have := chain_snoc (d := d) h.ch (n := c.number) (by rw [h.last]; omega) k4
   rw [h.last,hbase,← hd] at this
   exact this
  ·rcases List.mem_append.1 hx with hx | hx
   ·exact h.stg x hx
   ·rw [List.mem_singleton.1 hx]; exact h.kept c m1
  ·rcases List.mem_append.1 hm with hm | hm
   ·obtain ⟨q1,q2,q3⟩ := h.near_m m hm
    refine ⟨q1,q2,?_⟩
    rcases q3 with ⟨q3,q4⟩ | q3
    ·exact .inl ⟨q3,by omega⟩
    ·exact .inr q3
   ·rw [List.mem_singleton.1 hm]; exact ⟨rfl,rfl,.inl ⟨rfl,Int.le_refl _⟩⟩
def learnS (s : Sys) (m : Msg) : Sys := { s with r := (learnRl s.r m).1,toFar := s.toFar ++ (learnRl s.r m).2 }
theorem learnS_ok {s : Sys} {A S Sf Af : Int} {K : List Cy} (h : SysOk s A S Sf Af K) {m : Msg} (hm : m ∈ s.toNear) : ∃ A' S' K',SysOk (learnS s m) A' S' Sf Af K' ∧ K'.length ≤ K.length := by
 obtain ⟨q1,q2,q3⟩ := h.near_m m hm
 obtain ⟨l1,l2,l3⟩ := h.le
 obtain ⟨cl,_⟩ := chain_le h.ch
 rw [h.last] at cl
 obtain ⟨mk,mf,mt,mn,mv,me,vs,bs⟩ := m
 simp only at q1 q2 q3
 subst q1; subst q2
 unfold learnS
 rw [h.r]
 rcases q3 with ⟨rfl,q4⟩ | ⟨rfl,q4⟩
 ·rcases learn_stored (v := mv) (mn := mn) (t := mt) (vs := vs) (bs := bs) h.rel with e | ⟨e,hr,_⟩
  ·rw [e]
   exact ⟨A,S,K,⟨h.rel,rfl,h.far,h.le,h.at',h.ch,h.last,h.img,h.near,h.new,h.kept,h.stg,by simpa using h.far_m,h.near_m,h.ims⟩,Nat.le_refl _⟩
  ·rw [e]
   refine ⟨A,mv,K,⟨hr,rfl,h.far,⟨l1,q4,l3⟩,h.at',h.ch,h.last,h.img,h.near,h.new,h.kept,h.stg,fun x hx=>?_,h.near_m,h.ims⟩,Nat.le_refl _⟩
   rcases List.mem_append.1 hx with hx | hx
   ·exact h.far_m x hx
   ·rw [List.mem_singleton.1 hx]; exact ⟨.inr rfl,rfl,rfl⟩
 ·rcases learn_applied (v := mv) (mn := mn) (t := mt) (vs := vs) (bs := bs) h.rel with e | ⟨hv,e,hr⟩
  ·rw [e]
   exact ⟨A,S,K,⟨h.rel,rfl,h.far,h.le,h.at',h.ch,h.last,h.img,h.near,h.new,h.kept,h.stg,by simpa using h.far_m,h.near_m,h.ims⟩,Nat.le_refl _⟩
  ·rw [e]
   refine ⟨mv,max S mv,behindL K mv,⟨hr,rfl,h.far,⟨q4,by rw [Int.max_def]; split <;> omega,l3⟩,?_,h.ch,h.last,h.img,h.near,h.new,fun c hc=>h.kept c (List.mem_filter.1 hc).1,h.stg,by simpa using h.far_m,h.near_m,fun p hp=>?_⟩,List.length_filter_le _ _⟩
   rotate_left
   ·obtain ⟨p1,p2⟩ := h.ims p hp
    obtain ⟨c,hc,rfl⟩ := List.mem_map.1 hv
    have hlt := (chain_le h.rel.ch).2 c hc
    refine ⟨p1,?_⟩
    by_cases he : p.1 ≤ c.number
    ·exact .inl he
    ·right
     rw [behind_map]
     rcases p2 with p2 | p2
     ·omega
     ·exact List.mem_filter.2 ⟨p2,by simp; omega⟩
   obtain ⟨c,hc,rfl⟩ := List.mem_map.1 hv
   have hlt := (chain_le h.rel.ch).2 c hc
   by_cases he : Sf = c.number
   ·exact .inl he
   ·right
    rw [behind_map]
    rcases h.at' with k | k
    ·omega
    ·exact List.mem_filter.2 ⟨k,by simp; omega⟩
def resendS (s : Sys) : Sys := { s with toFar := s.toFar ++ resend s.r.src }
theorem resendS_ok {s : Sys} {A S Sf Af : Int} {K : List Cy} (h : SysOk s A S Sf Af K) : SysOk (resendS s) A S Sf Af K := by
 refine ⟨h.rel,h.r,h.far,h.le,h.at',h.ch,h.last,h.img,h.near,h.new,h.kept,h.stg,fun m hm=>?_,h.near_m,h.ims⟩
 have hm : m ∈ s.toFar ++ resend s.r.src := hm
 rcases List.mem_append.1 hm with hm | hm
 ·exact h.far_m m hm
 ·have e1 : s.r.src = ⟨1,2,K.map Cy.number,S,A⟩ := by rw [h.r]; rfl
  rw [e1] at hm
  unfold resend at hm
  rw [if_neg (by simp [h.rel.src])] at hm
  rcases List.mem_append.1 hm with hm | hm
  ·split at hm
   ·rw [List.mem_singleton.1 hm]; exact ⟨.inr rfl,rfl,rfl⟩
   ·cases hm
  ·obtain ⟨x,_,rfl⟩ := List.mem_map.1 hm
   exact ⟨.inl rfl,rfl,rfl⟩
def farL : Nat → Sys → Int → Sys × Bool
 | 0,s,_=>(s,true)
 | k + 1,s,n=>match s.staged with
  | []=>(s,true)
  | c :: t=>if c.number ≤ n then
    if (applyCy s.image c).2 ≠ 0 ∨ (applyT s.far c.number).2.2 ≠ 0 then (s,false)
    else farL k { s with image := (applyCy s.image c).1,far := (applyT s.far c.number).1,staged := t,toNear := s.toNear ++ (applyT s.far c.number).2.1 } n
   else (s,true)
theorem farL_ok {n : Int} : ∀ (k : Nat) {s : Sys} {A S Sf Af : Int} {K : List Cy},SysOk s A S Sf Af K → ∃ Af',Af ≤ Af' ∧ (farL k s n).2 = true ∧ (farL k s n).1.numbers = s.numbers ∧ SysOk (farL k s n).1 A S Sf Af' K
 | 0,s,A,S,Sf,Af,K,h=>⟨Af,Int.le_refl _,rfl,rfl,h⟩
 | k + 1,s,A,S,Sf,Af,K,h=>by
  obtain ⟨r1,r2,r3⟩ := h.rel.range
  have ha := h.rel.a0
  have htop := h.rel.top
  obtain ⟨l1,l2,l3⟩ := h.le
  unfold farL
  split
  ·exact ⟨Af,Int.le_refl _,rfl,rfl,h⟩
  ·rename_i c t hs
   split
   ·have hch := h.ch
    have hla := h.last
    rw [hs] at hch hla
    obtain ⟨⟨d,k1⟩,k2,k3,k4⟩ := hch
    rw [lastN_cons] at hla
    obtain ⟨cl,_⟩ := chain_le k4
    rw [hla] at cl
    obtain ⟨im,im',g1,g2,g3,g4⟩ := h.stg c (by rw [hs]; exact List.mem_cons_self)
    have hb : c.base = Af := by rw [k1]; rfl
    rw [hb,h.img.1] at g1
    cases g1
    have hi4 : Im4 im' := by
     have := (im4_apply (b := Af) (n := c.number) (d := d) h.img.2 (by omega) k2 k3).2
     rw [← k1,g4] at this
     exact this
    have e : applyT s.far c.number = (⟨1,2,Sf,c.number⟩,[⟨11,2,0,0,c.number,1,[],[]⟩],0) := by
     rw [h.far]
     unfold applyT
     rw [if_neg (by simp [tgt_ck (S := Sf) (A := Af) (by omega) (by omega) (by omega)]),if_neg (by simp only; omega),if_neg (by simp only; omega)]
     rfl
    rw [g4,e,if_neg (by simp)]
    have hn : SysOk { s with image := im',far := ⟨1,2,Sf,c.number⟩,staged := t,toNear := s.toNear ++ [⟨11,2,0,0,c.number,1,[],[]⟩] } A S Sf c.number K := by
     refine ⟨h.rel,h.r,rfl,⟨by omega,l2,l3⟩,h.at',k4,hla,⟨g2,hi4⟩,h.near,h.new,h.kept,fun x hx=>h.stg x (by rw [hs]; exact List.mem_cons_of_mem _ hx),h.far_m,fun m hm=>?_,h.ims⟩
     rcases List.mem_append.1 hm with hm | hm
     ·obtain ⟨q1,q2,q3⟩ := h.near_m m hm
      refine ⟨q1,q2,?_⟩
      rcases q3 with q3 | ⟨q3,q4⟩
      ·exact .inl q3
      ·exact .inr ⟨q3,by omega⟩
     ·rw [List.mem_singleton.1 hm]; exact ⟨rfl,rfl,.inr ⟨rfl,Int.le_refl _⟩⟩
    obtain ⟨Af',f1,f2,f3,f4⟩ := farL_ok k hn
    exact ⟨Af',by omega,f2,f3,f4⟩
   ·exact ⟨Af,Int.le_refl _,rfl,rfl,h⟩
def atFarS (s : Sys) (m : Msg) : Sys × Bool :=
 if (if m.kind = 10 then farL s.staged.length s m.number else (s,true)).2 = false then (if m.kind = 10 then farL s.staged.length s m.number else (s,true))
 else ({ (if m.kind = 10 then farL s.staged.length s m.number else (s,true)).1 with far := (answer (if m.kind = 10 then farL s.staged.length s m.number else (s,true)).1.far m).1,toNear := (if m.kind = 10 then farL s.staged.length s m.number else (s,true)).1.toNear ++ (answer (if m.kind = 10 then farL s.staged.length s m.number else (s,true)).1.far m).2 },true)
theorem answerS_ok {s : Sys} {A S Sf Af : Int} {K : List Cy} (h : SysOk s A S Sf Af K) {m : Msg} (hm : (m.kind = 8 ∨ m.kind = 10) ∧ m.to = 2 ∧ m.epoch = 1) :
  SysOk { s with far := (answer s.far m).1,toNear := s.toNear ++ (answer s.far m).2 } A S Sf Af K := by
 obtain ⟨r1,r2,r3⟩ := h.rel.range
 have ha := h.rel.a0
 have htop := h.rel.top
 obtain ⟨l1,l2,l3⟩ := h.le
 obtain ⟨cl,_⟩ := chain_le h.ch
 rw [h.last] at cl
 obtain ⟨m1,m2,m3⟩ := hm
 have hck := tgt_ck (S := Sf) (A := Af) (by omega) (by omega) (by omega)
 have e : (answer s.far m).1 = ⟨1,2,Sf,Af⟩ ∧ ((answer s.far m).2 = [⟨9,2,0,0,Sf,1,[],[]⟩] ∨ (answer s.far m).2 = [⟨11,2,0,0,Af,1,[],[]⟩]) := by
  rw [h.far]
  unfold answer
  rw [if_neg (by simp [hck,m2,m3,okTime]; omega),if_neg (by simp [m3])]
  simp only [m3,gt_iff_lt,Int.lt_irrefl,if_false]
  split
  ·exact ⟨rfl,.inl rfl⟩
  ·exact ⟨rfl,.inr rfl⟩
 obtain ⟨e1,e2⟩ := e
 rw [e1]
 refine ⟨h.rel,h.r,rfl,h.le,h.at',h.ch,h.last,h.img,h.near,h.new,h.kept,h.stg,h.far_m,fun x hx=>?_,h.ims⟩
 rcases List.mem_append.1 hx with hx | hx
 ·exact h.near_m x hx
 ·rcases e2 with e2 | e2
  ·rw [e2] at hx; rw [List.mem_singleton.1 hx]; exact ⟨rfl,rfl,.inl ⟨rfl,Int.le_refl _⟩⟩
  ·rw [e2] at hx; rw [List.mem_singleton.1 hx]; exact ⟨rfl,rfl,.inr ⟨rfl,Int.le_refl _⟩⟩
theorem atFarS_ok {s : Sys} {A S Sf Af : Int} {K : List Cy} (h : SysOk s A S Sf Af K) {m : Msg} (hm : m ∈ s.toFar) : ∃ Af',Af ≤ Af' ∧ (atFarS s m).2 = true ∧ (atFarS s m).1.numbers = s.numbers ∧ SysOk (atFarS s m).1 A S Sf Af' K := by
 have hk := h.far_m m hm
 unfold atFarS
 by_cases h10 : m.kind = 10
 ·simp only [if_pos h10]
  obtain ⟨Af',f1,f2,f3,f4⟩ := farL_ok (n := m.number) s.staged.length h
  rw [if_neg (by rw [f2]; decide)]
  exact ⟨Af',f1,rfl,f3,answerS_ok f4 hk⟩
 ·simp only [if_neg h10]
  rw [if_neg (by decide)]
  exact ⟨Af,Int.le_refl _,rfl,rfl,answerS_ok h hk⟩
def rightS (s : Sys) : Bool := match looks s.images s.far.applied with
 | none=>false
 | some im=>if im ≠ s.image ∨ s.far.applied > s.r.near.applied ∨ s.r.far.applied > s.far.applied ∨ s.r.far.stored > s.far.stored then false
  else decide (ckRl s.r = 0) && decide (lagRl s.r ≥ s.r.near.applied - s.far.applied)
theorem rightS_ok {s : Sys} {A S Sf Af : Int} {K : List Cy} (h : SysOk s A S Sf Af K) : rightS s = true := by
 obtain ⟨l1,l2,l3⟩ := h.le
 obtain ⟨cl,_⟩ := chain_le h.ch
 rw [h.last] at cl
 unfold rightS
 rw [h.far,h.r]
 simp only [h.img.1]
 rw [if_neg (by simp [relR]; omega)]
 have hl : lagRl (relR A S s.numbers K) = s.numbers - A := by unfold lagRl; rw [if_neg (by simp [h.rel.ck])]; rfl
 rw [hl,h.rel.ck]
 simp [relR]; omega
def pickUnderWay (l : List Msg) (w : Int) : Option Msg := l[(Int.tmod w l.length).toNat]?
def stepS (s : Sys) (x : Int × Int × Int) : Sys × Bool :=
 if x.1 = 0 then applyS s (max 0 x.2.1) x.2.2
 else if x.1 = 1 then sendS s
 else if x.1 = 2 then match pickUnderWay s.toFar (max 0 x.2.1) with | some m=>atFarS s m | none=>(s,true)
 else if x.1 = 3 then match pickUnderWay s.toNear (max 0 x.2.1) with | some m=>(learnS s m,true) | none=>(s,true)
 else if x.1 = 4 then (resendS s,true) else (s,true)
theorem stepS_ok {s : Sys} {A S Sf Af : Int} {K : List Cy} (h : SysOk s A S Sf Af K) (x : Int × Int × Int) (hn : s.numbers + 2 ≤ 1073741824) (hk : K.length < 1000) :
  (stepS s x).2 = true ∧ (stepS s x).1.numbers ≤ s.numbers + 2 ∧ ∃ A' S' Sf' Af' K',SysOk (stepS s x).1 A' S' Sf' Af' K' ∧ K'.length ≤ K.length + 1 := by
 have same : ∀ {p : Sys × Bool},p = (s,true) → p.2 = true ∧ p.1.numbers ≤ s.numbers + 2 ∧ ∃ A' S' Sf' Af' K',SysOk p.1 A' S' Sf' Af' K' ∧ K'.length ≤ K.length + 1 := fun e=>by
  rw [e]; exact ⟨rfl,by simp only; omega,_,_,_,_,K,h,by omega⟩
 unfold stepS
 split
 ·obtain ⟨a1,a2,a3⟩ := applyS_ok (w := max 0 x.2.1) (d := x.2.2) h (by omega) hn hk
  exact ⟨a1,a2,_,_,_,_,_,a3,by simp⟩
 split
 ·obtain ⟨a1,a2,Sf',_,a3⟩ := sendS_ok h
  exact ⟨a1,by omega,_,_,_,_,K,a3,by omega⟩
 split
 ·split
  ·rename_i m hm
   obtain ⟨Af',_,a1,a2,a3⟩ := atFarS_ok h (List.mem_of_getElem? hm)
   exact ⟨a1,by omega,_,_,_,_,K,a3,by omega⟩
  ·exact same rfl
 split
 ·split
  ·rename_i m hm
   obtain ⟨A',S',K',a3,a4⟩ := learnS_ok h (List.mem_of_getElem? hm)
   exact ⟨rfl,by show s.numbers ≤ _; omega,_,_,_,_,K',a3,by omega⟩
  ·exact same rfl
 split
 ·exact ⟨rfl,by show s.numbers ≤ _; omega,_,_,_,_,K,resendS_ok h,by omega⟩
 ·exact same rfl
def im0 : List Vol := [⟨List.replicate 4 ⟨0,0,0,0,0,0,0,0⟩⟩]
def beginS : Sys := ⟨relR 0 0 0 [],im0,[(0,im0)],⟨1,2,0,0⟩,im0,[],[],[],0⟩
theorem beginS_ok : SysOk beginS 0 0 0 0 [] := by
 have hi : Im4 im0 := rfl
 refine ⟨⟨by omega,trivial,by simp,rfl,by simp [beginS],.inl rfl⟩,rfl,rfl,⟨by omega,by omega,by simp [beginS]⟩,.inl rfl,trivial,rfl,⟨rfl,hi⟩,⟨rfl,hi⟩,(fun p hp=>?_),(fun c (hc : c ∈ [])=>nomatch hc),(fun c (hc : c ∈ [])=>nomatch hc),(fun m (hm : m ∈ [])=>nomatch hm),(fun m (hm : m ∈ [])=>nomatch hm),(fun p hp=>?_)⟩
 ·rw [List.mem_singleton.1 hp]; exact Int.le_refl _
 ·rw [List.mem_singleton.1 hp]; exact ⟨rfl,.inl (Int.le_refl _)⟩

theorem looks_mem {l : List (Int × List Vol)} {n : Int} {v : List Vol} (h : looks l n = some v) : ∃ p,p ∈ l ∧ p.1 = n := by
 unfold looks at h
 cases hf : l.find? fun p=>decide (p.1 = n) with
 | none=>rw [hf] at h; cases h
 | some p=>exact ⟨p,List.mem_of_find?_eq_some hf,by simpa using List.find?_some hf⟩
theorem arrived {s : Sys} {A S Sf Af : Int} (h : SysOk s A S Sf Af []) : s.r.kept = [] ∧ s.far.applied = s.r.near.applied ∧ s.image = s.near ∧ lagRl s.r = 0 ∧ rightS s = true := by
 have hA : A = s.numbers := h.rel.last
 obtain ⟨l1,l2,l3⟩ := h.le
 obtain ⟨cl,_⟩ := chain_le h.ch
 rw [h.last] at cl
 have hAf : Af = s.numbers := by omega
 have hi := h.img.1
 rw [hAf,h.near.1] at hi
 refine ⟨by rw [h.r]; rfl,by rw [h.far,h.r]; exact hAf,(Option.some.inj hi).symm,?_,rightS_ok h⟩
 unfold lagRl
 rw [h.r,if_neg (by simp [h.rel.ck])]
 show s.numbers - A = 0
 omega
end Sx
end
noncomputable section
open Go
namespace Sx
structure MapRel (m : D) (l : List (Int × List Vol)) : Prop where
 len : m.rows.length = l.length
 row : ∀ (i : Nat) (p : Int × List Vol),l[i]? = some p → ∃ v : D,m.rows[i]? = some [D.int .i64 p.1,v] ∧ v.Is Vol ∧ v.to Vol = p.2
theorem MapRel.keys {m : D} {l : List (Int × List Vol)} (h : MapRel m l) : m.rows.map rowKey = l.map Prod.fst := by
 apply List.ext_getElem?
 intro i
 rw [List.getElem?_map,List.getElem?_map]
 cases hl : l[i]? with
 | none =>
  have : l.length ≤ i := by simpa using hl
  rw [List.getElem?_eq_none (by rw [h.len]; exact this)]; rfl
 | some p =>
  obtain ⟨v,hv,_⟩ := h.row i p hl
  rw [hv]; rfl
theorem find_at {α : Type} {q : α → Bool} : ∀ {l : List α} {p : α},l.find? q = some p → l[l.findIdx q]? = some p
 | [],_,h=>by simp at h
 | x :: r,p,h=>by
  rw [List.find?_cons] at h
  rw [List.findIdx_cons]
  cases hq : q x with
  | true=>rw [hq] at h; simpa using h
  | false =>
   rw [hq] at h
   simp only [cond_false]
   rw [List.getElem?_cons_succ]
   exact find_at h
theorem MapRel.ix {m : D} {l : List (Int × List Vol)} (h : MapRel m l) (n : Int) : m.keyIx n = l.findIdx fun p=>decide (p.1 = n) := by
 have e1 : m.keyIx n = (m.rows.map rowKey).findIdx fun x=>x == n := by rw [List.findIdx_map]; rfl
 rw [e1,h.keys,List.findIdx_map]
 congr 1
theorem MapRel.has {m : D} {l : List (Int × List Vol)} (h : MapRel m l) (n : Int) : m.hasKey n = (looks l n).isSome := by
 have e1 : m.hasKey n = (m.rows.map rowKey).any fun x=>x == n := by rw [List.any_map]; rfl
 rw [e1,h.keys,List.any_map]
 unfold looks
 rw [Option.isSome_map,List.isSome_find?]
 congr 1
theorem MapRel.at {m : D} {l : List (Int × List Vol)} (h : MapRel m l) {n : Int} {im : List Vol} (hl : looks l n = some im) : (m.cell (m.keyIx n) 1).Is Vol ∧ (m.cell (m.keyIx n) 1).to Vol = im := by
 unfold looks at hl
 obtain ⟨p,hp,rfl⟩ := Option.map_eq_some_iff.1 hl
 obtain ⟨v,h1,h2,h3⟩ := h.row _ p (find_at hp)
 rw [h.ix]
 have : m.cell (l.findIdx fun p=>decide (p.1 = n)) 1 = v := by simp [D.cell,D.cellAt,h1]
 rw [this]
 exact ⟨h2,h3⟩
theorem MapRel.put {m : D} {l : List (Int × List Vol)} (h : MapRel m l) {n : Int} {im : List Vol} {v : D} (hn : ∀ p,p ∈ l → p.1 ≠ n) (hv : v.Is Vol) (hv' : v.to Vol = im) : MapRel (m.putKey .i64 n [v]) (l ++ [(n,im)]) := by
 have hk : m.hasKey n = false := by
  rw [h.has]
  unfold looks
  rw [List.find?_eq_none.2 fun p hp=>by simpa using hn p hp]; rfl
 have hr : (m.putKey .i64 n [v]).rows = m.rows ++ [[D.int .i64 n,v]] := by simp [D.putKey,hk,D.rows]
 refine ⟨by rw [hr]; simp [h.len],fun i p hp=>?_⟩
 rw [hr]
 by_cases hi : i < l.length
 ·rw [List.getElem?_append_left hi] at hp
  rw [List.getElem?_append_left (by rw [h.len]; exact hi)]
  exact h.row i p hp
 ·rw [List.getElem?_append_right (by omega)] at hp
  rw [List.getElem?_append_right (by rw [h.len]; omega),h.len]
  cases hj : i - l.length with
  | zero =>
   rw [hj] at hp
   simp at hp
   subst hp
   exact ⟨v,by simp,hv,hv'⟩
  | succ j=>rw [hj] at hp; simp at hp
theorem map_one {n : Int} {im : List Vol} {v : D} (hv : v.Is Vol) (hv' : v.to Vol = im) (h : Hd) (s : Nat) : MapRel (.slc h s [[D.int .i64 n,v]]) [(n,im)] := by
 refine ⟨rfl,fun i p hp=>?_⟩
 cases i with
 | zero=>simp at hp; subst hp; exact ⟨v,rfl,hv,hv'⟩
 | succ j=>simp at hp
structure SW (nv m im tf tn : D) (s : Sys) : Prop where
 nv : nv.Is Vol ∧ nv.to Vol = s.near
 m : MapRel m s.images
 im : im.Is Vol ∧ im.to Vol = s.image
 tf : tf.Is Msg ∧ tf.sz = 8 ∧ tf.to Msg = s.toFar
 tn : tn.Is Msg ∧ tn.sz = 8 ∧ tn.to Msg = s.toNear
inductive Stg (ty : TypeId) (l : List Cy) : SV → Mem → Prop
 | a (st : D) (lo n : Nat) (h1 : st.sz = 5) (h2 : lo + n = st.rows.length) (h3 : SRows Cy (st.rows.drop lo) l) : Stg ty l (.view 0 5 lo n) [(0,.arr ty st)]
 | b (st : D) (h1 : st.rows = []) (h2 : st.Tight) (h3 : l = []) : Stg ty l (.dat st) []
def SInv (s : Sys) (b : Nat) : Prop := (∃ A S Sf Af K,SysOk s A S Sf Af K ∧ K.length ≤ 1000) ∧ s.toFar.length ≤ b ∧ s.toNear.length ≤ b ∧ s.staged.length ≤ b ∧ b ≤ 900000
theorem small_ok (b n d : Int) : CyOk (smallC b n d) := ⟨by simp [smallC],by simp [smallC],fun w hw=>by simp only [smallC,List.mem_singleton] at hw; subst hw; simp⟩
theorem SInv.cy {s : Sys} {b : Nat} (h : SInv s b) : (∀ c,c ∈ s.r.kept → CyOk c) ∧ ∀ c,c ∈ s.staged → CyOk c := by
 obtain ⟨⟨A,S,Sf,Af,K,h,hk⟩,_⟩ := h
 refine ⟨fun c hc=>?_,fun c hc=>?_⟩
 ·rw [h.r] at hc
  obtain ⟨d,hd⟩ := chain_mem h.rel.ch hc
  rw [hd]; exact small_ok _ _ _
 ·obtain ⟨d,hd⟩ := chain_mem h.ch hc
  rw [hd]; exact small_ok _ _ _
theorem like_leng {α : Type} [Codec α] (d : D) (l : List α) : (d.like l).len = l.length := by
 rw [D.Is.length (α := α),D.like_to]
theorem SInv.rl {s : Sys} {b : Nat} (h : SInv s b) (o k : D) : (RlD.mk ⟨s.r.near.epoch,s.r.near.site,s.r.near.stored,s.r.near.applied⟩ ⟨s.r.far.epoch,s.r.far.site,s.r.far.stored,s.r.far.applied⟩ ⟨s.r.src.epoch,s.r.src.site,o.like s.r.src.offered,s.r.src.stored,s.r.src.applied⟩ (k.like s.r.kept)).Ok := by
 have hc := h.cy.1
 obtain ⟨⟨A,S,Sf,Af,K,h,hk⟩,_⟩ := h
 have e1 : s.r.src.offered.length = K.length := by rw [h.r]; simp [relR]
 have e2 : s.r.kept.length = K.length := by rw [h.r]; rfl
 refine ⟨D.like_is _ _,D.like_is _ _,?_,?_,?_⟩
 ·show (o.like s.r.src.offered).len ≤ _
  rw [like_leng]; omega
 ·show (k.like s.r.kept).len ≤ _
  rw [like_leng]; omega
 ·show ∀ c,c ∈ (k.like s.r.kept).to Cy → CyOk c
  rw [D.like_to]; exact hc
theorem im_len {d : D} {l : List Vol} (h : d.Is Vol) (h' : d.to Vol = l) (hi : Im4 l) : d.len ≤ 1048576 := by
 have : l.length = 1 := by
  have := congrArg List.length hi
  simpa [volSizes] using this
 rw [D.Is.length (α := Vol),h',this]; omega
theorem len_resend (s : Src) : (resend s).length ≤ 1 + s.offered.length := by
 unfold resend
 split
 ·simp
 ·rw [List.length_append,List.length_map]
  have := List.length_filter_le (fun x=>decide (x > s.stored)) s.offered
  split <;> simp only [List.length_cons,List.length_nil] <;> omega
theorem len_learn (s : Src) (m : Msg) : (learn s m).2.length ≤ 1 := by
 unfold learn
 repeat' split
 all_goals simp
theorem len_learnRl (r : Rl) (m : Msg) : (learnRl r m).2.length ≤ 1 := by
 have := len_learn r.src m
 unfold learnRl
 simp only
 repeat' split
 all_goals first
  | simpa using this
  | simp
theorem len_answer (t : Tgt) (m : Msg) : (answer t m).2.length ≤ 1 := by
 unfold answer
 repeat' split
 all_goals simp
theorem len_applyT (t : Tgt) (c : Int) : (applyT t c).2.1.length ≤ 1 := by
 unfold applyT
 repeat' split
 all_goals simp
theorem len_store (t : Tgt) (c : Int) : (store t c).2.1.length ≤ 1 := by
 unfold store
 repeat' split
 all_goals simp
theorem len_offer (s : Src) (c : Int) : (offer s c).2.1.length ≤ 1 := by
 unfold offer
 repeat' split
 all_goals simp
theorem len_applyRl (r : Rl) (c : Cy) : (applyRl r c).2.1.length ≤ 1 := by
 have h := len_offer r.src c.number
 unfold applyRl
 repeat' split
 all_goals first
  | exact h
  | exact Nat.zero_le _
theorem rl_backR (r : Rl) (o k : D) : (RlD.mk (Tgt.mk r.near.epoch r.near.site r.near.stored r.near.applied) (Tgt.mk r.far.epoch r.far.site r.far.stored r.far.applied) (SrcD.mk r.src.epoch r.src.site (o.like r.src.offered) r.src.stored r.src.applied) (k.like r.kept)).rl = r := by
 simp only [RlD.rl,SrcD.src,D.like_to]
theorem cy_backS (a b : D) (bb n d : Int) : (CyD.mk bb n 0 (a.like ([] : List Int)) (b.like [Wt.mk 0 (Int.tmod n 4) [Sec.mk (IntKind.u8.wrap n) d 0 0 0 0 0 0]])).cy = smallC bb n d := by simp only [CyD.cy,D.like_to,smallC]
theorem src_back (s : Src) (o : D) : (SrcD.mk s.epoch s.site (o.like s.offered) s.stored s.applied).src = s := by simp only [SrcD.src,D.like_to]
end Sx
end
noncomputable section
open Go Go.Proofs Sx
namespace Sv
def SysMem (s : Sx.Sys) (mm : Mem) : Prop := ∃ (o k nv m im tf tn : D) (sv : SV) (bl : Mem),SW nv m im tf tn s ∧ Stg 65 s.staged sv bl ∧ mm = sysM o k nv m im tf tn s.r s.far s.numbers sv bl
theorem smem {s : Sx.Sys} {o k nv m im tf tn : D} {sv : SV} {bl : Mem} (h : SW nv m im tf tn s) (h' : Stg 65 s.staged sv bl) : SysMem s (sysM o k nv m im tf tn s.r s.far s.numbers sv bl) := ⟨_,_,_,_,_,_,_,_,_,h,h',rfl⟩
def MethOk (f : FuncId) (n : Nat) (args : List (Nat × SV)) (s s' : Sx.Sys) : Prop :=
 ∀ (w0 : World) (H : HV) (fp : Nat → Nat) (mm : Mem),SysMem s mm → Runs Try.prog (@Ctx.mk w0 H (pinX fp)) (sysE f n args mm) (RetP w0 H fp fun v m=>v = .lb true ∧ SysMem s' m)
theorem ctASOk : Ctrs.Ok Try.prog ctAS := by
 intro x hx
 simp only [ctAS,List.mem_cons,List.not_mem_nil,or_false] at hx
 rcases hx with rfl | rfl | rfl
 ·exact ctrOf_ok lawSml
 ·exact ctrOf_ok lawApl
 ·exact ctrOf_ok lawCya
theorem apply_eq {s : Sx.Sys} {w d : Int} (h : (applyS s w d).2 = true) : (applyRl s.r (smallC s.numbers (s.numbers + 1 + Int.tmod w 2) d)).2.2 = 0 ∧ (applyCy s.near (smallC s.numbers (s.numbers + 1 + Int.tmod w 2) d)).2 = 0 ∧
  (applyS s w d).1 = { s with numbers := s.numbers + 1 + Int.tmod w 2,r := (applyRl s.r (smallC s.numbers (s.numbers + 1 + Int.tmod w 2) d)).1,near := (applyCy s.near (smallC s.numbers (s.numbers + 1 + Int.tmod w 2) d)).1,images := s.images ++ [(s.numbers + 1 + Int.tmod w 2,(applyCy s.near (smallC s.numbers (s.numbers + 1 + Int.tmod w 2) d)).1)],toFar := s.toFar ++ (applyRl s.r (smallC s.numbers (s.numbers + 1 + Int.tmod w 2) d)).2.1 } := by
 unfold applyS at h ⊢
 simp only at h ⊢
 split at h
 ·cases h
 ·rename_i hc
  rw [if_neg hc]
  simp only [not_or,ne_eq,Decidable.not_not] at hc
  exact ⟨hc.1,hc.2,rfl⟩
theorem cy_okS (a b : D) (bb n d : Int) : (CyD.mk bb n 0 (a.like ([] : List Int)) (b.like [Wt.mk 0 (Int.tmod n 4) [Sec.mk (IntKind.u8.wrap n) d 0 0 0 0 0 0]])).Ok := by
 refine ⟨D.like_is _ _,D.like_is _ _,?_,?_,fun w hw=>?_⟩
 ·show (a.like ([] : List Int)).len ≤ _
  rw [like_leng]; simp
 ·show (b.like [Wt.mk 0 (Int.tmod n 4) [Sec.mk (IntKind.u8.wrap n) d 0 0 0 0 0 0]]).len ≤ _
  rw [like_leng]; simp
 ·rw [D.like_to,List.mem_singleton] at hw; subst hw; simp
theorem apA_law {s : Sx.Sys} {b : Nat} {w d : Int} (h : SInv s b) (hw : 0 ≤ w) (hn : s.numbers + 2 ≤ 1073741824) (hr : (applyS s w d).2 = true) {o k nv m im st tf tn : D} {lo n : Nat} (hsw : SW nv m im tf tn s) (hst : Stg 65 s.staged (.view 0 5 lo n) [(0,.arr 65 st)])
  (w0 : World) (H : HV) (fp : Nat → Nat) : Runs Try.prog (@Ctx.mk w0 H (pinX fp)) (sysE 69 81 [(0,.ptr 100000 0),(1,.int .i64 w),(2,.int .u8 d)] (sysM o k nv m im tf tn s.r s.far s.numbers (.view 0 5 lo n) [(0,.arr 65 st)])) (RetP w0 H fp fun v m=>v = .lb true ∧ SysMem (applyS s w d).1 m) := by
 obtain ⟨e1,e2,e3⟩ := apply_eq hr
 have hrl := h.rl o k
 have hb := h.2
 obtain ⟨⟨A,S,Sf,Af,K,hs,hk⟩,_⟩ := h
 have hnum : 0 ≤ s.numbers := by have := hs.rel.range; have := hs.rel.a0; omega
 have ht : 0 ≤ Int.tmod w 2 ∧ Int.tmod w 2 < 2 := by rw [Int.tmod_eq_emod_of_nonneg hw]; omega
 have w1 : IntKind.wrap IntKind.i64 (s.numbers + 1) = s.numbers + 1 := wrap64J (by omega) (by omega)
 have w2 : IntKind.wrap IntKind.i64 (s.numbers + 1 + Int.tmod w 2) = s.numbers + 1 + Int.tmod w 2 := wrap64J (by omega) (by omega)
 have hnv := im_len hsw.nv.1 hsw.nv.2 hs.near.2
 have hfar : tf.len = s.toFar.length := by rw [D.Is.length (α := Msg),hsw.tf.2.2]
 have hone := len_applyRl s.r (smallC s.numbers (s.numbers + 1 + Int.tmod w 2) d)
 have hnew : ∀ p,p ∈ s.images → p.1 ≠ s.numbers + 1 + Int.tmod w 2 := fun p hp=>by have := hs.new p hp; omega
 apply execRS_sound ctASOk [] 400
 rw [apA_in]
 simp only [rl_backR,cy_backS,w1,w2,hsw.nv.2]
 refine fun hs0=>⟨by decide,fun hs1=>⟨⟨hrl,cy_okS _ _ _ _ _⟩,fun hs2=>⟨⟨hsw.nv.1,hnv,cy_okS _ _ _ _ _⟩,fun h1=>?_,fun h1=>⟨fun h2=>?_,fun h2 hs3=>⟨?_,fun hs4=>?_⟩⟩⟩⟩⟩
 ·rw [e1] at h1; simp at h1
 ·rw [e2] at h2; simp at h2
 ·refine ⟨hsw.tf.2.1,(D.like_is (α := Msg) _ _).fits,?_,?_⟩
  ·simp only [like_leng,hfar]; omega
  ·simp only [like_leng,hfar]; omega
 ·rw [e3]
  have hq : ((hs2 5 0).like (applyCy s.near (smallC s.numbers (s.numbers + 1 + Int.tmod w 2) d)).1).Is Vol ∧ ((hs2 5 0).like (applyCy s.near (smallC s.numbers (s.numbers + 1 + Int.tmod w 2) d)).1).to Vol = (applyCy s.near (smallC s.numbers (s.numbers + 1 + Int.tmod w 2) d)).1 := ⟨D.like_is _ _,D.like_to _ _⟩
  have ha := rows_app (rows_of hsw.tf.1) (rows_of (D.like_is (hs1 5 2) (applyRl s.r (smallC s.numbers (s.numbers + 1 + Int.tmod w 2) d)).2.1))
  rw [D.like_to,hsw.tf.2.2] at ha
  obtain ⟨a1,a2⟩ := is_of (h := D.hd (hs4 0 0)) (s := 8) rfl ha
  exact retS (fd := Try.f69) (l := [.lb true]) (sysM (hs1 5 0) (hs1 5 1) ((hs2 5 0).like (applyCy s.near (smallC s.numbers (s.numbers + 1 + Int.tmod w 2) d)).1) (m.putKey .i64 (s.numbers + 1 + Int.tmod w 2) [(hs2 5 0).like (applyCy s.near (smallC s.numbers (s.numbers + 1 + Int.tmod w 2) d)).1]) im (.slc (D.hd (hs4 0 0)) 8 (List.append tf.rows ((hs1 5 2).like (applyRl s.r (smallC s.numbers (s.numbers + 1 + Int.tmod w 2) d)).2.1).rows)) tn (applyRl s.r (smallC s.numbers (s.numbers + 1 + Int.tmod w 2) d)).1 s.far (s.numbers + 1 + Int.tmod w 2) (.view 0 5 lo n) [(0,.arr 65 st)]) [100000,100001,1,2,0]
   ⟨_,_,_,_,_,_,_,_,_,⟨hq,hsw.m.put hnew hq.1 hq.2,hsw.im,⟨a1,rfl,a2⟩,hsw.tn⟩,hst,rfl⟩
theorem apB_law {s : Sx.Sys} {b : Nat} {w d : Int} (h : SInv s b) (hw : 0 ≤ w) (hn : s.numbers + 2 ≤ 1073741824) (hr : (applyS s w d).2 = true) {o k nv m im st tf tn : D} {lo n : Nat} (hsw : SW nv m im tf tn s) (hst : Stg 65 s.staged (.dat st) [])
  (w0 : World) (H : HV) (fp : Nat → Nat) : Runs Try.prog (@Ctx.mk w0 H (pinX fp)) (sysE 69 81 [(0,.ptr 100000 0),(1,.int .i64 w),(2,.int .u8 d)] (sysM o k nv m im tf tn s.r s.far s.numbers (.dat st) [])) (RetP w0 H fp fun v m=>v = .lb true ∧ SysMem (applyS s w d).1 m) := by
 obtain ⟨e1,e2,e3⟩ := apply_eq hr
 have hrl := h.rl o k
 have hb := h.2
 obtain ⟨⟨A,S,Sf,Af,K,hs,hk⟩,_⟩ := h
 have hnum : 0 ≤ s.numbers := by have := hs.rel.range; have := hs.rel.a0; omega
 have ht : 0 ≤ Int.tmod w 2 ∧ Int.tmod w 2 < 2 := by rw [Int.tmod_eq_emod_of_nonneg hw]; omega
 have w1 : IntKind.wrap IntKind.i64 (s.numbers + 1) = s.numbers + 1 := wrap64J (by omega) (by omega)
 have w2 : IntKind.wrap IntKind.i64 (s.numbers + 1 + Int.tmod w 2) = s.numbers + 1 + Int.tmod w 2 := wrap64J (by omega) (by omega)
 have hnv := im_len hsw.nv.1 hsw.nv.2 hs.near.2
 have hfar : tf.len = s.toFar.length := by rw [D.Is.length (α := Msg),hsw.tf.2.2]
 have hone := len_applyRl s.r (smallC s.numbers (s.numbers + 1 + Int.tmod w 2) d)
 have hnew : ∀ p,p ∈ s.images → p.1 ≠ s.numbers + 1 + Int.tmod w 2 := fun p hp=>by have := hs.new p hp; omega
 apply execRS_sound ctASOk [] 400
 rw [apB_in]
 simp only [rl_backR,cy_backS,w1,w2,hsw.nv.2]
 refine fun hs0=>⟨by decide,fun hs1=>⟨⟨hrl,cy_okS _ _ _ _ _⟩,fun hs2=>⟨⟨hsw.nv.1,hnv,cy_okS _ _ _ _ _⟩,fun h1=>?_,fun h1=>⟨fun h2=>?_,fun h2 hs3=>⟨?_,fun hs4=>?_⟩⟩⟩⟩⟩
 ·rw [e1] at h1; simp at h1
 ·rw [e2] at h2; simp at h2
 ·refine ⟨hsw.tf.2.1,(D.like_is (α := Msg) _ _).fits,?_,?_⟩
  ·simp only [like_leng,hfar]; omega
  ·simp only [like_leng,hfar]; omega
 ·rw [e3]
  have hq : ((hs2 5 0).like (applyCy s.near (smallC s.numbers (s.numbers + 1 + Int.tmod w 2) d)).1).Is Vol ∧ ((hs2 5 0).like (applyCy s.near (smallC s.numbers (s.numbers + 1 + Int.tmod w 2) d)).1).to Vol = (applyCy s.near (smallC s.numbers (s.numbers + 1 + Int.tmod w 2) d)).1 := ⟨D.like_is _ _,D.like_to _ _⟩
  have ha := rows_app (rows_of hsw.tf.1) (rows_of (D.like_is (hs1 5 2) (applyRl s.r (smallC s.numbers (s.numbers + 1 + Int.tmod w 2) d)).2.1))
  rw [D.like_to,hsw.tf.2.2] at ha
  obtain ⟨a1,a2⟩ := is_of (h := D.hd (hs4 0 0)) (s := 8) rfl ha
  exact retS (fd := Try.f69) (l := [.lb true]) (sysM (hs1 5 0) (hs1 5 1) ((hs2 5 0).like (applyCy s.near (smallC s.numbers (s.numbers + 1 + Int.tmod w 2) d)).1) (m.putKey .i64 (s.numbers + 1 + Int.tmod w 2) [(hs2 5 0).like (applyCy s.near (smallC s.numbers (s.numbers + 1 + Int.tmod w 2) d)).1]) im (.slc (D.hd (hs4 0 0)) 8 (List.append tf.rows ((hs1 5 2).like (applyRl s.r (smallC s.numbers (s.numbers + 1 + Int.tmod w 2) d)).2.1).rows)) tn (applyRl s.r (smallC s.numbers (s.numbers + 1 + Int.tmod w 2) d)).1 s.far (s.numbers + 1 + Int.tmod w 2) (.dat st) []) [100000,100001,1,2]
   ⟨_,_,_,_,_,_,_,_,_,⟨hq,hsw.m.put hnew hq.1 hq.2,hsw.im,⟨a1,rfl,a2⟩,hsw.tn⟩,hst,rfl⟩
theorem apply_meth {s : Sx.Sys} {b : Nat} {w d : Int} (h : SInv s b) (hw : 0 ≤ w) (hn : s.numbers + 2 ≤ 1073741824) (hr : (applyS s w d).2 = true) : MethOk 69 81 [(0,.ptr 100000 0),(1,.int .i64 w),(2,.int .u8 d)] s (applyS s w d).1 := by
 intro w0 H fp mm ⟨o,k,nv,m,im,tf,tn,sv,bl,hsw,hst,he⟩
 subst he
 cases hst with
 | a st lo n h1 h2 h3=>exact apA_law h hw hn hr hsw (.a st lo n h1 h2 h3) w0 H fp
 | b st h1 h2 h3=>exact apB_law (lo := 0) (n := 0) h hw hn hr hsw (.b st h1 h2 h3) w0 H fp
theorem ctRSOk : Ctrs.Ok Try.prog ctRS := by
 intro x hx
 simp only [ctRS,List.mem_cons,List.not_mem_nil,or_false] at hx
 rcases hx with rfl | rfl | rfl
 ·exact ctrOf_ok lawImS
 ·exact ctrOf_ok lawCk
 ·exact ctrOf_ok lawLag
theorem ctSSOk : Ctrs.Ok Try.prog ctSS := by
 intro x hx
 simp only [ctSS,List.mem_cons,List.not_mem_nil,or_false] at hx
 rcases hx with rfl | rfl
 ·exact ctrOf_ok lawNxt
 ·exact ctrOf_ok lawSto
theorem riA_law {s : Sx.Sys} {b : Nat} (h : SInv s b) {o k nv m im st tf tn : D} {lo n : Nat} (hsw : SW nv m im tf tn s) (hst : Stg 65 s.staged (.view 0 5 lo n) [(0,.arr 65 st)])
  (w0 : World) (H : HV) (fp : Nat → Nat) : Runs Try.prog (@Ctx.mk w0 H (pinX fp)) (sysE 27 97 [(0,.ptr 100000 0)] (sysM o k nv m im tf tn s.r s.far s.numbers (.view 0 5 lo n) [(0,.arr 65 st)])) (RetP w0 H fp fun v m=>v = .lb true ∧ SysMem s m) := by
 have hrl := h.rl o k
 obtain ⟨⟨A,S,Sf,Af,K,hs,hk⟩,_⟩ := h
 have hri := rightS_ok hs
 have him := hs.img
 have e1 : s.far.applied = Af := by rw [hs.far]
 subst e1
 obtain ⟨m1,m2⟩ := hsw.m.at him.1
 have m3 : m.hasKey s.far.applied = true := by rw [hsw.m.has,him.1]; rfl
 have hi1 := im_len m1 m2 him.2
 have hi2 := im_len hsw.im.1 hsw.im.2 him.2
 unfold rightS at hri
 rw [him.1] at hri
 simp only at hri
 split at hri
 ·cases hri
 rename_i hc
 simp only [not_or,ne_eq,Decidable.not_not] at hc
 obtain ⟨c1,c2,c3,c4⟩ := hc
 simp only [Bool.and_eq_true,decide_eq_true_eq] at hri
 obtain ⟨c5,c6⟩ := hri
 have b1 : decide (s.far.applied > s.r.near.applied) = false := decide_eq_false c2
 have b2 : decide (s.r.far.applied > s.far.applied) = false := decide_eq_false c3
 have b3 : decide (s.r.far.stored > s.far.stored) = false := decide_eq_false c4
 have hw : IntKind.wrap IntKind.i64 (s.r.near.applied - s.far.applied) = s.r.near.applied - s.far.applied := by
  obtain ⟨r1,r2,r3⟩ := hs.rel.range
  have ha := hs.rel.a0
  have htop := hs.rel.top
  have hn : s.r.near.applied = s.numbers := by rw [hs.r]; rfl
  obtain ⟨l1,l2,l3⟩ := hs.le
  exact wrap64J (by omega) (by omega)
 have b4 : decide (lagRl s.r ≥ s.r.near.applied - s.far.applied) = true := decide_eq_true c6
 have hvl : ∀ v,v ∈ s.image → v.l.length ≤ 1048576 := fun v hv=>by
  have h4 := him.2
  unfold Im4 volSizes at h4
  have : (v.l.length : Int) ∈ s.image.map fun v=>(v.l.length : Int) := List.mem_map.2 ⟨v,hv,rfl⟩
  rw [h4] at this
  simp at this
  omega
 apply execRS_sound ctRSOk [] 400
 refine cut_sound (bs := [true,false,false,false,false,true]) ?_
 rw [riA_in]
 simp only [rl_backR,m3,m2,hsw.im.2,decide_true,Bool.not_true,b1,b2,b3,c5,hw,b4,holds_br_t,holds_br_f,holds_need_i,holds_all_i,true_and]
 refine fun _ _=>⟨⟨m1,hsw.im.1,hi1,hi2,hvl,hvl⟩,?_⟩
 repeat first
  | refine ⟨hrl,?_⟩
  | refine fun (_ : Nat → Nat → D)=>?_
  | fail
 exact retS (fd := Try.f27) (l := [.bool true]) (sysM o k nv m im tf tn s.r s.far s.numbers (.view 0 5 lo n) [(0,.arr 65 st)]) [100000,100001,1,2,0]
  (smem hsw hst)
theorem seA_law {s : Sx.Sys} {b : Nat} (h : SInv s b) {o k nv m im st tf tn : D} {lo n : Nat} (hsw : SW nv m im tf tn s) (hst : Stg 65 s.staged (.view 0 5 lo n) [(0,.arr 65 st)])
  (w0 : World) (H : HV) (fp : Nat → Nat) : Runs Try.prog (@Ctx.mk w0 H (pinX fp)) (sysE 70 74 [(0,.ptr 100000 0)] (sysM o k nv m im tf tn s.r s.far s.numbers (.view 0 5 lo n) [(0,.arr 65 st)])) (RetP w0 H fp fun v m=>v = .lb true ∧ SysMem (sendS s).1 m) := by
 have hrl := h.rl o k
 have hb := h.2
 obtain ⟨⟨A,S,Sf,Af,K,hs,hk⟩,_⟩ := h
 have e0 := (sendS_ok hs).1
 have htn : tn.len = s.toNear.length := by rw [D.Is.length (α := Msg),hsw.tn.2.2]
 have hone := len_store s.far (nextRl s.r).1.number
 have hone' := len_store ⟨s.far.epoch,s.far.site,s.far.stored,s.far.applied⟩ (nextRl s.r).1.number
 apply execRS_sound ctSSOk [] 400
 rw [seA_in]
 simp only [rl_backR]
 refine ⟨hrl,fun hs0 hs1=>⟨fun h1=>?_,fun h1=>⟨fun h2=>?_,fun h2=>?_⟩⟩⟩
 ·have e : sendS s = (s,true) := by unfold sendS; rw [if_pos (.inl (by simpa using h1))]
  rw [e]
  repeat refine ⟨h1,?_⟩
  exact retS (fd := Try.f70) (l := [.lb true]) (sysM o k nv m im tf tn s.r s.far s.numbers (.view 0 5 lo n) [(0,.arr 65 st)]) [100000,100001,1,2,0]
   (smem hsw hst)
 ·have e : sendS s = (s,true) := by unfold sendS; rw [if_pos (.inr (.inl (of_decide_eq_true h2)))]
  rw [e]
  repeat first
   | refine ⟨h1,?_⟩
   | refine ⟨h2,?_⟩
  exact retS (fd := Try.f70) (l := [.lb true]) (sysM o k nv m im tf tn s.r s.far s.numbers (.view 0 5 lo n) [(0,.arr 65 st)]) [100000,100001,1,2,0]
   (smem hsw hst)
 repeat first
  | refine ⟨h1,?_⟩
  | refine ⟨h2,?_⟩
 refine ⟨fun h3=>?_,fun h3 hs2 hs3=>?_⟩
 ·have e : sendS s = (s,true) := by unfold sendS; rw [if_pos (.inr (.inr (of_decide_eq_true h3)))]
  rw [e]
  exact retS (fd := Try.f70) (l := [.lb true]) (sysM o k nv m im tf tn s.r s.far s.numbers (.view 0 5 lo n) [(0,.arr 65 st)]) [100000,100001,1,2,0]
   (smem hsw hst)
 ·have hc : ¬((nextRl s.r).2 = false ∨ (nextRl s.r).1.number ≤ s.far.stored ∨ (nextRl s.r).1.base > s.far.stored) := by
   rintro (hc | hc | hc)
   ·rw [hc] at h1; cases h1
   ·exact of_decide_eq_false h2 hc
   ·exact of_decide_eq_false h3 hc
  have e : sendS s = ({ s with far := (Sx.store s.far (nextRl s.r).1.number).1,staged := s.staged ++ [(nextRl s.r).1],toNear := s.toNear ++ (Sx.store s.far (nextRl s.r).1.number).2.1 },decide ((Sx.store s.far (nextRl s.r).1.number).2.2 = 0)) := by unfold sendS; rw [if_neg hc]
  rw [e] at e0 ⊢
  have hd : (Sx.store s.far (nextRl s.r).1.number).2.2 = 0 := of_decide_eq_true e0
  have ha := rows_app (rows_of hsw.tn.1) (rows_of (D.like_is (hs2 6 0) (Sx.store s.far (nextRl s.r).1.number).2.1))
  rw [D.like_to,hsw.tn.2.2] at ha
  obtain ⟨a1,a2⟩ := is_of (h := D.hd (hs3 16 0)) (s := 8) rfl ha
  obtain ⟨g1,g2,g3⟩ : st.sz = 5 ∧ lo + n = st.rows.length ∧ SRows Cy (st.rows.drop lo) s.staged := by cases hst; exact ⟨by assumption,by assumption,by assumption⟩
  have g4 := rows_len g3
  rw [List.length_drop] at g4
  refine ⟨⟨g2,g1,.inr rfl,by simp only [len_slc,List.length_cons,List.length_nil]; omega,by simp only [len_slc,List.length_cons,List.length_nil]; omega,by simp only [len_slc,List.length_cons,List.length_nil]; omega⟩,⟨hsw.tn.2.1,(D.like_is (α := Msg) _ _).fits,by simp only [like_leng,htn]; omega,by simp only [like_leng,htn]; omega⟩,?_⟩
  exact ret_sys 100000 [21,22,23] (fd := Try.f70) (l := [.bool (decide ((Sx.store s.far (nextRl s.r).1.number).2.2 = 0))]) (sysM o k nv m im tf (.slc (D.hd (hs3 16 0)) 8 (List.append tn.rows ((hs2 6 0).like (Sx.store s.far (nextRl s.r).1.number).2.1).rows)) s.r (Sx.store s.far (nextRl s.r).1.number).1 s.numbers (.view 0 5 (hs3 10 0).len (n + 1)) [(0,.arr 65 (.slc (D.hd (hs3 10 0)) 5 (List.append (hs3 10 0).rows (List.append (List.drop lo st.rows) [[D.int .i64 (nextRl s.r).1.base,D.int .i64 (nextRl s.r).1.number,D.int .i64 (nextRl s.r).1.time,D.like (hs0 0 0) (nextRl s.r).1.pos,D.like (hs0 0 1) (nextRl s.r).1.wr]]))))]) [100000,100001,1,2,0] (by kernel_rfl) (by kernel_rfl) (fun E=>by show Value.bool _ = _; rw [hd]; rfl) (by kernel_rfl) (by decide) (by kernel_rfl)
   ⟨_,_,_,_,_,_,_,_,_,⟨hsw.nv,hsw.m,hsw.im,hsw.tf,⟨a1,rfl,a2⟩⟩,.a _ _ _ rfl (by
    show (hs3 10 0).rows.length + (n + 1) = ((hs3 10 0).rows ++ (List.drop lo st.rows ++ [[D.int .i64 (nextRl s.r).1.base,D.int .i64 (nextRl s.r).1.number,D.int .i64 (nextRl s.r).1.time,D.like (hs0 0 0) (nextRl s.r).1.pos,D.like (hs0 0 1) (nextRl s.r).1.wr]])).length
    rw [List.length_append,List.length_append,List.length_drop,List.length_singleton]; omega) (by
    show SRows Cy (((hs3 10 0).rows ++ (List.drop lo st.rows ++ [[D.int .i64 (nextRl s.r).1.base,D.int .i64 (nextRl s.r).1.number,D.int .i64 (nextRl s.r).1.time,D.like (hs0 0 0) (nextRl s.r).1.pos,D.like (hs0 0 1) (nextRl s.r).1.wr]])).drop (hs3 10 0).rows.length) _
    rw [List.drop_left]
    exact rows_app g3 (cy_one (D.like_is _ _) (D.like_to _ _) (D.like_is _ _) (D.like_to _ _))),rfl⟩
theorem riB_law {s : Sx.Sys} {b : Nat} (h : SInv s b) {o k nv m im st tf tn : D} {lo n : Nat} (hsw : SW nv m im tf tn s) (hst : Stg 65 s.staged (.dat st) [])
  (w0 : World) (H : HV) (fp : Nat → Nat) : Runs Try.prog (@Ctx.mk w0 H (pinX fp)) (sysE 27 97 [(0,.ptr 100000 0)] (sysM o k nv m im tf tn s.r s.far s.numbers (.dat st) [])) (RetP w0 H fp fun v m=>v = .lb true ∧ SysMem s m) := by
 have hrl := h.rl o k
 obtain ⟨⟨A,S,Sf,Af,K,hs,hk⟩,_⟩ := h
 have hri := rightS_ok hs
 have him := hs.img
 have e1 : s.far.applied = Af := by rw [hs.far]
 subst e1
 obtain ⟨m1,m2⟩ := hsw.m.at him.1
 have m3 : m.hasKey s.far.applied = true := by rw [hsw.m.has,him.1]; rfl
 have hi1 := im_len m1 m2 him.2
 have hi2 := im_len hsw.im.1 hsw.im.2 him.2
 unfold rightS at hri
 rw [him.1] at hri
 simp only at hri
 split at hri
 ·cases hri
 rename_i hc
 simp only [not_or,ne_eq,Decidable.not_not] at hc
 obtain ⟨c1,c2,c3,c4⟩ := hc
 simp only [Bool.and_eq_true,decide_eq_true_eq] at hri
 obtain ⟨c5,c6⟩ := hri
 have b1 : decide (s.far.applied > s.r.near.applied) = false := decide_eq_false c2
 have b2 : decide (s.r.far.applied > s.far.applied) = false := decide_eq_false c3
 have b3 : decide (s.r.far.stored > s.far.stored) = false := decide_eq_false c4
 have hw : IntKind.wrap IntKind.i64 (s.r.near.applied - s.far.applied) = s.r.near.applied - s.far.applied := by
  obtain ⟨r1,r2,r3⟩ := hs.rel.range
  have ha := hs.rel.a0
  have htop := hs.rel.top
  have hn : s.r.near.applied = s.numbers := by rw [hs.r]; rfl
  obtain ⟨l1,l2,l3⟩ := hs.le
  exact wrap64J (by omega) (by omega)
 have b4 : decide (lagRl s.r ≥ s.r.near.applied - s.far.applied) = true := decide_eq_true c6
 have hvl : ∀ v,v ∈ s.image → v.l.length ≤ 1048576 := fun v hv=>by
  have h4 := him.2
  unfold Im4 volSizes at h4
  have : (v.l.length : Int) ∈ s.image.map fun v=>(v.l.length : Int) := List.mem_map.2 ⟨v,hv,rfl⟩
  rw [h4] at this
  simp at this
  omega
 apply execRS_sound ctRSOk [] 400
 refine cut_sound (bs := [true,false,false,false,false,true]) ?_
 rw [riB_in]
 simp only [rl_backR,m3,m2,hsw.im.2,decide_true,Bool.not_true,b1,b2,b3,c5,hw,b4,holds_br_t,holds_br_f,holds_need_i,holds_all_i,true_and]
 refine fun _ _=>⟨⟨m1,hsw.im.1,hi1,hi2,hvl,hvl⟩,?_⟩
 repeat first
  | refine ⟨hrl,?_⟩
  | refine fun (_ : Nat → Nat → D)=>?_
  | fail
 exact retS (fd := Try.f27) (l := [.bool true]) (sysM o k nv m im tf tn s.r s.far s.numbers (.dat st) []) [100000,100001,1,2]
  (smem hsw hst)
theorem seB_law {s : Sx.Sys} {b : Nat} (h : SInv s b) {o k nv m im st tf tn : D} {lo n : Nat} (hsw : SW nv m im tf tn s) (hst : Stg 65 s.staged (.dat st) [])
  (w0 : World) (H : HV) (fp : Nat → Nat) : Runs Try.prog (@Ctx.mk w0 H (pinX fp)) (sysE 70 74 [(0,.ptr 100000 0)] (sysM o k nv m im tf tn s.r s.far s.numbers (.dat st) [])) (RetP w0 H fp fun v m=>v = .lb true ∧ SysMem (sendS s).1 m) := by
 have hrl := h.rl o k
 have hb := h.2
 obtain ⟨⟨A,S,Sf,Af,K,hs,hk⟩,_⟩ := h
 have e0 := (sendS_ok hs).1
 have htn : tn.len = s.toNear.length := by rw [D.Is.length (α := Msg),hsw.tn.2.2]
 have hone := len_store s.far (nextRl s.r).1.number
 have hone' := len_store ⟨s.far.epoch,s.far.site,s.far.stored,s.far.applied⟩ (nextRl s.r).1.number
 apply execRS_sound ctSSOk [] 400
 rw [seB_in]
 simp only [rl_backR]
 refine ⟨hrl,fun hs0 hs1=>⟨fun h1=>?_,fun h1=>⟨fun h2=>?_,fun h2=>?_⟩⟩⟩
 ·have e : sendS s = (s,true) := by unfold sendS; rw [if_pos (.inl (by simpa using h1))]
  rw [e]
  repeat refine ⟨h1,?_⟩
  exact retS (fd := Try.f70) (l := [.lb true]) (sysM o k nv m im tf tn s.r s.far s.numbers (.dat st) []) [100000,100001,1,2]
   (smem hsw hst)
 ·have e : sendS s = (s,true) := by unfold sendS; rw [if_pos (.inr (.inl (of_decide_eq_true h2)))]
  rw [e]
  repeat first
   | refine ⟨h1,?_⟩
   | refine ⟨h2,?_⟩
  exact retS (fd := Try.f70) (l := [.lb true]) (sysM o k nv m im tf tn s.r s.far s.numbers (.dat st) []) [100000,100001,1,2]
   (smem hsw hst)
 repeat first
  | refine ⟨h1,?_⟩
  | refine ⟨h2,?_⟩
 refine ⟨fun h3=>?_,fun h3 hs2 hs3=>?_⟩
 ·have e : sendS s = (s,true) := by unfold sendS; rw [if_pos (.inr (.inr (of_decide_eq_true h3)))]
  rw [e]
  exact retS (fd := Try.f70) (l := [.lb true]) (sysM o k nv m im tf tn s.r s.far s.numbers (.dat st) []) [100000,100001,1,2]
   (smem hsw hst)
 ·have hc : ¬((nextRl s.r).2 = false ∨ (nextRl s.r).1.number ≤ s.far.stored ∨ (nextRl s.r).1.base > s.far.stored) := by
   rintro (hc | hc | hc)
   ·rw [hc] at h1; cases h1
   ·exact of_decide_eq_false h2 hc
   ·exact of_decide_eq_false h3 hc
  have e : sendS s = ({ s with far := (Sx.store s.far (nextRl s.r).1.number).1,staged := s.staged ++ [(nextRl s.r).1],toNear := s.toNear ++ (Sx.store s.far (nextRl s.r).1.number).2.1 },decide ((Sx.store s.far (nextRl s.r).1.number).2.2 = 0)) := by unfold sendS; rw [if_neg hc]
  rw [e] at e0 ⊢
  have hd : (Sx.store s.far (nextRl s.r).1.number).2.2 = 0 := of_decide_eq_true e0
  have ha := rows_app (rows_of hsw.tn.1) (rows_of (D.like_is (hs2 6 0) (Sx.store s.far (nextRl s.r).1.number).2.1))
  rw [D.like_to,hsw.tn.2.2] at ha
  obtain ⟨a1,a2⟩ := is_of (h := D.hd (hs3 16 0)) (s := 8) rfl ha
  obtain ⟨g1,g2,g3⟩ : st.rows = [] ∧ st.Tight ∧ s.staged = [] := by cases hst; exact ⟨by assumption,by assumption,by assumption⟩
  have g0 : st.len = 0 := by show st.rows.length = 0; rw [g1]; rfl
  refine ⟨⟨g2,.inl g1,.inr rfl,by simp only [len_slc,List.length_cons,List.length_nil]; omega,by simp only [len_slc,List.length_cons,List.length_nil]; omega,by simp only [len_slc,List.length_cons,List.length_nil]; omega⟩,⟨hsw.tn.2.1,(D.like_is (α := Msg) _ _).fits,by simp only [like_leng,htn]; omega,by simp only [like_leng,htn]; omega⟩,?_⟩
  exact ret_sysV 100000 [21,22,23] 100000 21 5 (fd := Try.f70) (l := [.bool (decide ((Sx.store s.far (nextRl s.r).1.number).2.2 = 0))]) (sysM o k nv m im tf (.slc (D.hd (hs3 16 0)) 8 (List.append tn.rows ((hs2 6 0).like (Sx.store s.far (nextRl s.r).1.number).2.1).rows)) s.r (Sx.store s.far (nextRl s.r).1.number).1 s.numbers (.view 0 5 0 (st.rows.length + 1)) [(0,.arr 65 (.slc (D.hd (hs3 10 0)) 5 (List.append st.rows [[D.int .i64 (nextRl s.r).1.base,D.int .i64 (nextRl s.r).1.number,D.int .i64 (nextRl s.r).1.time,D.like (hs0 0 0) (nextRl s.r).1.pos,D.like (hs0 0 1) (nextRl s.r).1.wr]])))]) [100000,100001,1,2,0] (by kernel_rfl) (fun mm=>by kernel_rfl) (fun E=>by show Value.bool _ = _; rw [hd]; rfl) (by
    rw [show st.rows.length + 1 = (List.append st.rows [[D.int .i64 (nextRl s.r).1.base,D.int .i64 (nextRl s.r).1.number,D.int .i64 (nextRl s.r).1.time,D.like (hs0 0 0) (nextRl s.r).1.pos,D.like (hs0 0 1) (nextRl s.r).1.wr]]).length from (by rw [g1]; rfl)]
    kernel_rfl) (by decide) (by kernel_rfl)
   ⟨_,_,_,_,_,_,_,_,_,⟨hsw.nv,hsw.m,hsw.im,hsw.tf,⟨a1,rfl,a2⟩⟩,.a _ _ _ rfl (by rw [g1]; rfl) (by
    rw [g3]
    show SRows Cy (List.append st.rows [[D.int .i64 (nextRl s.r).1.base,D.int .i64 (nextRl s.r).1.number,D.int .i64 (nextRl s.r).1.time,D.like (hs0 0 0) (nextRl s.r).1.pos,D.like (hs0 0 1) (nextRl s.r).1.wr]]) _
    rw [g1]
    exact cy_one (D.like_is _ _) (D.like_to _ _) (D.like_is _ _) (D.like_to _ _)),rfl⟩
theorem right_meth {s : Sx.Sys} {b : Nat} (h : SInv s b) : MethOk 27 97 [(0,.ptr 100000 0)] s s := by
 intro w0 H fp mm ⟨o,k,nv,m,im,tf,tn,sv,bl,hsw,hst,he⟩
 subst he
 cases hst with
 | a st lo n h1 h2 h3=>exact riA_law h hsw (.a st lo n h1 h2 h3) w0 H fp
 | b st h1 h2 h3=>exact riB_law (lo := 0) (n := 0) h hsw (.b st h1 h2 h3) w0 H fp
theorem send_meth {s : Sx.Sys} {b : Nat} (h : SInv s b) : MethOk 70 74 [(0,.ptr 100000 0)] s (sendS s).1 := by
 intro w0 H fp mm ⟨o,k,nv,m,im,tf,tn,sv,bl,hsw,hst,he⟩
 subst he
 cases hst with
 | a st lo n h1 h2 h3=>exact seA_law h hsw (.a st lo n h1 h2 h3) w0 H fp
 | b st h1 h2 h3=>exact seB_law (lo := 0) (n := 0) h hsw (.b st h1 h2 h3) w0 H fp
end Sv
end
noncomputable section
open Go Go.Proofs Sx
namespace Sx
theorem cy_row {d : D} {lo : Nat} {c : Cy} {t : List Cy} (h : SRows Cy (d.rows.drop lo) (c :: t)) (hc : ∀ x,x ∈ c :: t → CyOk x) :
  d.HasCells lo 0 [.int .i64,.int .i64,.int .i64,.slc,.slc] ∧ d.HasCell lo 1 (.int .i64) ∧ (CyD.mk (d.getInt lo 0) c.number (d.getInt lo 2) (d.cell lo 3) (d.cell lo 4)).Ok ∧ (CyD.mk (d.getInt lo 0) c.number (d.getInt lo 2) (d.cell lo 3) (d.cell lo 4)).cy = c ∧ d.getInt lo 1 = c.number ∧ SRows Cy (d.rows.drop (lo + 1)) t ∧ lo < d.rows.length := by
 obtain ⟨h1,h2⟩ := h
 cases hd : d.rows.drop lo with
 | nil=>rw [hd] at h2; cases h2
 | cons r rest =>
  rw [hd] at h1 h2
  simp only [List.map_cons,List.cons.injEq] at h2
  obtain ⟨b,n,t',p,w,rfl,hp,hw⟩ := h1 r List.mem_cons_self
  have hlt : lo < d.rows.length := by
   rcases Nat.lt_or_ge lo d.rows.length with h | h
   ·exact h
   ·rw [List.drop_eq_nil_of_le h] at hd; cases hd
  rw [List.drop_eq_getElem_cons hlt,List.cons.injEq] at hd
  have hr : d.rows[lo]? = some [.int .i64 b,.int .i64 n,.int .i64 t',p,w] := by rw [List.getElem?_eq_getElem hlt,hd.1]
  have e0 : d.getInt lo 0 = b := by simp [D.getInt,D.cellAt,hr]
  have e1 : d.getInt lo 1 = n := by simp [D.getInt,D.cellAt,hr]
  have e2 : d.getInt lo 2 = t' := by simp [D.getInt,D.cellAt,hr]
  have e3 : d.cell lo 3 = p := by simp [D.cell,D.cellAt,hr]
  have e4 : d.cell lo 4 = w := by simp [D.cell,D.cellAt,hr]
  have hcy : (CyD.mk b n t' p w).cy = c := h2.1
  have hok := hc c List.mem_cons_self
  have hnn : n = c.number := by rw [← hcy]; rfl
  rw [e0,e1,e2,e3,e4,← hnn]
  obtain ⟨x1,x2,x3⟩ := hp
  obtain ⟨y1,y2,y3⟩ := hw
  refine ⟨⟨⟨b,by simp [D.cellAt,hr]⟩,⟨n,by simp [D.cellAt,hr]⟩,⟨t',by simp [D.cellAt,hr]⟩,⟨x1,x2,x3.choose,by simp [D.cellAt,hr]; exact x3.choose_spec.1⟩,⟨y1,y2,y3.choose,by simp [D.cellAt,hr]; exact y3.choose_spec.1⟩,trivial⟩,⟨n,by simp [D.cellAt,hr]⟩,⟨⟨x1,x2,x3⟩,⟨y1,y2,y3⟩,?_,?_,?_⟩,hcy,rfl,⟨fun r hr=>h1 r (List.mem_cons_of_mem _ (by rw [← hd.2]; exact hr)),by rw [hd.2]; exact h2.2⟩,hlt⟩
  ·rw [← hcy] at hok
   show p.len ≤ _
   rw [D.Is.length (α := Int)]; exact hok.1
  ·rw [← hcy] at hok
   show w.len ≤ _
   rw [D.Is.length (α := Wt)]; exact hok.2.1
  ·rw [← hcy] at hok
   exact hok.2.2
end Sx
namespace Sv
def SysMemF (tf : D) (s : Sx.Sys) (mm : Mem) : Prop := ∃ (o k nv m im tn : D) (sv : SV) (bl : Mem),SW nv m im tf tn s ∧ Stg 65 s.staged sv bl ∧ mm = sysM o k nv m im tf tn s.r s.far s.numbers sv bl
theorem SysMemF.mem {tf : D} {s : Sx.Sys} {mm : Mem} (h : SysMemF tf s mm) : SysMem s mm := by
 obtain ⟨o,k,nv,m,im,tn,sv,bl,h1,h2,h3⟩ := h
 exact ⟨o,k,nv,m,im,tf,tn,sv,bl,h1,h2,h3⟩
theorem SysMemF.at {tf : D} {s : Sx.Sys} {mm : Mem} (h : SysMemF tf s mm) : mm.get 1 = some (.arr 72 tf) := by
 obtain ⟨o,k,nv,m,im,tn,sv,bl,h1,h2,h3⟩ := h
 rw [h3]; rfl
theorem ctFSOk : Ctrs.Ok Try.prog ctFS := by
 intro x hx
 simp only [ctFS,List.mem_cons,List.not_mem_nil,or_false] at hx
 rcases hx with rfl | rfl | rfl
 ·exact ctrOf_ok lawCya
 ·exact ctrOf_ok lawTAp
 ·exact ctrOf_ok lawAns
theorem faE_law {o k nv m im st tf tn ml mb : D} {mk mf mt mn mv me : Int} {s : Sx.Sys} (hbn : s.toNear.length ≤ 2000000) (hsw : SW nv m im tf tn s) (h1 : st.rows = []) (h2 : st.Tight) (h3 : s.staged = []) (w0 : World) (H : HV) (fp : Nat → Nat) :
  Runs Try.prog (@Ctx.mk w0 H (pinX fp)) (faL o k nv m im tf tn ml mb s.r s.far s.numbers mk mf mt mn mv me (.dat st) [] 3 4) (RetP w0 H fp fun v mm=>v = .lb true ∧ SysMemF tf { s with far := (answer (s).far (MsgD.msg ⟨mk,mf,mt,mn,mv,me,ml,mb⟩)).1,toNear := (s).toNear ++ (answer (s).far (MsgD.msg ⟨mk,mf,mt,mn,mv,me,ml,mb⟩)).2 } mm) := by
 have htn : tn.len = s.toNear.length := by rw [D.Is.length (α := Msg),hsw.tn.2.2]
 have hone := len_answer s.far (MsgD.msg ⟨mk,mf,mt,mn,mv,me,ml,mb⟩)
 have hone' := len_answer ⟨s.far.epoch,s.far.site,s.far.stored,s.far.applied⟩ (MsgD.msg ⟨mk,mf,mt,mn,mv,me,ml,mb⟩)
 have g0 : st.len = 0 := by show st.rows.length = 0; rw [h1]; rfl
 refine unroll_sound rfl ?_
 apply execRS_sound ctFSOk [] 400
 rw [faE_go]
 refine fun _=>⟨fun hc=>?_,fun hc=>?_⟩
 ·rw [g0] at hc; exact absurd hc (by decide)
 ·repeat refine ⟨hc,?_⟩
  refine fun hsa hsb=>⟨⟨hsw.tn.2.1,(D.like_is (α := Msg) _ _).fits,by simp only [like_leng,htn]; omega,by simp only [like_leng,htn]; omega⟩,?_⟩
  have ha := rows_app (rows_of hsw.tn.1) (rows_of (D.like_is (hsa 5 0) (answer s.far (MsgD.msg ⟨mk,mf,mt,mn,mv,me,ml,mb⟩)).2))
  rw [D.like_to,hsw.tn.2.2] at ha
  obtain ⟨a1,a2⟩ := is_of (h := D.hd (hsb 8 0)) (s := 8) rfl ha
  exact retS (fd := Try.f28) (l := [.lb true]) (sysM o k nv m im tf (.slc (D.hd (hsb 8 0)) 8 (List.append tn.rows ((hsa 5 0).like (answer s.far (MsgD.msg ⟨mk,mf,mt,mn,mv,me,ml,mb⟩)).2).rows)) s.r (answer s.far (MsgD.msg ⟨mk,mf,mt,mn,mv,me,ml,mb⟩)).1 s.numbers (.dat st) []) [100000,100001,1,2]
   ⟨_,_,_,_,_,_,_,_,⟨hsw.nv,hsw.m,hsw.im,hsw.tf,⟨a1,rfl,a2⟩⟩,.b _ h1 h2 h3,rfl⟩
theorem faD_law {o k nv m im st tf tn ml mb : D} {mk mf mt mn mv me : Int} {s : Sx.Sys} {c : Cy} (hbn : s.toNear.length ≤ 1999990) (hsw : SW nv m im tf tn s) (hi : Im4 s.image) (hcy : CyOk c) (h1 : SRows Cy st.rows [c]) (h2 : st.sz = 5) (h4 : ∀ a q,st.hd = some (a,q) → q = 1) (h3 : s.staged = [c]) (hn : c.number ≤ mn) (e1 : (applyCy s.image c).2 = 0) (e2 : (applyT s.far c.number).2.2 = 0) (w0 : World) (H : HV) (fp : Nat → Nat) :
  Runs Try.prog (@Ctx.mk w0 H (pinX fp)) (faL o k nv m im tf tn ml mb s.r s.far s.numbers mk mf mt mn mv me (.dat st) [] 4 5) (RetP w0 H fp fun v mm=>v = .lb true ∧ SysMemF tf { { s with image := (applyCy s.image c).1,far := (applyT s.far c.number).1,staged := [],toNear := s.toNear ++ (applyT s.far c.number).2.1 } with far := (answer ({ s with image := (applyCy s.image c).1,far := (applyT s.far c.number).1,staged := [],toNear := s.toNear ++ (applyT s.far c.number).2.1 }).far (MsgD.msg ⟨mk,mf,mt,mn,mv,me,ml,mb⟩)).1,toNear := ({ s with image := (applyCy s.image c).1,far := (applyT s.far c.number).1,staged := [],toNear := s.toNear ++ (applyT s.far c.number).2.1 }).toNear ++ (answer ({ s with image := (applyCy s.image c).1,far := (applyT s.far c.number).1,staged := [],toNear := s.toNear ++ (applyT s.far c.number).2.1 }).far (MsgD.msg ⟨mk,mf,mt,mn,mv,me,ml,mb⟩)).2 } mm) := by
 have htn : tn.len = s.toNear.length := by rw [D.Is.length (α := Msg),hsw.tn.2.2]
 have hone := len_applyT s.far c.number
 have hone' := len_applyT ⟨s.far.epoch,s.far.site,s.far.stored,s.far.applied⟩ c.number
 have hl : st.rows.length = 1 := rows_len h1
 obtain ⟨k1,k2,k3,k4,k5,k6,k7⟩ := cy_row (d := st) (lo := 0) (by simpa using h1) (fun x hx=>by rw [List.mem_singleton.1 hx]; exact hcy)
 have hlen : st.len = 1 := hl
 have him := im_len hsw.im.1 hsw.im.2 hi
 refine unroll_sound rfl ?_
 apply execRS_sound ctFSOk [] 400
 rw [faD_go]
 simp only [k4,k5,hsw.im.2,hlen]
 refine fun _=>⟨fun hc=>?_,fun hc=>absurd hc (by decide)⟩
 have z : (0 : Int) ≤ 0 ∧ (0 : Int) < ((1 : Nat) : Int) ∧ st.sz = 5 := ⟨by decide,by decide,h2⟩
 have hnn : decide (c.number ≤ mn) = true := decide_eq_true hn
 repeat first
  | refine ⟨hc,?_⟩
  | refine ⟨z,?_⟩
  | refine ⟨k2,?_⟩
  | fail
 refine ⟨fun hm=>?_,fun hm=>by rw [hnn] at hm; cases hm⟩
 refine fun _=>⟨z,k1,⟨hsw.im.1,him,k3⟩,fun hs1=>⟨z,k2,fun h=>?_,fun _=>⟨fun h=>?_,fun _ hs2=>⟨⟨by decide,by decide,Int.le_refl _,.inr h2⟩,⟨hsw.tn.2.1,(D.like_is (α := Msg) _ _).fits,by simp only [like_leng,htn]; omega,by simp only [like_leng,htn]; omega⟩,?_⟩⟩⟩⟩
 ·rw [e1] at h; cases h
 ·exact absurd h (by show ¬((applyT s.far c.number).2.2 != 0) = true; rw [e2]; decide)
 have ha := rows_app (rows_of hsw.tn.1) (rows_of (D.like_is (hs1 11 0) (applyT s.far c.number).2.1))
 rw [D.like_to,hsw.tn.2.2] at ha
 obtain ⟨a1,a2⟩ := is_of (h := D.hd (hs2 16 0)) (s := 8) rfl ha
 exact faE_law (s := { s with image := (applyCy s.image c).1,far := (applyT s.far c.number).1,staged := [],toNear := s.toNear ++ (applyT s.far c.number).2.1 }) (by simp only [List.length_append]; omega) ⟨hsw.nv,hsw.m,⟨D.like_is _ _,D.like_to _ _⟩,hsw.tf,⟨a1,rfl,a2⟩⟩
  (by show (st.rows.drop 1).take _ = []; rw [List.drop_eq_nil_of_le (by omega)]; rfl)
  (fun a q hq=>by
   simp only [D.sub,D.hd,Option.map_eq_some_iff] at hq
   obtain ⟨⟨a',q'⟩,hq1,hq2⟩ := hq
   have := h4 a' q' hq1
   subst this
   simp only [Prod.mk.injEq] at hq2
   show q = ((st.rows.drop 1).take _).length
   rw [List.drop_eq_nil_of_le (by omega)]
   simp
   omega) rfl w0 H fp
theorem faV_law {ml mb : D} {mk mf mt mn mv me : Int} (w0 : World) (H : HV) (fp : Nat → Nat) : ∀ (q : Nat) {o k nv m im st tf tn : D} {lo n : Nat} {s : Sx.Sys} (_ : s.staged.length = q) (_ : ∃ A S Sf Af K,SysOk s A S Sf Af K) (_ : s.toNear.length + q ≤ 1999990) (_ : SW nv m im tf tn s) (_ : st.sz = 5) (_ : lo + n = st.rows.length) (_ : SRows Cy (st.rows.drop lo) s.staged),
  Runs Try.prog (@Ctx.mk w0 H (pinX fp)) (faL o k nv m im tf tn ml mb s.r s.far s.numbers mk mf mt mn mv me (.view 3 5 lo n) [(3,.arr 65 st)] 4 5) (RetP w0 H fp fun v mm=>v = .lb true ∧ SysMemF tf { (farL q s mn).1 with far := (answer ((farL q s mn).1).far (MsgD.msg ⟨mk,mf,mt,mn,mv,me,ml,mb⟩)).1,toNear := ((farL q s mn).1).toNear ++ (answer ((farL q s mn).1).far (MsgD.msg ⟨mk,mf,mt,mn,mv,me,ml,mb⟩)).2 } mm)
 | 0,o,k,nv,m,im,st,tf,tn,lo,n,s,hq,hok,hbn,hsw,h1,h2,h3=>by
  have hl := rows_len h3
  rw [List.length_drop,hq] at hl
  have hn0 : n = 0 := by omega
  have htn : tn.len = s.toNear.length := by rw [D.Is.length (α := Msg),hsw.tn.2.2]
  have hone := len_answer s.far (MsgD.msg ⟨mk,mf,mt,mn,mv,me,ml,mb⟩)
  have hone' := len_answer ⟨s.far.epoch,s.far.site,s.far.stored,s.far.applied⟩ (MsgD.msg ⟨mk,mf,mt,mn,mv,me,ml,mb⟩)
  have g1 : lo + n ≤ st.len := by show lo + n ≤ st.rows.length; omega
  refine unroll_sound rfl ?_
  apply execRS_sound ctFSOk [] 400
  rw [faV_go]
  refine fun _=>⟨fun hc=>?_,fun hc=>?_⟩
  ·rw [hn0] at hc; exact absurd hc (by decide)
  repeat first
   | refine ⟨hc,?_⟩
   | refine ⟨g1,?_⟩
   | fail
  refine fun hsa hsb=>⟨⟨hsw.tn.2.1,(D.like_is (α := Msg) _ _).fits,by simp only [like_leng,htn]; omega,by simp only [like_leng,htn]; omega⟩,?_⟩
  have ha := rows_app (rows_of hsw.tn.1) (rows_of (D.like_is (hsa 5 0) (answer s.far (MsgD.msg ⟨mk,mf,mt,mn,mv,me,ml,mb⟩)).2))
  rw [D.like_to,hsw.tn.2.2] at ha
  obtain ⟨a1,a2⟩ := is_of (h := D.hd (hsb 8 0)) (s := 8) rfl ha
  exact retS (fd := Try.f28) (l := [.lb true]) (sysM o k nv m im tf (.slc (D.hd (hsb 8 0)) 8 (List.append tn.rows ((hsa 5 0).like (answer s.far (MsgD.msg ⟨mk,mf,mt,mn,mv,me,ml,mb⟩)).2).rows)) s.r (answer s.far (MsgD.msg ⟨mk,mf,mt,mn,mv,me,ml,mb⟩)).1 s.numbers (.view 0 5 lo n) [(0,.arr 65 st)]) [100000,100001,1,2,0]
   ⟨_,_,_,_,_,_,_,_,⟨hsw.nv,hsw.m,hsw.im,hsw.tf,⟨a1,rfl,a2⟩⟩,.a _ _ _ h1 h2 h3,rfl⟩
 | q + 1,o,k,nv,m,im,st,tf,tn,lo,n,s,hq,hok,hbn,hsw,h1,h2,h3=>by
  have hl := rows_len h3
  rw [List.length_drop,hq] at hl
  have htn : tn.len = s.toNear.length := by rw [D.Is.length (α := Msg),hsw.tn.2.2]
  have hone := len_answer s.far (MsgD.msg ⟨mk,mf,mt,mn,mv,me,ml,mb⟩)
  have hone' := len_answer ⟨s.far.epoch,s.far.site,s.far.stored,s.far.applied⟩ (MsgD.msg ⟨mk,mf,mt,mn,mv,me,ml,mb⟩)
  have g1 : lo + n ≤ st.len := by show lo + n ≤ st.rows.length; omega
  have hcys : ∀ c,c ∈ s.staged → CyOk c := by
   obtain ⟨A,S,Sf,Af,K,h⟩ := hok
   intro c hc
   obtain ⟨d,hd⟩ := chain_mem h.ch hc
   rw [hd]; exact small_ok _ _ _
  have hi : Im4 s.image := by obtain ⟨A,S,Sf,Af,K,h⟩ := hok; exact h.img.2
  have him := im_len hsw.im.1 hsw.im.2 hi
  cases hst : s.staged with
  | nil=>rw [hst] at hq; cases hq
  | cons c t =>
   rw [hst] at h3 hcys hq
   simp only [List.length_cons,Nat.succ.injEq] at hq
   obtain ⟨k1,k2,k3,k4,k5,k6,k7⟩ := cy_row h3 hcys
   have k2' : st.HasCell (lo + 0) 1 (.int .i64) ∧ st.sz = 5 := ⟨k2,h1⟩
   have z : lo + n ≤ st.len ∧ (0 : Int) ≤ 0 ∧ (0 : Int) < (n : Int) ∧ st.sz = 5 := ⟨g1,by decide,by omega,h1⟩
   -- is it taken?
   by_cases hn : c.number ≤ mn
   ·-- what it leaves
    have one : (applyCy s.image c).2 = 0 ∧ (applyT s.far c.number).2.2 = 0 ∧ (∃ A S Sf Af K,SysOk { s with image := (applyCy s.image c).1,far := (applyT s.far c.number).1,staged := t,toNear := s.toNear ++ (applyT s.far c.number).2.1 } A S Sf Af K) := by
     obtain ⟨A,S,Sf,Af,K,h⟩ := hok
     obtain ⟨Af',_,f1,_,f2⟩ := farL_ok (n := mn) 1 h
     unfold farL at f1 f2
     rw [hst] at f1 f2
     simp only at f1 f2
     rw [if_pos hn] at f1 f2
     split at f1
     ·cases f1
     ·rename_i hc
      rw [if_neg hc] at f2
      simp only [not_or,ne_eq,Decidable.not_not] at hc
      exact ⟨hc.1,hc.2,_,_,_,_,_,f2⟩
    obtain ⟨e1,e2,hok1⟩ := one
    have ef : farL (q + 1) s mn = farL q { s with image := (applyCy s.image c).1,far := (applyT s.far c.number).1,staged := t,toNear := s.toNear ++ (applyT s.far c.number).2.1 } mn := by
     conv=>lhs; unfold farL
     rw [hst]
     simp only
     rw [if_pos hn,if_neg (by simp [e1,e2])]
    rw [ef]
    have hone1 := len_applyT s.far c.number
    have hone1' := len_applyT ⟨s.far.epoch,s.far.site,s.far.stored,s.far.applied⟩ c.number
    by_cases hend : n = 1 ∧ ¬st.Past (lo + 1)
    ·-- its row ends here
     obtain ⟨rfl,hp⟩ := hend
     have hq0 : q = 0 := by omega
     subst hq0
     have ht : t = [] := List.eq_nil_of_length_eq_zero hq
     subst ht
     have hcap : ∃ a,st.hd = some (a,lo + 1) := Classical.byContradiction fun hno=>hp fun a q' h he=>hno ⟨a,by rw [h,he]⟩
     obtain ⟨a0,hcap⟩ := hcap
     refine viewOut_to 3 100000 21 (st.sz = 5 ∧ lo + 1 ≤ st.len) ⟨(faL o k nv m im tf tn ml mb s.r s.far s.numbers mk mf mt mn mv me (.dat (st.sub lo (lo + 1))) [(3,.pub st)] 4 5).top,[],(faL o k nv m im tf tn ml mb s.r s.far s.numbers mk mf mt mn mv me (.dat (st.sub lo (lo + 1))) [(3,.pub st)] 4 5).mem⟩ (by kernel_rfl) ⟨h1,g1⟩ ?_
     refine runs_sub (faL o k nv m im tf tn ml mb s.r s.far s.numbers mk mf mt mn mv me (.dat (st.sub lo (lo + 1))) [] 4 5).mem ?_ ?_
     ·exact (List.Sublist.refl _).cons _ |>.cons₂ _
     have hrows : (st.sub lo (lo + 1)).rows = st.rows.drop lo := by
      show (st.rows.drop lo).take (lo + 1 - lo) = _
      rw [List.take_of_length_le (by rw [List.length_drop]; omega)]
     exact faD_law (s := s) (c := c) (st := st.sub lo (lo + 1)) (by omega) hsw hi (hcys c List.mem_cons_self) (by rw [hrows]; exact h3) h1 (fun a q' hq'=>by
      have hq'' : (D.hd st).map (fun x=>(if x.2 = lo then x.1 else x.1.add (lo * st.sz),x.2 - lo)) = some (a,q') := hq'
      rw [hcap] at hq''
      simp only [Option.map_some,Option.some.injEq,Prod.mk.injEq] at hq''
      omega) hst hn e1 e2 w0 H fp
    ·refine unroll_sound rfl ?_
     apply execRS_sound ctFSOk [] 400
     rw [faV_go]
     simp only [Nat.add_zero,k4,k5,hsw.im.2]
     refine fun _=>⟨fun hc=>?_,fun hc=>absurd (of_decide_eq_false hc) (by omega)⟩
     repeat first
      | refine ⟨hc,?_⟩
      | refine ⟨g1,?_⟩
      | refine ⟨z,?_⟩
      | refine ⟨k2',?_⟩
      | fail
     refine ⟨fun _ hs0=>⟨z,⟨k1,h1⟩,⟨hsw.im.1,him,k3⟩,fun hs1=>⟨z,k2',fun h=>?_,fun _=>⟨fun h=>?_,fun _ hs2=>⟨⟨by decide,by omega,g1,h1,?_⟩,⟨hsw.tn.2.1,(D.like_is (α := Msg) _ _).fits,by simp only [like_leng,htn]; omega,by simp only [like_leng,htn]; omega⟩,?_⟩⟩⟩⟩,fun h=>absurd (of_decide_eq_false h) (by simpa using hn)⟩
     ·rw [e1] at h; cases h
     ·exact absurd h (by show ¬((applyT s.far c.number).2.2 != 0) = true; rw [e2]; decide)
     ·by_cases h1n : n = 1
      ·exact .inr (Classical.not_not.1 fun hp=>hend ⟨h1n,hp⟩)
      ·exact .inl (by omega)
     ·have ha := rows_app (rows_of hsw.tn.1) (rows_of (D.like_is (hs1 11 0) (applyT s.far c.number).2.1))
      rw [D.like_to,hsw.tn.2.2] at ha
      obtain ⟨a1,a2⟩ := is_of (h := D.hd (hs2 16 0)) (s := 8) rfl ha
      exact faV_law w0 H fp q (s := { s with image := (applyCy s.image c).1,far := (applyT s.far c.number).1,staged := t,toNear := s.toNear ++ (applyT s.far c.number).2.1 }) hq hok1 (by simp only [List.length_append]; omega) ⟨hsw.nv,hsw.m,⟨D.like_is _ _,D.like_to _ _⟩,hsw.tf,⟨a1,rfl,a2⟩⟩ h1 (by omega) k6
   ·have ef : farL (q + 1) s mn = (s,true) := by
     unfold farL
     rw [hst]
     simp only
     rw [if_neg hn]
    rw [ef]
    refine unroll_sound rfl ?_
    apply execRS_sound ctFSOk [] 400
    rw [faV_go]
    simp only [Nat.add_zero,k5]
    refine fun _=>⟨fun hc=>?_,fun hc=>absurd (of_decide_eq_false hc) (by omega)⟩
    repeat first
     | refine ⟨hc,?_⟩
     | refine ⟨g1,?_⟩
     | refine ⟨z,?_⟩
     | refine ⟨k2',?_⟩
     | fail
    refine ⟨fun h=>absurd (of_decide_eq_true h) hn,fun h=>?_⟩
    rw [← hst] at h3
    refine fun hsa hsb=>⟨⟨hsw.tn.2.1,(D.like_is (α := Msg) _ _).fits,by simp only [like_leng,htn]; omega,by simp only [like_leng,htn]; omega⟩,?_⟩
    have ha := rows_app (rows_of hsw.tn.1) (rows_of (D.like_is (hsa 5 0) (answer s.far (MsgD.msg ⟨mk,mf,mt,mn,mv,me,ml,mb⟩)).2))
    rw [D.like_to,hsw.tn.2.2] at ha
    obtain ⟨a1,a2⟩ := is_of (h := D.hd (hsb 8 0)) (s := 8) rfl ha
    exact retS (fd := Try.f28) (l := [.lb true]) (sysM o k nv m im tf (.slc (D.hd (hsb 8 0)) 8 (List.append tn.rows ((hsa 5 0).like (answer s.far (MsgD.msg ⟨mk,mf,mt,mn,mv,me,ml,mb⟩)).2).rows)) s.r (answer s.far (MsgD.msg ⟨mk,mf,mt,mn,mv,me,ml,mb⟩)).1 s.numbers (.view 0 5 lo n) [(0,.arr 65 st)]) [100000,100001,1,2,0]
     ⟨_,_,_,_,_,_,_,_,⟨hsw.nv,hsw.m,hsw.im,hsw.tf,⟨a1,rfl,a2⟩⟩,.a _ _ _ h1 h2 h3,rfl⟩
end Sv
end
