/- Layer 41, the top: runHops' second loop, walked. -/
import Derived.KernelRfl
import Derived.Test.YtllmgnhjljmihaaVL181toVT281
import Derived.Test.YtllmgnhjljmihaaFrtoVT53
import Derived.Maps.RangeRun
set_option linter.all false
set_option maxRecDepth 100000
set_option maxHeartbeats 0
noncomputable section
open Go Go.Proofs Sx
namespace Sv
def rhL (l : D) (j : Int) (mm : Mem) : Conf := Conf.mk (SFrm.mk 11 none none [Item.inLoop (cA 11 [1,1,1,1,0,1,0,0]),Item.inBlock 2,Item.code (cA 11 [1,1,1,1,1])] (mkJ 0 [(4,.ptr 100000 0),(6,.lb true),(47,.dat l),(48,.int .i64 (l.len : Int)),(49,.int .i64 j)] 0 66)) [] mm
section
variable (l o k ims th mp se an : D) (r : Rl) (far : Tgt) (j : Int)
theorem rhl_go : execRE Try.prog ctHp [42,36] 400 (unroll (rhL l j (casM o k ims th mp se an r far))) =
 Tree.br (decide (j < (↑(D.len l) : Int)))
 (.need (0 ≤ j ∧ j < (↑(D.len l) : Int) ∧ D.sz l = 3)
 (.need (D.HasCells l (Int.toNat j) 0 [FT.int .i64,FT.int .i64,FT.slc])
 (.leaf
 (Conf.mk
 (SFrm.mk 42 none none [Item.code (cA 42 [])]
 (mkJ 1
 [(0,.ptr 100000 0),
 (1,
 .agg
 [.int .i64 (D.getInt l (Int.toNat j) 0),.int .i64 (D.getInt l (Int.toNat j) 1),
 .dat (D.cell l (Int.toNat j) 2)])]
 0 55))
 [SFrm.mk 11 (some (oA 11 [1,1,1,1,0,1,0,0,1,1,0,0,1],[5,6,7,8,9,10])) (some 57)
 [Item.inBlock 3,Item.code (cA 11 [1,1,1,1,0,1,0,0,1,1,1]),
 Item.inLoop (cA 11 [1,1,1,1,0,1,0,0]),Item.inBlock 2,
 Item.code (cA 11 [1,1,1,1,1])]
 (mkJ 0
 [(4,.ptr 100000 0),(47,.dat l),(48,.int .i64 (↑(D.len l) : Int)),
 (49,.int .i64 j),(54,.lb true)]
 0 66)]
 [(1,OBlk.arr 23 ims),(3,OBlk.arr 72 se),(4,OBlk.arr 72 an),
 (100000,
 OBlk.cells 82
 [.int .i64 (Tgt.epoch (Rl.near r)),.int .i64 (Tgt.site (Rl.near r)),
 .int .i64 (Tgt.stored (Rl.near r)),.int .i64 (Tgt.applied (Rl.near r)),
 .int .i64 (Tgt.epoch (Rl.far r)),.int .i64 (Tgt.site (Rl.far r)),
 .int .i64 (Tgt.stored (Rl.far r)),.int .i64 (Tgt.applied (Rl.far r)),
 .int .i64 (Src.epoch (Rl.src r)),.int .i64 (Src.site (Rl.src r)),
 .dat (D.like o (Src.offered (Rl.src r))),.int .i64 (Src.stored (Rl.src r)),
 .int .i64 (Src.applied (Rl.src r)),.dat (D.like k (Rl.kept r)),
 .int .i64 (Tgt.epoch far),.int .i64 (Tgt.site far),
 .int .i64 (Tgt.stored far),.int .i64 (Tgt.applied far),.vec 1,.dat th,
 .mapp 100001,.vec 3,.vec 4]),
 (100001,
 OBlk.mapD .i64 true [FT.int .i64,FT.int .i64,FT.int .i64,FT.slc,FT.slc]
 mp)]))))
 (.leaf
 (Conf.mk
 (SFrm.mk 11 none none [Item.code (cA 11 [1,0,1,1,0,1])]
 (mkJ 0 [(4,.ptr 100000 0),(5,.lb true),(6,.lb true)] 0 66))
 []
 [(1,OBlk.arr 23 ims),(3,OBlk.arr 72 se),(4,OBlk.arr 72 an),
 (100000,
 OBlk.cells 82
 [.int .i64 (Tgt.epoch (Rl.near r)),.int .i64 (Tgt.site (Rl.near r)),
 .int .i64 (Tgt.stored (Rl.near r)),.int .i64 (Tgt.applied (Rl.near r)),
 .int .i64 (Tgt.epoch (Rl.far r)),.int .i64 (Tgt.site (Rl.far r)),
 .int .i64 (Tgt.stored (Rl.far r)),.int .i64 (Tgt.applied (Rl.far r)),
 .int .i64 (Src.epoch (Rl.src r)),.int .i64 (Src.site (Rl.src r)),
 .dat (D.like o (Src.offered (Rl.src r))),.int .i64 (Src.stored (Rl.src r)),
 .int .i64 (Src.applied (Rl.src r)),.dat (D.like k (Rl.kept r)),
 .int .i64 (Tgt.epoch far),.int .i64 (Tgt.site far),
 .int .i64 (Tgt.stored far),.int .i64 (Tgt.applied far),.vec 1,.dat th,
 .mapp 100001,.vec 3,.vec 4]),
 (100001,
 OBlk.mapD .i64 true [FT.int .i64,FT.int .i64,FT.int .i64,FT.slc,FT.slc] mp)])) := by kernel_rfl
end
def rhF (l : D) (j : Int) : SFrm := SFrm.mk 11 (some (oA 11 [1,1,1,1,0,1,0,0,1,1,0,0,1],[5,6,7,8,9,10])) (some 57) [Item.inBlock 3,Item.code (cA 11 [1,1,1,1,0,1,0,0,1,1,1]),Item.inLoop (cA 11 [1,1,1,1,0,1,0,0]),Item.inBlock 2,Item.code (cA 11 [1,1,1,1,1])] (mkJ 0 [(4,.ptr 100000 0),(47,.dat l),(48,.int .i64 (l.len : Int)),(49,.int .i64 j),(54,.lb true)] 0 66)
def backC (g : SFrm) (mm : Mem) : Conf := ⟨{ g with tmps := putS g.tmps g.await (.lb true),await := none },[],mm⟩
section
variable (l o k ims th mp se an : D) (r : Rl) (far : Tgt) (j : Int)
theorem rhl_k1 : execRE Try.prog ctHp [42,36] 400 (backC (rhF l j) (casM o k ims th mp se an r far)) =
 Tree.leaf
 (Conf.mk (SFrm.mk 36 none none [Item.code (cA 36 [])] (mkJ 1 [(0,.ptr 100000 0)] 0 75))
 [SFrm.mk 11 (some (oA 11 [1,1,1,1,0,1,0,0,1,1,0,0,1],[9,10])) (some 61)
 [Item.inBlock 3,Item.code (cA 11 [1,1,1,1,0,1,0,0,1,1,1]),
 Item.inLoop (cA 11 [1,1,1,1,0,1,0,0]),Item.inBlock 2,
 Item.code (cA 11 [1,1,1,1,1])]
 (mkJ 0
 [(4,.ptr 100000 0),(47,.dat l),(48,.int .i64 (↑(D.len l) : Int)),
 (49,.int .i64 j),(59,.lb true)]
 0 66)]
 [(1,OBlk.arr 23 ims),(3,OBlk.arr 72 se),(4,OBlk.arr 72 an),
 (100000,
 OBlk.cells 82
 [.int .i64 (Tgt.epoch (Rl.near r)),.int .i64 (Tgt.site (Rl.near r)),
 .int .i64 (Tgt.stored (Rl.near r)),.int .i64 (Tgt.applied (Rl.near r)),
 .int .i64 (Tgt.epoch (Rl.far r)),.int .i64 (Tgt.site (Rl.far r)),
 .int .i64 (Tgt.stored (Rl.far r)),.int .i64 (Tgt.applied (Rl.far r)),
 .int .i64 (Src.epoch (Rl.src r)),.int .i64 (Src.site (Rl.src r)),
 .dat (D.like o (Src.offered (Rl.src r))),.int .i64 (Src.stored (Rl.src r)),
 .int .i64 (Src.applied (Rl.src r)),.dat (D.like k (Rl.kept r)),
 .int .i64 (Tgt.epoch far),.int .i64 (Tgt.site far),.int .i64 (Tgt.stored far),
 .int .i64 (Tgt.applied far),.vec 1,.dat th,.mapp 100001,.vec 3,.vec 4]),
 (100001,
 OBlk.mapD .i64 true [FT.int .i64,FT.int .i64,FT.int .i64,FT.slc,FT.slc] mp)]) := by kernel_rfl
end
def rhG (l : D) (j : Int) : SFrm := SFrm.mk 11 (some (oA 11 [1,1,1,1,0,1,0,0,1,1,0,0,1],[9,10])) (some 61) [Item.inBlock 3,Item.code (cA 11 [1,1,1,1,0,1,0,0,1,1,1]),Item.inLoop (cA 11 [1,1,1,1,0,1,0,0]),Item.inBlock 2,Item.code (cA 11 [1,1,1,1,1])] (mkJ 0 [(4,.ptr 100000 0),(47,.dat l),(48,.int .i64 (l.len : Int)),(49,.int .i64 j),(59,.lb true)] 0 66)
def tcfF : SFrm := SFrm.mk 3 (some (oA 3 [1,0],[3,4,5,6,7,8,9])) (some 11) [Item.code (cA 3 [1,1])] (mkJ 0 [] 0 16)
def backV (v : SV) (g : SFrm) (mm : Mem) : Conf := ⟨{ g with tmps := putS g.tmps g.await v,await := none },[],mm⟩
section
variable (l o k ims th mp se an : D) (r : Rl) (far : Tgt) (j : Int)
theorem rhl_k2 : execRE Try.prog ctHp [42,36] 400 (backC (rhG l j) (casM o k ims th mp se an r far)) =
 Tree.leaf
 (Conf.mk
 (SFrm.mk 11 none none
 [Item.inLoop (cA 11 [1,1,1,1,0,1,0,0]),Item.inBlock 2,
 Item.code (cA 11 [1,1,1,1,1])]
 (mkJ 0
 [(4,.ptr 100000 0),(6,.lb true),(47,.dat l),(48,.int .i64 (↑(D.len l) : Int)),
 (49,.int .i64 (IntKind.wrap .i64 (j + 1)))]
 0 66))
 []
 [(1,OBlk.arr 23 ims),(3,OBlk.arr 72 se),(4,OBlk.arr 72 an),
 (100000,
 OBlk.cells 82
 [.int .i64 (Tgt.epoch (Rl.near r)),.int .i64 (Tgt.site (Rl.near r)),
 .int .i64 (Tgt.stored (Rl.near r)),.int .i64 (Tgt.applied (Rl.near r)),
 .int .i64 (Tgt.epoch (Rl.far r)),.int .i64 (Tgt.site (Rl.far r)),
 .int .i64 (Tgt.stored (Rl.far r)),.int .i64 (Tgt.applied (Rl.far r)),
 .int .i64 (Src.epoch (Rl.src r)),.int .i64 (Src.site (Rl.src r)),
 .dat (D.like o (Src.offered (Rl.src r))),.int .i64 (Src.stored (Rl.src r)),
 .int .i64 (Src.applied (Rl.src r)),.dat (D.like k (Rl.kept r)),
 .int .i64 (Tgt.epoch far),.int .i64 (Tgt.site far),.int .i64 (Tgt.stored far),
 .int .i64 (Tgt.applied far),.vec 1,.dat th,.mapp 100001,.vec 3,.vec 4]),
 (100001,
 OBlk.mapD .i64 true [FT.int .i64,FT.int .i64,FT.int .i64,FT.slc,FT.slc] mp)]) := by kernel_rfl
theorem tcf_k0 : execRE Try.prog ctHp [] 400 (backV (.tup [.nilp,.lb false,.lb true]) tcfF []) =
 Tree.leaf (Conf.mk (SFrm.mk 3 none none [Item.code (cA 3 [1,1,1])] (mkJ 0 [(4,.lb true)] 0 16)) [] []) := by kernel_rfl
theorem tcf_k1 : execRE Try.prog ctHp [] 400 (backV (.tup [.ptr 100000 0,.lb true,.lb true]) tcfF (casM o k ims th mp se an r far)) =
 Tree.leaf
 (Conf.mk (SFrm.mk 3 none none [Item.code (cA 3 [1,1,1])] (mkJ 0 [(4,.lb true)] 0 16)) []
 [(1,OBlk.arr 23 ims),(3,OBlk.arr 72 se),(4,OBlk.arr 72 an),
 (100000,
 OBlk.cells 82
 [.int .i64 (Tgt.epoch (Rl.near r)),.int .i64 (Tgt.site (Rl.near r)),
 .int .i64 (Tgt.stored (Rl.near r)),.int .i64 (Tgt.applied (Rl.near r)),
 .int .i64 (Tgt.epoch (Rl.far r)),.int .i64 (Tgt.site (Rl.far r)),
 .int .i64 (Tgt.stored (Rl.far r)),.int .i64 (Tgt.applied (Rl.far r)),
 .int .i64 (Src.epoch (Rl.src r)),.int .i64 (Src.site (Rl.src r)),
 .dat (D.like o (Src.offered (Rl.src r))),.int .i64 (Src.stored (Rl.src r)),
 .int .i64 (Src.applied (Rl.src r)),.dat (D.like k (Rl.kept r)),
 .int .i64 (Tgt.epoch far),.int .i64 (Tgt.site far),.int .i64 (Tgt.stored far),
 .int .i64 (Tgt.applied far),.vec 1,.dat th,.mapp 100001,.vec 3,.vec 4]),
 (100001,
 OBlk.mapD .i64 true [FT.int .i64,FT.int .i64,FT.int .i64,FT.slc,FT.slc] mp)]) := by kernel_rfl
end
end Sv
end
noncomputable section
namespace Sx
open Go RowKit
def SV.free : SV → Bool
 | .int ..=>true
 | .bool _=>true
 | .lb _=>true
 | .str _=>true
 | .nils=>true
 | .dat _=>true
 | .elt ..=>true
 | .nilp=>true
 | .nilf=>true
 | .undef=>true
 | .junk _=>true
 | .raw _=>true
 | _=>false
theorem den_free {E E' : Env} (hj : E'.j = E.j) : ∀ x : SV,x.free = true → x.den E' = x.den E
 | .int ..,_=>by simp [SV.den]
 | .bool _,_=>by simp [SV.den]
 | .lb _,_=>by simp [SV.den]
 | .str _,_=>by simp [SV.den]
 | .nils,_=>by simp [SV.den]
 | .dat _,_=>by simp [SV.den]
 | .elt ..,_=>by simp [SV.den]
 | .nilp,_=>by simp [SV.den]
 | .nilf,_=>by simp [SV.den]
 | .undef,_=>by simp [SV.den]
 | .junk _,_=>by simp [SV.den,hj]
 | .raw _,_=>by simp [SV.den]
theorem denL_free {E E' : Env} (hj : E'.j = E.j) : ∀ l : List SV,l.all SV.free = true → SV.denL E' l = SV.denL E l
 | [],_=>rfl
 | x :: r,h=>by
  simp only [List.all_cons,Bool.and_eq_true] at h
  simp only [SV.denL,den_free hj x h.1,denL_free hj r h.2]
def RetN (w0 : World) (H : HV) (Φ : SV → Mem → Prop) : Value → World → Prop :=
 fun u w'=>∃ v m E1 H',Φ v m ∧ u = v.den E1 ∧ Good ⟨w0,H⟩ m E1 H' w' ∧ v.Ok H' ∧ v.jk 0 = false ∧ (∀ x,x ∈ m → x.2.jk 0 = false)
section
variable {P : Program} {R : Value → World → Prop}
theorem runs_new {w0 : World} {H0 : HV} {top g : SFrm} {rest : List SFrm} {mem : Mem} {Φ : SV → Mem → Prop}
  (hgp : (g.tmps.all SV.free && rest.all fun f=>f.tmps.all SV.free) = true)
  (h1 : ∀ (H : HV),SV.OkL H top.tmps → Runs P ⟨w0,H⟩ ⟨top,[],mem⟩ (RetN w0 H Φ))
  (h2 : ∀ v m,Φ v m → Runs P ⟨w0,H0⟩ ⟨{ g with tmps := putS g.tmps g.await v,await := none },rest,m⟩ R) :
  Runs P ⟨w0,H0⟩ ⟨top,g :: rest,mem⟩ R := by
 intro E H w gd ok
 simp only [Bool.and_eq_true,List.all_eq_true] at hgp
 have gd1 : Good ⟨w0,H⟩ mem E H w :=
  ⟨gd.below,HLe.refl _,fun _ _ _ h=>.inl h,gd.cell,fun k o h=>by have := gd.own k o h; cases o <;> exact this,gd.keys,gd.apart,fixOk_plain _ _ _⟩
 have hr := h1 H ok.1 E H w gd1 ⟨ok.1,by simp⟩
 rw [stkRun_eq] at hr ⊢
 simp only [List.map_nil,restOf] at hr
 simp only [List.map_cons,restOf]
 refine CFrm.run_mono hr fun u w' ⟨v,m,E1,H',hΦ,hu,g1,hv,hvj,hmj⟩=>?_
 let E2 : Env := ⟨E1.b,E1.v,E.j⟩
 have hs1 : Same 0 E1 E2 := ⟨rfl,rfl,fun i hi=>absurd hi (Nat.not_lt_zero _)⟩
 have g2 : Good ⟨w0,H⟩ m E2 H' w' := g1.same' hs1 hmj
 have hu' : u = v.den E2 := by rw [hu]; exact (den_same hs1 v hvj).symm
 have g3 : Good ⟨w0,H0⟩ m E2 H' w' :=
  ⟨g2.below,gd.ext.trans g2.ext,fun b o x h=>by
   rcases g2.fresh b o x h with h | h
   ·exact gd.fresh b o x h
   ·exact .inr h,g2.cell,fun k o h=>by have := g2.own k o h; cases o <;> exact this,g2.keys,g2.apart,fixOk_plain _ _ _⟩
 have hgt : SV.denL E2 g.tmps = SV.denL E g.tmps := denL_free (E := E) (E' := E2) rfl _ (List.all_eq_true.2 hgp.1)
 have hrt : rest.map (SFrm.den E2) = rest.map (SFrm.den E) := by
  apply List.map_congr_left
  intro f hf
  simp only [SFrm.den]
  rw [denL_free (E := E) (E' := E2) rfl _ (List.all_eq_true.2 (hgp.2 f hf))]
 have okg : SV.OkL H' g.tmps := SV.OkL.mono g2.ext _ (ok.2 g List.mem_cons_self)
 have fin := h2 v m hΦ E2 H' w' g3 ⟨okL_putS okg hv,fun f hf=>SV.OkL.mono g2.ext _ (ok.2 f (List.mem_cons_of_mem _ hf))⟩
 simp only [SFrm.den] at fin ⊢
 rw [← put_den,hgt,← hu'] at fin
 rw [hrt] at fin
 cases rest <;> exact fin
theorem ret_new {w0 : World} {H : HV} {Φ : SV → Mem → Prop} {fn : FuncId} {aw : Option Tmp} {k : List Item} {tmps : List SV} {mem : Mem} {fd : Func} {l : List SV} (v : SV) (m' : Mem) (mv : List (Nat × Nat)) (ks : List Nat) (h : Φ v m') (ht : ∀ E,(one? l).den E = v.den E)
  (hfn : P.funcs[fn]? = some fd := by kernel_rfl) (hres : resS P mem tmps fd.results.toList = some l := by kernel_rfl) (hvf : v.fixed = true := by kernel_rfl) (hvo : ∀ H,v.Ok H := by intro H; simp [SV.Ok,SV.OkL]) (hvj : v.jk 0 = false := by kernel_rfl)
  (hm : (moveM mem mv).map (pickK ks) = some m' := by kernel_rfl) (hn : ks.Nodup := by decide) (hjm : m'.all (fun x=>!x.2.jk 0) = true := by kernel_rfl) :
  (Tree.leaf ⟨⟨fn,none,aw,.code .ret :: k,tmps⟩,[],mem⟩).holds P ⟨w0,H⟩ (RetN w0 H Φ) := by
 intro E Hx w g ok
 obtain ⟨h1,h2⟩ := run_results (P := P) g.take ok.1 hres
 refine Go1.ret hfn rfl g.fix.nodup (fun D hD=>(g.fix.fx D _ (g.fix.mark D hD).2).1) h1 ?_
 obtain ⟨E',e1,e2,g'⟩ := MemTo.to mv ks hm hn _ E Hx _ g.take
 exact ⟨v,m',E',Hx,h,(ht E).trans (den_fixed e1 e2 v hvf).symm,g',hvo _,hvj,fun x hx=>by
  have := List.all_eq_true.1 hjm x hx
  simpa using this⟩
def lbSlot (i : Nat) (c : Conf) : Option Conf :=
 match c.top.tmps[i]? with
 | some (.bool true)=>some ⟨⟨c.top.fn,c.top.ri,c.top.await,c.top.todo,c.top.tmps.set i (.lb true)⟩,c.rest,c.mem⟩
 | _=>none
theorem lbSlot_to {C : Ctx} (i : Nat) {c : Conf} (c' : Conf) (hc : lbSlot i c = some c') (h : Runs P C c' R) : Runs P C c R := by
 intro E H w g ok
 unfold lbSlot at hc
 split at hc
 ·rename_i hn
  cases hc
  have hd : SV.denL E (c.top.tmps.set i (.lb true)) = SV.denL E c.top.tmps := by
   rw [denL_set,SV.denL_eq]
   apply List.ext_getElem?
   intro j
   by_cases hj : j = i
   ·subst hj
    rw [List.getElem?_set_self (by have := (List.getElem?_eq_some_iff.1 hn).1; simpa using this)]
    simp [List.getElem?_map,hn,SV.den]
   ·rw [List.getElem?_set_ne (Ne.symm hj)]
  have := h E H w g ⟨okL_putS (dst := some i) ok.1 (by simp [SV.Ok]),ok.2⟩
  simp only [SFrm.den,hd] at this ⊢
  exact this
 ·cases hc
end
end Sx
end
noncomputable section
namespace Sx
open Go RowKit


section
variable {P : Program} {C : Ctx} {R : Value → World → Prop} {cs : Ctrs}
end
section
variable {P : Program} {w0 : World} {H0 : HV} {R : Value → World → Prop}








end
end Sx
end
noncomputable section
namespace Sx
open Go RowKit
def pinO (a b k : Nat) : Nat :=
 match Nat.beq k a with
 | true=>b
 | false=>k
def pinOC (a b : Nat) (c : Conf) : Option Conf :=
 match Nat.blt a PIN && Nat.ble PIN b && !(c.allKeys.contains b) with
 | true=>some (renWith (pinO a b) c)
 | false=>none
theorem pinO_to {P : Program} {C : Ctx} {R : Value → World → Prop} (a b : Nat) {c : Conf} (c' : Conf) (hc : pinOC a b c = some c') (h : Runs P C c' R) (hpn : C.x.pn = none := by rfl) : Runs P C c R := by
 unfold pinOC at hc
 split at hc
 ·rename_i hchk
  cases hc
  simp only [Bool.and_eq_true,Bool.not_eq_true'] at hchk
  obtain ⟨⟨hA,hB⟩,hcont⟩ := hchk
  have hnb : ∀ k,k ∈ c.allKeys → k ≠ b := fun k hk e=>by
   subst e
   rw [List.contains_iff.2 hk] at hcont; cases hcont
  intro E H w g ok
  have all : ∀ k,k ∈ SV.keysL c.top.tmps ∨ (∃ f,f ∈ c.rest ∧ k ∈ SV.keysL f.tmps) ∨ k ∈ Mem.named c.mem → k ∈ c.allKeys := fun k hk=>by
   rcases hk with hk | ⟨f,hf,hk⟩ | hk
   ·exact meet_mem (.inl (walkK_mem (meet_mem (.inr (List.mem_append_left _ hk)))))
   ·exact meet_mem (.inl (walkK_mem (meet_mem (.inr (List.mem_append_right _ (List.mem_flatMap.2 ⟨f,hf,hk⟩))))))
   ·exact meet_mem (.inr hk)
  let E' : Env := ⟨fun i=>if i = b then E.b a else E.b i,fun i=>if i = b then E.v a else E.v i,E.j⟩
  have cas : ∀ k,k ∈ c.allKeys → (k = a ∧ pinO a b k = b) ∨ (k ≠ a ∧ k ≠ b ∧ pinO a b k = k) := fun k hk=>by
   by_cases hka : k = a
   ·left; refine ⟨hka,?_⟩; subst hka; simp only [pinO,Nat.beq_refl]
   ·right
    refine ⟨hka,hnb k hk,?_⟩
    have : Nat.beq k a = false := by
     cases hb : Nat.beq k a with
     | false=>rfl
     | true=>exact absurd (Nat.eq_of_beq_eq_true hb) hka
    simp only [pinO,this]
  have ren : ∀ k,k ∈ c.allKeys → Ren (pinO a b) E E' k := fun k hk=>by
   rcases cas k hk with ⟨h1,h2⟩ | ⟨h1,h2,h3⟩
   ·exact ⟨by show (if pinO a b k = b then E.b a else E.b (pinO a b k)) = E.b k; rw [if_pos h2,h1],by show (if pinO a b k = b then E.v a else E.v (pinO a b k)) = E.v k; rw [if_pos h2,h1]⟩
   ·simp only [Ren,E',h3,if_neg h2,and_self]
  have inj : ∀ k j,k ∈ c.allKeys → j ∈ c.allKeys → pinO a b k = pinO a b j → k = j := fun k j hk hj e=>by
   rcases cas k hk with ⟨h1,h2⟩ | ⟨h1,h2,h3⟩ <;> rcases cas j hj with ⟨g1,g2⟩ | ⟨g1,g2,g3⟩
   ·rw [h1,g1]
   ·rw [h2,g3] at e; exact absurd e.symm g2
   ·rw [h3,g2] at e; exact absurd e h2
   ·rw [h3,g3] at e; exact e
  have named : ∀ k o,(k,o) ∈ c.mem → k ∈ c.allKeys ∧ ∀ j,j ∈ o.keys → j ∈ c.allKeys := fun k o hm=>by
   refine ⟨all k (.inr (.inr ?_)),fun j hj=>all j (.inr (.inr ?_))⟩
   ·simp only [Mem.named,List.mem_flatMap]; exact ⟨_,hm,List.mem_cons_self⟩
   ·simp only [Mem.named,List.mem_flatMap]; exact ⟨_,hm,List.mem_cons_of_mem _ hj⟩
  have gd : Good C (c.mem.map fun e=>(pinO a b e.1,e.2.ren (pinO a b))) E' H w := by
   refine ⟨g.below,g.ext,g.fresh,g.cell,fun k o hko=>?_,?_,fun x y hx hy hne hlx hly=>?_,⟨g.fix.fx,g.fix.mark,g.fix.nodup,fun f hf=>by rw [hpn] at hf; cases hf⟩⟩
   ·obtain ⟨e,he,h1⟩ := List.mem_map.1 hko
    simp only [Prod.mk.injEq] at h1
    obtain ⟨rfl,rfl⟩ := h1
    obtain ⟨n1,n2⟩ := named e.1 e.2 he
    exact (g.own e.1 e.2 he).ren (E' := E') (show E'.j = E.j from rfl) (ren _ n1) (fun j hj=>ren j (n2 j hj)) (fun es _ hk=>keysOk_ren hk)
   ·rw [List.pairwise_map]
    refine g.keys.imp_of_mem ?_
    intro x y hx hy hne e
    exact hne (inj _ _ (named x.1 x.2 hx).1 (named y.1 y.2 hy).1 e)
   ·obtain ⟨x',hx',h1⟩ := List.mem_map.1 hx
    obtain ⟨y',hy',h2⟩ := List.mem_map.1 hy
    subst h1; subst h2
    simp only at hne hlx hly ⊢
    rw [(ren x'.1 (named x'.1 x'.2 hx').1).1,(ren y'.1 (named y'.1 y'.2 hy').1).1]
    exact g.apart x' y' hx' hy' (fun e=>hne (by rw [e])) ((OBlk.lies_ren _ _).1 hlx) ((OBlk.lies_ren _ _).1 hly)
  have hr := h E' H w gd ⟨SV.okL_ren _ ok.1,fun f hf=>by
   obtain ⟨f',hf',rfl⟩ := List.mem_map.1 hf
   exact SV.okL_ren _ (ok.2 f' hf')⟩
  have e1 : (renWith (pinO a b) c).top.den E' = c.top.den E := by
   simp only [renWith,SFrm.den]
   rw [SV.denL_ren (E := E) (E' := E') rfl _ fun k hk=>ren k (all k (.inl hk))]
  have e2 : (renWith (pinO a b) c).rest.map (SFrm.den E') = c.rest.map (SFrm.den E) := by
   simp only [renWith,List.map_map]
   apply List.map_congr_left
   intro f hf
   simp only [Function.comp,SFrm.den]
   rw [SV.denL_ren (E := E) (E' := E') rfl _ fun k hk=>ren k (all k (.inr (.inl ⟨f,hf,hk⟩)))]
  rw [e1,e2] at hr
  exact hr
 ·cases hc
end Sx
end
noncomputable section
open Go Go.Proofs Sx
namespace Sx
def beginO (e : TypeId) (ts : List FT) (c : Conf) : Option Conf :=
 ((((mapIn 2 .i64 true ts c).bind (pinOC 2 100001)).bind (pinOC 0 100000)).bind (vecIn 3 e 8 (some 100000) 21)).bind (vecIn 4 e 8 (some 100000) 22)
theorem beginO_to {P : Program} {C : Ctx} {R : Value → World → Prop} (e : TypeId) (ts : List FT) {c : Conf} (c' : Conf) (hc : beginO e ts c = some c') (h : Runs P C c' R) (hpn : C.x.pn = none := by rfl) : Runs P C c R := by
 unfold beginO at hc
 simp only [Option.bind_eq_some_iff] at hc
 obtain ⟨c4,⟨c3,⟨c2,⟨c1,h1,h2⟩,h3⟩,h4⟩,h5⟩ := hc
 exact mapIn_to 2 .i64 true ts c1 h1 (pinO_to 2 100001 c2 h2 (pinO_to 0 100000 c3 h3 (vecIn_sound h4 (vecIn_sound h5 h)) hpn) hpn)
end Sx
namespace Sv
def HopsTo (v : SV) (m : Mem) : Prop := (v = .tup [.nilp,.lb false,.lb true] ∧ m = []) ∨ (v = .tup [.ptr 100000 0,.lb true,.lb true] ∧ ∃ s sz t,RunC s sz t ∧ CasMem s m)
theorem cmeth_law {s : Cas} {f : FuncId} {n : Nat} {args : List (Nat × SV)} {Φ : Cas → Prop} (hm : CMeth f n args s Φ) {g : SFrm} {w0 : World} {H : HV} {R : Value → World → Prop} {mem : Mem} (m' : Mem)
  (hs : CasMem s m') (k : ∀ s' m'',Φ s' → CasMem s' m'' → Runs Try.prog ⟨w0,H⟩ (backC g m'') R)
  (hto : (moveM mem (mvOf 100000 [18,21,22] mem)).map (pickK [100000,100001,0,1,2]) = some m' := by kernel_rfl) (hfx : (SV.fixedL (mkJ 1 args 0 n) && [g].all fun f=>SV.fixedL f.tmps) = true := by kernel_rfl) (hgp : (g.tmps.all SV.pinned && ([] : List SFrm).all fun f=>f.tmps.all SV.pinned) = true := by kernel_rfl) :
  Runs Try.prog ⟨w0,H⟩ ⟨SFrm.mk f none none [Item.code (cA f [])] (mkJ 1 args 0 n),[g],mem⟩ R :=
 runs_to (MemTo.to _ _ hto (by decide)) hfx (runs_meth hgp (fun H f _=>hm w0 H f m' hs) (fun v m ⟨hv,s',hΦ,hm⟩=>by subst hv; exact k s' m hΦ hm))
theorem runs_cas {C : Ctx} {R : Value → World → Prop} {top : SFrm} {rest : List SFrm} {mem m' : Mem} (h : Runs Try.prog C ⟨top,rest,m'⟩ R) (hto : (moveM mem (mvOf 100000 [18,21,22] mem)).map (pickK [100000,100001,0,1,2]) = some m' := by kernel_rfl) (hp : (SV.fixedL top.tmps && rest.all fun f=>SV.fixedL f.tmps) = true := by kernel_rfl) : Runs Try.prog C ⟨top,rest,mem⟩ R :=
 runs_to (MemTo.to _ _ hto (by decide)) hp h
theorem retH {w : World} {H : HV} {fn : FuncId} {aw : Option Tmp} {k : List Item} {tmps : List SV} {mem : Mem} {fd : Func} {s : Cas} {sz : List Int} {t : Nat} (m' : Mem) (hr : RunC s sz t) (hs : CasMem s m')
  (hfn : Try.prog.funcs[fn]? = some fd := by kernel_rfl) (hres : resS Try.prog mem tmps fd.results.toList = some [.ptr 100000 0,.lb true,.lb true] := by kernel_rfl) (hm : (moveM mem (mvOf 100000 [18,21,22] mem)).map (pickK [100000,100001,0,1,2]) = some m' := by kernel_rfl) (hjm : m'.all (fun x=>!x.2.jk 0) = true := by kernel_rfl) :
  (Tree.leaf ⟨⟨fn,none,aw,.code .ret :: k,tmps⟩,[],mem⟩).holds Try.prog ⟨w,H⟩ (RetN w H HopsTo) :=
 ret_new (l := [.ptr 100000 0,.lb true,.lb true]) (.tup [.ptr 100000 0,.lb true,.lb true]) m' (mvOf 100000 [18,21,22] mem) [100000,100001,0,1,2] (.inr ⟨rfl,s,sz,t,hr,hs⟩) (fun _=>rfl) hfn hres (by kernel_rfl) (by intro H; simp [SV.Ok,SV.OkL]) (by kernel_rfl) hm (by decide) hjm
theorem wrapk {j : Nat} (h : j < 1048576) : IntKind.i64.wrap ((j : Int) + 1) = ((j + 1 : Nat) : Int) := by rw [wrap64J (by omega) (by omega)]; rfl
theorem rh_loop {l : D} (hl : l.Is Hop) (hlen : l.len ≤ 60) (hfew : ∀ x,x ∈ l.to Hop → fewW x.wr = true) (w : World) (H : HV) : ∀ (q j : Nat) {s : Cas} {sz : List Int} {mm : Mem},j + q = l.len → RunC s sz j → CasMem s mm → Runs Try.prog ⟨w,H⟩ (rhL l j mm) (RetN w H HopsTo)
 | 0,j,s,sz,mm,hj,hr,hm=>by
  have hm0 := hm
  obtain ⟨o,k,ims,th,mp,se,an,hcw,he⟩ := hm
  subst he
  refine unroll_sound rfl ?_
  apply execRE_sound ctHpOk _ 400
  rw [rhl_go]
  exact ⟨fun h=>absurd (of_decide_eq_true h) (by omega),fun _=>retH (fd := Try.f11) (casM o k ims th mp se an s.r s.far) hr hm0⟩
 | q + 1,j,s,sz,mm,hj,hr,hm=>by
  have hlt : j < (l.to Hop).length := by rw [← D.Is.length (α := Hop)]; omega
  obtain ⟨c1,c2,c3⟩ := hop_cell hl hlt
  have hsz : l.sz = 3 := hl.size hlt
  have hf := fewW_okC (hfew _ (List.getElem_mem hlt))
  rw [c3] at hf
  simp only at hf
  have hwl : (l.cell j 2).Is Wt ∧ (l.cell j 2).len ≤ 1000000 ∧ ∀ w,w ∈ (l.cell j 2).to Wt → w.data.length ≤ 1000000 := ⟨c2,by rw [D.Is.length (α := Wt)]; omega,fun w hw=>by have := hf.2 w hw; omega⟩
  have hsm := hr.small
  have hr0 := hr
  obtain ⟨A,S,Sf,Af,N,K,h1,h2,h3,h4,h5,h6⟩ := hr
  have hm0 := hm
  obtain ⟨o,k,ims,th,mp,se,an,hcw,he⟩ := hm
  subst he
  refine unroll_sound rfl ?_
  apply execRE_sound ctHpOk _ 400
  rw [rhl_go]
  refine ⟨fun _=>⟨⟨by omega,by omega,hsz⟩,c1,?_⟩,fun h=>absurd (of_decide_eq_false h) (by omega)⟩
  refine cmeth_law (cst_meth h1 hsm (by omega) (by omega) _ _ hwl) (g := rhF l j) (casM o k ims th mp se an s.r s.far) hm0 fun s' m'' hst hm''=>?_
  have hr' := RunC.step h2 h3 h4 h5 (by omega) hst
  clear hst hm0 hcw h1 h2 h3 h4 h5 h6 hr0 hsm
  have hsm := hr'.small
  have hm0 := hm''
  obtain ⟨A,S,Sf,Af,N,K,h1,h2,h3,h4,h5,h6⟩ := hr'
  obtain ⟨o,k,ims,th,mp,se,an,hcw,he⟩ := hm''
  subst he
  apply execRE_sound ctHpOk _ 400
  rw [rhl_k1]
  refine cmeth_law (cri_meth h1 hsm) (g := rhG l j) (casM o k ims th mp se an s'.r s'.far) hm0 fun s2 m3 hst hm3=>?_
  subst hst
  have hr' : RunC s2 sz (j + 1) := ⟨A,S,Sf,Af,N,K,h1,h2,h3,h4,h5,h6⟩
  have hm0 := hm3
  obtain ⟨o,k,ims,th,mp,se,an,hcw,he⟩ := hm3
  subst he
  apply execRE_sound ctHpOk _ 400
  rw [rhl_k2,wrapk (by omega)]
  exact runs_cas (rh_loop hl hlen hfew w H q (j + 1) (by omega) hr' hm0)
theorem rq_loop {im l : D} (hi : im.Is Vol) (hz : sizesErr (volSizes (im.to Vol)) = 0) (hl : l.Is Hop) (hlen : l.len ≤ 60) (w : World) (H : HV) : ∀ (q j : Nat),j + q = l.len → (∀ x,x ∈ (l.to Hop).take j → fewW x.wr = true) → Runs Try.prog ⟨w,H⟩ (rhQ im l j) (RetN w H HopsTo)
 | 0,j,hj,hpre=>by
  refine unroll_sound rfl ?_
  apply execRS_sound ctHpOk [] 400
  rw [rhq_go]
  refine ⟨fun h=>absurd (of_decide_eq_true h) (by omega),fun _ hs0 hs1 hs2=>⟨fun _=>?_,fun h=>absurd h (by decide)⟩⟩
  have hlen2 := D.Is.length (α := Hop) l
  rw [List.take_of_length_le (by omega)] at hpre
  obtain ⟨i1,i2⟩ := is_of (h := D.hd (hs2 0 0)) (s := 1) rfl (img_one hi)
  have hm : CasMem (begC (im.to Vol)) (casM (hs0 0 0) (hs0 0 1) (.slc (D.hd (hs2 0 0)) 1 [[im]]) im (.slc none 0 []) (.slc none 8 []) (.slc none 8 []) (begC (im.to Vol)).r (begC (im.to Vol)).far) :=
   ⟨_,_,_,_,_,_,_,⟨⟨i1,rfl,i2⟩,⟨hi,rfl⟩,⟨rfl,fun i c hc=>absurd hc (by simp [begC])⟩,⟨is_nil _ _,rfl,rfl⟩,⟨is_nil _ _,rfl,rfl⟩⟩,rfl⟩
  refine lbSlot_to 6 _ rfl ?_
  refine beginO_to 72 [.int .i64,.int .i64,.int .i64,.slc,.slc] (rhL l 0 [(4,.arr 72 (.slc none 8 [])),(3,.arr 72 (.slc none 8 [])),(100000,.cells 82 (rlL (hs0 0 0) (hs0 0 1) (begC (im.to Vol)).r ++ [.int .i64 1,.int .i64 1,.int .i64 0,.int .i64 0,.vec 1,.dat im,.mapp 100001,.vec 3,.vec 4])),(1,.arr 23 (.slc (D.hd (hs2 0 0)) 1 [[im]])),(100001,.mapD .i64 true [.int .i64,.int .i64,.int .i64,.slc,.slc] (.slc none 0 []))]) (by kernel_rfl) ?_
  exact runs_cas (rh_loop hl hlen hpre w H l.len 0 (by omega) (run_beg hz) hm)
 | q + 1,j,hj,hpre=>by
  have hlt : j < (l.to Hop).length := by rw [← D.Is.length (α := Hop)]; omega
  obtain ⟨c1,c2,c3⟩ := hop_cell hl hlt
  have hsz : l.sz = 3 := hl.size hlt
  refine unroll_sound rfl ?_
  apply execRS_sound ctHpOk [] 400
  rw [rhq_go]
  refine ⟨fun _=>⟨⟨by omega,by omega,hsz⟩,c1,c2,fun _=>?_,fun hf=>?_⟩,fun h=>absurd (of_decide_eq_false h) (by omega)⟩
  ·exact ret_new (fd := Try.f11) (l := [.nilp,.lb false,.lb true]) (.tup [.nilp,.lb false,.lb true]) [] [] [] (.inl ⟨rfl,rfl⟩) (fun _=>rfl)
  ·have hf : fewW ((l.cell j 2).to Wt) = true := by simpa using hf
   rw [wrapk (by omega)]
   refine rq_loop hi hz hl hlen w H q (j + 1) (by omega) fun x hx=>?_
   have htk : (l.to Hop).take (j + 1) = (l.to Hop).take j ++ [(l.to Hop)[j]] := by rw [List.take_append_getElem]
   rw [htk] at hx
   rcases List.mem_append.1 hx with hx | hx
   ·exact hpre x hx
   ·rw [List.mem_singleton.1 hx,c3]; exact hf
theorem rh_runs {im l : D} (hi : im.Is Vol ∧ im.len * 24 ≤ 140737488355328) (hl : l.Is Hop) (w : World) (H : HV) : Runs Try.prog ⟨w,H⟩ (sysE 11 66 [(0,.dat im),(1,.dat l)] []) (RetN w H HopsTo) := by
 apply execRS_sound ctHpOk [] 400
 rw [rhp_in]
 have early : ∀ {aw : Option Tmp} {k : List Item} {tmps : List SV},resS Try.prog [] tmps Try.f11.results.toList = some [.nilp,.lb false,.lb true] → (Tree.leaf ⟨⟨11,none,aw,.code .ret :: k,tmps⟩,[],[]⟩).holds Try.prog ⟨w,H⟩ (RetN w H HopsTo) := fun hres =>
  ret_new (fd := Try.f11) (l := [.nilp,.lb false,.lb true]) (.tup [.nilp,.lb false,.lb true]) [] [] [] (.inl ⟨rfl,rfl⟩) (fun _=>rfl) (by kernel_rfl) hres
 refine ⟨hi,fun hs=>⟨D.like_is _ _,fun hs1=>⟨fun _=>early (by kernel_rfl),fun hz=>⟨hi.1,fun _=>early (by kernel_rfl),fun _=>⟨fun _=>early (by kernel_rfl),fun h60=>?_⟩⟩⟩⟩⟩
 have hz : sizesErr (volSizes (im.to Vol)) = 0 := by rw [D.like_to] at hz; simpa using hz
 exact rq_loop hi.1 hz hl (by have := of_decide_eq_false h60; omega) w H l.len 0 (by omega) (fun x hx=>absurd hx (by simp))
end Sv
end
noncomputable section
open Go Go.Proofs Sx
namespace Sx
def spTcf (x : D × D) : SpecR := .scalar [(x.1.Is Vol ∧ x.1.len * 24 ≤ 140737488355328) ∧ x.2.Is Hop] (.lb true)
end Sx
namespace Sv
theorem lawTcf : Law Try.prog 3 ((rdD.two rdD).sp spTcf) := by
 refine law_in _ (by kernel_rfl) fun H w ⟨im,l⟩ hok hp=>?_
 obtain ⟨hi,hl⟩ := hp _ (List.mem_singleton.2 rfl)
 apply execRE_sound ctHpOk [11] 400
 rw [show (rdD.two rdD).canon (im,l) = [.dat im,.dat l] from rfl,tcf_in]
 refine runs_new (by kernel_rfl) (fun H _=>rh_runs hi hl w H) fun v m hv=>?_
 rcases hv with ⟨rfl,rfl⟩ | ⟨rfl,s,sz,t,hr,o,k,ims,th,mp,se,an,hcw,rfl⟩
 ·refine (show Runs Try.prog ⟨w,H⟩ (backV (.tup [.nilp,.lb false,.lb true]) tcfF []) _ from ?_)
  apply execRE_sound ctHpOk [] 400
  rw [tcf_k0]
  exact leaf_ret (f := Try.f3) (l := [.lb true]) (by kernel_rfl) (by kernel_rfl) ret_lbt
 ·refine (show Runs Try.prog ⟨w,H⟩ (backV (.tup [.ptr 100000 0,.lb true,.lb true]) tcfF (casM o k ims th mp se an s.r s.far)) _ from ?_)
  apply execRE_sound ctHpOk [] 400
  rw [tcf_k1]
  exact leaf_ret (f := Try.f3) (l := [.lb true]) (by kernel_rfl) (by kernel_rfl) ret_lbt
end Sv
end
