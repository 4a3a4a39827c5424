/- Layer 41, the top: runHops' second loop, walked. -/
import Derived.KernelRfl
import Derived.Test.YtllmgnhjljmihaaVL181toVT281
import Derived.Test.YtllmgnhjljmihaaFrtoVT53
import Derived.Maps.RangeRun
set_option linter.all false
set_option maxRecDepth 100000
set_option maxHeartbeats 0
noncomputable section
open Go Go.Proofs Sx
namespace Sv
def rhL (l : D) (j : Int) (mm : Mem) : Conf := Conf.mk (SFrm.mk 11 none none [Item.inLoop (cA 11 [1,1,1,1,0,1,0,0]),Item.inBlock 2,Item.code (cA 11 [1,1,1,1,1])] (mkJ 0 [(4,.ptr 100000 0),(6,.lb true),(47,.dat l),(48,.int .i64 (l.len : Int)),(49,.int .i64 j)] 0 66)) [] mm
section
variable (l o k ims th mp se an : D) (r : Rl) (far : Tgt) (j : Int)
theorem rhl_go : execRE Try.prog ctHp [42,36] 400 (unroll (rhL l j (casM o k ims th mp se an r far))) =
 Tree.br (decide (j < (↑(D.len l) : Int)))
 (.need (0 ≤ j ∧ j < (↑(D.len l) : Int) ∧ D.sz l = 3)
 (.need (D.HasCells l (Int.toNat j) 0 [FT.int .i64,FT.int .i64,FT.slc])
 (.leaf
 (Conf.mk
 (SFrm.mk 42 none none [Item.code (cA 42 [])]
 (mkJ 1
 [(0,.ptr 100000 0),
 (1,
 .agg
 [.int .i64 (D.getInt l (Int.toNat j) 0),.int .i64 (D.getInt l (Int.toNat j) 1),
 .dat (D.cell l (Int.toNat j) 2)])]
 0 55))
 [SFrm.mk 11 (some (oA 11 [1,1,1,1,0,1,0,0,1,1,0,0,1],[5,6,7,8,9,10])) (some 57)
 [Item.inBlock 3,Item.code (cA 11 [1,1,1,1,0,1,0,0,1,1,1]),
 Item.inLoop (cA 11 [1,1,1,1,0,1,0,0]),Item.inBlock 2,
 Item.code (cA 11 [1,1,1,1,1])]
 (mkJ 0
 [(4,.ptr 100000 0),(47,.dat l),(48,.int .i64 (↑(D.len l) : Int)),
 (49,.int .i64 j),(54,.lb true)]
 0 66)]
 [(1,OBlk.arr 23 ims),(3,OBlk.arr 72 se),(4,OBlk.arr 72 an),
 (100000,
 OBlk.cells 82
 [.int .i64 (Tgt.epoch (Rl.near r)),.int .i64 (Tgt.site (Rl.near r)),
 .int .i64 (Tgt.stored (Rl.near r)),.int .i64 (Tgt.applied (Rl.near r)),
 .int .i64 (Tgt.epoch (Rl.far r)),.int .i64 (Tgt.site (Rl.far r)),
 .int .i64 (Tgt.stored (Rl.far r)),.int .i64 (Tgt.applied (Rl.far r)),
 .int .i64 (Src.epoch (Rl.src r)),.int .i64 (Src.site (Rl.src r)),
 .dat (D.like o (Src.offered (Rl.src r))),.int .i64 (Src.stored (Rl.src r)),
 .int .i64 (Src.applied (Rl.src r)),.dat (D.like k (Rl.kept r)),
 .int .i64 (Tgt.epoch far),.int .i64 (Tgt.site far),
 .int .i64 (Tgt.stored far),.int .i64 (Tgt.applied far),.vec 1,.dat th,
 .mapp 100001,.vec 3,.vec 4]),
 (100001,
 OBlk.mapD .i64 true [FT.int .i64,FT.int .i64,FT.int .i64,FT.slc,FT.slc]
 mp)]))))
 (.leaf
 (Conf.mk
 (SFrm.mk 11 none none [Item.code (cA 11 [1,0,1,1,0,1])]
 (mkJ 0 [(4,.ptr 100000 0),(5,.lb true),(6,.lb true)] 0 66))
 []
 [(1,OBlk.arr 23 ims),(3,OBlk.arr 72 se),(4,OBlk.arr 72 an),
 (100000,
 OBlk.cells 82
 [.int .i64 (Tgt.epoch (Rl.near r)),.int .i64 (Tgt.site (Rl.near r)),
 .int .i64 (Tgt.stored (Rl.near r)),.int .i64 (Tgt.applied (Rl.near r)),
 .int .i64 (Tgt.epoch (Rl.far r)),.int .i64 (Tgt.site (Rl.far r)),
 .int .i64 (Tgt.stored (Rl.far r)),.int .i64 (Tgt.applied (Rl.far r)),
 .int .i64 (Src.epoch (Rl.src r)),.int .i64 (Src.site (Rl.src r)),
 .dat (D.like o (Src.offered (Rl.src r))),.int .i64 (Src.stored (Rl.src r)),
 .int .i64 (Src.applied (Rl.src r)),.dat (D.like k (Rl.kept r)),
 .int .i64 (Tgt.epoch far),.int .i64 (Tgt.site far),
 .int .i64 (Tgt.stored far),.int .i64 (Tgt.applied far),.vec 1,.dat th,
 .mapp 100001,.vec 3,.vec 4]),
 (100001,
 OBlk.mapD .i64 true [FT.int .i64,FT.int .i64,FT.int .i64,FT.slc,FT.slc] mp)])) := by kernel_rfl
end
def rhF (l : D) (j : Int) : SFrm := SFrm.mk 11 (some (oA 11 [1,1,1,1,0,1,0,0,1,1,0,0,1],[5,6,7,8,9,10])) (some 57) [Item.inBlock 3,Item.code (cA 11 [1,1,1,1,0,1,0,0,1,1,1]),Item.inLoop (cA 11 [1,1,1,1,0,1,0,0]),Item.inBlock 2,Item.code (cA 11 [1,1,1,1,1])] (mkJ 0 [(4,.ptr 100000 0),(47,.dat l),(48,.int .i64 (l.len : Int)),(49,.int .i64 j),(54,.lb true)] 0 66)
def backC (g : SFrm) (mm : Mem) : Conf := ⟨{ g with tmps := putS g.tmps g.await (.lb true),await := none },[],mm⟩
section
variable (l o k ims th mp se an : D) (r : Rl) (far : Tgt) (j : Int)
theorem rhl_k1 : execRE Try.prog ctHp [42,36] 400 (backC (rhF l j) (casM o k ims th mp se an r far)) =
 Tree.leaf
 (Conf.mk (SFrm.mk 36 none none [Item.code (cA 36 [])] (mkJ 1 [(0,.ptr 100000 0)] 0 75))
 [SFrm.mk 11 (some (oA 11 [1,1,1,1,0,1,0,0,1,1,0,0,1],[9,10])) (some 61)
 [Item.inBlock 3,Item.code (cA 11 [1,1,1,1,0,1,0,0,1,1,1]),
 Item.inLoop (cA 11 [1,1,1,1,0,1,0,0]),Item.inBlock 2,
 Item.code (cA 11 [1,1,1,1,1])]
 (mkJ 0
 [(4,.ptr 100000 0),(47,.dat l),(48,.int .i64 (↑(D.len l) : Int)),
 (49,.int .i64 j),(59,.lb true)]
 0 66)]
 [(1,OBlk.arr 23 ims),(3,OBlk.arr 72 se),(4,OBlk.arr 72 an),
 (100000,
 OBlk.cells 82
 [.int .i64 (Tgt.epoch (Rl.near r)),.int .i64 (Tgt.site (Rl.near r)),
 .int .i64 (Tgt.stored (Rl.near r)),.int .i64 (Tgt.applied (Rl.near r)),
 .int .i64 (Tgt.epoch (Rl.far r)),.int .i64 (Tgt.site (Rl.far r)),
 .int .i64 (Tgt.stored (Rl.far r)),.int .i64 (Tgt.applied (Rl.far r)),
 .int .i64 (Src.epoch (Rl.src r)),.int .i64 (Src.site (Rl.src r)),
 .dat (D.like o (Src.offered (Rl.src r))),.int .i64 (Src.stored (Rl.src r)),
 .int .i64 (Src.applied (Rl.src r)),.dat (D.like k (Rl.kept r)),
 .int .i64 (Tgt.epoch far),.int .i64 (Tgt.site far),.int .i64 (Tgt.stored far),
 .int .i64 (Tgt.applied far),.vec 1,.dat th,.mapp 100001,.vec 3,.vec 4]),
 (100001,
 OBlk.mapD .i64 true [FT.int .i64,FT.int .i64,FT.int .i64,FT.slc,FT.slc] mp)]) := by kernel_rfl
end
def rhG (l : D) (j : Int) : SFrm := SFrm.mk 11 (some (oA 11 [1,1,1,1,0,1,0,0,1,1,0,0,1],[9,10])) (some 61) [Item.inBlock 3,Item.code (cA 11 [1,1,1,1,0,1,0,0,1,1,1]),Item.inLoop (cA 11 [1,1,1,1,0,1,0,0]),Item.inBlock 2,Item.code (cA 11 [1,1,1,1,1])] (mkJ 0 [(4,.ptr 100000 0),(47,.dat l),(48,.int .i64 (l.len : Int)),(49,.int .i64 j),(59,.lb true)] 0 66)
def backV (v : SV) (g : SFrm) (mm : Mem) : Conf := ⟨{ g with tmps := putS g.tmps g.await v,await := none },[],mm⟩
section
variable (l o k ims th mp se an : D) (r : Rl) (far : Tgt) (j : Int)
theorem rhl_k2 : execRE Try.prog ctHp [42,36] 400 (backC (rhG l j) (casM o k ims th mp se an r far)) =
 Tree.leaf
 (Conf.mk
 (SFrm.mk 11 none none
 [Item.inLoop (cA 11 [1,1,1,1,0,1,0,0]),Item.inBlock 2,
 Item.code (cA 11 [1,1,1,1,1])]
 (mkJ 0
 [(4,.ptr 100000 0),(6,.lb true),(47,.dat l),(48,.int .i64 (↑(D.len l) : Int)),
 (49,.int .i64 (IntKind.wrap .i64 (j + 1)))]
 0 66))
 []
 [(1,OBlk.arr 23 ims),(3,OBlk.arr 72 se),(4,OBlk.arr 72 an),
 (100000,
 OBlk.cells 82
 [.int .i64 (Tgt.epoch (Rl.near r)),.int .i64 (Tgt.site (Rl.near r)),
 .int .i64 (Tgt.stored (Rl.near r)),.int .i64 (Tgt.applied (Rl.near r)),
 .int .i64 (Tgt.epoch (Rl.far r)),.int .i64 (Tgt.site (Rl.far r)),
 .int .i64 (Tgt.stored (Rl.far r)),.int .i64 (Tgt.applied (Rl.far r)),
 .int .i64 (Src.epoch (Rl.src r)),.int .i64 (Src.site (Rl.src r)),
 .dat (D.like o (Src.offered (Rl.src r))),.int .i64 (Src.stored (Rl.src r)),
 .int .i64 (Src.applied (Rl.src r)),.dat (D.like k (Rl.kept r)),
 .int .i64 (Tgt.epoch far),.int .i64 (Tgt.site far),.int .i64 (Tgt.stored far),
 .int .i64 (Tgt.applied far),.vec 1,.dat th,.mapp 100001,.vec 3,.vec 4]),
 (100001,
 OBlk.mapD .i64 true [FT.int .i64,FT.int .i64,FT.int .i64,FT.slc,FT.slc] mp)]) := by kernel_rfl
end
end Sv
end
noncomputable section
namespace Sx
open Go RowKit
def SV.free : SV → Bool
 | .int ..=>true
 | .bool _=>true
 | .lb _=>true
 | .str _=>true
 | .nils=>true
 | .dat _=>true
 | .elt ..=>true
 | .nilp=>true
 | .nilf=>true
 | .undef=>true
 | .junk _=>true
 | .raw _=>true
 | _=>false
theorem den_free {E E' : Env} (hj : E'.j = E.j) : ∀ x : SV,x.free = true → x.den E' = x.den E
 | .int ..,_=>by simp [SV.den]
 | .bool _,_=>by simp [SV.den]
 | .lb _,_=>by simp [SV.den]
 | .str _,_=>by simp [SV.den]
 | .nils,_=>by simp [SV.den]
 | .dat _,_=>by simp [SV.den]
 | .elt ..,_=>by simp [SV.den]
 | .nilp,_=>by simp [SV.den]
 | .nilf,_=>by simp [SV.den]
 | .undef,_=>by simp [SV.den]
 | .junk _,_=>by simp [SV.den,hj]
 | .raw _,_=>by simp [SV.den]
theorem denL_free {E E' : Env} (hj : E'.j = E.j) : ∀ l : List SV,l.all SV.free = true → SV.denL E' l = SV.denL E l
 | [],_=>rfl
 | x :: r,h=>by
  simp only [List.all_cons,Bool.and_eq_true] at h
  simp only [SV.denL,den_free hj x h.1,denL_free hj r h.2]
def RetN (w0 : World) (H : HV) (Φ : SV → Mem → Prop) : Value → World → Prop :=
 fun u w'=>∃ v m E1 H',Φ v m ∧ u = v.den E1 ∧ Good ⟨w0,H⟩ m E1 H' w' ∧ v.Ok H' ∧ v.jk 0 = false ∧ (∀ x,x ∈ m → x.2.jk 0 = false)
section
variable {P : Program} {R : Value → World → Prop}
theorem runs_new {w0 : World} {H0 : HV} {top g : SFrm} {rest : List SFrm} {mem : Mem} {Φ : SV → Mem → Prop}
  (hgp : (g.tmps.all SV.free && rest.all fun f=>f.tmps.all SV.free) = true)
  (h1 : ∀ (H : HV),SV.OkL H top.tmps → Runs P ⟨w0,H⟩ ⟨top,[],mem⟩ (RetN w0 H Φ))
  (h2 : ∀ v m,Φ v m → Runs P ⟨w0,H0⟩ ⟨{ g with tmps := putS g.tmps g.await v,await := none },rest,m⟩ R) :
  Runs P ⟨w0,H0⟩ ⟨top,g :: rest,mem⟩ R := by
 intro E H w gd ok
 simp only [Bool.and_eq_true,List.all_eq_true] at hgp
 have gd1 : Good ⟨w0,H⟩ mem E H w :=
  ⟨gd.below,HLe.refl _,fun _ _ _ h=>.inl h,gd.cell,fun k o h=>by have := gd.own k o h; cases o <;> exact this,gd.keys,gd.apart,fixOk_plain _ _ _⟩
 have hr := h1 H ok.1 E H w gd1 ⟨ok.1,by simp⟩
 rw [stkRun_eq] at hr ⊢
 simp only [List.map_nil,restOf] at hr
 simp only [List.map_cons,restOf]
 refine CFrm.run_mono hr fun u w' ⟨v,m,E1,H',hΦ,hu,g1,hv,hvj,hmj⟩=>?_
 let E2 : Env := ⟨E1.b,E1.v,E.j⟩
 have hs1 : Same 0 E1 E2 := ⟨rfl,rfl,fun i hi=>absurd hi (Nat.not_lt_zero _)⟩
 have g2 : Good ⟨w0,H⟩ m E2 H' w' := g1.same' hs1 hmj
 have hu' : u = v.den E2 := by rw [hu]; exact (den_same hs1 v hvj).symm
 have g3 : Good ⟨w0,H0⟩ m E2 H' w' :=
  ⟨g2.below,gd.ext.trans g2.ext,fun b o x h=>by
   rcases g2.fresh b o x h with h | h
   ·exact gd.fresh b o x h
   ·exact .inr h,g2.cell,fun k o h=>by have := g2.own k o h; cases o <;> exact this,g2.keys,g2.apart,fixOk_plain _ _ _⟩
 have hgt : SV.denL E2 g.tmps = SV.denL E g.tmps := denL_free (E := E) (E' := E2) rfl _ (List.all_eq_true.2 hgp.1)
 have hrt : rest.map (SFrm.den E2) = rest.map (SFrm.den E) := by
  apply List.map_congr_left
  intro f hf
  simp only [SFrm.den]
  rw [denL_free (E := E) (E' := E2) rfl _ (List.all_eq_true.2 (hgp.2 f hf))]
 have okg : SV.OkL H' g.tmps := SV.OkL.mono g2.ext _ (ok.2 g List.mem_cons_self)
 have fin := h2 v m hΦ E2 H' w' g3 ⟨okL_putS okg hv,fun f hf=>SV.OkL.mono g2.ext _ (ok.2 f (List.mem_cons_of_mem _ hf))⟩
 simp only [SFrm.den] at fin ⊢
 rw [← put_den,hgt,← hu'] at fin
 rw [hrt] at fin
 cases rest <;> exact fin
theorem ret_new {w0 : World} {H : HV} {Φ : SV → Mem → Prop} {fn : FuncId} {aw : Option Tmp} {k : List Item} {tmps : List SV} {mem : Mem} {fd : Func} {l : List SV} (v : SV) (m' : Mem) (mv : List (Nat × Nat)) (ks : List Nat) (h : Φ v m') (ht : ∀ E,(one? l).den E = v.den E)
  (hfn : P.funcs[fn]? = some fd := by kernel_rfl) (hres : resS P mem tmps fd.results.toList = some l := by kernel_rfl) (hvf : v.fixed = true := by kernel_rfl) (hvo : ∀ H,v.Ok H := by intro H; simp [SV.Ok,SV.OkL]) (hvj : v.jk 0 = false := by kernel_rfl)
  (hm : (moveM mem mv).map (pickK ks) = some m' := by kernel_rfl) (hn : ks.Nodup := by decide) (hjm : m'.all (fun x=>!x.2.jk 0) = true := by kernel_rfl) :
  (Tree.leaf ⟨⟨fn,none,aw,.code .ret :: k,tmps⟩,[],mem⟩).holds P ⟨w0,H⟩ (RetN w0 H Φ) := by
 intro E Hx w g ok
 obtain ⟨h1,h2⟩ := run_results (P := P) g.take ok.1 hres
 refine Go1.ret hfn rfl g.fix.nodup (fun D hD=>(g.fix.fx D _ (g.fix.mark D hD).2).1) h1 ?_
 obtain ⟨E',e1,e2,g'⟩ := MemTo.to mv ks hm hn _ E Hx _ g.take
 exact ⟨v,m',E',Hx,h,(ht E).trans (den_fixed e1 e2 v hvf).symm,g',hvo _,hvj,fun x hx=>by
  have := List.all_eq_true.1 hjm x hx
  simpa using this⟩
def lbSlot (i : Nat) (c : Conf) : Option Conf :=
 match c.top.tmps[i]? with
 | some (.bool true)=>some ⟨⟨c.top.fn,c.top.ri,c.top.await,c.top.todo,c.top.tmps.set i (.lb true)⟩,c.rest,c.mem⟩
 | _=>none
theorem lbSlot_to {C : Ctx} (i : Nat) {c : Conf} (c' : Conf) (hc : lbSlot i c = some c') (h : Runs P C c' R) : Runs P C c R := by
 intro E H w g ok
 unfold lbSlot at hc
 split at hc
 ·rename_i hn
  cases hc
  have hd : SV.denL E (c.top.tmps.set i (.lb true)) = SV.denL E c.top.tmps := by
   rw [denL_set,SV.denL_eq]
   apply List.ext_getElem?
   intro j
   by_cases hj : j = i
   ·subst hj
    rw [List.getElem?_set_self (by have := (List.getElem?_eq_some_iff.1 hn).1; simpa using this)]
    simp [List.getElem?_map,hn,SV.den]
   ·rw [List.getElem?_set_ne (Ne.symm hj)]
  have := h E H w g ⟨okL_putS (dst := some i) ok.1 (by simp [SV.Ok]),ok.2⟩
  simp only [SFrm.den,hd] at this ⊢
  exact this
 ·cases hc
end
end Sx
end
noncomputable section
namespace Sx
open Go RowKit


section
variable {P : Program} {C : Ctx} {R : Value → World → Prop} {cs : Ctrs}
end
section
variable {P : Program} {w0 : World} {H0 : HV} {R : Value → World → Prop}








end
end Sx
end
noncomputable section
namespace Sx
open Go RowKit
def pinO (a b k : Nat) : Nat :=
 match Nat.beq k a with
 | true=>b
 | false=>k
def pinOC (a b : Nat) (c : Conf) : Option Conf :=
 match Nat.blt a PIN && Nat.ble PIN b && !(c.allKeys.contains b) with
 | true=>some (renWith (pinO a b) c)
 | false=>none
theorem pinO_to {P : Program} {C : Ctx} {R : Value → World → Prop} (a b : Nat) {c : Conf} (c' : Conf) (hc : pinOC a b c = some c') (h : Runs P C c' R) (hpn : C.x.pn = none := by rfl) : Runs P C c R := by
 unfold pinOC at hc
 split at hc
 ·rename_i hchk
  cases hc
  simp only [Bool.and_eq_true,Bool.not_eq_true'] at hchk
  obtain ⟨⟨hA,hB⟩,hcont⟩ := hchk
  have hnb : ∀ k,k ∈ c.allKeys → k ≠ b := fun k hk e=>by
   subst e
   rw [List.contains_iff.2 hk] at hcont; cases hcont
  intro E H w g ok
  have all : ∀ k,k ∈ SV.keysL c.top.tmps ∨ (∃ f,f ∈ c.rest ∧ k ∈ SV.keysL f.tmps) ∨ k ∈ Mem.named c.mem → k ∈ c.allKeys := fun k hk=>by
   rcases hk with hk | ⟨f,hf,hk⟩ | hk
   ·exact meet_mem (.inl (walkK_mem (meet_mem (.inr (List.mem_append_left _ hk)))))
   ·exact meet_mem (.inl (walkK_mem (meet_mem (.inr (List.mem_append_right _ (List.mem_flatMap.2 ⟨f,hf,hk⟩))))))
   ·exact meet_mem (.inr hk)
  let E' : Env := ⟨fun i=>if i = b then E.b a else E.b i,fun i=>if i = b then E.v a else E.v i,E.j⟩
  have cas : ∀ k,k ∈ c.allKeys → (k = a ∧ pinO a b k = b) ∨ (k ≠ a ∧ k ≠ b ∧ pinO a b k = k) := fun k hk=>by
   by_cases hka : k = a
   ·left; refine ⟨hka,?_⟩; subst hka; simp only [pinO,Nat.beq_refl]
   ·right
    refine ⟨hka,hnb k hk,?_⟩
    have : Nat.beq k a = false := by
     cases hb : Nat.beq k a with
     | false=>rfl
     | true=>exact absurd (Nat.eq_of_beq_eq_true hb) hka
    simp only [pinO,this]
  have ren : ∀ k,k ∈ c.allKeys → Ren (pinO a b) E E' k := fun k hk=>by
   rcases cas k hk with ⟨h1,h2⟩ | ⟨h1,h2,h3⟩
   ·exact ⟨by show (if pinO a b k = b then E.b a else E.b (pinO a b k)) = E.b k; rw [if_pos h2,h1],by show (if pinO a b k = b then E.v a else E.v (pinO a b k)) = E.v k; rw [if_pos h2,h1]⟩
   ·simp only [Ren,E',h3,if_neg h2,and_self]
  have inj : ∀ k j,k ∈ c.allKeys → j ∈ c.allKeys → pinO a b k = pinO a b j → k = j := fun k j hk hj e=>by
   rcases cas k hk with ⟨h1,h2⟩ | ⟨h1,h2,h3⟩ <;> rcases cas j hj with ⟨g1,g2⟩ | ⟨g1,g2,g3⟩
   ·rw [h1,g1]
   ·rw [h2,g3] at e; exact absurd e.symm g2
   ·rw [h3,g2] at e; exact absurd e h2
   ·rw [h3,g3] at e; exact e
  have named : ∀ k o,(k,o) ∈ c.mem → k ∈ c.allKeys ∧ ∀ j,j ∈ o.keys → j ∈ c.allKeys := fun k o hm=>by
   refine ⟨all k (.inr (.inr ?_)),fun j hj=>all j (.inr (.inr ?_))⟩
   ·simp only [Mem.named,List.mem_flatMap]; exact ⟨_,hm,List.mem_cons_self⟩
   ·simp only [Mem.named,List.mem_flatMap]; exact ⟨_,hm,List.mem_cons_of_mem _ hj⟩
  have gd : Good C (c.mem.map fun e=>(pinO a b e.1,e.2.ren (pinO a b))) E' H w := by
   refine ⟨g.below,g.ext,g.fresh,g.cell,fun k o hko=>?_,?_,fun x y hx hy hne hlx hly=>?_,⟨g.fix.fx,g.fix.mark,g.fix.nodup,fun f hf=>by rw [hpn] at hf; cases hf⟩⟩
   ·obtain ⟨e,he,h1⟩ := List.mem_map.1 hko
    simp only [Prod.mk.injEq] at h1
    obtain ⟨rfl,rfl⟩ := h1
    obtain ⟨n1,n2⟩ := named e.1 e.2 he
    exact (g.own e.1 e.2 he).ren (E' := E') (show E'.j = E.j from rfl) (ren _ n1) (fun j hj=>ren j (n2 j hj)) (fun es _ hk=>keysOk_ren hk)
   ·rw [List.pairwise_map]
    refine g.keys.imp_of_mem ?_
    intro x y hx hy hne e
    exact hne (inj _ _ (named x.1 x.2 hx).1 (named y.1 y.2 hy).1 e)
   ·obtain ⟨x',hx',h1⟩ := List.mem_map.1 hx
    obtain ⟨y',hy',h2⟩ := List.mem_map.1 hy
    subst h1; subst h2
    simp only at hne hlx hly ⊢
    rw [(ren x'.1 (named x'.1 x'.2 hx').1).1,(ren y'.1 (named y'.1 y'.2 hy').1).1]
    exact g.apart x' y' hx' hy' (fun e=>hne (by rw [e])) ((OBlk.lies_ren _ _).1 hlx) ((OBlk.lies_ren _ _).1 hly)
  have hr := h E' H w gd ⟨SV.okL_ren _ ok.1,fun f hf=>by
   obtain ⟨f',hf',rfl⟩ := List.mem_map.1 hf
   exact SV.okL_ren _ (ok.2 f' hf')⟩
  have e1 : (renWith (pinO a b) c).top.den E' = c.top.den E := by
   simp only [renWith,SFrm.den]
   rw [SV.denL_ren (E := E) (E' := E') rfl _ fun k hk=>ren k (all k (.inl hk))]
  have e2 : (renWith (pinO a b) c).rest.map (SFrm.den E') = c.rest.map (SFrm.den E) := by
   simp only [renWith,List.map_map]
   apply List.map_congr_left
   intro f hf
   simp only [Function.comp,SFrm.den]
   rw [SV.denL_ren (E := E) (E' := E') rfl _ fun k hk=>ren k (all k (.inr (.inl ⟨f,hf,hk⟩)))]
  rw [e1,e2] at hr
  exact hr
 ·cases hc
end Sx
end
noncomputable section
open Go Go.Proofs Sx
namespace Sx
def beginO (e : TypeId) (ts : List FT) (c : Conf) : Option Conf :=
 ((((mapIn 2 .i64 true ts c).bind (pinOC 2 100001)).bind (pinOC 0 100000)).bind (vecIn 3 e 8 (some 100000) 21)).bind (vecIn 4 e 8 (some 100000) 22)
theorem beginO_to {P : Program} {C : Ctx} {R : Value → World → Prop} (e : TypeId) (ts : List FT) {c : Conf} (c' : Conf) (hc : beginO e ts c = some c') (h : Runs P C c' R) (hpn : C.x.pn = none := by rfl) : Runs P C c R := by
 unfold beginO at hc
 simp only [Option.bind_eq_some_iff] at hc
 obtain ⟨c4,⟨c3,⟨c2,⟨c1,h1,h2⟩,h3⟩,h4⟩,h5⟩ := hc
 exact mapIn_to 2 .i64 true ts c1 h1 (pinO_to 2 100001 c2 h2 (pinO_to 0 100000 c3 h3 (vecIn_sound h4 (vecIn_sound h5 h)) hpn) hpn)
end Sx
namespace Sv
def HopsTo (v : SV) (m : Mem) : Prop := (v = .tup [.nilp,.lb false,.lb true] ∧ m = []) ∨ (v = .tup [.ptr 100000 0,.lb true,.lb true] ∧ ∃ s sz t,RunC s sz t ∧ CasMem s m)
theorem cmeth_law {s : Cas} {f : FuncId} {n : Nat} {args : List (Nat × SV)} {Φ : Cas → Prop} (hm : CMeth f n args s Φ) {g : SFrm} {w0 : World} {H : HV} {R : Value → World → Prop} {mem : Mem} (m' : Mem)
  (hs : CasMem s m') (k : ∀ s' m'',Φ s' → CasMem s' m'' → Runs Try.prog ⟨w0,H⟩ (backC g m'') R)
  (hto : (moveM mem (mvOf 100000 [18,21,22] mem)).map (pickK [100000,100001,0,1,2]) = some m' := by kernel_rfl) (hfx : (SV.fixedL (mkJ 1 args 0 n) && [g].all fun f=>SV.fixedL f.tmps) = true := by kernel_rfl) (hgp : (g.tmps.all SV.pinned && ([] : List SFrm).all fun f=>f.tmps.all SV.pinned) = true := by kernel_rfl) :
  Runs Try.prog ⟨w0,H⟩ ⟨SFrm.mk f none none [Item.code (cA f [])] (mkJ 1 args 0 n),[g],mem⟩ R :=
 runs_to (MemTo.to _ _ hto (by decide)) hfx (runs_meth hgp (fun H f _=>hm w0 H f m' hs) (fun v m ⟨hv,s',hΦ,hm⟩=>by subst hv; exact k s' m hΦ hm))
theorem runs_cas {C : Ctx} {R : Value → World → Prop} {top : SFrm} {rest : List SFrm} {mem m' : Mem} (h : Runs Try.prog C ⟨top,rest,m'⟩ R) (hto : (moveM mem (mvOf 100000 [18,21,22] mem)).map (pickK [100000,100001,0,1,2]) = some m' := by kernel_rfl) (hp : (SV.fixedL top.tmps && rest.all fun f=>SV.fixedL f.tmps) = true := by kernel_rfl) : Runs Try.prog C ⟨top,rest,mem⟩ R :=
 runs_to (MemTo.to _ _ hto (by decide)) hp h
theorem retH {w : World} {H : HV} {fn : FuncId} {aw : Option Tmp} {k : List Item} {tmps : List SV} {mem : Mem} {fd : Func} {s : Cas} {sz : List Int} {t : Nat} (m' : Mem) (hr : RunC s sz t) (hs : CasMem s m')
  (hfn : Try.prog.funcs[fn]? = some fd := by kernel_rfl) (hres : resS Try.prog mem tmps fd.results.toList = some [.ptr 100000 0,.lb true,.lb true] := by kernel_rfl) (hm : (moveM mem (mvOf 100000 [18,21,22] mem)).map (pickK [100000,100001,0,1,2]) = some m' := by kernel_rfl) (hjm : m'.all (fun x=>!x.2.jk 0) = true := by kernel_rfl) :
  (Tree.leaf ⟨⟨fn,none,aw,.code .ret :: k,tmps⟩,[],mem⟩).holds Try.prog ⟨w,H⟩ (RetN w H HopsTo) :=
 ret_new (l := [.ptr 100000 0,.lb true,.lb true]) (.tup [.ptr 100000 0,.lb true,.lb true]) m' (mvOf 100000 [18,21,22] mem) [100000,100001,0,1,2] (.inr ⟨rfl,s,sz,t,hr,hs⟩) (fun _=>rfl) hfn hres (by kernel_rfl) (by intro H; simp [SV.Ok,SV.OkL]) (by kernel_rfl) hm (by decide) hjm
theorem wrapk {j : Nat} (h : j < 1048576) : IntKind.i64.wrap ((j : Int) + 1) = ((j + 1 : Nat) : Int) := by rw [wrap64J (by omega) (by omega)]; rfl
theorem rh_loop {l : D} (hl : l.Is Hop) (hlen : l.len ≤ 60) (hfew : ∀ x,x ∈ l.to Hop → fewW x.wr = true) (w : World) (H : HV) : ∀ (q j : Nat) {s : Cas} {sz : List Int} {mm : Mem},j + q = l.len → RunC s sz j → CasMem s mm → Runs Try.prog ⟨w,H⟩ (rhL l j mm) (RetN w H HopsTo)
 | 0,j,s,sz,mm,hj,hr,hm=>by
  have hm0 := hm
  obtain ⟨o,k,ims,th,mp,se,an,hcw,he⟩ := hm
  subst he
  refine unroll_sound rfl ?_
  apply execRE_sound ctHpOk _ 400
  rw [rhl_go]
  exact ⟨fun h=>absurd (of_decide_eq_true h) (by omega),fun _=>retH (fd := Try.f11) (casM o k ims th mp se an s.r s.far) hr hm0⟩
 | q + 1,j,s,sz,mm,hj,hr,hm=>by
  have hlt : j < (l.to Hop).length := by rw [← D.Is.length (α := Hop)]; omega
  obtain ⟨c1,c2,c3⟩ := hop_cell hl hlt
  have hsz : l.sz = 3 := hl.size hlt
  have hf := fewW_okC (hfew _ (List.getElem_mem hlt))
  rw [c3] at hf
  simp only at hf
  have hwl : (l.cell j 2).Is Wt ∧ (l.cell j 2).len ≤ 1000000 ∧ ∀ w,w ∈ (l.cell j 2).to Wt → w.data.length ≤ 1000000 := ⟨c2,by rw [D.Is.length (α := Wt)]; omega,fun w hw=>by have := hf.2 w hw; omega⟩
  have hsm := hr.small
  have hr0 := hr
  obtain ⟨A,S,Sf,Af,N,K,h1,h2,h3,h4,h5,h6⟩ := hr
  have hm0 := hm
  obtain ⟨o,k,ims,th,mp,se,an,hcw,he⟩ := hm
  subst he
  refine unroll_sound rfl ?_
  apply execRE_sound ctHpOk _ 400
  rw [rhl_go]
  refine ⟨fun _=>⟨⟨by omega,by omega,hsz⟩,c1,?_⟩,fun h=>absurd (of_decide_eq_false h) (by omega)⟩
  refine cmeth_law (cst_meth h1 hsm (by omega) (by omega) _ _ hwl) (g := rhF l j) (casM o k ims th mp se an s.r s.far) hm0 fun s' m'' hst hm''=>?_
  have hr' := RunC.step h2 h3 h4 h5 (by omega) hst
  clear hst hm0 hcw h1 h2 h3 h4 h5 h6 hr0 hsm
  have hsm := hr'.small
  have hm0 := hm''
  obtain ⟨A,S,Sf,Af,N,K,h1,h2,h3,h4,h5,h6⟩ := hr'
  obtain ⟨o,k,ims,th,mp,se,an,hcw,he⟩ := hm''
  subst he
  apply execRE_sound ctHpOk _ 400
  rw [rhl_k1]
  refine cmeth_law (cri_meth h1 hsm) (g := rhG l j) (casM o k ims th mp se an s'.r s'.far) hm0 fun s2 m3 hst hm3=>?_
  subst hst
  have hr' : RunC s2 sz (j + 1) := ⟨A,S,Sf,Af,N,K,h1,h2,h3,h4,h5,h6⟩
  have hm0 := hm3
  obtain ⟨o,k,ims,th,mp,se,an,hcw,he⟩ := hm3
  subst he
  apply execRE_sound ctHpOk _ 400
  rw [rhl_k2,wrapk (by omega)]
  exact runs_cas (rh_loop hl hlen hfew w H q (j + 1) (by omega) hr' hm0)
theorem rq_loop {im l : D} (hi : im.Is Vol) (hz : sizesErr (volSizes (im.to Vol)) = 0) (hl : l.Is Hop) (hlen : l.len ≤ 60) (w : World) (H : HV) : ∀ (q j : Nat),j + q = l.len → (∀ x,x ∈ (l.to Hop).take j → fewW x.wr = true) → Runs Try.prog ⟨w,H⟩ (rhQ im l j) (RetN w H HopsTo)
 | 0,j,hj,hpre=>by
  refine unroll_sound rfl ?_
  apply execRS_sound ctHpOk [] 400
  rw [rhq_go]
  refine ⟨fun h=>absurd (of_decide_eq_true h) (by omega),fun _ hs0 hs1 hs2=>⟨fun _=>?_,fun h=>absurd h (by decide)⟩⟩
  have hlen2 := D.Is.length (α := Hop) l
  rw [List.take_of_length_le (by omega)] at hpre
  obtain ⟨i1,i2⟩ := is_of (h := D.hd (hs2 0 0)) (s := 1) rfl (img_one hi)
  have hm : CasMem (begC (im.to Vol)) (casM (hs0 0 0) (hs0 0 1) (.slc (D.hd (hs2 0 0)) 1 [[im]]) im (.slc none 0 []) (.slc none 8 []) (.slc none 8 []) (begC (im.to Vol)).r (begC (im.to Vol)).far) :=
   ⟨_,_,_,_,_,_,_,⟨⟨i1,rfl,i2⟩,⟨hi,rfl⟩,⟨rfl,fun i c hc=>absurd hc (by simp [begC])⟩,⟨is_nil _ _,rfl,rfl⟩,⟨is_nil _ _,rfl,rfl⟩⟩,rfl⟩
  refine lbSlot_to 6 _ rfl ?_
  refine beginO_to 72 [.int .i64,.int .i64,.int .i64,.slc,.slc] (rhL l 0 [(4,.arr 72 (.slc none 8 [])),(3,.arr 72 (.slc none 8 [])),(100000,.cells 82 (rlL (hs0 0 0) (hs0 0 1) (begC (im.to Vol)).r ++ [.int .i64 1,.int .i64 1,.int .i64 0,.int .i64 0,.vec 1,.dat im,.mapp 100001,.vec 3,.vec 4])),(1,.arr 23 (.slc (D.hd (hs2 0 0)) 1 [[im]])),(100001,.mapD .i64 true [.int .i64,.int .i64,.int .i64,.slc,.slc] (.slc none 0 []))]) (by kernel_rfl) ?_
  exact runs_cas (rh_loop hl hlen hpre w H l.len 0 (by omega) (run_beg hz) hm)
 | q + 1,j,hj,hpre=>by
  have hlt : j < (l.to Hop).length := by rw [← D.Is.length (α := Hop)]; omega
  obtain ⟨c1,c2,c3⟩ := hop_cell hl hlt
  have hsz : l.sz = 3 := hl.size hlt
  refine unroll_sound rfl ?_
  apply execRS_sound ctHpOk [] 400
  rw [rhq_go]
  refine ⟨fun _=>⟨⟨by omega,by omega,hsz⟩,c1,c2,fun _=>?_,fun hf=>?_⟩,fun h=>absurd (of_decide_eq_false h) (by omega)⟩
  ·exact ret_new (fd := Try.f11) (l := [.nilp,.lb false,.lb true]) (.tup [.nilp,.lb false,.lb true]) [] [] [] (.inl ⟨rfl,rfl⟩) (fun _=>rfl)
  ·have hf : fewW ((l.cell j 2).to Wt) = true := by simpa using hf
   rw [wrapk (by omega)]
   refine rq_loop hi hz hl hlen w H q (j + 1) (by omega) fun x hx=>?_
   have htk : (l.to Hop).take (j + 1) = (l.to Hop).take j ++ [(l.to Hop)[j]] := by rw [List.take_append_getElem]
   rw [htk] at hx
   rcases List.mem_append.1 hx with hx | hx
   ·exact hpre x hx
   ·rw [List.mem_singleton.1 hx,c3]; exact hf
theorem rh_runs {im l : D} (hi : im.Is Vol ∧ im.len * 24 ≤ 140737488355328) (hl : l.Is Hop) (w : World) (H : HV) : Runs Try.prog ⟨w,H⟩ (sysE 11 66 [(0,.dat im),(1,.dat l)] []) (RetN w H HopsTo) := by
 apply execRS_sound ctHpOk [] 400
 rw [rhp_in]
 have early : ∀ {aw : Option Tmp} {k : List Item} {tmps : List SV},resS Try.prog [] tmps Try.f11.results.toList = some [.nilp,.lb false,.lb true] → (Tree.leaf ⟨⟨11,none,aw,.code .ret :: k,tmps⟩,[],[]⟩).holds Try.prog ⟨w,H⟩ (RetN w H HopsTo) := fun hres =>
  ret_new (fd := Try.f11) (l := [.nilp,.lb false,.lb true]) (.tup [.nilp,.lb false,.lb true]) [] [] [] (.inl ⟨rfl,rfl⟩) (fun _=>rfl) (by kernel_rfl) hres
 refine ⟨hi,fun hs=>⟨D.like_is _ _,fun hs1=>⟨fun _=>early (by kernel_rfl),fun hz=>⟨hi.1,fun _=>early (by kernel_rfl),fun _=>⟨fun _=>early (by kernel_rfl),fun h60=>?_⟩⟩⟩⟩⟩
 have hz : sizesErr (volSizes (im.to Vol)) = 0 := by rw [D.like_to] at hz; simpa using hz
 exact rq_loop hi.1 hz hl (by have := of_decide_eq_false h60; omega) w H l.len 0 (by omega) (fun x hx=>absurd hx (by simp))
end Sv
end
noncomputable section
open Go Go.Proofs Sx
namespace Sv
def tccF : SFrm := SFrm.mk 10 (some (oA 10 [1,0],[3,4,5,6,7,8,9])) (some 17) [Item.code (cA 10 [1,1])] (mkJ 0 [] 0 115)
def ctCc : Ctrs := (19,ctrOf (rdRl.one.sp spLagRl)) :: (ctSt ++ ctFS)
section
variable (l o k ims th mp se an : D) (r : Rl) (far : Tgt) (j : Int)
theorem tcc_k0 : execRE Try.prog ctCc [] 400 (backV (.tup [.nilp,.lb false,.lb true]) tccF []) =
 Tree.leaf
 (Conf.mk
 (SFrm.mk 10 none none [Item.code (cA 10 [1,1,0,1,0,1]),Item.code (cA 10 [1,1,1])]
 (mkJ 0 [(4,.lb true)] 0 115))
 [] []) := by kernel_rfl
theorem tcc_k1 : execRE Try.prog ctCc [] 400 (backV (.tup [.ptr 100000 0,.lb true,.lb true]) tccF (casM o k ims th mp se an r far)) =
 Tree.leaf
 (Conf.mk
 (SFrm.mk 10 none none
 [Item.inLoop (cA 10 [1,1,1,0,1,0,0]),Item.inBlock 0,Item.code (cA 10 [1,1,1,1])]
 (mkJ 0
 [(5,.ptr 100000 0),(33,.int .i64 (IntKind.wrap .i64 (3 * (↑(D.len ims) : Int)))),
 (34,.int .i64 0)]
 0 115))
 []
 [(1,OBlk.arr 23 ims),(3,OBlk.arr 72 se),(4,OBlk.arr 72 an),
 (100000,
 OBlk.cells 82
 [.int .i64 (Tgt.epoch (Rl.near r)),.int .i64 (Tgt.site (Rl.near r)),
 .int .i64 (Tgt.stored (Rl.near r)),.int .i64 (Tgt.applied (Rl.near r)),
 .int .i64 (Tgt.epoch (Rl.far r)),.int .i64 (Tgt.site (Rl.far r)),
 .int .i64 (Tgt.stored (Rl.far r)),.int .i64 (Tgt.applied (Rl.far r)),
 .int .i64 (Src.epoch (Rl.src r)),.int .i64 (Src.site (Rl.src r)),
 .dat (D.like o (Src.offered (Rl.src r))),.int .i64 (Src.stored (Rl.src r)),
 .int .i64 (Src.applied (Rl.src r)),.dat (D.like k (Rl.kept r)),
 .int .i64 (Tgt.epoch far),.int .i64 (Tgt.site far),.int .i64 (Tgt.stored far),
 .int .i64 (Tgt.applied far),.vec 1,.dat th,.mapp 100001,.vec 3,.vec 4]),
 (100001,
 OBlk.mapD .i64 true [FT.int .i64,FT.int .i64,FT.int .i64,FT.slc,FT.slc] mp)]) := by kernel_rfl
end
def caL (n i : Int) (mm : Mem) : Conf := Conf.mk (SFrm.mk 10 none none [Item.inLoop (cA 10 [1,1,1,0,1,0,0]),Item.inBlock 0,Item.code (cA 10 [1,1,1,1])] (mkJ 0 [(5,.ptr 100000 0),(33,.int .i64 n),(34,.int .i64 i)] 0 115)) [] mm
section
variable (l o k ims th mp se an : D) (r : Rl) (far : Tgt) (n i : Int)
theorem cal_go : 
 let z2 : Prop := (decide (Tgt.applied far = IntKind.wrap .i64 ((↑(D.len ims) : Int) - 1)) = true)
 let z4 : Prop := (decide (Tgt.applied far = IntKind.wrap .i64 ((↑(D.len ims) : Int) - 1)) = false)
 let z5 := (D.len (D.like k (Rl.kept r)))
 let z8 : Prop := (decide ((↑z5 : Int) = 0) = false)
 let z9 : Prop := (decide ((↑z5 : Int) = 0) = true)
 let z10 := (D.like o (Src.offered (Rl.src r)))
 let z1 : List SV := [.int .i64 (Tgt.epoch (Rl.near r)),.int .i64 (Tgt.site (Rl.near r)),.int .i64 (Tgt.stored (Rl.near r)),.int .i64 (Tgt.applied (Rl.near r)),.int .i64 (Tgt.epoch (Rl.far r)),.int .i64 (Tgt.site (Rl.far r)),.int .i64 (Tgt.stored (Rl.far r)),.int .i64 (Tgt.applied (Rl.far r)),.int .i64 (Src.epoch (Rl.src r)),.int .i64 (Src.site (Rl.src r)),.dat z10,.int .i64 (Src.stored (Rl.src r)),.int .i64 (Src.applied (Rl.src r)),.dat (D.like k (Rl.kept r)),.int .i64 (Tgt.epoch far),.int .i64 (Tgt.site far),.int .i64 (Tgt.stored far),.int .i64 (Tgt.applied far),.vec 1,.dat th,.mapp 100001,.vec 3,.vec 4]
 let z3 := (SrcD.mk (Src.epoch (Rl.src r)) (Src.site (Rl.src r)) z10 (Src.stored (Rl.src r)) (Src.applied (Rl.src r)))
 let z6 : Tree := (.leaf (Conf.mk (SFrm.mk 10 none none [Item.code (cA 10 [1,1,0,1,0,1])] (mkJ 0 [(4,.lb false)] 0 115)) [] [(1,OBlk.arr 23 ims),(3,OBlk.arr 72 se),(4,OBlk.arr 72 an),(100000,OBlk.cells 82 z1),(100001,OBlk.mapD .i64 true [FT.int .i64,FT.int .i64,FT.int .i64,FT.slc,FT.slc] mp)]))
 let z7 := (RlD.mk (Tgt.mk (Tgt.epoch (Rl.near r)) (Tgt.site (Rl.near r)) (Tgt.stored (Rl.near r)) (Tgt.applied (Rl.near r))) (Tgt.mk (Tgt.epoch (Rl.far r)) (Tgt.site (Rl.far r)) (Tgt.stored (Rl.far r)) (Tgt.applied (Rl.far r))) z3 (D.like k (Rl.kept r)))
 execRE Try.prog ctCc [33,36] 400 (unroll (caL n i (casM o k ims th mp se an r far))) =
 Tree.br (decide (i < n)) (.all fun hs=>.all fun hs=>.need (D.Is Int z10) (.need (D.sz se = 8 ∧ D.Fits (D.like (hs 10 0) (resend (SrcD.src z3))) 8 ∧ (D.len se + D.len (D.like (hs 10 0) (resend (SrcD.src z3)))) * 96 ≤ 140737488355328 ∧ D.len se + D.len
 (D.like (hs 10 0) (resend (SrcD.src z3))) ≤ 9223372036854775807) (.leaf (Conf.mk (SFrm.mk 33 none none [Item.code (cA 33 [])] (mkJ 1 [(0,.ptr 100000 0)] 0 71)) [SFrm.mk 10 (some (oA 10 [1,1,1,0,1,0,0,1,1,0,0,1,1,0,0],[2]))
 (some 49) [Item.code (cA 10 [1,1,1,0,1,0,0,1,1,0,0,1,1,0,1]),Item.code (cA 10 [1,1,1,0,1,0,0,1,1,0,0,1,1,1]),Item.inBlock 1,Item.code (cA 10 [1,1,1,0,1,0,0,1,1,1]),Item.inLoop
 (cA 10 [1,1,1,0,1,0,0]),Item.inBlock 0,Item.code (cA 10 [1,1,1,1])] (mkJ 0 [(5,.ptr 100000 0),(8,.int .i64 (↑(D.len se) : Int)),(9,.int .i64 (↑(D.len an) : Int)),(33,.int .i64 n),(34,.int .i64 i)] 0 115)] [(1,OBlk.arr 23 ims),
 (3,OBlk.arr 72 (D.slc (D.hd (hs 11 0)) 8 (List.append (D.rows se) (D.rows (D.like (hs 10 0) (resend (SrcD.src z3))))))),(4,OBlk.arr 72 an),(100000,OBlk.cells 82 z1),(100001,OBlk.mapD .i64 true [FT.int .i64,FT.int .i64,FT.int .i64,FT.slc,FT.slc] mp)]))))
 (.all fun hs=>.br (decide (Tgt.applied far = IntKind.wrap .i64 ((↑(D.len ims) : Int) - 1))) (.br (decide ((↑z5 : Int) = 0)) (.need z2 (.need z2 (.need z2 (.need z2 (.need z2 (.need z2 (.need z2 (.need z2
 (.need z9 (.need z9 (.need z9 (.need z9 (.need z9 (.need (RlD.Ok z7) (.need z9 (.need z9 (.leaf (Conf.mk (SFrm.mk 10 none none [Item.code (cA 10 [1,1,0,1,0,1])] (mkJ 0 [(4,.bool (decide (lagRl (RlD.rl z7) = 0)))] 0 115)) [] [(1,OBlk.arr 23 ims),
 (3,OBlk.arr 72 se),(4,OBlk.arr 72 an),(100000,OBlk.cells 82 z1),(100001,OBlk.mapD .i64 true [FT.int .i64,FT.int .i64,FT.int .i64,FT.slc,FT.slc] mp)])))))))))))))))))) (.need z2 (.need z2 (.need z2
 (.need z2 (.need z2 (.need z2 (.need z2 (.need z2 (.need z8 (.need z8 (.need z8 (.need z8 (.need z8 (.need z8 (.need z8 z6)))))))))))))))) (.need z4 (.need z4 (.need z4 (.need z4 (.need z4 (.need z4 (.need z4
 (.need z4 z6))))))))) := by
 intros; kernel_rfl
end
def caF (n i a b : Int) : SFrm := SFrm.mk 10 (some (oA 10 [1,1,1,0,1,0,0,1,1,0,0,1,1,0,0],[2])) (some 49) [Item.code (cA 10 [1,1,1,0,1,0,0,1,1,0,0,1,1,0,1]),Item.code (cA 10 [1,1,1,0,1,0,0,1,1,0,0,1,1,1]),Item.inBlock 1,Item.code (cA 10 [1,1,1,0,1,0,0,1,1,1]),Item.inLoop (cA 10 [1,1,1,0,1,0,0]),Item.inBlock 0,Item.code (cA 10 [1,1,1,1])] (mkJ 0 [(5,.ptr 100000 0),(8,.int .i64 a),(9,.int .i64 b),(33,.int .i64 n),(34,.int .i64 i)] 0 115)
section
variable (l o k ims th mp se an : D) (r : Rl) (far : Tgt) (n i a b : Int)
theorem cal_k1 : execRE Try.prog ctCc [36] 400 (backC (caF n i a b) (casM o k ims th mp se an r far)) =
 Tree.need (0 ≤ a ∧ a ≤ (↑(D.len se) : Int) ∧ D.Fits se 8)
 (.need (Int.toNat a + (D.len se - Int.toNat a) ≤ D.len se)
 (.leaf
 (Conf.mk
 (SFrm.mk 10 none none
 [Item.inLoop (cA 10 [1,1,1,0,1,0,0,1,1,0,0,1,1,1,0,1,0,0]),Item.inBlock 2,
 Item.code (cA 10 [1,1,1,0,1,0,0,1,1,0,0,1,1,1,1]),Item.inBlock 1,
 Item.code (cA 10 [1,1,1,0,1,0,0,1,1,1]),
 Item.inLoop (cA 10 [1,1,1,0,1,0,0]),Item.inBlock 0,
 Item.code (cA 10 [1,1,1,1])]
 (mkJ 0
 [(5,.ptr 100000 0),(9,.int .i64 b),(33,.int .i64 n),(34,.int .i64 i),
 (56,.view 1 8 (Int.toNat a) (D.len se - Int.toNat a)),
 (57,.int .i64 (↑(D.len se - Int.toNat a) : Int)),(58,.int .i64 0)]
 0 115))
 []
 [(1,OBlk.arr 72 se),(2,OBlk.arr 23 ims),(4,OBlk.arr 72 an),
 (100000,
 OBlk.cells 82
 [.int .i64 (Tgt.epoch (Rl.near r)),.int .i64 (Tgt.site (Rl.near r)),
 .int .i64 (Tgt.stored (Rl.near r)),.int .i64 (Tgt.applied (Rl.near r)),
 .int .i64 (Tgt.epoch (Rl.far r)),.int .i64 (Tgt.site (Rl.far r)),
 .int .i64 (Tgt.stored (Rl.far r)),.int .i64 (Tgt.applied (Rl.far r)),
 .int .i64 (Src.epoch (Rl.src r)),.int .i64 (Src.site (Rl.src r)),
 .dat (D.like o (Src.offered (Rl.src r))),.int .i64 (Src.stored (Rl.src r)),
 .int .i64 (Src.applied (Rl.src r)),.dat (D.like k (Rl.kept r)),
 .int .i64 (Tgt.epoch far),.int .i64 (Tgt.site far),
 .int .i64 (Tgt.stored far),.int .i64 (Tgt.applied far),.vec 2,.dat th,
 .mapp 100001,.vec 1,.vec 4]),
 (100001,
 OBlk.mapD .i64 true [FT.int .i64,FT.int .i64,FT.int .i64,FT.slc,FT.slc]
 mp)]))) := by kernel_rfl
end
def casV (ks ki ka : Nat) (o k ims th mp se an : D) (r : Rl) (far : Tgt) : Mem :=
 [(ks,.arr 72 se),(ki,.arr 23 ims),(ka,.arr 72 an),(100000,.cells 82 (rlL o k r ++ [.int .i64 far.epoch,.int .i64 far.site,.int .i64 far.stored,.int .i64 far.applied,.vec ki,.dat th,.mapp 100001,.vec ks,.vec ka])),
 (100001,.mapD .i64 true [.int .i64,.int .i64,.int .i64,.slc,.slc] mp)]
def cbT (n i b : Int) (lo c : Nat) (j : Int) : List SV := mkJ 0 [(5,.ptr 100000 0),(9,.int .i64 b),(33,.int .i64 n),(34,.int .i64 i),(56,.view 1 8 lo c),(57,.int .i64 (c : Int)),(58,.int .i64 j)] 0 115
def cbL (n i b : Int) (lo c : Nat) (j : Int) (mm : Mem) : Conf := Conf.mk (SFrm.mk 10 none none [Item.inLoop (cA 10 [1,1,1,0,1,0,0,1,1,0,0,1,1,1,0,1,0,0]),Item.inBlock 2,Item.code (cA 10 [1,1,1,0,1,0,0,1,1,0,0,1,1,1,1]),Item.inBlock 1,Item.code (cA 10 [1,1,1,0,1,0,0,1,1,1]),Item.inLoop (cA 10 [1,1,1,0,1,0,0]),Item.inBlock 0,Item.code (cA 10 [1,1,1,1])]
 (cbT n i b lo c j) ) [] mm
section
variable (l o k ims th mp se an : D) (r : Rl) (far : Tgt) (n i b j : Int) (lo c : Nat)
theorem cbl_go : 
 let z1 := (MsgD.msg (MsgD.mk (D.getInt se (lo + Int.toNat j) 0) (D.getInt se (lo + Int.toNat j) 1) (D.getInt se (lo + Int.toNat j) 2) (D.getInt se (lo + Int.toNat j) 3) (D.getInt se (lo + Int.toNat j) 4) (D.getInt se (lo + Int.toNat j) 5) (D.cell se (lo + Int.toNat j) 6) (D.cell se (lo + Int.toNat j) 7)))
 let z2 : List SV := [.int .i64 (D.getInt se (lo + Int.toNat j) 0),.int .i64 (D.getInt se (lo + Int.toNat j) 1),.int .i64 (D.getInt se (lo + Int.toNat j) 2),.int .i64 (D.getInt se (lo + Int.toNat j) 3),.int .i64 (D.getInt se (lo + Int.toNat j) 4),.int .i64 (D.getInt se (lo + Int.toNat j) 5),.dat (D.cell se (lo + Int.toNat j) 6),.dat (D.cell se (lo + Int.toNat j) 7)]
 let z3 := (Tgt.mk (Tgt.epoch far) (Tgt.site far) (Tgt.stored far) (Tgt.applied far))
 let z4 := (Prod.fst (answer z3 z1))
 let z5 := (Prod.snd (answer z3 z1))
 let z6 := (cA 10 [1,1,1,0,1,0,0,1,1,1])
 let z7 := (D.like o (Src.offered (Rl.src r)))
 let z8 := (cA 10 [1,1,1,0,1,0,0,1,1,0,0,1,1,1,0,1,0,0])
 execRE Try.prog ctCc [36] 400 (unroll (cbL n i b lo c j (casV 1 2 4 o k ims th mp se an r far))) =
 Tree.br (decide (j < (↑c : Int))) (.need (lo + c ≤ D.len se ∧ 0 ≤ j ∧ j < (↑c : Int) ∧ D.sz se = 8) (.need (D.HasCells se (lo + Int.toNat j) 0 [FT.int .i64,FT.int .i64,FT.int .i64,FT.int .i64,FT.int .i64,FT.int .i64,FT.slc,FT.slc] ∧ D.sz se = 8)
 (.all fun hs=>.all fun hs_1=>.need (D.sz an = 8 ∧ D.Fits (D.like (hs 5 0) z5) 8 ∧ (D.len an + D.len (D.like (hs 5 0) z5)) * 96 ≤ 140737488355328 ∧ D.len an + D.len (D.like (hs 5 0) z5) ≤ 9223372036854775807)
 (.br (D.getInt se (lo + Int.toNat j) 0 != 10) (.leaf (Conf.mk (SFrm.mk 10 none none [Item.inLoop z8,Item.inBlock 2,Item.code (cA 10 [1,1,1,0,1,0,0,1,1,0,0,1,1,1,1]),Item.inBlock 1,Item.code z6,Item.inLoop
 (cA 10 [1,1,1,0,1,0,0]),Item.inBlock 0,Item.code (cA 10 [1,1,1,1])] (mkJ 0 [(5,.ptr 100000 0),(9,.int .i64 b),(33,.int .i64 n),(34,.int .i64 i),(56,.view 1 8 lo c),(57,.int .i64 (↑c : Int)),
 (58,.int .i64 (IntKind.wrap .i64 (j + 1)))] 0 115)) [] [(1,OBlk.arr 72 se),(2,OBlk.arr 23 ims),(4,OBlk.arr 72 (D.slc (D.hd (hs_1 8 0)) 8 (List.append (D.rows an) (D.rows (D.like (hs 5 0) z5))))),
 (100000,OBlk.cells 82 [.int .i64 (Tgt.epoch (Rl.near r)),.int .i64 (Tgt.site (Rl.near r)),.int .i64 (Tgt.stored (Rl.near r)),.int .i64 (Tgt.applied (Rl.near r)),.int .i64 (Tgt.epoch (Rl.far r)),.int .i64
 (Tgt.site (Rl.far r)),.int .i64 (Tgt.stored (Rl.far r)),.int .i64 (Tgt.applied (Rl.far r)),.int .i64 (Src.epoch (Rl.src r)),.int .i64 (Src.site (Rl.src r)),.dat z7,.int .i64 (Src.stored (Rl.src r)),.int .i64
 (Src.applied (Rl.src r)),.dat (D.like k (Rl.kept r)),.int .i64 (Tgt.epoch z4),.int .i64 (Tgt.site z4),.int .i64 (Tgt.stored z4),.int .i64 (Tgt.applied z4),.vec 2,.dat th,.mapp 100001,.vec 1,.vec 4]),
 (100001,OBlk.mapD .i64 true [FT.int .i64,FT.int .i64,FT.int .i64,FT.slc,FT.slc] mp)])) (.leaf (Conf.mk (SFrm.mk 34 none none [Item.inLoop (cA 34 [1,1,1,1,0,1,0,0]),Item.inBlock 0,Item.code
 (cA 34 [1,1,1,1,1])] (mkJ 1 [(0,.ptr 100000 0),(3,.ptr 1 0),(7,.int .i64 (IntKind.wrap .i64 (Tgt.applied z4 + 1)))] 0 114)) [SFrm.mk 10 (some (oA 10 [1,1,1,0,1,0,0,1,1,0,0,1,1,1,0,1,0,0,1,1,0,0,1,0],[3]))
 (some 64) [Item.code (cA 10 [1,1,1,0,1,0,0,1,1,0,0,1,1,1,0,1,0,0,1,1,0,0,1,1]),Item.inBlock 3,Item.code (cA 10 [1,1,1,0,1,0,0,1,1,0,0,1,1,1,0,1,0,0,1,1,1]),Item.inLoop z8,Item.inBlock 2,Item.code
 (cA 10 [1,1,1,0,1,0,0,1,1,0,0,1,1,1,1]),Item.inBlock 1,Item.code z6,Item.inLoop (cA 10 [1,1,1,0,1,0,0]),Item.inBlock 0,Item.code (cA 10 [1,1,1,1])] (mkJ 0 [(5,.ptr 100000 0),
 (9,.int .i64 b),(11,.ptr 2 0),(33,.int .i64 n),(34,.int .i64 i),(56,.view 3 8 lo c),(57,.int .i64 (↑c : Int)),(58,.int .i64 j),(59,.bool (decide (j < (↑c : Int)))),(60,SV.velt 3 8 (lo + Int.toNat j) 0),
 (61,.agg z2),(62,.ptr 100000 0),(63,.agg z2)] 0 115)] [(1,OBlk.cells 72 z2),(2,OBlk.cells 72 z2),(3,OBlk.arr 72 se),(4,OBlk.arr 23 ims),(6,OBlk.arr 72 (D.slc (D.hd (hs_1 8 0)) 8 (List.append
 (D.rows an) (D.rows (D.like (hs 5 0) z5))))),(100000,OBlk.cells 82 [.int .i64 (Tgt.epoch (Rl.near r)),.int .i64 (Tgt.site (Rl.near r)),.int .i64 (Tgt.stored (Rl.near r)),.int .i64 (Tgt.applied (Rl.near r)),.int .i64
 (Tgt.epoch (Rl.far r)),.int .i64 (Tgt.site (Rl.far r)),.int .i64 (Tgt.stored (Rl.far r)),.int .i64 (Tgt.applied (Rl.far r)),.int .i64 (Src.epoch (Rl.src r)),.int .i64 (Src.site (Rl.src r)),.dat z7,.int .i64
 (Src.stored (Rl.src r)),.int .i64 (Src.applied (Rl.src r)),.dat (D.like k (Rl.kept r)),.int .i64 (Tgt.epoch z4),.int .i64 (Tgt.site z4),.int .i64 (Tgt.stored z4),.int .i64 (Tgt.applied z4),.vec 4,.dat th,.mapp 100001,.vec 3,.vec 6]),
 (100001,OBlk.mapD .i64 true [FT.int .i64,FT.int .i64,FT.int .i64,FT.slc,FT.slc] mp)])))))) (.need (0 ≤ b ∧ b ≤ (↑(D.len an) : Int) ∧ D.Fits an 8) (.need (Int.toNat b + (D.len an - Int.toNat b) ≤ D.len an)
 (.leaf (Conf.mk (SFrm.mk 10 none none [Item.inLoop (cA 10 [1,1,1,0,1,0,0,1,1,0,0,1,1,1,1,0,1,0,0]),Item.inBlock 4,Item.code (cA 10 [1,1,1,0,1,0,0,1,1,0,0,1,1,1,1,1]),Item.inBlock 1,Item.code z6,Item.inLoop
 (cA 10 [1,1,1,0,1,0,0]),Item.inBlock 0,Item.code (cA 10 [1,1,1,1])] (mkJ 0 [(5,.ptr 100000 0),(33,.int .i64 n),(34,.int .i64 i),(72,.view 1 8 (Int.toNat b) (D.len an - Int.toNat b)),
 (73,.int .i64 (↑(D.len an - Int.toNat b) : Int)),(74,.int .i64 0)] 0 115)) [] [(1,OBlk.arr 72 an),(2,OBlk.arr 23 ims),(4,OBlk.arr 72 se),(100000,OBlk.cells 82 [.int .i64 (Tgt.epoch (Rl.near r)),.int .i64
 (Tgt.site (Rl.near r)),.int .i64 (Tgt.stored (Rl.near r)),.int .i64 (Tgt.applied (Rl.near r)),.int .i64 (Tgt.epoch (Rl.far r)),.int .i64 (Tgt.site (Rl.far r)),.int .i64 (Tgt.stored (Rl.far r)),.int .i64
 (Tgt.applied (Rl.far r)),.int .i64 (Src.epoch (Rl.src r)),.int .i64 (Src.site (Rl.src r)),.dat z7,.int .i64 (Src.stored (Rl.src r)),.int .i64 (Src.applied (Rl.src r)),.dat (D.like k (Rl.kept r)),.int .i64
 (Tgt.epoch far),.int .i64 (Tgt.site far),.int .i64 (Tgt.stored far),.int .i64 (Tgt.applied far),.vec 2,.dat th,.mapp 100001,.vec 4,.vec 1]),(100001,OBlk.mapD .i64 true [FT.int .i64,FT.int .i64,FT.int .i64,FT.slc,FT.slc] mp)])))) := by
 intros; kernel_rfl
end
def hbM (mk mf mt mn mv me : Int) (ml mb : D) : List SV := [.int .i64 mk,.int .i64 mf,.int .i64 mt,.int .i64 mn,.int .i64 mv,.int .i64 me,.dat ml,.dat mb]
def hbF (n i b : Int) (lo c : Nat) (j : Int) (m : List SV) : SFrm := SFrm.mk 10 (some (oA 10 [1,1,1,0,1,0,0,1,1,0,0,1,1,1,0,1,0,0,1,1,0,0,1,0],[3])) (some 64) [Item.code (cA 10 [1,1,1,0,1,0,0,1,1,0,0,1,1,1,0,1,0,0,1,1,0,0,1,1]),Item.inBlock 3,Item.code (cA 10 [1,1,1,0,1,0,0,1,1,0,0,1,1,1,0,1,0,0,1,1,1]),Item.inLoop (cA 10 [1,1,1,0,1,0,0,1,1,0,0,1,1,1,0,1,0,0]),Item.inBlock 2,Item.code (cA 10 [1,1,1,0,1,0,0,1,1,0,0,1,1,1,1]),Item.inBlock 1,Item.code (cA 10 [1,1,1,0,1,0,0,1,1,1]),Item.inLoop (cA 10 [1,1,1,0,1,0,0]),Item.inBlock 0,Item.code (cA 10 [1,1,1,1])]
 (mkJ 0 [(5,.ptr 100000 0),(9,.int .i64 b),(11,.ptr 2 0),(33,.int .i64 n),(34,.int .i64 i),(56,.view 3 8 lo c),(57,.int .i64 (c : Int)),(58,.int .i64 j),(59,.bool (decide (j < (c : Int)))),(60,SV.velt 3 8 (lo + Int.toNat j) 0),(61,.agg m),(62,.ptr 100000 0),(63,.agg m)] 0 115)
def hbL (n i b : Int) (lo c : Nat) (j : Int) (m : List SV) (nn : Int) (o k ims th mp se an : D) (r : Rl) (far : Tgt) : Conf := Conf.mk (SFrm.mk 34 none none [Item.inLoop (cA 34 [1,1,1,1,0,1,0,0]),Item.inBlock 0,Item.code (cA 34 [1,1,1,1,1])] (mkJ 1 [(0,.ptr 100000 0),(3,.ptr 1 0),(7,.int .i64 nn)] 0 114)) [hbF n i b lo c j m]
 ([(1,OBlk.cells 72 m),(2,OBlk.cells 72 m)] ++ casV 3 4 6 o k ims th mp se an r far)
section
variable (l o k ims th mp se an ml mb : D) (r : Rl) (far : Tgt) (n i b j mk mf mt mn mv me nn : Int) (lo c : Nat)
theorem hbl_go : 
 let z3 : List SV := [.int .i64 mk,.int .i64 mf,.int .i64 mt,.int .i64 mn,.int .i64 mv,.int .i64 me,.dat ml,.dat mb]
 let z4 := (applyT (Tgt.mk (Tgt.epoch far) (Tgt.site far) (Tgt.stored far) (Tgt.applied far)) nn)
 let z5 := (CyD.mk (D.getInt mp (D.keyIx mp nn) 1) (D.getInt mp (D.keyIx mp nn) 2) (D.getInt mp (D.keyIx mp nn) 3) (D.cell mp (D.keyIx mp nn) 4) (D.cell mp (D.keyIx mp nn) 5))
 let z6 := (mkJ 0 [(5,.ptr 100000 0),(9,.int .i64 b),(11,.ptr 2 0),(33,.int .i64 n),(34,.int .i64 i),(56,.view 3 8 lo c),(57,.int .i64 (↑c : Int)),(58,.int .i64 j),(59,.bool (decide (j < (↑c : Int)))),(60,SV.velt 3 8 (lo + Int.toNat j) 0),(61,.agg z3),(62,.ptr 100000 0),(63,.agg z3)] 0 115)
 let z7 := (SFrm.mk 34 none none [Item.inLoop (cA 34 [1,1,1,1,0,1,0,0]),Item.inBlock 0,Item.code (cA 34 [1,1,1,1,1])] (mkJ 1 [(0,.ptr 100000 0),(3,.ptr 1 0),(7,.int .i64 (IntKind.wrap .i64 (nn + 1)))] 0 114))
 let z8 := (cA 10 [1,1,1,0,1,0,0,1,1,0,0,1,1,1,0,1,0,0,1,1,0,0,1,1])
 let z9 := (cA 10 [1,1,1,0,1,0,0,1,1,0,0,1,1,1,0,1,0,0,1,1,1])
 let z10 := (cA 10 [1,1,1,0,1,0,0,1,1,0,0,1,1,1,0,1,0,0])
 let z11 := (cA 10 [1,1,1,0,1,0,0,1,1,0,0,1,1,1,1])
 let z12 := (cA 10 [1,1,1,0,1,0,0,1,1,1])
 let z13 := (D.like o (Src.offered (Rl.src r)))
 let z14 := (cA 10 [1,1,1,0,1,0,0])
 let z15 := (Tgt.applied (Rl.near r))
 let z1 : Tree := (.leaf (Conf.mk (SFrm.mk 10 none none [Item.inLoop z10,Item.inBlock 2,Item.code z11,Item.inBlock 1,Item.code z12,Item.inLoop z14,Item.inBlock 0,Item.code (cA 10 [1,1,1,1])] (mkJ 0 [(5,.ptr 100000 0),(9,.int .i64 b),(33,.int .i64 n),(34,.int .i64 i),(56,.view 1 8 lo c),(57,.int .i64 (↑c : Int)),(58,.int .i64 (IntKind.wrap .i64 (j + 1)))] 0 115)) [] [(1,OBlk.arr 72 se),(2,OBlk.arr 23 ims),(4,OBlk.arr 72 an),(100000,OBlk.cells 82 [.int .i64 (Tgt.epoch (Rl.near r)),.int .i64 (Tgt.site (Rl.near r)),.int .i64 (Tgt.stored (Rl.near r)),.int .i64 z15,.int .i64 (Tgt.epoch (Rl.far r)),.int .i64 (Tgt.site (Rl.far r)),.int .i64 (Tgt.stored (Rl.far r)),.int .i64 (Tgt.applied (Rl.far r)),.int .i64 (Src.epoch (Rl.src r)),.int .i64 (Src.site (Rl.src r)),.dat z13,.int .i64 (Src.stored (Rl.src r)),.int .i64 (Src.applied (Rl.src r)),.dat (D.like k (Rl.kept r)),.int .i64 (Tgt.epoch far),.int .i64 (Tgt.site far),.int .i64 (Tgt.stored far),.int .i64 (Tgt.applied far),.vec 2,.dat th,.mapp 100001,.vec 1,.vec 4]),(100001,OBlk.mapD .i64 true [FT.int .i64,FT.int .i64,FT.int .i64,FT.slc,FT.slc] mp)]))
 let z2 : Tree := (.leaf (Conf.mk (SFrm.mk 10 none none [Item.code (cA 10 [1,1,0,1,0,1]),Item.inBlock 3,Item.code z9,Item.inLoop z10,Item.inBlock 2,Item.code z11,Item.inBlock 1,Item.code z12,Item.inLoop z14,Item.inBlock 0,Item.code (cA 10 [1,1,1,1])] (mkJ 0 [(4,.lb false)] 0 115)) [] [(0,OBlk.arr 72 se),(1,OBlk.arr 23 ims),(2,OBlk.arr 72 an),(100000,OBlk.cells 82 [.int .i64 (Tgt.epoch (Rl.near r)),.int .i64 (Tgt.site (Rl.near r)),.int .i64 (Tgt.stored (Rl.near r)),.int .i64 z15,.int .i64 (Tgt.epoch (Rl.far r)),.int .i64 (Tgt.site (Rl.far r)),.int .i64 (Tgt.stored (Rl.far r)),.int .i64 (Tgt.applied (Rl.far r)),.int .i64 (Src.epoch (Rl.src r)),.int .i64 (Src.site (Rl.src r)),.dat z13,.int .i64 (Src.stored (Rl.src r)),.int .i64 (Src.applied (Rl.src r)),.dat (D.like k (Rl.kept r)),.int .i64 (Tgt.epoch far),.int .i64 (Tgt.site far),.int .i64 (Tgt.stored far),.int .i64 (Tgt.applied far),.vec 1,.dat th,.mapp 100001,.vec 0,.vec 2]),(100001,OBlk.mapD .i64 true [FT.int .i64,FT.int .i64,FT.int .i64,FT.slc,FT.slc] mp)]))
 execRE Try.prog ctCc [36] 400 (unroll (hbL n i b lo c j (hbM mk mf mt mn mv me ml mb) nn o k ims th mp se an r far)) =
 Tree.br (decide (nn ≤ mn)) (.br (decide (nn ≤ Tgt.stored far)) (.br (D.hasKey mp nn) (.all fun hs=>.need (D.Is Vol th ∧ D.len th ≤ 1048576 ∧ CyD.Ok z5) (.all fun hs_1=>.br (Prod.snd (applyCy (D.to Vol th)
 (CyD.cy z5)) != 0) z2 (.br (Prod.snd (Prod.snd z4) != 0) z2 (.all fun hs_2=>.need (D.sz an = 8 ∧ D.Fits (D.like (hs_1 0 0) (Prod.fst (Prod.snd z4))) 8 ∧ (D.len an + D.len (D.like (hs_1 0 0) (Prod.fst
 (Prod.snd z4)))) * 96 ≤ 140737488355328 ∧ D.len an + D.len (D.like (hs_1 0 0) (Prod.fst (Prod.snd z4))) ≤ 9223372036854775807) (.leaf (Conf.mk z7 [SFrm.mk 10 (some (oA 10 [1,1,1,0,1,0,0,1,1,0,0,1,1,1,0,1,0,0,1,1,0,0,1,0],[3]))
 (some 64) [Item.code z8,Item.inBlock 3,Item.code z9,Item.inLoop z10,Item.inBlock 2,Item.code z11,Item.inBlock 1,Item.code z12,Item.inLoop z14,Item.inBlock 0,Item.code (cA 10 [1,1,1,1])] z6] [(1,OBlk.cells 72 z3),
 (2,OBlk.cells 72 z3),(3,OBlk.arr 72 se),(4,OBlk.arr 23 ims),(6,OBlk.arr 72 (D.slc (D.hd (hs_2 10 0)) 8 (List.append (D.rows an) (D.rows (D.like (hs_1 0 0) (Prod.fst (Prod.snd z4))))))),(100000,OBlk.cells 82 [.int .i64
 (Tgt.epoch (Rl.near r)),.int .i64 (Tgt.site (Rl.near r)),.int .i64 (Tgt.stored (Rl.near r)),.int .i64 z15,.int .i64 (Tgt.epoch (Rl.far r)),.int .i64 (Tgt.site (Rl.far r)),.int .i64 (Tgt.stored (Rl.far r)),.int .i64
 (Tgt.applied (Rl.far r)),.int .i64 (Src.epoch (Rl.src r)),.int .i64 (Src.site (Rl.src r)),.dat z13,.int .i64 (Src.stored (Rl.src r)),.int .i64 (Src.applied (Rl.src r)),.dat (D.like k (Rl.kept r)),.int .i64
 (Tgt.epoch (Prod.fst z4)),.int .i64 (Tgt.site (Prod.fst z4)),.int .i64 (Tgt.stored (Prod.fst z4)),.int .i64 (Tgt.applied (Prod.fst z4)),.vec 4,.dat (D.like (hs 5 0) (Prod.fst (applyCy (D.to Vol th)
 (CyD.cy z5)))),.mapp 100001,.vec 3,.vec 6]),(100001,OBlk.mapD .i64 true [FT.int .i64,FT.int .i64,FT.int .i64,FT.slc,FT.slc] mp)])))))) (.leaf (Conf.mk z7 [SFrm.mk 10 (some (oA 10 [1,1,1,0,1,0,0,1,1,0,0,1,1,1,0,1,0,0,1,1,0,0,1,0],[3]))
 (some 64) [Item.code z8,Item.inBlock 3,Item.code z9,Item.inLoop z10,Item.inBlock 2,Item.code z11,Item.inBlock 1,Item.code z12,Item.inLoop z14,Item.inBlock 0,Item.code (cA 10 [1,1,1,1])] z6] [(1,OBlk.cells 72 z3),
 (2,OBlk.cells 72 z3),(3,OBlk.arr 72 se),(4,OBlk.arr 23 ims),(6,OBlk.arr 72 an),(100000,OBlk.cells 82 [.int .i64 (Tgt.epoch (Rl.near r)),.int .i64 (Tgt.site (Rl.near r)),.int .i64 (Tgt.stored
 (Rl.near r)),.int .i64 z15,.int .i64 (Tgt.epoch (Rl.far r)),.int .i64 (Tgt.site (Rl.far r)),.int .i64 (Tgt.stored (Rl.far r)),.int .i64 (Tgt.applied (Rl.far r)),.int .i64 (Src.epoch (Rl.src r)),.int .i64
 (Src.site (Rl.src r)),.dat z13,.int .i64 (Src.stored (Rl.src r)),.int .i64 (Src.applied (Rl.src r)),.dat (D.like k (Rl.kept r)),.int .i64 (Tgt.epoch far),.int .i64 (Tgt.site far),.int .i64 (Tgt.stored far),.int .i64
 (Tgt.applied far),.vec 4,.dat th,.mapp 100001,.vec 3,.vec 6]),(100001,OBlk.mapD .i64 true [FT.int .i64,FT.int .i64,FT.int .i64,FT.slc,FT.slc] mp)]))) z1) z1 := by
 intros; kernel_rfl
end
def casW (ka ki ks : Nat) (o k ims th mp se an : D) (r : Rl) (far : Tgt) : Mem :=
 [(ka,.arr 72 an),(ki,.arr 23 ims),(ks,.arr 72 se),(100000,.cells 82 (rlL o k r ++ [.int .i64 far.epoch,.int .i64 far.site,.int .i64 far.stored,.int .i64 far.applied,.vec ki,.dat th,.mapp 100001,.vec ks,.vec ka])),
 (100001,.mapD .i64 true [.int .i64,.int .i64,.int .i64,.slc,.slc] mp)]
def ccL (n i : Int) (lo c : Nat) (j : Int) (mm : Mem) : Conf := Conf.mk (SFrm.mk 10 none none [Item.inLoop (cA 10 [1,1,1,0,1,0,0,1,1,0,0,1,1,1,1,0,1,0,0]),Item.inBlock 4,Item.code (cA 10 [1,1,1,0,1,0,0,1,1,0,0,1,1,1,1,1]),Item.inBlock 1,Item.code (cA 10 [1,1,1,0,1,0,0,1,1,1]),Item.inLoop (cA 10 [1,1,1,0,1,0,0]),Item.inBlock 0,Item.code (cA 10 [1,1,1,1])]
 (mkJ 0 [(5,.ptr 100000 0),(33,.int .i64 n),(34,.int .i64 i),(72,.view 1 8 lo c),(73,.int .i64 (c : Int)),(74,.int .i64 j)] 0 115)) [] mm
section
variable (l o k ims th mp se an : D) (r : Rl) (far : Tgt) (n i j : Int) (lo c : Nat)
theorem ccl_go : 
 let z2 := (RlD.mk (Tgt.mk (Tgt.epoch (Rl.near r)) (Tgt.site (Rl.near r)) (Tgt.stored (Rl.near r)) (Tgt.applied (Rl.near r))) (Tgt.mk (Tgt.epoch (Rl.far r)) (Tgt.site (Rl.far r)) (Tgt.stored (Rl.far r)) (Tgt.applied (Rl.far r))) (SrcD.mk (Src.epoch (Rl.src r)) (Src.site (Rl.src r)) (D.like o (Src.offered (Rl.src r))) (Src.stored (Rl.src r)) (Src.applied (Rl.src r))) (D.like k (Rl.kept r)))
 let z1 := (learnRl (RlD.rl z2) (MsgD.msg (MsgD.mk (D.getInt an (lo + Int.toNat j) 0) (D.getInt an (lo + Int.toNat j) 1) (D.getInt an (lo + Int.toNat j) 2) (D.getInt an (lo + Int.toNat j) 3) (D.getInt an (lo + Int.toNat j) 4) (D.getInt an (lo + Int.toNat j) 5) (D.cell an (lo + Int.toNat j) 6) (D.cell an (lo + Int.toNat j) 7))))
 execRE Try.prog ctCc [36] 400 (unroll (ccL n i lo c j (casW 1 2 4 o k ims th mp se an r far))) =
 Tree.br (decide (j < (↑c : Int))) (.need (lo + c ≤ D.len an ∧ 0 ≤ j ∧ j < (↑c : Int) ∧ D.sz an = 8) (.need (D.HasCells an (lo + Int.toNat j) 0 [FT.int .i64,FT.int .i64,FT.int .i64,FT.int .i64,FT.int .i64,FT.int .i64,FT.slc,FT.slc] ∧ D.sz an = 8)
 (.all fun hs=>.need (RlD.Ok z2) (.all fun hs_1=>.need (D.sz se = 8 ∧ D.Fits (D.like (hs 5 2) (Prod.snd z1)) 8 ∧ (D.len se + D.len (D.like (hs 5 2) (Prod.snd z1))) * 96 ≤ 140737488355328 ∧ D.len se + D.len
 (D.like (hs 5 2) (Prod.snd z1)) ≤ 9223372036854775807) (.leaf (Conf.mk (SFrm.mk 10 none none [Item.inLoop (cA 10 [1,1,1,0,1,0,0,1,1,0,0,1,1,1,1,0,1,0,0]),Item.inBlock 4,Item.code (cA 10 [1,1,1,0,1,0,0,1,1,0,0,1,1,1,1,1]),Item.inBlock 1,Item.code
 (cA 10 [1,1,1,0,1,0,0,1,1,1]),Item.inLoop (cA 10 [1,1,1,0,1,0,0]),Item.inBlock 0,Item.code (cA 10 [1,1,1,1])] (mkJ 0 [(5,.ptr 100000 0),(33,.int .i64 n),(34,.int .i64 i),(72,.view 1 8 lo c),
 (73,.int .i64 (↑c : Int)),(74,.int .i64 (IntKind.wrap .i64 (j + 1)))] 0 115)) [] [(1,OBlk.arr 72 an),(2,OBlk.arr 23 ims),(4,OBlk.arr 72 (D.slc (D.hd (hs_1 8 0)) 8 (List.append (D.rows se) (D.rows
 (D.like (hs 5 2) (Prod.snd z1)))))),(100000,OBlk.cells 82 [.int .i64 (Tgt.epoch (Rl.near (Prod.fst z1))),.int .i64 (Tgt.site (Rl.near (Prod.fst z1))),.int .i64 (Tgt.stored (Rl.near (Prod.fst z1))),.int .i64
 (Tgt.applied (Rl.near (Prod.fst z1))),.int .i64 (Tgt.epoch (Rl.far (Prod.fst z1))),.int .i64 (Tgt.site (Rl.far (Prod.fst z1))),.int .i64 (Tgt.stored (Rl.far (Prod.fst z1))),.int .i64 (Tgt.applied (Rl.far
 (Prod.fst z1))),.int .i64 (Src.epoch (Rl.src (Prod.fst z1))),.int .i64 (Src.site (Rl.src (Prod.fst z1))),.dat (D.like (hs 5 0) (Src.offered (Rl.src (Prod.fst z1)))),.int .i64 (Src.stored (Rl.src (Prod.fst z1))),.int .i64
 (Src.applied (Rl.src (Prod.fst z1))),.dat (D.like (hs 5 1) (Rl.kept (Prod.fst z1))),.int .i64 (Tgt.epoch far),.int .i64 (Tgt.site far),.int .i64 (Tgt.stored far),.int .i64 (Tgt.applied far),.vec 2,.dat th,.mapp 100001,.vec 4,.vec 1]),
 (100001,OBlk.mapD .i64 true [FT.int .i64,FT.int .i64,FT.int .i64,FT.slc,FT.slc] mp)])))))) (.leaf (Conf.mk (SFrm.mk 36 none none [Item.code (cA 36 [])] (mkJ 1 [(0,.ptr 100000 0)] 0 75)) [SFrm.mk 10
 (some (oA 10 [1,1,1,0,1,0,0,1,1,0,0,1,1,1,1,1,0],[2])) (some 83) [Item.code (cA 10 [1,1,1,0,1,0,0,1,1,0,0,1,1,1,1,1,1]),Item.inBlock 1,Item.code (cA 10 [1,1,1,0,1,0,0,1,1,1]),Item.inLoop
 (cA 10 [1,1,1,0,1,0,0]),Item.inBlock 0,Item.code (cA 10 [1,1,1,1])] (mkJ 0 [(5,.ptr 100000 0),(33,.int .i64 n),(34,.int .i64 i)] 0 115)] [(1,OBlk.arr 23 ims),(3,OBlk.arr 72 se),(4,OBlk.arr 72 an),
 (100000,OBlk.cells 82 [.int .i64 (Tgt.epoch (Rl.near r)),.int .i64 (Tgt.site (Rl.near r)),.int .i64 (Tgt.stored (Rl.near r)),.int .i64 (Tgt.applied (Rl.near r)),.int .i64 (Tgt.epoch (Rl.far r)),.int .i64
 (Tgt.site (Rl.far r)),.int .i64 (Tgt.stored (Rl.far r)),.int .i64 (Tgt.applied (Rl.far r)),.int .i64 (Src.epoch (Rl.src r)),.int .i64 (Src.site (Rl.src r)),.dat (D.like o (Src.offered (Rl.src r))),.int .i64
 (Src.stored (Rl.src r)),.int .i64 (Src.applied (Rl.src r)),.dat (D.like k (Rl.kept r)),.int .i64 (Tgt.epoch far),.int .i64 (Tgt.site far),.int .i64 (Tgt.stored far),.int .i64 (Tgt.applied far),.vec 1,.dat th,.mapp 100001,.vec 3,.vec 4]),
 (100001,OBlk.mapD .i64 true [FT.int .i64,FT.int .i64,FT.int .i64,FT.slc,FT.slc] mp)])) := by
 intros; kernel_rfl
end
end Sv
end
noncomputable section
open Go Go.Proofs Sx
namespace Sx
def HeardTo (M : List Msg) (lo j : Nat) (Sf : Int) (l : List Msg) : Prop := ∀ (i : Nat) (m : Msg),i < j → M[lo + i]? = some m → (m.kind = 8 → ∃ x,x ∈ l ∧ x.kind = 9 ∧ x.value = Sf) ∧ (m.kind = 10 → ∃ x,x ∈ l ∧ x.kind = 11 ∧ (m.number ≤ x.value ∨ Sf ≤ x.value))
theorem HeardTo.step {M l l' : List Msg} {lo j : Nat} {Sf : Int} {m : Msg} (h : HeardTo M lo j Sf l) (hm : M[lo + j]? = some m) (hs : ∀ x,x ∈ l → x ∈ l') (h8 : m.kind = 8 → ∃ x,x ∈ l' ∧ x.kind = 9 ∧ x.value = Sf) (h10 : m.kind = 10 → ∃ x,x ∈ l' ∧ x.kind = 11 ∧ (m.number ≤ x.value ∨ Sf ≤ x.value)) : HeardTo M lo (j + 1) Sf l' := by
 intro i m' hi hm'
 by_cases hij : i = j
 ·subst hij
  rw [hm] at hm'
  cases hm'
  exact ⟨h8,h10⟩
 ·obtain ⟨g1,g2⟩ := h i m' (by omega) hm'
  exact ⟨fun h=>by obtain ⟨x,x1,x2⟩ := g1 h; exact ⟨x,hs x x1,x2⟩,fun h=>by obtain ⟨x,x1,x2⟩ := g2 h; exact ⟨x,hs x x1,x2⟩⟩
theorem heard_len {l l' j : Nat} {a b c : Int} (h1 : l ≤ 1 + j + (b - a).toNat) (h2 : l' ≤ (c - b).toNat) (h3 : a ≤ b) (h4 : b ≤ c) : l + (0 + 1) + l' ≤ 1 + (j + 1) + (c - a).toNat := by omega
end Sx
namespace Sv
theorem ctCcOk : Ctrs.Ok Try.prog ctCc := by
 intro x hx
 rcases List.mem_cons.1 hx with rfl | hx
 ·exact ctRSOk _ (List.mem_cons_of_mem _ (List.mem_cons_of_mem _ List.mem_cons_self))
 ·rcases List.mem_append.1 hx with hx | hx
  ·exact ctStOk x hx
  ·exact ctFSOk x hx
section
variable {sz : List Int} {A S Sf N : Int} {K : List Cy}
theorem hb_loop {mk mf mt mn mv me : Int} {ml mb o k ims mp se : D} {n i b j : Int} {lo c : Nat} {R : Value → World → Prop} (w : World) (H : HV) : ∀ (q : Nat) {s : Cas} {Af : Int} {th an : D},CasOk s sz A S Sf Af N K → (Sf - Af).toNat = q → s.imgs.length ≤ 1000 → s.ans.length + q ≤ 1000000 → CW ims th mp se an s →
  (∀ s' Af' th' an',CasOk s' sz A S Sf Af' N K → CW ims th' mp se an' s' → Af ≤ Af' → (mn ≤ Af' ∨ Sf ≤ Af') → s'.sent = s.sent → s'.imgs = s.imgs → (∃ l,s'.ans = s.ans ++ l ∧ l.length ≤ (Af' - Af).toNat ∧ (Af < Af' → ∃ x,x ∈ l ∧ x.kind = 11 ∧ x.value = Af')) →
   Runs Try.prog ⟨w,H⟩ (cbL n i b lo c (IntKind.i64.wrap (j + 1)) (casV 1 2 4 o k ims th' mp se an' s'.r s'.far)) R) →
  Runs Try.prog ⟨w,H⟩ (hbL n i b lo c j (hbM mk mf mt mn mv me ml mb) (Af + 1) o k ims th mp se an s.r s.far) R := by
 intro q
 induction q with
 | zero =>
  intro s Af th an h hq him hal hcw hk
  have hfs : s.far.stored = Sf := by rw [h.far]
  obtain ⟨l1,l2,l3,l4⟩ := h.le
  refine unroll_sound rfl ?_
  apply execRE_sound ctCcOk [36] 400
  rw [hbl_go]
  have fin : (mn ≤ Af ∨ Sf ≤ Af) → Runs Try.prog ⟨w,H⟩ (cbL n i b lo c (IntKind.i64.wrap (j + 1)) (casV 1 2 4 o k ims th mp se an s.r s.far)) R := fun he=>hk s Af th an h hcw (Int.le_refl _) he rfl rfl ⟨[],by simp,by simp,fun hx=>absurd hx (by omega)⟩
  refine ⟨fun c1=>⟨fun c2=>?_,fun c2=>fin (.inr (by omega))⟩,fun c1=>fin (.inr (by omega))⟩
  have := of_decide_eq_true c2
  omega
 | succ q ih =>
  intro s Af th an h hq him hal hcw hk
  have hfs : s.far.stored = Sf := by rw [h.far]
  obtain ⟨r1,r2,r3⟩ := h.rel.range
  have ha0 := h.rel.a0
  have htop := h.rel.top
  obtain ⟨l1,l2,l3,l4⟩ := h.le
  have hN := h.len
  have hst := h.stn
  have hanl : an.len = s.ans.length := by rw [D.Is.length (α := Msg),hcw.an.2.2]
  obtain ⟨c,im',p1,p2,p3,p4,p5⟩ := h.put (by omega)
  have hlt : Af.toNat < s.stored.length := (List.getElem?_eq_some_iff.1 p1).1
  have hkey := hcw.mp.has hlt
  rw [show ((Af.toNat : Nat) : Int) + 1 = Af + 1 by omega] at hkey
  obtain ⟨q1,q2,q3⟩ := hcw.mp.at p1
  have hw1 : IntKind.i64.wrap (Af + 1 + 1) = Af + 1 + 1 := wrap64J (by omega) (by omega)
  have hth := h.small_img (im := s.there) (List.mem_of_getElem? h.there)
  have hl1 : th.len ≤ 1048576 := by rw [D.Is.length (α := Vol),hcw.th.2]; omega
  refine unroll_sound rfl ?_
  apply execRE_sound ctCcOk [36] 400
  rw [hbl_go]
  simp only [hkey.1,hkey.2,q1,hcw.th.2,tgt_back,p3,p4,hw1]
  refine ⟨fun c1=>⟨fun c2=>⟨fun _ hs0=>⟨⟨hcw.th.1,hl1,cy_ok_of q1 q2 q3 p2⟩,fun hs1=>⟨fun hb=>absurd hb (by decide),fun _=>⟨fun hb=>absurd hb (by decide),fun _ hs2=>⟨?_,?_⟩⟩⟩⟩,fun hb=>absurd hb (by decide)⟩,fun c2=>?_⟩,fun c1=>?_⟩
  ·exact ⟨hcw.an.2.1,(D.like_is (α := Msg) _ _).fits,by simp only [like_leng,hanl,List.length_cons,List.length_nil]; omega,by simp only [like_leng,hanl,List.length_cons,List.length_nil]; omega⟩
  ·have han := rows_app (rows_of hcw.an.1) (rows_of (D.like_is (hs1 0 0) [Msg.mk 11 1 0 0 (Af + 1) 1 [] []]))
   rw [D.like_to,hcw.an.2.2] at han
   obtain ⟨s1,s2⟩ := is_of (h := D.hd (hs2 10 0)) (s := 8) rfl han
   refine ih (an := .slc (D.hd (hs2 10 0)) 8 (List.append an.rows ((hs1 0 0).like [Msg.mk 11 1 0 0 (Af + 1) 1 [] []]).rows)) (th := (hs0 5 0).like im') p5 (by omega) him (by simp only [List.length_append,List.length_cons,List.length_nil]; omega) ⟨hcw.ims,⟨D.like_is _ _,D.like_to _ _⟩,hcw.mp,hcw.se,⟨s1,rfl,s2⟩⟩ fun s' Af' th' an' g1 g0 g2 g3 g4 g5 ⟨l,g6,g7,g8⟩=>hk s' Af' th' an' g1 g0 (by omega) g3 g4 g5 ⟨[⟨11,1,0,0,Af + 1,1,[],[]⟩] ++ l,by rw [g6]; simp,by simp only [List.length_append,List.length_cons,List.length_nil]; omega,fun _=>?_⟩
   by_cases hx : Af + 1 < Af'
   ·obtain ⟨x,x1,x2⟩ := g8 hx
    exact ⟨x,List.mem_append_right _ x1,x2⟩
   ·exact ⟨_,List.mem_append_left _ (List.mem_singleton.2 rfl),rfl,by simp only; omega⟩
  ·have := of_decide_eq_false c2; omega
  ·have c1 := of_decide_eq_false c1
   exact hk s Af th an h hcw (Int.le_refl _) (.inl (by omega)) rfl rfl ⟨[],by simp,by simp,fun hx=>absurd hx (by omega)⟩
theorem cb_loop {o k ims mp se : D} {n i : Int} {lo c : Nat} {M a0 : List Msg} {I : List (List Vol)} {Af0 : Int} {R : Value → World → Prop} (w : World) (H : HV) (hM : lo + c = M.length) (hc : c ≤ 100000) (ha : a0.length ≤ 800000) (hI : I.length ≤ 1000) (hA0 : 0 ≤ Af0) : ∀ (q j : Nat) {s : Cas} {Af : Int} {th an : D} {l : List Msg},j + q = c → CasOk s sz A S Sf Af N K → CW ims th mp se an s → s.sent = M → s.imgs = I → s.ans = a0 ++ l → l.length ≤ 1 + j + (Af - Af0).toNat → Af0 ≤ Af → HeardTo M lo j Sf l →
  (∀ s' Af' th' an' l',CasOk s' sz A S Sf Af' N K → CW ims th' mp se an' s' → s'.sent = M → s'.imgs = I → s'.ans = a0 ++ l' → l'.length ≤ 1 + c + (Af' - Af0).toNat → HeardTo M lo c Sf l' →
   Runs Try.prog ⟨w,H⟩ (ccL n i a0.length l'.length 0 (casW 1 2 4 o k ims th' mp se an' s'.r s'.far)) R) →
  Runs Try.prog ⟨w,H⟩ (cbL n i (a0.length : Int) lo c j (casV 1 2 4 o k ims th mp se an s.r s.far)) R
 | 0,j,s,Af,th,an,l,hj,h,hcw,hsm,him,hal,hll,haf,hht,hk=>by
  obtain rfl : j = c := by omega
  have hanl : an.len = a0.length + l.length := by rw [D.Is.length (α := Msg),hcw.an.2.2,hal,List.length_append]
  refine unroll_sound rfl ?_
  apply execRE_sound ctCcOk [36] 400
  rw [cbl_go]
  simp only [Int.toNat_natCast,hanl,Nat.add_sub_cancel_left]
  exact ⟨fun h=>absurd (of_decide_eq_true h) (by omega),fun _=>⟨⟨by omega,by omega,hcw.an.1.fits⟩,by omega,hk s Af th an l h hcw hsm him hal hll hht⟩⟩
 | q + 1,j,s,Af,th,an,l,hj,h,hcw,hsm,him,hal,hll,haf,hht,hk=>by
  obtain ⟨r1,r2,r3⟩ := h.rel.range
  have ha0 := h.rel.a0
  have htop := h.rel.top
  obtain ⟨l1,l2,l3,l4⟩ := h.le
  have hN := h.len
  rw [him] at hN
  have hanl : an.len = a0.length + l.length := by rw [D.Is.length (α := Msg),hcw.an.2.2,hal,List.length_append]
  have hsel : se.len = M.length := by rw [D.Is.length (α := Msg),hcw.se.2.2,hsm]
  have hlt : lo + j < (se.to Msg).length := by rw [← D.Is.length (α := Msg)]; omega
  have hmg := msg_at hcw.se.1 hlt
  have hcell := msg_cell hcw.se.1 hlt
  have hin : (MsgD.mk (se.getInt (lo + j) 0) (se.getInt (lo + j) 1) (se.getInt (lo + j) 2) (se.getInt (lo + j) 3) (se.getInt (lo + j) 4) (se.getInt (lo + j) 5) (se.cell (lo + j) 6) (se.cell (lo + j) 7)).msg ∈ s.sent := by
   rw [hmg,← hcw.se.2.2]; exact List.getElem_mem _
  have hMj : M[lo + j]? = some (MsgD.mk (se.getInt (lo + j) 0) (se.getInt (lo + j) 1) (se.getInt (lo + j) 2) (se.getInt (lo + j) 3) (se.getInt (lo + j) 4) (se.getInt (lo + j) 5) (se.cell (lo + j) 6) (se.cell (lo + j) 7)).msg := by
   rw [hmg,← hsm,← hcw.se.2.2]; exact List.getElem?_eq_getElem hlt
  have hmm := h.far_m _ hin
  obtain ⟨x,a1,a2,a3,a4,a5,a6⟩ := h.answer hmm
  have hw1 : IntKind.i64.wrap (Af + 1) = Af + 1 := wrap64J (by omega) (by omega)
  have hwj : IntKind.i64.wrap ((j : Int) + 1) = ((j + 1 : Nat) : Int) := wrapk (by omega)
  refine unroll_sound rfl ?_
  apply execRE_sound ctCcOk [36] 400
  rw [cbl_go]
  simp only [Int.toNat_natCast,tgt_back,a1,hw1,hwj]
  refine ⟨fun _=>⟨⟨by omega,by omega,by omega,hcw.se.2.1⟩,⟨hcell.1,hcw.se.2.1⟩,fun hs0 hs1=>⟨⟨hcw.an.2.1,(D.like_is (α := Msg) _ _).fits,by simp only [like_leng,hanl,List.length_cons,List.length_nil]; omega,by simp only [like_leng,hanl,List.length_cons,List.length_nil]; omega⟩,fun hc=>?_,fun hc=>?_⟩⟩,fun h=>absurd (of_decide_eq_false h) (by omega)⟩
  all_goals
   have han := rows_app (rows_of hcw.an.1) (rows_of (D.like_is (hs0 5 0) [x]))
   rw [D.like_to,hcw.an.2.2] at han
   obtain ⟨s1,s2⟩ := is_of (h := D.hd (hs1 8 0)) (s := 8) rfl han
  ·have hne : (MsgD.mk (se.getInt (lo + j) 0) (se.getInt (lo + j) 1) (se.getInt (lo + j) 2) (se.getInt (lo + j) 3) (se.getInt (lo + j) 4) (se.getInt (lo + j) 5) (se.cell (lo + j) 6) (se.cell (lo + j) 7)).msg.kind ≠ 10 := by
    show se.getInt (lo + j) 0 ≠ 10
    simpa using hc
   exact cb_loop w H hM ‹_› ha hI hA0 q (j + 1) (an := .slc (D.hd (hs1 8 0)) 8 (List.append an.rows ((hs0 5 0).like [x]).rows)) (l := l ++ [x]) (by omega) a6 ⟨hcw.ims,hcw.th,hcw.mp,hcw.se,⟨s1,rfl,s2⟩⟩ hsm him (by simp only [hal,List.append_assoc]) (by simp only [List.length_append,List.length_cons,List.length_nil]; omega) haf
    (hht.step hMj (fun y hy=>List.mem_append_left _ hy) (fun h8=>⟨x,List.mem_append_right _ (List.mem_singleton.2 rfl),a4 h8⟩) (fun h10=>absurd h10 hne)) hk
  ·have he : (MsgD.mk (se.getInt (lo + j) 0) (se.getInt (lo + j) 1) (se.getInt (lo + j) 2) (se.getInt (lo + j) 3) (se.getInt (lo + j) 4) (se.getInt (lo + j) 5) (se.cell (lo + j) 6) (se.cell (lo + j) 7)).msg.kind = 10 := by
    show se.getInt (lo + j) 0 = 10
    simpa using hc
   refine hb_loop w H (Sf - Af).toNat (an := .slc (D.hd (hs1 8 0)) 8 (List.append an.rows ((hs0 5 0).like [x]).rows)) (th := th) a6 rfl (by simp only [him]; exact hI) (by simp only [hal,List.length_append,List.length_cons,List.length_nil]; omega) ⟨hcw.ims,hcw.th,hcw.mp,hcw.se,⟨s1,rfl,s2⟩⟩ fun s' Af' th' an' g1 g0 g2 g3 g4 g5 ⟨l',g6,g7,g8⟩=>?_
   rw [hwj]
   have hl3 : (l ++ [x] ++ l').length ≤ 1 + (j + 1) + (Af' - Af0).toNat := by
    simp only [List.length_append,List.length_cons,List.length_nil]; exact heard_len hll g7 haf g2
   refine cb_loop w H hM ‹_› ha hI hA0 q (j + 1) (l := l ++ [x] ++ l') (by omega) g1 g0 (g4.trans hsm) (g5.trans him) (by rw [g6]; simp only [hal,List.append_assoc]) hl3 (Int.le_trans haf g2)
    (hht.step hMj (fun y hy=>List.mem_append_left _ (List.mem_append_left _ hy)) (fun h8=>absurd (he.symm.trans h8) (by decide)) (fun _=>?_)) hk
   by_cases hx : Af < Af'
   ·obtain ⟨y,y1,y2,y3⟩ := g8 hx
    exact ⟨y,List.mem_append_right _ y1,y2,by rw [y3]; exact g3⟩
   ·have h5 := a5 he
    exact ⟨x,List.mem_append_left _ (List.mem_append_right _ (List.mem_singleton.2 rfl)),h5.1,by rw [h5.2,show Af = Af' from Int.le_antisymm g2 (Int.not_lt.1 hx)]; exact g3⟩
end
end Sv
end
noncomputable section
open Go Go.Proofs Sx
namespace Sv
def caG (n i : Int) : SFrm := SFrm.mk 10 (some (oA 10 [1,1,1,0,1,0,0,1,1,0,0,1,1,1,1,1,0],[2])) (some 83) [Item.code (cA 10 [1,1,1,0,1,0,0,1,1,0,0,1,1,1,1,1,1]),Item.inBlock 1,Item.code (cA 10 [1,1,1,0,1,0,0,1,1,1]),Item.inLoop (cA 10 [1,1,1,0,1,0,0]),Item.inBlock 0,Item.code (cA 10 [1,1,1,1])] (mkJ 0 [(5,.ptr 100000 0),(33,.int .i64 n),(34,.int .i64 i)] 0 115)
section
variable (l o k ims th mp se an : D) (r : Rl) (far : Tgt) (n i : Int)
theorem cal_k2 : execRE Try.prog ctCc [] 400 (backC (caG n i) (casM o k ims th mp se an r far)) =
 Tree.leaf
 (Conf.mk
 (SFrm.mk 10 none none
 [Item.inLoop (cA 10 [1,1,1,0,1,0,0]),Item.inBlock 0,Item.code (cA 10 [1,1,1,1])]
 (mkJ 0
 [(5,.ptr 100000 0),(33,.int .i64 n),(34,.int .i64 (IntKind.wrap .i64 (i + 1)))]
 0 115))
 []
 [(1,OBlk.arr 23 ims),(3,OBlk.arr 72 se),(4,OBlk.arr 72 an),
 (100000,
 OBlk.cells 82
 [.int .i64 (Tgt.epoch (Rl.near r)),.int .i64 (Tgt.site (Rl.near r)),
 .int .i64 (Tgt.stored (Rl.near r)),.int .i64 (Tgt.applied (Rl.near r)),
 .int .i64 (Tgt.epoch (Rl.far r)),.int .i64 (Tgt.site (Rl.far r)),
 .int .i64 (Tgt.stored (Rl.far r)),.int .i64 (Tgt.applied (Rl.far r)),
 .int .i64 (Src.epoch (Rl.src r)),.int .i64 (Src.site (Rl.src r)),
 .dat (D.like o (Src.offered (Rl.src r))),.int .i64 (Src.stored (Rl.src r)),
 .int .i64 (Src.applied (Rl.src r)),.dat (D.like k (Rl.kept r)),
 .int .i64 (Tgt.epoch far),.int .i64 (Tgt.site far),.int .i64 (Tgt.stored far),
 .int .i64 (Tgt.applied far),.vec 1,.dat th,.mapp 100001,.vec 3,.vec 4]),
 (100001,
 OBlk.mapD .i64 true [FT.int .i64,FT.int .i64,FT.int .i64,FT.slc,FT.slc] mp)]) := by kernel_rfl
end
end Sv
end
noncomputable section
open Go Go.Proofs Sx
namespace Sx
def LearntTo (M : List Msg) (lo j : Nat) (S A : Int) : Prop := ∀ (i : Nat) (m : Msg),i < j → M[lo + i]? = some m → (m.kind = 9 → m.value ≤ S) ∧ (m.kind = 11 → m.value ≤ A)
theorem LearntTo.step {M : List Msg} {lo j : Nat} {S A S' A' : Int} {m : Msg} (h : LearntTo M lo j S A) (hm : M[lo + j]? = some m) (hS : S ≤ S') (hA : A ≤ A') (h9 : m.kind = 9 → m.value ≤ S') (h11 : m.kind = 11 → m.value ≤ A') : LearntTo M lo (j + 1) S' A' := by
 intro i m' hi hm'
 by_cases hij : i = j
 ·subst hij
  rw [hm] at hm'
  cases hm'
  exact ⟨h9,h11⟩
 ·obtain ⟨g1,g2⟩ := h i m' (by omega) hm'
  exact ⟨fun h=>Int.le_trans (g1 h) hS,fun h=>Int.le_trans (g2 h) hA⟩
theorem at_back {M a l : List Msg} (h : M = a ++ l) {x : Msg} (hx : x ∈ l) : ∃ i,i < l.length ∧ M[a.length + i]? = some x := by
 obtain ⟨i,hi,he⟩ := List.mem_iff_getElem.1 hx
 refine ⟨i,hi,?_⟩
 rw [h,List.getElem?_append_right (by omega),Nat.add_sub_cancel_left,List.getElem?_eq_getElem hi,he]
end Sx
namespace Sv
section
variable {sz : List Int} {Sf Af N : Int}
theorem cc_loop {ims th mp an : D} {n i : Int} {lo c : Nat} {M : List Msg} {I : List (List Vol)} {A0 S0 : Int} {k0 b0 : Nat} {R : Value → World → Prop} (w : World) (H : HV) (hM : lo + c = M.length) (hc : c ≤ 100000) (hMl : M.length ≤ 900000) (hI : I.length ≤ 1000) (hb : b0 + c ≤ 900000) : ∀ (q j : Nat) {s : Cas} {A S : Int} {K : List Cy} {o k se : D},j + q = c → CasOk s sz A S Sf Af N K → CW ims th mp se an s → s.ans = M → s.imgs = I → A0 ≤ A → S0 ≤ S → K.length ≤ k0 → s.sent.length ≤ b0 + j → LearntTo M lo j S A →
  (∀ s' A' S' K',CasOk s' sz A' S' Sf Af N K' → s'.ans = M → s'.imgs = I → A0 ≤ A' → S0 ≤ S' → K'.length ≤ k0 → s'.sent.length ≤ b0 + c → LearntTo M lo c S' A' → ∀ mm,CasMem s' mm → Runs Try.prog ⟨w,H⟩ (caL n (IntKind.i64.wrap (i + 1)) mm) R) →
  Runs Try.prog ⟨w,H⟩ (ccL n i lo c j (casW 1 2 4 o k ims th mp se an s.r s.far)) R
 | 0,j,s,A,S,K,o,k,se,hj,h,hcw,hal,him,hA,hS,hK,hse,hlt,hk=>by
  obtain rfl : j = c := by omega
  refine unroll_sound rfl ?_
  apply execRE_sound ctCcOk [36] 400
  rw [ccl_go]
  refine ⟨fun h=>absurd (of_decide_eq_true h) (by omega),fun _=>?_⟩
  refine cmeth_law (cri_meth h ⟨by omega,by rw [hal]; exact hMl,by rw [him]; exact hI⟩) (g := caG n i) (casM o k ims th mp se an s.r s.far) ⟨_,_,_,_,_,_,_,hcw,rfl⟩ fun s2 m3 hst hm3=>?_
  subst hst
  have hm0 := hm3
  obtain ⟨o,k,ims,th,mp,se,an,hcw,he⟩ := hm3
  subst he
  apply execRE_sound ctCcOk [] 400
  rw [cal_k2]
  exact runs_cas (hk s2 A S K h hal him hA hS hK hse hlt _ hm0)
 | q + 1,j,s,A,S,K,o,k,se,hj,h,hcw,hal,him,hA,hS,hK,hse,hlt,hk=>by
  obtain ⟨r1,r2,r3⟩ := h.rel.range
  have ha0 := h.rel.a0
  have htop := h.rel.top
  obtain ⟨l1,l2,l3,l4⟩ := h.le
  have hN := h.len
  rw [him] at hN
  have hsel : se.len = s.sent.length := by rw [D.Is.length (α := Msg),hcw.se.2.2]
  have hanl : an.len = M.length := by rw [D.Is.length (α := Msg),hcw.an.2.2,hal]
  have hlx : lo + j < (an.to Msg).length := by rw [← D.Is.length (α := Msg)]; omega
  have hmg := msg_at hcw.an.1 hlx
  have hcell := msg_cell hcw.an.1 hlx
  have hin : (MsgD.mk (an.getInt (lo + j) 0) (an.getInt (lo + j) 1) (an.getInt (lo + j) 2) (an.getInt (lo + j) 3) (an.getInt (lo + j) 4) (an.getInt (lo + j) 5) (an.cell (lo + j) 6) (an.cell (lo + j) 7)).msg ∈ s.ans := by
   rw [hmg,← hcw.an.2.2]; exact List.getElem_mem _
  have hMj : M[lo + j]? = some (MsgD.mk (an.getInt (lo + j) 0) (an.getInt (lo + j) 1) (an.getInt (lo + j) 2) (an.getInt (lo + j) 3) (an.getInt (lo + j) 4) (an.getInt (lo + j) 5) (an.cell (lo + j) 6) (an.cell (lo + j) 7)).msg := by
   rw [hmg,← hal,← hcw.an.2.2]; exact List.getElem?_eq_getElem hlx
  obtain ⟨q1,q2,q3⟩ := h.near_m _ hin
  obtain ⟨A',S',K',g1,g2,g3,g4,g5,g6,g7⟩ := h.learn q1 q2 q3
  have hwj : IntKind.i64.wrap ((j : Int) + 1) = ((j + 1 : Nat) : Int) := wrapk (by omega)
  refine unroll_sound rfl ?_
  apply execRE_sound ctCcOk [36] 400
  rw [ccl_go]
  simp only [Int.toNat_natCast,rl_backR,hwj]
  refine ⟨fun _=>⟨⟨by omega,by omega,by omega,hcw.an.2.1⟩,⟨hcell.1,hcw.an.2.1⟩,fun hs0=>⟨h.rlok o k,fun hs1=>⟨⟨hcw.se.2.1,(D.like_is (α := Msg) _ _).fits,by simp only [like_leng]; omega,by simp only [like_leng]; omega⟩,?_⟩⟩⟩,fun h=>absurd (of_decide_eq_false h) (by omega)⟩
  have hsx := rows_app (rows_of hcw.se.1) (rows_of (D.like_is (hs0 5 2) (learnRl s.r (MsgD.mk (an.getInt (lo + j) 0) (an.getInt (lo + j) 1) (an.getInt (lo + j) 2) (an.getInt (lo + j) 3) (an.getInt (lo + j) 4) (an.getInt (lo + j) 5) (an.cell (lo + j) 6) (an.cell (lo + j) 7)).msg).2))
  rw [D.like_to,hcw.se.2.2] at hsx
  obtain ⟨s1,s2⟩ := is_of (h := D.hd (hs1 8 0)) (s := 8) rfl hsx
  exact cc_loop w H hM hc hMl hI hb q (j + 1) (o := hs0 5 0) (k := hs0 5 1) (se := .slc (D.hd (hs1 8 0)) 8 (List.append se.rows ((hs0 5 2).like (learnRl s.r (MsgD.mk (an.getInt (lo + j) 0) (an.getInt (lo + j) 1) (an.getInt (lo + j) 2) (an.getInt (lo + j) 3) (an.getInt (lo + j) 4) (an.getInt (lo + j) 5) (an.cell (lo + j) 6) (an.cell (lo + j) 7)).msg).2).rows))
   (by omega) g1 ⟨hcw.ims,hcw.th,hcw.mp,⟨s1,rfl,s2⟩,hcw.an⟩ hal him (Int.le_trans hA g2) (Int.le_trans hS g3) (Nat.le_trans g4 hK) (by simp only [List.length_append]; omega) (hlt.step hMj g3 g2 g6 g7) hk
end
end Sv
end
noncomputable section
open Go Go.Proofs Sx
namespace Sx
theorem round_step {a0 l0 rs : List Msg} {M Q : List Msg} {A S A' S' Sf N : Int} (hM : M = a0 ++ rs) {q0 l : List Msg} (hQ : Q = q0 ++ l) (hh : HeardTo M a0.length rs.length Sf l) (hl : LearntTo Q q0.length l.length S' A') (h1 : A < S → ∃ x,x ∈ rs ∧ x.kind = 10 ∧ x.number = S) (h2 : S < N → ∃ x,x ∈ rs ∧ x.kind = 8)
  (hSf : S ≤ Sf) (hS : S < N → S + 1 ≤ Sf) (gA : A ≤ A') (gS : S ≤ S') : (S < N → S + 1 ≤ S') ∧ S ≤ A' := by
 constructor
 ·intro h
  obtain ⟨m,m1,m2⟩ := h2 h
  obtain ⟨i,i1,i2⟩ := at_back hM m1
  obtain ⟨x,x1,x2,x3⟩ := (hh i m i1 i2).1 m2
  obtain ⟨j,j1,j2⟩ := at_back hQ x1
  have h3 := (hl j x j1 j2).1 x2
  have h4 := hS h
  rw [x3] at h3
  exact Int.le_trans h4 h3
 ·by_cases h : A < S
  ·obtain ⟨m,m1,m2,m3⟩ := h1 h
   obtain ⟨i,i1,i2⟩ := at_back hM m1
   obtain ⟨x,x1,x2,x3⟩ := (hh i m i1 i2).2 m2
   obtain ⟨j,j1,j2⟩ := at_back hQ x1
   have h3 := (hl j x j1 j2).2 x2
   rcases x3 with x3 | x3
   ·rw [m3] at x3; exact Int.le_trans x3 h3
   ·exact Int.le_trans hSf (Int.le_trans x3 h3)
  ·exact Int.le_trans (Int.not_lt.1 h) gA
end Sx
namespace Sv
def RoundC (s : Cas) (sz : List Int) (N : Int) (i : Nat) : Prop := ∃ A S Sf Af K,CasOk s sz A S Sf Af N K ∧ K.length ≤ 60 ∧ s.imgs.length ≤ 61 ∧ s.sent.length ≤ 20000 + 1000 * i ∧ s.ans.length ≤ 20000 + 1000 * i ∧ ((i : Int) ≤ S ∨ N ≤ S) ∧ ((i : Int) ≤ A + 1 ∨ N ≤ A)
theorem ca_loop {sz : List Int} {N : Int} {M : Nat} (hM : (M : Int) = 3 * (N + 1)) (w : World) (H : HV) : ∀ (q i : Nat) {s : Cas} {mm : Mem},i + q = M → RoundC s sz N i → CasMem s mm → Runs Try.prog ⟨w,H⟩ (caL M i mm) (RetS w H (.lb true))
 | 0,i,s,mm,hi,hr,hm=>by
  obtain rfl : i = M := by omega
  obtain ⟨A,S,Sf,Af,K,h,h1,h2,h3,h4,h5,h6⟩ := hr
  obtain ⟨o,k,ims,th,mp,se,an,hcw,he⟩ := hm
  subst he
  obtain ⟨r1,r2,r3⟩ := h.rel.range
  have ha0 := h.rel.a0
  obtain ⟨l1,l2,l3,l4⟩ := h.le
  have hN := h.len
  have hA : A = N := by omega
  have hK := h.none hA
  have hlag := h.lag.2
  have hil : ims.len = s.imgs.length := by rw [D.Is.length (α := List Vol),hcw.ims.2.2]
  have hw1 : IntKind.i64.wrap ((ims.len : Int) - 1) = N := by rw [wrap64J (by omega) (by omega)]; omega
  have c1 : decide (s.far.applied = N) = true := decide_eq_true (by rw [h.far]; show Af = N; omega)
  have c2 : decide (((k.like s.r.kept).len : Int) = 0) = true := decide_eq_true (by rw [like_leng,h.r]; show ((K.length : Nat) : Int) = 0; rw [hK]; rfl)
  refine unroll_sound rfl ?_
  apply execRE_sound ctCcOk [33,36] 400
  rw [cal_go]
  simp only [hw1,rl_backR,hlag]
  refine ⟨fun h=>absurd (of_decide_eq_true h) (by omega),fun _ hs0=>⟨fun _=>⟨fun _=>?_,fun h=>absurd (c2.symm.trans h) (by decide)⟩,fun h=>absurd (c1.symm.trans h) (by decide)⟩⟩
  iterate 8 refine ⟨c1,?_⟩
  iterate 5 refine ⟨c2,?_⟩
  refine ⟨h.rlok o k,c2,c2,?_⟩
  exact leaf_ret (f := Try.f10) (l := [.bool (decide (N - A = 0))]) (by kernel_rfl) (by kernel_rfl) (ret_S fun _ _=>by simp [one?,SV.den,hA])
 | q + 1,i,s,mm,hi,hr,hm=>by
  obtain ⟨A,S,Sf,Af,K,h,h1,h2,h3,h4,h5,h6⟩ := hr
  obtain ⟨o,k,ims,th,mp,se,an,hcw,he⟩ := hm
  subst he
  obtain ⟨r1,r2,r3⟩ := h.rel.range
  have ha0 := h.rel.a0
  obtain ⟨l1,l2,l3,l4⟩ := h.le
  have hN := h.len
  have hsel : se.len = s.sent.length := by rw [D.Is.length (α := Msg),hcw.se.2.2]
  have hanl : an.len = s.ans.length := by rw [D.Is.length (α := Msg),hcw.an.2.2]
  obtain ⟨g1,g2,g3,g4⟩ := h.resend
  refine unroll_sound rfl ?_
  apply execRE_sound ctCcOk [33,36] 400
  rw [cal_go]
  simp only [src_back,hsel,hanl]
  refine ⟨fun _ hs0 hs1=>⟨D.like_is _ _,⟨hcw.se.2.1,(D.like_is (α := Msg) _ _).fits,by simp only [like_leng]; omega,by simp only [like_leng]; omega⟩,?_⟩,fun h=>absurd (of_decide_eq_false h) (by omega)⟩
  have hsx := rows_app (rows_of hcw.se.1) (rows_of (D.like_is (hs1 10 0) (resend s.r.src)))
  rw [D.like_to,hcw.se.2.2] at hsx
  obtain ⟨s1,s2⟩ := is_of (h := D.hd (hs1 11 0)) (s := 8) rfl hsx
  refine cmeth_law (cda_meth g1 ⟨by simp only [List.length_append]; omega,by simp only; omega,by simp only; omega⟩) (g := caF M i (s.sent.length : Nat) (s.ans.length : Nat)) (casM o k ims th mp (.slc (D.hd (hs1 11 0)) 8 (List.append se.rows ((hs1 10 0).like (resend s.r.src)).rows)) an s.r s.far)
   ⟨_,_,_,_,_,_,_,⟨hcw.ims,hcw.th,hcw.mp,⟨s1,rfl,s2⟩,hcw.an⟩,rfl⟩ fun sx m'' hst hm''=>?_
  obtain ⟨Sf2,p1,p2,p3,p4,l0,p5,p6,p7⟩ := hst
  simp only at p3 p4 p5
  clear hcw s1 s2 hsx hsel hanl
  obtain ⟨o,k,ims,th,mp,se,an,hcw,he⟩ := hm''
  subst he
  have hsel : se.len = s.sent.length + (resend s.r.src).length := by rw [D.Is.length (α := Msg),hcw.se.2.2,p3,List.length_append]
  apply execRE_sound ctCcOk [36] 400
  rw [cal_k1]
  simp only [Int.toNat_natCast,hsel,Nat.add_sub_cancel_left]
  refine ⟨⟨by omega,by omega,hcw.se.1.fits⟩,by omega,?_⟩
  have hSf : S < N → S + 1 ≤ Sf2 := fun hS=>by
   by_cases hx : S = Sf
   ·have := (p7 hx hS).1; omega
   ·omega
  refine cb_loop w H (by simp only [List.length_append]) (by omega) (by omega) (by rw [p4]; omega) (by omega) (resend s.r.src).length 0 (Af0 := Af) (l := l0) (I := sx.imgs) (by omega) p1 hcw p3 rfl p5 (by omega) (Int.le_refl _) (fun _ _ hx=>absurd hx (by omega)) fun s3 Af3 th3 an3 l3 k1 k2 k3 k4 k5 k6 k7=>?_
  obtain ⟨v1,v2,v3,v4⟩ := k1.le
  have hl3 : l3.length ≤ 200 := by omega
  refine cc_loop w H (M := s3.ans) (by rw [k5,List.length_append]) (by omega) (by rw [k5,List.length_append]; omega) (I := s3.imgs) (by rw [k4,p4]; omega) (b0 := s3.sent.length) (by rw [k3,List.length_append]; omega) l3.length 0 (A0 := A) (S0 := S) (k0 := K.length) (by omega) k1 k2 rfl rfl (Int.le_refl _) (Int.le_refl _) (Nat.le_refl _) (Nat.le_refl _) (fun _ _ hx=>absurd hx (by omega)) fun s4 A4 S4 K4 f1 f2 f3 f4 f5 f6 f7 f8 mm hmm=>?_
  rw [wrapk (by omega)]
  obtain ⟨e1,e2⟩ := round_step (l0 := []) (M := s.sent ++ resend s.r.src) (Q := s3.ans) rfl k5 k7 f8 g3 g4 (by omega) hSf f4 f5
  obtain ⟨y1,y2,y3⟩ := f1.rel.range
  clear p7 g3 g4 k7 f8
  refine ca_loop hM w H q (i + 1) (by omega) ⟨A4,S4,Sf2,Af3,K4,f1,by omega,by rw [f3,k4,p4]; omega,?_,?_,?_,?_⟩ hmm
  ·rw [k3,List.length_append] at f7; omega
  ·rw [f2,k5,List.length_append]; omega
  ·by_cases hS : S < N
   ·have := e1 hS; omega
   ·omega
  ·omega
def spTcc (x : D × D) : SpecR := .scalar [(x.1.Is Vol ∧ x.1.len * 24 ≤ 140737488355328) ∧ x.2.Is Hop] (.lb true)
theorem lawTcc : Law Try.prog 10 ((rdD.two rdD).sp spTcc) := by
 refine law_in _ (by kernel_rfl) fun H w ⟨im,l⟩ hok hp=>?_
 obtain ⟨hi,hl⟩ := hp _ (List.mem_singleton.2 rfl)
 apply execRE_sound ctHpOk [11] 400
 rw [show (rdD.two rdD).canon (im,l) = [.dat im,.dat l] from rfl,tcc_in]
 refine runs_new (by kernel_rfl) (fun H _=>rh_runs hi hl w H) fun v m hv=>?_
 rcases hv with ⟨rfl,rfl⟩ | ⟨rfl,s,sz,t,hr,hm⟩
 ·refine (show Runs Try.prog ⟨w,H⟩ (backV (.tup [.nilp,.lb false,.lb true]) tccF []) _ from ?_)
  apply execRE_sound ctCcOk [] 400
  rw [tcc_k0]
  exact leaf_ret (f := Try.f10) (l := [.lb true]) (by kernel_rfl) (by kernel_rfl) ret_lbt
 ·have hm0 := hm
  obtain ⟨o,k,ims,th,mp,se,an,hcw,rfl⟩ := hm
  obtain ⟨A,S,Sf,Af,N,K,h1,h2,h3,h4,h5,h6⟩ := hr
  obtain ⟨r1,r2,r3⟩ := h1.rel.range
  have ha0 := h1.rel.a0
  have hN := h1.len
  have hil : ims.len = s.imgs.length := by rw [D.Is.length (α := List Vol),hcw.ims.2.2]
  have hw1 : IntKind.i64.wrap (3 * (ims.len : Int)) = ((3 * s.imgs.length : Nat) : Int) := by rw [wrap64J (by omega) (by omega)]; omega
  refine (show Runs Try.prog ⟨w,H⟩ (backV (.tup [.ptr 100000 0,.lb true,.lb true]) tccF (casM o k ims th mp se an s.r s.far)) _ from ?_)
  apply execRE_sound ctCcOk [] 400
  rw [tcc_k1,hw1]
  exact runs_cas (ca_loop (N := N) (by omega) w H (3 * s.imgs.length) 0 (by omega) ⟨A,S,Sf,Af,K,h1,by omega,by omega,by omega,by omega,by omega,by omega⟩ hm0)
end Sv
end
