/- The reference's lists. -/
import Derived.Test.YtodhhmjilnfecaaUT8toUT29
import Derived.Test.YtodhhmjilnfecaaOvtoUT7
import Derived.KernelRfl
set_option linter.all false
section
open Go
namespace Sx
def cntI (l : List Int) (n : Int) : Nat := l.foldl (fun k x => if x = n then k + 1 else k) 0
theorem cntI_step {l : List Int} {n : Int} {j : Nat} (hj : j < l.length) : cntI (l.take (j + 1)) n = if l[j] = n then cntI (l.take j) n + 1 else cntI (l.take j) n := by
  unfold cntI
  rw [List.take_succ_eq_append_getElem hj, List.foldl_append]
  rfl
theorem cntI_le (l : List Int) (n : Int) : cntI l n ≤ l.length := by
  have : ∀ (l : List Int) (k : Nat), l.foldl (fun k x => if x = n then k + 1 else k) k ≤ k + l.length := by
    intro l
    induction l with
    | nil => intro k; simp
    | cons x r ih =>
      intro k
      rw [List.foldl_cons, List.length_cons]
      by_cases h : x = n
      · rw [if_pos h]; have := ih (k + 1); omega
      · rw [if_neg h]; have := ih k; omega
  have := this l 0; unfold cntI; omega
def spCnt (x : D × Int) : SpecR := .scalar [x.1.Is Int ∧ x.1.len ≤ 1048576] (.int .i64 (cntI (x.1.to Int) x.2))
def spAckd (x : HiD × Int) : SpecR := .scalar [x.1.e.Is Ev ∧ x.1.e.len ≤ 1048576] (.bool (decide (atEv (x.1.e.to Ev) ⟨1, x.2⟩ ≥ 0)))
end Sx
end
section
open Go Go.Proofs Sx
namespace Go.Proofs.Ytodhhmjilnfecaa
set_option maxRecDepth 100000

theorem ctAtOk : Ctrs.Ok Try.prog ctAt := by
  intro x hx; rw [List.mem_singleton.1 hx]; exact ctrOf_ok lawAt
theorem lawAckd : Law Try.prog 58 ((rdHi.two rdInt).sp spAckd) := by
  refine law_in _ (by kernel_rfl) fun H w ⟨⟨ha, hb, hc⟩, n⟩ hok hp => ?_
  have hd : hc.Is Ev ∧ hc.len ≤ 1048576 := hp _ (List.mem_singleton.2 rfl)
  apply exec_sound ctAtOk 200
  rw [show (rdHi.two rdInt).canon (⟨ha, hb, hc⟩, n) = [.agg [.dat ha, .dat hb, .dat hc], .int .i64 n] from rfl, akd_in]
  exact ⟨hd, ret_bool rfl⟩
theorem lawCnt : Law Try.prog 67 ((rdD.two rdInt).sp spCnt) := by
  refine law_in _ (by kernel_rfl) fun H w ⟨d, n⟩ hok hp => ?_
  obtain ⟨hd, hlen⟩ := hp _ (List.mem_singleton.2 rfl)
  simp only at hd hlen
  have hl := D.Is.length (α := Int) d
  apply exec_sound (noCtr _) 200
  rw [show (rdD.two rdInt).canon (d, n) = [.dat d, .int .i64 n] from rfl, cnt_in]
  refine runs_loop (fun j : Nat => cntL d n (cntI ((d.to Int).take j) n : Nat) j) (fun j => j ≤ (d.to Int).length) (fun j => (d.to Int).length - j) (fun _ => rfl) ?_ 0 (Nat.zero_le _)
  intro j hj ih
  apply exec_sound (noCtr _) 200
  rw [cnt_go]
  refine ⟨fun hc => ?_, fun hc => ret_int ?_⟩
  · have hc : j < (d.to Int).length := by have := of_decide_eq_true hc; omega
    obtain ⟨c1, c2, c3⟩ := int_at hd hc
    have hst := cntI_step (n := n) hc
    have hle := cntI_le ((d.to Int).take j) n
    rw [List.length_take] at hle
    have := ih (j + 1) hc (by omega)
    rw [← wrap_succ hc (by omega), hst] at this
    rw [c3]
    refine ⟨c1, c2, fun h => ?_, fun h => ?_⟩
    · rw [if_pos (of_decide_eq_true h)] at this
      rw [← wrap_succ (n := 1048576) (by omega) (by omega)] at this
      exact this
    · rw [if_neg (of_decide_eq_false h)] at this
      exact this
  · have : j = (d.to Int).length := by have := of_decide_eq_false hc; omega
    subst this
    rw [List.take_length]
end Go.Proofs.Ytodhhmjilnfecaa
end
section
namespace Sx
open Go RowKit

def vCtr (spec : List SV → SpecR) : Ctr := fun args _ m => match args with
  | [.view k s lo n, x] => match m.get k with
    | some (.arr _ d) => match spec [.dat (d.sub lo (lo + n)), x] with
      | .scalar ps v => match v.flat && x.flat with
        | true => .val ((d.sz = s ∧ lo + n ≤ d.len) :: ps) v m
        | false => .bad
      | _ => .bad
    | _ => .bad
  | _ => .bad

theorem vCtr_ro {spec : List SV → SpecR} : CtrRO (vCtr spec) := by
  intro args key m h
  have hb : vCtr spec args key m = .bad := by
    unfold vCtr
    split
    · split
      · rename_i hg
        exact (roM_arr h hg).elim
      · rfl
    · rfl
  rw [hb]
  trivial

theorem vCtr_ok {P : Program} {f : FuncId} {spec : List SV → SpecR} (h : Law P f spec) : CtrOk P f (vCtr spec) := by
  refine ⟨bodied_spec h.1, fun C E H w args key m g hargs hk hk2 => ?_, vCtr_ro⟩
  unfold CallRight vCtr
  split
  · rename_i r ps v m2 heq
    split at heq
    · rename_i k s lo n x
      split at heq
      · rename_i e d hg
        split at heq
        · rename_i ps1 v1 hs
          split at heq
          · rename_i hfl
            cases heq
            simp only [Bool.and_eq_true] at hfl
            intro hp
            obtain ⟨p1, p2⟩ := hp _ List.mem_cons_self
            have hp' : ∀ p, p ∈ ps1 → p := fun p hp1 => hp p (List.mem_cons_of_mem _ hp1)
            obtain ⟨H1, hle, g1, hdok, _⟩ := pubR_spec g (.vec k)
            obtain ⟨hd, sz, rows, rfl, hv, _⟩ := g.own k _ (Mem.get_mem hg)
            have hd1 := hdok (D.slc hd sz rows) (by simp [dataOf, hg]) (by simp [SV.Ok])
            have hsub := (sub_ok hd1 (l := lo) (h := lo + n) (by omega) p2).1
            have hx1 : x.Ok H1 := by cases x <;> simp [SV.flat] at hfl <;> simp [SV.Ok]
            have hl := h.2 H1 E [.dat ((D.slc hd sz rows).sub lo (lo + n)), x] ⟨⟨hsub, _, _, _, rfl⟩, hx1, trivial⟩
            rw [hs] at hl
            have hc := hl hp' w g1.cell
            have e1 : SV.denL E [.dat ((D.slc hd sz rows).sub lo (lo + n)), x] = SV.denL E [.view k s lo n, x] := by
              simp only [D.len, D.rows] at p2
              simp only [D.sz] at p1
              subst p1
              have e2 : ((rows.drop lo).take n).length = n := by rw [List.length_take, List.length_drop]; omega
              simp only [SV.denL, SV.den, hv, D.sub, D.val, D.hd, D.rows, D.sz, Nat.add_sub_cancel_left, e2]
              rfl
            rw [e1] at hc
            refine Calls.mono hc fun e w' ⟨u, H', he, ha, hu⟩ => ?_
            refine ⟨E, H, by rw [he, hu], Agree.refl _ _, HLe.refl _, g.call ha.below (HLe.refl _) (fun _ _ _ h => .inl h) (fun b o v hb => ha.cell b o v (ha.le b o v (hle b o v hb))), ?_⟩
            refine ⟨by cases v <;> simp [SV.flat] at hfl <;> simp [SV.Ok], ha.below.size, fun b hb _ => ha.below.block b hb, fun _ _ _ h => .inl h, fun k o h => .inr ⟨o, h⟩, fun k o h hl => .inr ⟨k, o, h, hl, rfl⟩, ha.below.os, ha.below.tape, ha.below.output⟩
          · cases heq
        · cases heq
      · cases heq
    · cases heq
  · rename_i r ps g heq
    split at heq
    · split at heq
      · split at heq
        · split at heq <;> cases heq
        · cases heq
      · cases heq
    · cases heq
  · trivial
def lCtr (spec : OSpec) : Ctr := fun args key m =>
  match spec (closeL (pubsR (leavesL args) m) args) with
  | some (ps, e, mk) => .all ps fun hs => (.vec key, (key, .arr e (mk (hs 0))) :: m)
  | none => .bad

theorem lCtr_ro {spec : OSpec} : CtrRO (lCtr spec) := by
  intro args key m h
  unfold lCtr
  cases hs : spec (closeL (pubsR (leavesL args) m) args) with
  | none => trivial
  | some x =>
    obtain ⟨ps, e, mk⟩ := x
    simp only
    intro hs hk
    have := keysEq_len hk
    simp at this

theorem lCtr_ok {P : Program} {f : FuncId} {spec : OSpec} (h : OLaw P f spec) (hfl : ∀ args ps e mk, spec args = some (ps, e, mk) → ∀ (hd : D) (H : HV) r, r ∈ (mk hd).rows → ∀ x, x ∈ r → D.Ok H x) : CtrOk P f (lCtr spec) := by
  refine ⟨bodied_spec h.1, fun C E H w args key m g hargs hk hk2 => ?_, lCtr_ro⟩
  obtain ⟨H1, hle, g1, nw⟩ := pubsR_spec (leavesL args) g
  obtain ⟨e1, e2⟩ := closeL_spec g1 args (SV.OkL.mono hle _ hargs)
  have hl := h.2 H1 E _ e2
  unfold CallRight lCtr
  cases hs : spec (closeL (pubsR (leavesL args) m) args) with
  | none => simp
  | some x =>
    obtain ⟨ps, e, mk⟩ := x
    have hfl := hfl _ ps e mk hs
    simp only [hs] at hl ⊢
    intro hp
    have hc := hl hp w g1.cell
    rw [e1] at hc
    refine Calls.mono hc fun r w' ⟨u, hr, E1, H', k, hd, hu, g2⟩ => ?_
    have hHH : HLe H H' := hle.trans g2.ext
    have g3 := g.call g2.below (HLe.refl _) (fun _ _ _ h => .inl h) (fun b o v hb => g2.cell b o v (hHH b o v hb))
    have o2 := g2.own k _ (List.mem_singleton.2 rfl)
    have ha := E.agree_setV key (E1.b k) (E1.v k)
    have hbE : (E.setV key (E1.b k) (E1.v k)).b key = E1.b k := by simp [Env.setV]
    have hvE : (E.setV key (E1.b k) (E1.v k)).v key = E1.v k := by simp [Env.setV]
    obtain ⟨hh, sz, rows, q1, q2, q3, q4, q5, q6⟩ := o2
    have hlow : OBlk.Lies (.arr e (mk hd)) → w.heap.size ≤ E1.b k := by
      intro hl
      rw [q1] at hl q3
      simp only [OBlk.Lies, D.hd] at hl
      cases hh with
      | none => exact absurd rfl hl
      | some ac =>
        obtain ⟨a, c⟩ := ac
        obtain ⟨_, h3⟩ := q3
        have hq6 := (q6 a c rfl).1
        rcases h3 with ⟨h3, _⟩ | ⟨g', cap, cur, h3, h4, _⟩
        · simp [D.val, hval] at h3
        · simp only [D.val, hval, Value.slice.injEq, Option.some.injEq] at h3
          have h5 : E1.b k = g' := by have := h3.1; rw [hq6] at this; exact congrArg Addr.block this
          rw [h5]; exact h4
    have hnone : ∀ b, (∀ o, H' b o = none) → ∀ o, H b o = none := fun b hb o => by
      cases hx : H b o with
      | none => rfl
      | some v => have := hHH b o v hx; rw [hb o] at this; cases this
    have g4 : Good C ((key, .arr e (mk hd)) :: m) (E.setV key (E1.b k) (E1.v k)) H w' := by
      refine g3.cons hk ha (Below.refl _ _) ⟨hh, sz, rows, q1, by rw [hvE]; exact q2, ownsRow_mono q3 g.below.size, q4, fun r hr x hx => hfl hd H r (by rw [q1]; exact hr) x hx, fun a c hac => ?_⟩ (fun hl j p hj hlp => ?_)
      · rw [hbE]; exact ⟨(q6 a c hac).1, hnone _ (q6 a c hac).2⟩
      · rw [hbE]
        have h1 := hlow hl
        have h2 := (g.own j p hj).lt hlp
        omega
    refine ⟨fun _ => hd, E.setV key (E1.b k) (E1.v k), H, by rw [hr, hu]; simp [SV.den, hvE], ha, HLe.refl _, g4, by simp [SV.Ok], ?_⟩
    refine ⟨g2.below.size, fun b hb _ => g2.below.block b hb, fun b x v hx => .inl hx, fun j o hj => ?_, fun j o hj hl => ?_, g2.below.os, g2.below.tape, g2.below.output⟩
    · rcases List.mem_cons.1 hj with hj | hj
      · exact Or.inl (congrArg Prod.fst hj)
      · exact .inr ⟨o, hj⟩
    · rcases List.mem_cons.1 hj with hj | hj
      · have e1 : j = key := congrArg Prod.fst hj
        have e2 : o = .arr e (mk hd) := congrArg Prod.snd hj
        subst e1; subst e2
        rw [hbE]; exact .inl (hlow hl)
      · refine .inr ⟨j, o, hj, hl, ?_⟩
        exact (ha.1 j (Mem.has_key hk _ hj).1).1
def shK (B k : Nat) : Nat := match Nat.ble PIN k with
  | true => k
  | false => k + B
def shiftC (B : Nat) (c : Conf) : Option Conf := match c.allKeys.all fun k => Nat.ble PIN k || Nat.blt (k + B) PIN with
  | true => some (renWith (shK B) c)
  | false => none
theorem shift_to {P : Program} {C : Ctx} {R : Value → World → Prop} (B : Nat) {c : Conf} (c' : Conf) (hc : shiftC B c = some c') (h : Runs P C c' R) : Runs P C c R := by
  unfold shiftC at hc
  split at hc
  · rename_i hchk
    cases hc
    simp only [List.all_eq_true, Bool.or_eq_true] at hchk
    intro E H w g ok
    have all : ∀ k, k ∈ SV.keysL c.top.tmps ∨ (∃ f, f ∈ c.rest ∧ k ∈ SV.keysL f.tmps) ∨ k ∈ Mem.named c.mem → k ∈ c.allKeys := fun k hk => by
      rcases hk with hk | ⟨f, hf, hk⟩ | hk
      · exact meet_mem (.inl (walkK_mem (meet_mem (.inr (List.mem_append_left _ hk)))))
      · exact meet_mem (.inl (walkK_mem (meet_mem (.inr (List.mem_append_right _ (List.mem_flatMap.2 ⟨f, hf, hk⟩))))))
      · exact meet_mem (.inr hk)
    let E' : Env := ⟨fun i => if PIN ≤ i then E.b i else E.b (i - B), fun i => if PIN ≤ i then E.v i else E.v (i - B), E.j⟩
    let ρ : Nat → Nat := shK B
    have cas : ∀ k, k ∈ c.allKeys → (PIN ≤ k ∧ ρ k = k) ∨ (k < PIN ∧ ρ k < PIN ∧ ρ k = k + B) := fun k hk => by
      rcases Nat.lt_or_ge k PIN with hl | hl
      · right
        have hb : Nat.ble PIN k = false := by
          cases hb : Nat.ble PIN k with
          | false => rfl
          | true => have := Nat.le_of_ble_eq_true hb; omega
        have e : ρ k = k + B := by simp only [ρ, shK, hb]
        rcases hchk k hk with h1 | h1
        · rw [hb] at h1; cases h1
        · have : k + B < PIN := by simpa [Nat.blt_eq] using h1
          exact ⟨hl, by omega, e⟩
      · exact .inl ⟨hl, by simp only [ρ, shK, Nat.ble_eq_true_of_le hl]⟩
    have ren : ∀ k, k ∈ c.allKeys → Ren ρ E E' k := fun k hk => by
      rcases cas k hk with ⟨h1, h2⟩ | ⟨h1, h2, h3⟩
      · simp only [Ren, E', h2, if_pos h1, and_self]
      · have h4 : ¬PIN ≤ k + B := by omega
        simp only [Ren, E', h3, if_neg h4, Nat.add_sub_cancel, and_self]
    have inj : ∀ k j, k ∈ c.allKeys → j ∈ c.allKeys → ρ k = ρ j → k = j := fun k j hk hj e => by
      rcases cas k hk with ⟨h1, h2⟩ | ⟨h1, h2, h3⟩ <;> rcases cas j hj with ⟨g1, g2⟩ | ⟨g1, g2, g3⟩ <;> omega
    have named : ∀ k o, (k, o) ∈ c.mem → k ∈ c.allKeys ∧ ∀ j, j ∈ o.keys → j ∈ c.allKeys := fun k o hm => by
      refine ⟨all k (.inr (.inr ?_)), fun j hj => all j (.inr (.inr ?_))⟩
      · simp only [Mem.named, List.mem_flatMap]; exact ⟨_, hm, List.mem_cons_self⟩
      · simp only [Mem.named, List.mem_flatMap]; exact ⟨_, hm, List.mem_cons_of_mem _ hj⟩
    have gd : Good C (c.mem.map fun e => (ρ e.1, e.2.ren ρ)) E' H w := by
      refine ⟨g.below, g.ext, g.fresh, g.cell, fun k o hko => ?_, ?_, fun x y hx hy hne hlx hly => ?_, g.fix.keep (fun k hk => by simp only [E', if_pos hk]) fun _ _ h _ => h⟩
      · obtain ⟨e, he, h1⟩ := List.mem_map.1 hko
        simp only [Prod.mk.injEq] at h1
        obtain ⟨rfl, rfl⟩ := h1
        obtain ⟨n1, n2⟩ := named e.1 e.2 he
        exact (g.own e.1 e.2 he).ren (E' := E') (show E'.j = E.j from rfl) (ren _ n1) (fun j hj => ren j (n2 j hj)) (fun es _ hk => keysOk_ren hk)
      · rw [List.pairwise_map]
        refine g.keys.imp_of_mem ?_
        intro a b ha hb hne e
        exact hne (inj _ _ (named a.1 a.2 ha).1 (named b.1 b.2 hb).1 e)
      · obtain ⟨a, ha, h1⟩ := List.mem_map.1 hx
        obtain ⟨b, hb, h2⟩ := List.mem_map.1 hy
        subst h1; subst h2
        simp only at hne hlx hly ⊢
        rw [(ren a.1 (named a.1 a.2 ha).1).1, (ren b.1 (named b.1 b.2 hb).1).1]
        have lies : ∀ o : OBlk, (o.ren ρ).Lies → o.Lies := fun o h => by cases o <;> exact h
        exact g.apart a b ha hb (fun e => hne (by rw [e])) (lies _ hlx) (lies _ hly)
    have hr := h E' H w gd ⟨SV.okL_ren _ ok.1, fun f hf => by
      obtain ⟨f', hf', rfl⟩ := List.mem_map.1 hf
      exact SV.okL_ren _ (ok.2 f' hf')⟩
    have e1 : (renWith ρ c).top.den E' = c.top.den E := by
      simp only [renWith, SFrm.den]
      rw [SV.denL_ren (E := E) (E' := E') rfl _ fun k hk => ren k (all k (.inl hk))]
    have e2 : (renWith ρ c).rest.map (SFrm.den E') = c.rest.map (SFrm.den E) := by
      simp only [renWith, List.map_map]
      apply List.map_congr_left
      intro f hf
      simp only [Function.comp, SFrm.den]
      rw [SV.denL_ren (E := E) (E' := E') rfl _ fun k hk => ren k (all k (.inr (.inl ⟨f, hf, hk⟩)))]
    rw [e1, e2] at hr
    exact hr
  · cases hc
def spOwnI {β : Type} (r : Rd β) (e : TypeId) (ps : β → List Prop) (l : β → List Int) : OSpec := fun args => match r.read args with
  | some b => some (ps b, e, fun h => .slc h.hd 1 ((l b).map fun n => [.int .i64 n]))
  | none => none
theorem spOwnI_flat {β : Type} {r : Rd β} {e : TypeId} {ps : β → List Prop} {l : β → List Int} : ∀ args ps' e' mk, spOwnI r e ps l args = some (ps', e', mk) → ∀ (hd : D) (H : HV) row, row ∈ (mk hd).rows → ∀ x, x ∈ row → D.Ok H x := by
  intro args ps' e' mk h hd H row hr x hx
  unfold spOwnI at h
  split at h
  · cases h
    obtain ⟨n, _, rfl⟩ := List.mem_map.1 hr
    rw [List.mem_singleton.1 hx]
    exact .int _ _
  · cases h
theorem olaw_ints {P : Program} {f : FuncId} {β : Type} {r : Rd β} {e : TypeId} {ps : β → List Prop} {l : β → List Int} (hb : Bodied P f = true)
    (h : ∀ (H : HV) (w : World) (b : β), SV.OkL H (r.canon b) → (∀ p, p ∈ ps b → p) → Runs P ⟨w, H⟩ (entry P f (r.canon b)) (OwnR w H e fun h => .slc h.hd 1 ((l b).map fun n => [.int .i64 n]))) : OLaw P f (spOwnI r e ps l) := by
  refine ⟨hb, fun H E args hargs => ?_⟩
  unfold spOwnI
  cases hr : r.read args with
  | none => trivial
  | some b =>
    simp only
    intro hp w hw
    obtain ⟨h1, h2⟩ := r.right H E args b hr hargs
    rw [h1]
    exact calls_of hb h2 E hw (h H w b h2 hp)
theorem ints_rows {d : D} (h : d.Is Int) (hz : d.sz = 1) {l : List Int} (hl : d.to Int = l) : d = .slc d.hd 1 (l.map fun n => [.int .i64 n]) := by
  obtain ⟨a, b, c, rfl, _, h2⟩ := h
  simp only [D.sz] at hz
  subst hz
  simp only [D.hd, D.slc.injEq, true_and]
  rw [← hl]
  simp only [D.to, D.rows, List.map_map]
  conv => lhs; rw [← List.map_id c]
  refine List.map_congr_left fun r hr => ?_
  obtain ⟨n, rfl⟩ := h2 r hr
  rfl
end Sx
end
section
open Go
namespace Sx
structure TlD where
  i : D
  a : D
def TlD.tl (x : TlD) : Tl := ⟨x.i.to Int, x.a.to Int⟩
def rdTl : Rd1 TlD where
  read x := match x with
    | .agg [i, a] => match rdD.read i, rdD.read a with
      | some i, some a => some ⟨i, a⟩
      | _, _ => none
    | _ => none
  canon h := .agg [.dat h.i, .dat h.a]
  right H E x b h hok := by
    split at h
    · split at h
      · rename_i h1 h2
        cases h
        obtain ⟨a1, a2, _⟩ := hok
        obtain ⟨i1, i2⟩ := rdD.right H E _ _ h1 a1
        obtain ⟨j1, j2⟩ := rdD.right H E _ _ h2 a2
        refine ⟨?_, i2, j2, trivial⟩
        simp only [SV.den, SV.denL, i1, j1]
        rfl
      · cases h
    · cases h
def spBefT (x : TlD × Int × Int) : SpecR := .scalar [x.1.i.Is Int ∧ x.1.a.Is Int ∧ 0 ≤ x.2.1 ∧ x.2.1 < (x.1.a.to Int).length ∧ 0 ≤ x.2.2 ∧ x.2.2 < (x.1.i.to Int).length] (.bool (beforeT x.1.tl x.2.1 x.2.2))
end Sx
namespace Sx
noncomputable def wvH (hb : D) (z : Int) : SV := .agg [.int .i64 (hb.getInt (Int.toNat z) 0), .int .i64 (hb.getInt (Int.toNat z) 1), .dat (hb.cell (Int.toNat z) 2)]
theorem cell_okd {H : HV} {d : D} (hd : d.Ok H) {i j : Nat} : (d.cell i j).Ok H := by
  unfold D.cell D.cellAt
  cases hr : d.rows[i]? with
  | none => exact .nil 0
  | some r =>
    cases hx : r[j]? with
    | none => simp [hx]; exact .nil 0
    | some x =>
      simp only [Option.bind_some, hx, Option.getD_some]
      cases hd with
      | slc a c sz rows hsp hc hlen hcell hok => exact hok r (List.mem_of_getElem? hr) x (List.mem_of_getElem? hx)
      | _ => simp [D.rows] at hr
theorem wvH_ok {H : HV} {hb : D} (hw : hb.Is Wt) (hok : hb.Ok H) {z : Int} (h0 : 0 ≤ z) (h1 : z < (hb.len : Int)) : (wvH hb z).Ok H := by
  have hi : Int.toNat z < (hb.to Wt).length := by rw [← D.Is.length (α := Wt)]; omega
  exact ⟨trivial, trivial, ⟨cell_okd hok, (wt_cell hw hi).2.1.slc⟩, trivial⟩
end Sx
namespace Sx
def rowOk (t : Tl) (n : Nat) (set : List Int) (b : Int) : Bool := (List.range n).all fun (a : Nat) => set.contains (a : Int) || !beforeT t a b
def closedT (t : Tl) (n : Nat) (set : List Int) : Bool := set.all fun b => rowOk t n set b
def inL (n : Nat) (l : List Int) : List Bool := (List.range n).map fun (x : Nat) => l.contains (x : Int)
theorem inL_len (n : Nat) (l : List Int) : (inL n l).length = n := by simp [inL]
theorem inL_get {n : Nat} {l : List Int} {k : Nat} (h : k < (inL n l).length) : (inL n l)[k] = l.contains (k : Int) := by simp [inL]
theorem setUp_le {l : List Int} {n : Int} : ∀ {i : Nat}, setUp l n i = true → ∀ k, k < i → 0 ≤ l.getD k 0 ∧ l.getD k 0 < n
  | 0, _, k, hk => by omega
  | i + 1, h, k, hk => by
    simp only [setUp, Bool.and_eq_true, decide_eq_true_eq] at h
    by_cases e : k = i
    · subst e; exact ⟨h.2.1, h.2.2.1⟩
    · exact setUp_le h.1 k (by omega)
theorem setH_in {l : List Int} {n : Int} (h : setH l n = true) {k : Nat} (hk : k < l.length) : 0 ≤ l[k] ∧ l[k] < n := by
  have := setUp_le h k hk
  rwa [getD_lt hk] at this
def spIsCl (x : CkD × D) : SpecR := .scalar [x.1.w.Is Wt ∧ x.1.i.Is Int ∧ x.1.a.Is Int ∧ x.2.Is Int ∧ x.1.w.len ≤ 1048576 ∧ x.2.len ≤ 1048576 ∧ (x.1.i.to Int).length = (x.1.w.to Wt).length ∧ (x.1.a.to Int).length = (x.1.w.to Wt).length ∧ setH (x.2.to Int) (x.1.w.to Wt).length = true]
  (.bool (closedT ⟨x.1.i.to Int, x.1.a.to Int⟩ (x.1.w.to Wt).length (x.2.to Int)))
end Sx
namespace Sx
def spBefR (x : HiD × Int × Int) : SpecR := .scalar [x.1.e.Is Ev ∧ x.1.e.len ≤ 1048576] (.bool (beforeR (x.1.e.to Ev) x.2.1 x.2.2))
def rowOkR (l : List Ev) (n : Nat) (set : List Int) (b : Int) : Bool := (List.range n).all fun (a : Nat) => !beforeR l a b || set.contains (a : Int)
def closedS (l : List Ev) (n : Nat) (set : List Int) : Bool := set.all fun b => rowOkR l n set b
def spClR (x : HiD × D) : SpecR := .scalar [x.1.e.Is Ev ∧ x.1.e.len ≤ 1048576 ∧ x.1.w.Is Wt ∧ x.1.w.len ≤ 1048576 ∧ x.2.Is Int ∧ x.2.len ≤ 1048576] (.bool (closedS (x.1.e.to Ev) (x.1.w.to Wt).length (x.2.to Int)))
def closedB (h : Hist) (set : List Int) : Bool := decide ((checkH h).1 = 0) && (setH set h.writes.length && closedS h.events h.writes.length set)
def spBef (x : HiD × Int × Int) : SpecR := .scalar [x.1.Right] (.bool (beforeH x.1.hist x.2.1 x.2.2))
def spCls (x : HiD × D) : SpecR := .scalar [x.1.Right ∧ x.2.Is Int ∧ x.2.len ≤ 1048576] (.bool (closedB x.1.hist (x.2.to Int)))
noncomputable def spAcd (x : HiD × Int) : SpecR := .data [x.1.Right] fun ds => .dat ((ds 0).like (ackedH x.1.hist x.2))
def firstN (n : Int) : List Int := (List.range n.toNat).map fun (a : Nat) => (a : Int)
noncomputable def spFst (n : Int) : SpecR := .data [n ≤ 1000000] fun ds => .dat ((ds 0).like (firstN n))
theorem closed_same {h : Hist} {set : List Int} (hc : (checkH h).1 = 0) (hs : setH set h.writes.length = true) : closedT (checkH h).2 h.writes.length set = closedS h.events h.writes.length set := by
  obtain ⟨htl, hlen, _⟩ := checkH_ok hc
  unfold closedT closedS
  rw [Bool.eq_iff_iff, List.all_eq_true, List.all_eq_true]
  have key : ∀ b, b ∈ set → rowOk (checkH h).2 h.writes.length set b = rowOkR h.events h.writes.length set b := fun b hb => by
    obtain ⟨k, hk, rfl⟩ := List.getElem_of_mem hb
    have hz := setH_in hs hk
    unfold rowOk rowOkR
    rw [Bool.eq_iff_iff, List.all_eq_true, List.all_eq_true]
    have e : ∀ a, a ∈ List.range h.writes.length → beforeT (checkH h).2 (a : Int) set[k] = beforeR h.events a set[k] := fun a ha => by
      have ha := List.mem_range.1 ha
      exact before_same htl ⟨by omega, by omega⟩ ⟨hz.1, by omega⟩
    constructor
    · intro h1 a ha; rw [← e a ha, Bool.or_comm]; exact h1 a ha
    · intro h1 a ha; rw [e a ha, Bool.or_comm]; exact h1 a ha
  constructor
  · intro h1 b hb; rw [← key b hb]; exact h1 b hb
  · intro h1 b hb; rw [key b hb]; exact h1 b hb
end Sx
end
section
open Go
namespace Sx
theorem setUp_lt {l : List Int} {n : Int} {m : Nat} (h : setUp l n m = true) : ∀ {i k : Nat}, i < k → k < m → l.getD i 0 < l.getD k 0 := by
  intro i k hik hk
  obtain ⟨d, rfl⟩ := Nat.exists_eq_add_of_lt hik
  clear hik
  have step : ∀ q, 0 < q → q < m → l.getD (q - 1) 0 < l.getD q 0 := fun q h0 hq => by
    obtain ⟨e, rfl⟩ := Nat.exists_eq_add_of_le (show q + 1 ≤ m by omega)
    have := setUp_mono h
    simp only [setUp, Bool.and_eq_true, Bool.or_eq_true, decide_eq_true_eq] at this
    have := this.2.2.2
    omega
  induction d with
  | zero => have := step (i + 1) (by omega) (by omega); simpa using this
  | succ d ih =>
    have h1 := ih (by omega)
    have h2 := step (i + (d + 1) + 1) (by omega) hk
    have e : i + (d + 1) + 1 - 1 = i + d + 1 := by omega
    rw [e] at h2
    omega
theorem setH_inj {l : List Int} {n : Int} (h : setH l n = true) {i k : Nat} (hi : i < l.length) (hk : k < l.length) (e : l.getD i 0 = l.getD k 0) : i = k := by
  rcases Nat.lt_trichotomy i k with h1 | h1 | h1
  · have := setUp_lt h h1 hk; omega
  · exact h1
  · have := setUp_lt h h1 hi; omega

theorem range_one (i : Nat) : ∀ n, (List.range n).filter (fun k => decide (k = i)) = if i < n then [i] else []
  | 0 => by simp
  | n + 1 => by
    rw [List.range_succ, List.filter_append, range_one i n]
    by_cases h1 : i < n
    · rw [if_pos h1, if_pos (by omega)]
      simp; omega
    · rw [if_neg h1]
      by_cases h2 : n = i
      · subst h2; simp
      · rw [if_neg (by omega)]; simp [h2]
def evR (set : List Int) (x : Ev) : List Ev := ((List.range set.length).filter fun k => decide (set.getD k 0 = x.write)).map fun (k : Nat) => (⟨x.kind, k⟩ : Ev)
theorem evR_idx {set : List Int} {n : Int} (h : setH set n = true) (x : Ev) : evR set x = if idxG set (fun y => decide (x.write = y)) ≥ 0 then [⟨x.kind, idxG set (fun y => decide (x.write = y))⟩] else [] := by
  unfold evR idxG
  cases hf : set.findIdx? (fun y => decide (x.write = y)) with
  | none =>
    rw [List.findIdx?_eq_none_iff] at hf
    have : (List.range set.length).filter (fun k => decide (set.getD k 0 = x.write)) = [] := by
      rw [List.filter_eq_nil_iff]
      intro k hk
      have hk := List.mem_range.1 hk
      have := hf _ (List.getElem_mem hk)
      rw [getD_lt hk]
      simp only [decide_eq_false_iff_not] at this
      simp only [decide_eq_true_eq]
      exact fun e => this e.symm
    rw [this]; rfl
  | some i =>
    rw [List.findIdx?_eq_some_iff_getElem] at hf
    obtain ⟨hi, h1, _⟩ := hf
    simp only [decide_eq_true_eq] at h1
    have : (List.range set.length).filter (fun k => decide (set.getD k 0 = x.write)) = [i] := by
      have e : (List.range set.length).filter (fun k => decide (set.getD k 0 = x.write)) = (List.range set.length).filter (fun k => decide (k = i)) := by
        apply List.filter_congr
        intro k hk
        have hk := List.mem_range.1 hk
        rw [decide_eq_decide]
        constructor
        · intro e; exact setH_inj h hk hi (by rw [e, getD_lt hi, h1])
        · intro e; subst e; rw [getD_lt hk, h1]
      rw [e, range_one, if_pos hi]
    rw [this]
    simp only
    rw [if_pos (by omega)]
    rfl
def restE (set : List Int) (l : List Ev) : List Ev := l.flatMap (evR set)
theorem restE_snoc {set : List Int} {l : List Ev} {j : Nat} (hj : j < l.length) : restE set (l.take (j + 1)) = restE set (l.take j) ++ evR set l[j] := by
  unfold restE
  rw [List.take_succ_eq_append_getElem hj, List.flatMap_append]
  simp
theorem evR_len {set : List Int} {n : Int} (h : setH set n = true) (x : Ev) : (evR set x).length ≤ 1 := by
  rw [evR_idx h]; split <;> simp
theorem restE_len {set : List Int} {n : Int} (h : setH set n = true) : ∀ l : List Ev, (restE set l).length ≤ l.length
  | [] => by simp [restE]
  | x :: r => by
    have h1 := evR_len h x
    have h2 := restE_len h r
    simp only [restE, List.flatMap_cons, List.length_append, List.length_cons] at h2 ⊢
    omega
def zWt : Wt := ⟨0, 0, []⟩
def pickW (ws : List Wt) (set : List Int) : List Wt := set.map fun n => ws.getD n.toNat zWt
def restrictH (h : Hist) (set : List Int) : Hist × Int :=
  if (checkH h).1 ≠ 0 then (zHist, (checkH h).1)
  else if setH set h.writes.length = false then (zHist, 2)
  else if closedS h.events h.writes.length set = false then (zHist, 27)
  else (⟨h.sizes, pickW h.writes set, restE set h.events⟩, 0)
theorem rest_e1 {h : Hist} {set : List Int} (h1 : (checkH h).1 ≠ 0) : restrictH h set = (zHist, (checkH h).1) := by unfold restrictH; rw [if_pos h1]
theorem rest_e2 {h : Hist} {set : List Int} (h1 : (checkH h).1 = 0) (h2 : setH set h.writes.length = false) : restrictH h set = (zHist, 2) := by unfold restrictH; rw [if_neg (by simp [h1]), if_pos h2]
theorem rest_e27 {h : Hist} {set : List Int} (h1 : (checkH h).1 = 0) (h2 : setH set h.writes.length = true) (h3 : closedS h.events h.writes.length set = false) : restrictH h set = (zHist, 27) := by
  unfold restrictH; rw [if_neg (by simp [h1]), if_neg (by simp [h2]), if_pos h3]
theorem rest_ok {h : Hist} {set : List Int} (h1 : (checkH h).1 = 0) (h2 : setH set h.writes.length = true) (h3 : closedS h.events h.writes.length set = true) : restrictH h set = (⟨h.sizes, pickW h.writes set, restE set h.events⟩, 0) := by
  unfold restrictH; rw [if_neg (by simp [h1]), if_neg (by simp [h2]), if_neg (by simp [h3])]
noncomputable def spRest (x : HiD × D) : SpecR := .data [x.1.Right ∧ x.2.Is Int ∧ x.2.len ≤ 1048576] fun ds => .tup [hiSV ds (restrictH x.1.hist (x.2.to Int)).1, .int .i64 (restrictH x.1.hist (x.2.to Int)).2]
theorem pickW_snoc {ws : List Wt} {set : List Int} {j : Nat} (hj : j < set.length) : pickW ws (set.take (j + 1)) = pickW ws (set.take j) ++ [ws.getD (set[j]).toNat zWt] := by
  unfold pickW; rw [List.take_succ_eq_append_getElem hj, List.map_append]; rfl
theorem pickW_len (ws : List Wt) (set : List Int) : (pickW ws set).length = set.length := by simp [pickW]
end Sx
end
section
open Go
namespace Sx
theorem law_tab2 {P : Program} {f : FuncId} {β : Type} {r : Rd β} {sp : β → SpecR} {γ : Type} [DecidableEq γ] (h : Law P f (r.sp sp)) (c : β → Bool) (v : β → γ) (tab : List γ) (k : β → γ → SpecR)
    (hh : ∀ b, c b = true → match k b (v b) with
      | .no => True
      | .data ps' g' => ∃ ps g, sp b = .data ps g ∧ ((∀ p, p ∈ ps' → p) → ∀ p, p ∈ ps → p) ∧ ∀ ds, ∃ ds', g' ds' = g ds
      | .scalar ps' v' => ∃ ps v, sp b = .scalar ps v ∧ ((∀ p, p ∈ ps' → p) → ∀ p, p ∈ ps → p) ∧ v' = v) :
    Law P f (r.sp fun b => iff (c b) (tabD (v b) tab (k b))) :=
  law_alt h fun b => by
    unfold iff
    cases hc : c b with
    | false => trivial
    | true =>
      simp only
      rcases tabD_or (v b) (k b) tab with h1 | h1
      · rw [h1]; trivial
      · rw [h1]; exact hh b hc
def evRows : List (List D) → Bool
  | [] => true
  | r :: rs => match r with
    | [.int .i64 _, .int .i64 _] => evRows rs
    | _ => false
def D.allEv (d : D) : Bool :=
  match d with
  | .slc _ s rows => (match rows with | [] => true | _ :: _ => s == 2) && evRows rows
  | _ => false
def secRows : List (List D) → Bool
  | [] => true
  | r :: rs => match r with
    | [.int .u8 _, .int .u8 _, .int .u8 _, .int .u8 _, .int .u8 _, .int .u8 _, .int .u8 _, .int .u8 _] => secRows rs
    | _ => false
def D.allSec (d : D) : Bool :=
  match d with
  | .slc _ s rows => (match rows with | [] => true | _ :: _ => s == 8) && secRows rows
  | _ => false
def wtRows : List (List D) → Bool
  | [] => true
  | r :: rs => match r with
    | [.int .i64 _, .int .i64 _, d] => d.allSec && wtRows rs
    | _ => false
def D.allWt (d : D) : Bool :=
  match d with
  | .slc _ s rows => (match rows with | [] => true | _ :: _ => s == 3) && wtRows rows
  | _ => false
theorem evRows_ok : ∀ (rows : List (List D)), evRows rows = true → ∀ r, r ∈ rows → Codec.ok Ev r
  | [], _, r, h => by cases h
  | x :: rs, h, r, hr => by
    unfold evRows at h
    split at h
    · rcases List.mem_cons.1 hr with rfl | hr
      · exact ⟨_, _, rfl⟩
      · exact evRows_ok rs h r hr
    · cases h
theorem secRows_ok : ∀ (rows : List (List D)), secRows rows = true → ∀ r, r ∈ rows → Codec.ok Sec r
  | [], _, r, h => by cases h
  | x :: rs, h, r, hr => by
    unfold secRows at h
    split at h
    · rcases List.mem_cons.1 hr with rfl | hr
      · exact ⟨_, _, _, _, _, _, _, _, rfl⟩
      · exact secRows_ok rs h r hr
    · cases h
theorem allSec_is {d : D} (h : d.allSec = true) : d.Is Sec := by
  unfold D.allSec at h
  split at h
  · rename_i a s rows
    simp only [Bool.and_eq_true] at h
    refine ⟨_, _, _, rfl, ?_, secRows_ok _ h.2⟩
    cases rows with
    | nil => exact .inl rfl
    | cons x r => right; exact eq_of_beq h.1
  · cases h
theorem wtRows_ok : ∀ (rows : List (List D)), wtRows rows = true → ∀ r, r ∈ rows → Codec.ok Wt r
  | [], _, r, h => by cases h
  | x :: rs, h, r, hr => by
    unfold wtRows at h
    split at h
    · simp only [Bool.and_eq_true] at h
      rcases List.mem_cons.1 hr with rfl | hr
      · exact ⟨_, _, _, rfl, allSec_is h.1⟩
      · exact wtRows_ok rs h.2 r hr
    · cases h
theorem allEv_is {d : D} (h : d.allEv = true) : d.Is Ev := by
  unfold D.allEv at h
  split at h
  · rename_i a s rows
    simp only [Bool.and_eq_true] at h
    refine ⟨_, _, _, rfl, ?_, evRows_ok _ h.2⟩
    cases rows with
    | nil => exact .inl rfl
    | cons x r => right; exact eq_of_beq h.1
  · cases h
theorem allWt_is {d : D} (h : d.allWt = true) : d.Is Wt := by
  unfold D.allWt at h
  split at h
  · rename_i a s rows
    simp only [Bool.and_eq_true] at h
    refine ⟨_, _, _, rfl, ?_, wtRows_ok _ h.2⟩
    cases rows with
    | nil => exact .inl rfl
    | cons x r => right; exact eq_of_beq h.1
  · cases h
def hiL (x : HiD) : Bool := x.s.allInt && (x.w.allWt && (x.e.allEv && (decide (x.s.len ≤ 1048576) && (decide (x.w.len ≤ 1048576) && (decide (x.e.len ≤ 1048576) && (x.w.to Wt).all fun w => decide (w.data.length ≤ 1048576))))))
theorem hiL_is {x : HiD} (h : hiL x = true) : x.Right := by
  simp only [hiL, Bool.and_eq_true, decide_eq_true_eq, List.all_eq_true] at h
  exact ⟨allInt_is h.1, allWt_is h.2.1, allEv_is h.2.2.1, h.2.2.2.1, h.2.2.2.2.1, h.2.2.2.2.2.1, h.2.2.2.2.2.2⟩
def setL (x : D) : Bool := x.allInt && decide (x.len ≤ 1048576)
theorem setL_is {x : D} (h : setL x = true) : x.Is Int ∧ x.len ≤ 1048576 := by
  simp only [setL, Bool.and_eq_true, decide_eq_true_eq] at h
  exact ⟨allInt_is h.1, h.2⟩
def spCkT (x : HiD) : SpecR := iff (hiL x) (tabD (checkH x.hist).1 [0] fun e => .scalar [] (.int .i64 e))
def spBefTT (x : HiD × Int × Int) : SpecR := iff (hiL x.1) (tabD (beforeH x.1.hist x.2.1 x.2.2) [true, false] fun b => .scalar [] (.bool b))
def spClsT (x : HiD × D) : SpecR := iff (hiL x.1 && setL x.2) (tabD (closedB x.1.hist (x.2.to Int)) [true, false] fun b => .scalar [] (.bool b))
noncomputable def spRestT (x : HiD × D) : SpecR := iff (hiL x.1 && setL x.2) (tabD (restrictH x.1.hist (x.2.to Int)).2 [0, 27] fun e => .data [] fun ds => .tup [hiSV ds (restrictH x.1.hist (x.2.to Int)).1, .int .i64 e])
noncomputable def spAcdT (x : HiD × Int) : SpecR := iff (hiL x.1) (tabD () [()] fun _ => .data [] fun ds => .dat ((ds 0).like (ackedH x.1.hist x.2)))
def spIntsS (x : D × D) : SpecR := .scalar [x.1.Is Int ∧ x.2.Is Int ∧ x.1.len ≤ 1048576 ∧ x.1.to Int = x.2.to Int] (.lb true)
def spEvsS (x : D × D) : SpecR := .scalar [x.1.Is Ev ∧ x.2.Is Ev ∧ x.1.len ≤ 1048576 ∧ x.1.to Ev = x.2.to Ev] (.lb true)
def spHasC (x : D × Int) : SpecR := .scalar [x.1.Is Int ∧ x.1.len ≤ 1048576] (.bool ((x.1.to Int).contains x.2))
end Sx
end
section
open Go
namespace Sx
instance : Plain Sec where
  cells _ _ s := [.int .u8 s.b0, .int .u8 s.b1, .int .u8 s.b2, .int .u8 s.b3, .int .u8 s.b4, .int .u8 s.b5, .int .u8 s.b6, .int .u8 s.b7]
  right d i r _ h := by obtain ⟨_, _, _, _, _, _, _, _, rfl⟩ := h; rfl
instance : Plain Ev where
  cells _ _ e := [.int .i64 e.kind, .int .i64 e.write]
  right d i r _ h := by obtain ⟨_, _, rfl⟩ := h; rfl
instance : Plain Wt where
  cells d i w := [.int .i64 w.vol, .int .i64 w.start, (d.cell i 2).plain w.data]
  right d i r h ho := by
    obtain ⟨a, b, v, rfl, hv⟩ := ho
    obtain ⟨p1, p2, p3, rfl⟩ := hv.slc
    have e1 : d.cell i 2 = .slc p1 p2 p3 := by simp [D.cell, D.cellAt, h]
    simp only [Codec.dec, e1, plain_self hv]
def pI (d : D) (l : List Int) : D := d.plain l
def pS (d : D) (l : List Sec) : D := d.plain l
noncomputable def pW (d : D) (l : List Wt) : D := d.plain l
def pE (d : D) (l : List Ev) : D := d.plain l
def oneS : Sec := ⟨1, 0, 0, 0, 0, 0, 0, 0⟩
noncomputable def spEx1 (n : Int) : SpecR := .data [] fun ds => .agg [.int .i64 0, .int .i64 n, .dat (pS (ds 0) [oneS])]
noncomputable def exSV (ds : Nat → D) : SV := .agg [.dat (pI (ds 0) [4]), .dat (pW (ds 1) [⟨0, 0, [oneS]⟩, ⟨0, 1, [oneS]⟩, ⟨0, 2, [oneS]⟩]), .dat (pE (ds 2) [⟨0, 0⟩, ⟨0, 1⟩, ⟨1, 0⟩, ⟨0, 2⟩])]
noncomputable def spEx (_ : Unit) : SpecR := .data [] exSV
def spSameHS (x : HiD × HiD) : SpecR := .scalar [x.1.Right ∧ x.2.s.Is Int ∧ x.2.w.Is Wt ∧ x.2.e.Is Ev ∧ x.1.hist = x.2.hist] (.lb true)
end Sx
end
section
open Go
namespace Sx
def rdPair : Rd1 (Int × Int) where
  read x := match x with | .agg [.int .i64 a, .int .i64 b] => some (a, b) | _ => none
  canon n := .agg [.int .i64 n.1, .int .i64 n.2]
  right H E x b h hok := by
    split at h
    · cases h; exact ⟨rfl, trivial, trivial, trivial⟩
    · cases h
theorem few_right {x : HiD} (h1 : x.s.Is Int) (h2 : x.w.Is Wt) (h3 : x.e.Is Ev) (h : fewH x.hist = true) : x.Right ∧ x.e.len ≤ 1000000 := by
  simp only [fewH, Bool.and_eq_true, decide_eq_true_eq, List.all_eq_true] at h
  obtain ⟨a, b, c, d, e⟩ := h
  have a : (x.s.to Int).length ≤ 9 := a
  have b : (x.w.to Wt).length ≤ 40 := b
  have c : (x.e.to Ev).length ≤ 90 := c
  have e : ∀ w, w ∈ x.w.to Wt → w.data.length ≤ 30 := e
  have l1 := D.Is.length (α := Int) x.s
  have l2 := D.Is.length (α := Wt) x.w
  have l3 := D.Is.length (α := Ev) x.e
  exact ⟨⟨h1, h2, h3, by omega, by omega, by omega, fun w hw => by have := e w hw; omega⟩, by omega⟩
def HistOk (h : Hist) : Prop := h.sizes.length ≤ 1048576 ∧ h.writes.length ≤ 1048576 ∧ h.events.length ≤ 1048576 ∧ ∀ w, w ∈ h.writes → w.data.length ≤ 1048576
theorem llen {α : Type} [Codec α] (d : D) (l : List α) : (d.like l).len = l.length := by rw [D.Is.length (α := α), D.like_to]
theorem like_right {h : Hist} {a b c : D} (hk : HistOk h) : (HiD.mk (a.like h.sizes) (b.like h.writes) (c.like h.events)).Right :=
  ⟨D.like_is _ _, D.like_is _ _, D.like_is _ _, by simp only [llen]; exact hk.1, by simp only [llen]; exact hk.2.1, by simp only [llen]; exact hk.2.2.1, by simp only [D.like_to]; exact hk.2.2.2⟩
theorem like_hist {h : Hist} {a b c : D} : (HiD.mk (a.like h.sizes) (b.like h.writes) (c.like h.events)).hist = h := by simp only [HiD.hist, D.like_to]
end Sx
end
section
open Go
namespace Sx
def stepE (ws : List Wt) (st : Hist × Nat) (e : Ev) : Hist × Nat :=
  if e.kind = 1 then (if (ackH st.1 e.write).2 = 0 then (ackH st.1 e.write).1 else st.1, st.2)
  else if st.2 < ws.length then (if (issueH st.1 (ws.getD st.2 zWt)).2.2 = 0 then (issueH st.1 (ws.getD st.2 zWt)).1 else st.1, st.2 + 1) else st
def runE (ws : List Wt) (h0 : Hist) (evs : List Ev) (j : Nat) : Hist × Nat := (evs.take j).foldl (stepE ws) (h0, 0)
theorem runE_succ {ws : List Wt} {h0 : Hist} {evs : List Ev} {j : Nat} (hj : j < evs.length) : runE ws h0 evs (j + 1) = stepE ws (runE ws h0 evs j) evs[j] := by
  unfold runE
  rw [List.take_succ_eq_append_getElem hj, List.foldl_append]; rfl
def replayH (s : List Int) (ws : List Wt) (evs : List Ev) : Hist × Bool :=
  if (newH s).2 ≠ 0 then ((newH s).1, false) else ((runE ws (newH s).1 evs evs.length).1, true)
def HB (m j : Nat) (st : Hist × Nat) : Prop := st.1.sizes.length ≤ m ∧ st.1.writes.length ≤ j ∧ st.1.events.length ≤ j ∧ (∀ w, w ∈ st.1.writes → w.data.length ≤ 1048576) ∧ st.2 ≤ j
noncomputable def repSV (ds : Nat → D) (r : Hist × Bool) : SV := .tup [hiSV ds r.1, .bool r.2]
noncomputable def spReplay (x : D × D × D) : SpecR := .data [x.1.Is Int ∧ x.1.len ≤ 1000000 ∧ x.2.1.Is Wt ∧ (∀ w, w ∈ x.2.1.to Wt → w.data.length ≤ 1048576) ∧ x.2.1.len ≤ 1000000 ∧ x.2.2.Is Ev ∧ x.2.2.len ≤ 1000000]
  fun ds => repSV ds (replayH (x.1.to Int) (x.2.1.to Wt) (x.2.2.to Ev))
def stepsH (h : Hist) : Hist × Bool := if fewH h = true then replayH h.sizes h.writes h.events else (zHist, false)
noncomputable def spSteps (x : HiD) : SpecR := .data [x.s.Is Int ∧ x.w.Is Wt ∧ x.e.Is Ev] fun ds => repSV ds (stepsH x.hist)
end Sx
end
section
open Go
namespace Sx
structure TlOrd (i : Int) (t : Tl) : Prop where
  lt : ∀ w : Nat, w < t.issued.length → t.issued.getD w 0 < i
  inc : ∀ a b : Nat, a < b → b < t.issued.length → t.issued.getD a 0 < t.issued.getD b 0
  aft : ∀ w : Nat, w < t.issued.length → 0 ≤ t.acked.getD w 0 → t.issued.getD w 0 < t.acked.getD w 0
  len : t.acked.length = t.issued.length
theorem getD_app1 {l : List Int} {x : Int} {w : Nat} (h : w < l.length) : (l ++ [x]).getD w 0 = l.getD w 0 := by
  simp [List.getElem?_append_left h]
theorem getD_app2' {l : List Int} {x : Int} {w : Nat} (h : w = l.length) : (l ++ [x]).getD w 0 = x := by subst h; simp
theorem getD_set1 {l : List Int} {x : Int} {k w : Nat} (h : k ≠ w) : (l.set k x).getD w 0 = l.getD w 0 := by
  simp [h]
theorem getD_set2 {l : List Int} {x : Int} {k : Nat} (h : k < l.length) : (l.set k x).getD k 0 = x := by simp [h]
theorem evStep_ord {n : Nat} {i : Int} {t : Tl} {e : Ev} (hi : 0 ≤ i) (h : TlOrd i t) (h0 : (evStep n i t e).1 = 0) : TlOrd (i + 1) (evStep n i t e).2 := by
  unfold evStep at h0 ⊢
  split at h0
  · rename_i hk
    rw [if_pos hk]
    split at h0
    · exact absurd h0 (by simp)
    · rename_i hc
      rw [if_neg hc]
      refine ⟨fun w hw => ?_, fun a b hab hb => ?_, fun w hw ha => ?_, by simp [h.len]⟩
      · simp only [List.length_append, List.length_singleton] at hw ⊢
        by_cases e : w < t.issued.length
        · rw [getD_app1 e]; have := h.lt w e; omega
        · rw [getD_app2' (by omega)]; omega
      · simp only [List.length_append, List.length_singleton] at hb ⊢
        by_cases e : b < t.issued.length
        · rw [getD_app1 e, getD_app1 (by omega)]; exact h.inc a b hab e
        · rw [getD_app2' (w := b) (by omega), getD_app1 (by omega)]; exact h.lt a (by omega)
      · simp only [List.length_append, List.length_singleton] at hw ha ⊢
        by_cases e : w < t.issued.length
        · have e' : w < t.acked.length := by rw [h.len]; exact e
          rw [getD_app1 (l := t.acked) e'] at ha ⊢
          rw [getD_app1 (l := t.issued) e]; exact h.aft w e ha
        · rw [getD_app2' (by rw [h.len]; omega)] at ha; omega
  · rename_i hk
    rw [if_neg hk]
    split at h0
    · rename_i hk1
      rw [if_pos hk1]
      split at h0
      · exact absurd h0 (by simp)
      · rename_i hc
        rw [if_neg hc]
        split at h0
        · exact absurd h0 (by simp)
        · rename_i hd
          rw [if_neg hd]
          refine ⟨fun w hw => ?_, fun a b hab hb => h.inc a b hab hb, fun w hw ha => ?_, by simp [h.len]⟩
          · have := h.lt w hw; simp only; omega
          · simp only at hw ha ⊢
            by_cases e : e.write.toNat = w
            · subst e
              rw [getD_set2 (by rw [h.len]; omega)]
              exact h.lt _ hw
            · rw [getD_set1 e] at ha ⊢
              exact h.aft w hw ha
    · exact absurd h0 (by simp)
theorem runEv_ord {n : Nat} {l : List Ev} : ∀ j, j ≤ l.length → (runEv n l j).1 = 0 → TlOrd j (runEv n l j).2
  | 0, _, _ => ⟨fun w hw => absurd hw (by simp [runEv]), fun a b _ hb => absurd hb (by simp [runEv]), fun w hw => absurd hw (by simp [runEv]), by simp [runEv]⟩
  | j + 1, hj, h0 => by
    unfold runEv at h0 ⊢
    split at h0
    · rename_i h1; exact absurd h0 h1
    · rename_i h1
      rw [if_neg h1]
      have e : l[j]? = some l[j] := by simp [show j < l.length by omega]
      rw [e] at h0 ⊢
      simp only at h0 ⊢
      have := evStep_ord (n := n) (e := l[j]) (by omega) (runEv_ord j (by omega) (by simpa using h1)) h0
      simpa using this
theorem checkH_run {h : Hist} (hc : (checkH h).1 = 0) : (runEv h.writes.length h.events h.events.length).1 = 0 ∧ (checkH h).2 = (runEv h.writes.length h.events h.events.length).2 := by
  unfold checkH at hc ⊢
  split at hc
  · rename_i h1; exact absurd hc h1
  · rename_i h1
    rw [if_neg h1]
    split at hc
    · exact absurd hc (by simp)
    · rename_i h2
      rw [if_neg h2]
      split at hc
      · rename_i h3; exact absurd hc h3
      · rename_i h3
        rw [if_neg h3]
        split at hc
        · rename_i h4; exact absurd hc h4
        · rename_i h4
          rw [if_neg h4]
          split at hc
          · exact absurd hc (by simp)
          · rename_i h5
            rw [if_neg h5]
            exact ⟨by simpa using h4, rfl⟩
theorem places {h : Hist} (hc : (checkH h).1 = 0) :
    (∀ a b : Int, a < b → 0 ≤ a → b < h.writes.length → atEv h.events ⟨0, a⟩ < atEv h.events ⟨0, b⟩) ∧
    (∀ a : Int, 0 ≤ atEv h.events ⟨1, a⟩ → 0 ≤ a ∧ a < h.writes.length ∧ atEv h.events ⟨0, a⟩ < atEv h.events ⟨1, a⟩) ∧
    ∀ a : Int, 0 ≤ atEv h.events ⟨0, a⟩ ↔ 0 ≤ a ∧ a < h.writes.length := by
  obtain ⟨htl, hlen, _⟩ := checkH_ok hc
  obtain ⟨h0, h2⟩ := checkH_run hc
  have ho := runEv_ord _ (Nat.le_refl _) h0
  rw [← h2] at ho
  have hI : ∀ w : Nat, w < h.writes.length → (checkH h).2.issued.getD w 0 = atEv h.events ⟨0, w⟩ ∧ 0 ≤ atEv h.events ⟨0, w⟩ := fun w hw => by
    have := htl.iss w (by omega)
    rw [← this.1]
    exact ⟨getD_lt (by omega), this.2⟩
  have hA : ∀ w : Nat, w < h.writes.length → (checkH h).2.acked.getD w 0 = atEv h.events ⟨1, w⟩ := fun w hw => by
    rw [← htl.ack w (by have := htl.len; omega)]
    exact getD_lt (by have := htl.len; omega)
  have hout : ∀ a : Int, ¬(0 ≤ a ∧ a < h.writes.length) → atEv h.events ⟨0, a⟩ = -1 ∧ atEv h.events ⟨1, a⟩ = -1 := fun a ha => htl.not a (by omega)
  refine ⟨fun a b hab h1 h2 => ?_, fun a ha => ?_, fun a => ⟨fun ha => ?_, fun ha => ?_⟩⟩
  · obtain ⟨x, rfl⟩ := Int.eq_ofNat_of_zero_le h1
    obtain ⟨y, rfl⟩ := Int.eq_ofNat_of_zero_le (show 0 ≤ b by omega)
    rw [← (hI x (by omega)).1, ← (hI y (by omega)).1]
    exact ho.inc x y (by omega) (by omega)
  · have hr : 0 ≤ a ∧ a < h.writes.length := by
      rcases Classical.em (0 ≤ a ∧ a < h.writes.length) with h | h
      · exact h
      · rw [(hout a h).2] at ha; exact absurd ha (by decide)
    obtain ⟨x, rfl⟩ := Int.eq_ofNat_of_zero_le hr.1
    refine ⟨hr.1, hr.2, ?_⟩
    rw [← hA x (by omega)] at ha ⊢
    rw [← (hI x (by omega)).1]
    exact ho.aft x (by omega) ha
  · rcases Classical.em (0 ≤ a ∧ a < h.writes.length) with h | h
    · exact h
    · rw [(hout a h).1] at ha; exact absurd ha (by decide)
  · obtain ⟨x, rfl⟩ := Int.eq_ofNat_of_zero_le ha.1
    exact (hI x (by omega)).2
theorem bef_iff {h : Hist} {a b : Int} : beforeH h a b = true ↔ (checkH h).1 = 0 ∧ 0 ≤ atEv h.events ⟨1, a⟩ ∧ atEv h.events ⟨1, a⟩ < atEv h.events ⟨0, b⟩ := by
  simp only [beforeH, beforeR, Bool.and_eq_true, decide_eq_true_eq, ge_iff_le]
theorem bef_lt {h : Hist} {a b : Int} (hb : beforeH h a b = true) : a < b := by
  obtain ⟨hc, h1, h2⟩ := bef_iff.1 hb
  obtain ⟨p1, p2, p3⟩ := places hc
  obtain ⟨q1, q2, q3⟩ := p2 a h1
  have r := (p3 b).1 (by omega)
  rcases Int.lt_trichotomy a b with h | h | h
  · exact h
  · subst h; omega
  · have := p1 b a h r.1 q2; omega
end Sx
end
section
open Go
namespace Sx
theorem setUp_of {l : List Int} {n : Int} (h1 : l.Pairwise (· < ·)) (h2 : ∀ x, x ∈ l → 0 ≤ x ∧ x < n) : ∀ m, m ≤ l.length → setUp l n m = true
  | 0, _ => rfl
  | m + 1, hm => by
    have hlt : m < l.length := by omega
    have h3 := h2 _ (List.getElem_mem hlt)
    simp only [setUp, Bool.and_eq_true, Bool.or_eq_true, decide_eq_true_eq]
    rw [getD_lt hlt]
    refine ⟨setUp_of h1 h2 m (by omega), h3.1, h3.2, ?_⟩
    rcases Nat.eq_zero_or_pos m with e | e
    · left; omega
    · right
      rw [getD_lt (show m - 1 < l.length by omega)]
      exact (List.pairwise_iff_getElem.1 h1) (m - 1) m (by omega) hlt (by omega)
def filtN (n : Nat) (p : Int → Bool) : List Int := ((List.range n).map fun (a : Nat) => (a : Int)).filter p
theorem filtN_mem {n : Nat} {p : Int → Bool} {x : Int} : x ∈ filtN n p ↔ 0 ≤ x ∧ x < n ∧ p x = true := by
  unfold filtN
  rw [List.mem_filter, List.mem_map]
  constructor
  · rintro ⟨⟨a, ha, rfl⟩, h⟩
    have := List.mem_range.1 ha
    exact ⟨by omega, by omega, h⟩
  · rintro ⟨h1, h2, h3⟩
    exact ⟨⟨x.toNat, List.mem_range.2 (by omega), by omega⟩, h3⟩
theorem filtN_set {n : Nat} {p : Int → Bool} : setH (filtN n p) n = true := by
  refine setUp_of ?_ (fun x hx => ⟨(filtN_mem.1 hx).1, (filtN_mem.1 hx).2.1⟩) _ (Nat.le_refl _)
  refine List.Pairwise.filter _ ?_
  rw [List.pairwise_map]
  exact List.pairwise_lt_range.imp (by intro a b h; omega)
theorem filtN_len {n : Nat} {p : Int → Bool} : (filtN n p).length ≤ n := Nat.le_trans (List.length_filter_le _ _) (by simp)
theorem filtN_succ {n : Nat} {p : Int → Bool} : filtN (n + 1) p = if p n = true then filtN n p ++ [(n : Int)] else filtN n p := by
  unfold filtN
  rw [List.range_succ, List.map_append, List.filter_append]
  simp only [List.map_cons, List.map_nil, List.filter_cons, List.filter_nil]
  split <;> simp
theorem contains_iff {l : List Int} {x : Int} : l.contains x = true ↔ x ∈ l := List.contains_iff_mem
theorem closedB_iff {h : Hist} {s : List Int} : closedB h s = true ↔ (checkH h).1 = 0 ∧ setH s h.writes.length = true ∧ ∀ b, b ∈ s → ∀ a : Int, 0 ≤ a → a < h.writes.length → beforeH h a b = true → a ∈ s := by
  simp only [closedB, Bool.and_eq_true, decide_eq_true_eq, closedS, List.all_eq_true, rowOkR, List.mem_range, Bool.or_eq_true, Bool.not_eq_true', contains_iff]
  constructor
  · rintro ⟨h1, h2, h3⟩
    refine ⟨h1, h2, fun b hb a ha1 ha2 hbf => ?_⟩
    have := h3 b hb a.toNat (by omega)
    rw [Int.toNat_of_nonneg ha1] at this
    rcases this with h | h
    · simp only [beforeH, Bool.and_eq_true, h] at hbf; exact absurd hbf.2 (by simp)
    · exact h
  · rintro ⟨h1, h2, h3⟩
    refine ⟨h1, h2, fun b hb a ha => ?_⟩
    cases e : beforeR h.events (a : Int) b with
    | false => exact .inl rfl
    | true => exact .inr (h3 b hb a (by omega) (by omega) (by simp only [beforeH, Bool.and_eq_true, decide_eq_true_eq]; exact ⟨h1, e⟩))
theorem closedB_filt {h : Hist} {p : Int → Bool} (hc : (checkH h).1 = 0) (hp : ∀ a b, 0 ≤ a → p b = true → beforeH h a b = true → p a = true) : closedB h (filtN h.writes.length p) = true :=
  closedB_iff.2 ⟨hc, filtN_set, fun b hb a h1 h2 hbf => filtN_mem.2 ⟨h1, h2, hp a b h1 (filtN_mem.1 hb).2.2 hbf⟩⟩
theorem firstN_filt {n i : Nat} (hi : i ≤ n) : firstN (i : Int) = filtN n fun x => decide (x < (i : Int)) := by
  unfold firstN
  rw [Int.toNat_natCast]
  induction n with
  | zero => have : i = 0 := by omega
            subst this; rfl
  | succ n ih =>
    rw [filtN_succ]
    by_cases e : i ≤ n
    · rw [if_neg (by simp; omega)]; exact ih e
    · have : i = n + 1 := by omega
      subst this
      rw [if_pos (by simp; omega), List.range_succ, List.map_append]
      congr 1
      unfold filtN
      rw [List.filter_eq_self.2]
      intro x hx
      obtain ⟨k, hk, rfl⟩ := List.mem_map.1 hx
      have := List.mem_range.1 hk
      simp; omega
theorem closedB_first {h : Hist} {i : Nat} (hc : (checkH h).1 = 0) (hi : i ≤ h.writes.length) : closedB h (firstN (i : Int)) = true := by
  rw [firstN_filt hi]
  refine closedB_filt hc fun a b _ hb hbf => ?_
  have := bef_lt hbf
  simp only [decide_eq_true_eq] at hb ⊢
  omega
end Sx
end
section
open Go
namespace Sx
def rdAk : Rd1 D where
  read x := match x with
    | .agg [a] => rdD.read a
    | _ => none
  canon d := .agg [.dat d]
  right H E x b h hok := by
    split at h
    · obtain ⟨i1, i2⟩ := rdD.right H E _ _ h hok.1
      refine ⟨?_, i2, trivial⟩
      simp only [SV.den, SV.denL, i1]
      rfl
    · cases h
def unackN (l : List Bool) (p : Nat) : List Int := filtN p fun i => !l.getD i.toNat false
theorem apq_need {q : D} {a : Hd} {z : Int} (hz : q.sz = 1) (hl : q.len ≤ 1048576) : q.sz = 1 ∧ (D.slc a 1 [[D.int .i64 z]]).Fits 1 ∧ (q.len + (D.slc a 1 [[D.int .i64 z]]).len) * 8 ≤ 140737488355328 ∧ q.len + (D.slc a 1 [[D.int .i64 z]]).len ≤ 9223372036854775807 :=
  ⟨hz, .inr rfl, by simp only [len_slc, List.length_cons, List.length_nil]; omega, by simp only [len_slc, List.length_cons, List.length_nil]; omega⟩
theorem apq_is {q : D} {a b : Hd} {z : Int} {l : List Int} (hq : q.Is Int) (hto : q.to Int = l) : (D.slc b 1 (List.append q.rows (D.slc a 1 [[D.int .i64 z]]).rows)).Is Int ∧ (D.slc b 1 (List.append q.rows (D.slc a 1 [[D.int .i64 z]]).rows)).sz = 1 ∧ (D.slc b 1 (List.append q.rows (D.slc a 1 [[D.int .i64 z]]).rows)).to Int = l ++ [z] := by
  obtain ⟨i1, i2⟩ := is_of (h := b) (s := 1) rfl (rows_app (rows_of hq) (int_one z))
  exact ⟨i1, rfl, i2.trans (by rw [hto])⟩
theorem sub_is {α : Type} [Codec α] {d : D} (h : d.Is α) (p : Nat) : (d.sub 0 p).Is α ∧ (d.sub 0 p).to α = (d.to α).take p := by
  obtain ⟨a, b, c, rfl, h1, h2⟩ := h
  refine ⟨⟨_, _, _, rfl, ?_, fun r hr => h2 r (List.mem_of_mem_drop (List.mem_of_mem_take hr))⟩, ?_⟩
  · rcases h1 with rfl | h1
    · left; simp [D.rows]
    · exact .inr h1
  · simp [D.sub, D.to, D.rows, List.map_take]
noncomputable def spUna (e : TypeId) : OSpec := spOwnI (rdAk.two rdInt) e (fun x => [x.1.Is Bool ∧ 0 ≤ x.2 ∧ x.2 ≤ (x.1.len : Int) ∧ x.1.len ≤ 1048576]) fun x => unackN (x.1.to Bool) x.2.toNat
end Sx
end
section
open Go
namespace Sx
def recoverG (g : Gr) (du : List Int) : Gr × List Int × Int :=
  if openErr g ≠ 0 then (zGr, [], openErr g)
  else if du.length > g.hist.writes.length then (zGr, [], 27)
  else if ((ackd g.hist.writes.length g.hist.events).drop du.length).any (fun y => decide (true = y)) = true then (zGr, [], 27)
  else if du ≠ firstN du.length then (zGr, [], 27)
  else (⟨⟨g.hist.sizes, g.hist.writes.take du.length, g.hist.events.filter (fun x => !decide (x.write ≥ (du.length : Int))) ++ (unackN (ackd g.hist.writes.length g.hist.events) du.length).map (Ev.mk 1)⟩, [], [], false⟩, unackN (ackd g.hist.writes.length g.hist.events) du.length, 0)
theorem recoverG_e1 {g : Gr} {du : List Int} (h : openErr g ≠ 0) : recoverG g du = (zGr, [], openErr g) := by unfold recoverG; rw [if_pos h]
theorem recoverG_e2 {g : Gr} {du : List Int} (h : openErr g = 0) (h2 : du.length > g.hist.writes.length) : recoverG g du = (zGr, [], 27) := by unfold recoverG; rw [if_neg (by simp [h]), if_pos h2]
theorem recoverG_e3 {g : Gr} {du : List Int} (h : openErr g = 0) (h2 : ¬du.length > g.hist.writes.length) (h3 : ((ackd g.hist.writes.length g.hist.events).drop du.length).any (fun y => decide (true = y)) = true) : recoverG g du = (zGr, [], 27) := by
  unfold recoverG; rw [if_neg (by simp [h]), if_neg h2, if_pos h3]
theorem recoverG_e4 {g : Gr} {du : List Int} (h : openErr g = 0) (h2 : ¬du.length > g.hist.writes.length) (h3 : ((ackd g.hist.writes.length g.hist.events).drop du.length).any (fun y => decide (true = y)) = false) (h4 : du ≠ firstN du.length) : recoverG g du = (zGr, [], 27) := by
  unfold recoverG; rw [if_neg (by simp [h]), if_neg h2, if_neg (by rw [h3]; exact Bool.false_ne_true), if_pos h4]
theorem recoverG_ok {g : Gr} {du : List Int} (h : openErr g = 0) (h2 : ¬du.length > g.hist.writes.length) (h3 : ((ackd g.hist.writes.length g.hist.events).drop du.length).any (fun y => decide (true = y)) = false) (h4 : du = firstN du.length) :
    recoverG g du = ((⟨⟨g.hist.sizes, g.hist.writes.take du.length, g.hist.events.filter (fun x => !decide (x.write ≥ (du.length : Int))) ++ (unackN (ackd g.hist.writes.length g.hist.events) du.length).map (Ev.mk 1)⟩, [], [], false⟩ : Gr), unackN (ackd g.hist.writes.length g.hist.events) du.length, (0 : Int)) := by
  unfold recoverG; rw [if_neg (by simp [h]), if_neg h2, if_neg (by rw [h3]; exact Bool.false_ne_true), if_neg (by simpa using h4)]
noncomputable def spRecG (x : GrD × D) : SpecR := .data [x.1.Right ∧ x.2.Is Int ∧ x.2.len ≤ 1048576] fun ds => .tup [grSV ds (recoverG x.1.gr (x.2.to Int)).1, .dat ((ds 5).like (recoverG x.1.gr (x.2.to Int)).2.1), .int .i64 (recoverG x.1.gr (x.2.to Int)).2.2]
end Sx
end
section
open Go
namespace Sx
theorem cntI_from (n : Int) : ∀ (l : List Int) (k : Nat), l.foldl (fun k x => if x = n then k + 1 else k) k = k + cntI l n := by
  intro l
  unfold cntI
  induction l with
  | nil => intro k; rfl
  | cons x r ih =>
    intro k
    simp only [List.foldl_cons]
    by_cases h : x = n
    · simp only [if_pos h]; rw [ih (k + 1), ih (0 + 1)]; omega
    · simp only [if_neg h]; rw [ih k]
theorem cntI_cons (x : Int) (l : List Int) (n : Int) : cntI (x :: l) n = (if x = n then 1 else 0) + cntI l n := by
  have := cntI_from n (x :: l) 0
  rw [List.foldl_cons, cntI_from] at this
  by_cases h : x = n
  · rw [if_pos h] at this ⊢; omega
  · rw [if_neg h] at this ⊢; omega
theorem cntI_app (a b : List Int) (n : Int) : cntI (a ++ b) n = cntI a n + cntI b n := by
  have := cntI_from n (a ++ b) 0
  rw [List.foldl_append, cntI_from, cntI_from] at this
  omega
theorem cntI_pos {l : List Int} {n : Int} : 0 < cntI l n ↔ n ∈ l := by
  induction l with
  | nil => simp [cntI]
  | cons x r ih =>
    rw [cntI_cons, List.mem_cons]
    by_cases h : x = n
    · rw [if_pos h]; exact ⟨fun _ => .inl h.symm, fun _ => by omega⟩
    · rw [if_neg h]
      have h' : ¬n = x := fun e => h e.symm
      simp only [h', false_or, ← ih]; omega
theorem any_false {s : List Bool} : (s.any fun y => decide (false = y)) = false ↔ ∀ i : Nat, i < s.length → s.getD i false = true := by
  rw [List.any_eq_false]
  constructor
  · intro h i hi
    have := h s[i] (List.getElem_mem hi)
    rw [List.getD_eq_getElem?_getD, List.getElem?_eq_getElem hi]
    cases hs : s[i] with
    | true => rfl
    | false => rw [hs] at this; simp at this
  · intro h y hy
    obtain ⟨i, hi, rfl⟩ := List.getElem_of_mem hy
    have := h i hi
    rw [List.getD_eq_getElem?_getD, List.getElem?_eq_getElem hi] at this
    simp only [Option.getD_some] at this
    rw [this]; simp
theorem getD_setB {s : List Bool} {w i : Nat} (hw : w < s.length) : (s.set w true).getD i false = if w = i then true else s.getD i false := by
  rw [List.getD_eq_getElem?_getD, List.getD_eq_getElem?_getD, List.getElem?_set]
  by_cases h : w = i
  · subst h; simp [hw]
  · rw [if_neg h, if_neg h]
theorem mark_iff : ∀ (l : List Int) (s : List Bool), (∃ s', markAll l s = some s' ∧ (s'.any fun y => decide (false = y)) = false) ↔
    (∀ w, w ∈ l → 0 ≤ w ∧ w < (s.length : Int)) ∧ ∀ i : Nat, i < s.length → cntI l (i : Int) + (if s.getD i false = true then 1 else 0) = 1
  | [], s => by
    simp only [markAll, Option.some.injEq, exists_eq_left', any_false, List.not_mem_nil, false_implies, implies_true, true_and]
    constructor
    · intro h i hi; rw [if_pos (h i hi)]; rfl
    · intro h i hi
      have := h i hi
      split at this
      · assumption
      · exact absurd this (by simp [cntI])
  | w :: l, s => by
    by_cases h1 : w < 0 ∨ w ≥ s.length
    · rw [mark_out h1]
      constructor
      · rintro ⟨_, h, _⟩; cases h
      · rintro ⟨h, _⟩; have := h w List.mem_cons_self; omega
    · obtain ⟨x, rfl⟩ := Int.eq_ofNat_of_zero_le (show 0 ≤ w by omega)
      have hx : x < s.length := by omega
      cases h2 : s.getD x false with
      | true =>
        rw [mark_hit (by simpa using h2)]
        constructor
        · rintro ⟨_, h, _⟩; cases h
        · rintro ⟨_, h⟩
          have := h x hx
          rw [cntI_cons, if_pos rfl, if_pos h2] at this; omega
      | false =>
        rw [mark_go h1 (by simpa using h2), mark_iff l]
        simp only [Int.toNat_natCast, List.length_set, List.mem_cons]
        constructor
        · rintro ⟨h, h'⟩
          refine ⟨fun w hw => ?_, fun i hi => ?_⟩
          · rcases hw with rfl | hw
            · omega
            · exact h w hw
          · have := h' i hi
            simp only [getD_setB hx] at this
            rw [cntI_cons]
            by_cases e : x = i
            · subst e; simp only [if_pos] at this; rw [if_pos rfl, h2]; simp; simpa using this
            · simp only [if_neg e] at this
              rw [if_neg (by omega), Nat.zero_add]; exact this
        · rintro ⟨h, h'⟩
          refine ⟨fun w hw => h w (.inr hw), fun i hi => ?_⟩
          have := h' i hi
          simp only [getD_setB hx]
          rw [cntI_cons] at this
          by_cases e : x = i
          · subst e; rw [if_pos rfl, h2] at this; simp at this; simp [this]
          · simp only [if_neg e]
            rw [if_neg (by omega), Nat.zero_add] at this; exact this
theorem divided_iff (g : Gr) : divided g = true ↔ asc g.waiting = true ∧ (∀ w, w ∈ g.waiting ++ g.held → 0 ≤ w ∧ w < (g.hist.writes.length : Int)) ∧
    ∀ i : Nat, i < g.hist.writes.length → cntI (g.waiting ++ g.held) (i : Int) + (if (ackd g.hist.writes.length g.hist.events).getD i false = true then 1 else 0) = 1 := by
  have h := mark_iff (g.waiting ++ g.held) (ackd g.hist.writes.length g.hist.events)
  rw [ackd_len] at h
  rw [← h]
  unfold divided
  rw [Bool.and_eq_true]
  refine and_congr Iff.rfl ?_
  cases markAll (g.waiting ++ g.held) (ackd g.hist.writes.length g.hist.events) with
  | none => simp
  | some s => simp
theorem ackd_from : ∀ (l : List Ev) (a : List Bool), (∀ e, e ∈ l → 0 ≤ e.write) → ∀ i : Nat, i < a.length → ((l.foldl ackStep a).getD i false = true ↔ a.getD i false = true ∨ (⟨1, (i : Int)⟩ : Ev) ∈ l)
  | [], a, _, i, _ => by simp
  | e :: l, a, h, i, hi => by
    have he := h e List.mem_cons_self
    rw [List.foldl_cons, ackd_from l _ (fun x hx => h x (List.mem_cons_of_mem _ hx)) i (by rw [ackStep_len]; exact hi), List.mem_cons]
    unfold ackStep
    obtain ⟨k, w⟩ := e
    simp only at he ⊢
    by_cases hk : k = 1
    · subst hk
      rw [if_pos rfl]
      by_cases hw : w.toNat < a.length
      · rw [getD_setB hw]
        by_cases hi : w.toNat = i
        · rw [if_pos hi]
          have : w = (i : Int) := by omega
          subst this; simp
        · rw [if_neg hi]
          have : ¬((⟨1, (i : Int)⟩ : Ev) = ⟨1, w⟩) := by intro e; injection e with _ e; omega
          simp [this]
      · rw [List.set_eq_of_length_le (by omega)]
        have : ¬((⟨1, (i : Int)⟩ : Ev) = ⟨1, w⟩) := by intro e; injection e with _ e; omega
        simp [this]
    · rw [if_neg hk]
      have : ¬((⟨1, (i : Int)⟩ : Ev) = ⟨k, w⟩) := by intro e; injection e with e _; exact hk e.symm
      simp [this]
theorem ackd_mem {n : Nat} {l : List Ev} (h : ∀ e, e ∈ l → 0 ≤ e.write) {i : Nat} (hi : i < n) : (ackd n l).getD i false = true ↔ (⟨1, (i : Int)⟩ : Ev) ∈ l := by
  unfold ackd
  rw [ackd_from l _ h i (by simpa using hi)]
  have : (List.replicate n false).getD i false = false := by
    rw [List.getD_eq_getElem?_getD]; simp [List.getElem?_replicate, hi]
  rw [this]; simp
theorem atEv_mem {l : List Ev} {e : Ev} : atEv l e ≥ 0 ↔ e ∈ l := by
  rcases atEv_cases l e with ⟨h1, h2⟩ | ⟨h1, h2, h3⟩
  · rw [h1]; simp [h2]
  · simp [h3]; exact h1
theorem checkH_in {h : Hist} (hc : (checkH h).1 = 0) : ∀ e, e ∈ h.events → (e.kind = 0 ∨ e.kind = 1) ∧ 0 ≤ e.write ∧ e.write < (h.writes.length : Int) := fun e he => by
  obtain ⟨t, hl, _⟩ := checkH_ok hc
  have := t.kind e he
  rwa [hl] at this
theorem ackd_at {h : Hist} (hc : (checkH h).1 = 0) {i : Nat} (hi : i < h.writes.length) : (ackd h.writes.length h.events).getD i false = decide (atEv h.events ⟨1, (i : Int)⟩ ≥ 0) := by
  have h1 := ackd_mem (fun e he => (checkH_in hc e he).2.1) hi
  rw [← atEv_mem] at h1
  rw [Bool.eq_iff_iff, h1, decide_eq_true_eq]
theorem asc_pair {l : List Int} (h : asc l = true) : l.Pairwise (· < ·) := by
  rw [List.pairwise_iff_getElem]
  intro i j hi hj hij
  obtain ⟨d, rfl⟩ := Nat.exists_eq_add_of_lt hij
  clear hij
  have h := (asc_iff l).1 h
  induction d with
  | zero => have := h i hj; rwa [getD_lt hi, getD_lt hj] at this
  | succ d ih =>
    have h1 := ih (by omega)
    have h2 := h (i + d + 1) (by omega)
    rw [getD_lt (show i + d + 1 < l.length by omega), getD_lt (show i + d + 1 + 1 < l.length by omega)] at h2
    have e : i + (d + 1) + 1 = i + d + 1 + 1 := by omega
    simp only [e]; omega
theorem setH_iff {l : List Int} {n : Int} : setH l n = true ↔ asc l = true ∧ ∀ w, w ∈ l → 0 ≤ w ∧ w < n := by
  constructor
  · intro h
    refine ⟨(asc_iff l).2 fun i hi => setUp_lt h (Nat.lt_succ_self i) hi, fun w hw => ?_⟩
    obtain ⟨k, hk, rfl⟩ := List.getElem_of_mem hw
    exact setH_in h hk
  · rintro ⟨h1, h2⟩
    exact setUp_of (asc_pair h1) h2 _ (Nat.le_refl _)
def refErrG (g : Gr) : Int :=
  if (checkH g.hist).1 ≠ 0 then (checkH g.hist).1
  else if setH g.waiting g.hist.writes.length = false then 3
  else if (g.held.all fun w => decide (0 ≤ w) && decide (w < (g.hist.writes.length : Int))) = false then 3
  else if ((List.range g.hist.writes.length).all fun i => decide (cntI g.waiting (i : Int) + cntI g.held (i : Int) = if atEv g.hist.events ⟨1, (i : Int)⟩ ≥ 0 then 0 else 1)) = false then 3
  else if g.held.length > 0 ∧ g.frozen = false then 12 else 0
theorem openErr_ref (g : Gr) : openErr g = refErrG g := by
  unfold openErr refErrG
  by_cases hc : (checkH g.hist).1 ≠ 0
  · rw [if_pos hc, if_pos hc]
  rw [if_neg hc, if_neg hc]
  have hc : (checkH g.hist).1 = 0 := by simpa using hc
  have key : divided g = true ↔ setH g.waiting g.hist.writes.length = true ∧ (g.held.all fun w => decide (0 ≤ w) && decide (w < (g.hist.writes.length : Int))) = true ∧
      ((List.range g.hist.writes.length).all fun i => decide (cntI g.waiting (i : Int) + cntI g.held (i : Int) = if atEv g.hist.events ⟨1, (i : Int)⟩ ≥ 0 then 0 else 1)) = true := by
    rw [divided_iff, setH_iff]
    simp only [List.all_eq_true, Bool.and_eq_true, decide_eq_true_eq, List.mem_range, List.mem_append]
    have hx : (∀ i : Nat, i < g.hist.writes.length → cntI (g.waiting ++ g.held) (i : Int) + (if (ackd g.hist.writes.length g.hist.events).getD i false = true then 1 else 0) = 1) ↔
        ∀ i : Nat, i < g.hist.writes.length → cntI g.waiting (i : Int) + cntI g.held (i : Int) = if atEv g.hist.events ⟨1, (i : Int)⟩ ≥ 0 then 0 else 1 := by
      refine forall_congr' fun i => forall_congr' fun hi => ?_
      rw [cntI_app, ackd_at hc hi]
      simp only [decide_eq_true_eq]
      by_cases h : atEv g.hist.events ⟨1, (i : Int)⟩ ≥ 0
      · rw [if_pos h, if_pos h]; omega
      · rw [if_neg h, if_neg h]; omega
    rw [hx]
    constructor
    · rintro ⟨a, b, c⟩; exact ⟨⟨a, fun w hw => b w (.inl hw)⟩, fun w hw => b w (.inr hw), c⟩
    · rintro ⟨⟨a, b⟩, c, d⟩; exact ⟨a, fun w hw => hw.elim (b w) (c w), d⟩
  generalize divided g = v at key ⊢
  generalize setH g.waiting g.hist.writes.length = v1 at key ⊢
  generalize (g.held.all fun w => decide (0 ≤ w) && decide (w < (g.hist.writes.length : Int))) = v2 at key ⊢
  generalize ((List.range g.hist.writes.length).all fun i => decide (cntI g.waiting (i : Int) + cntI g.held (i : Int) = if atEv g.hist.events ⟨1, (i : Int)⟩ ≥ 0 then 0 else 1)) = v3 at key ⊢
  cases v <;> cases v1 <;> cases v2 <;> cases v3 <;> simp at key ⊢
end Sx
end
section
open Go Go.Proofs Sx
namespace Go.Proofs.Ytodhhmjilnfecaa
set_option maxRecDepth 100000
set_option maxHeartbeats 0
noncomputable def ctRk : Ctrs := [(65, ctrOf (rdHi.one.sp spCkI)), (66, ctrOf ((rdD.two rdInt).sp spSet)), (58, ctrOf ((rdHi.two rdInt).sp spAckd)), (67, ctrOf ((rdD.two rdInt).sp spCnt))]
noncomputable def ctRf : Ctrs := [(39, ctrOf (rdHi.one.sp spFew))]
noncomputable def ctRs2 : Ctrs := [(51, ctrOf ((rdHi.two rdHi).sp spSameH)), (52, ctrOf ((rdD.two rdD).sp spInts))]
section
variable (ha hb hc wt hd ha2 hb2 hc2 wt2 hd2 : D) (fz fz2 : Bool)
theorem rck_in : exec Try.prog ctRk 200 (entry Try.prog 31 [.agg [.dat ha, .dat hb, .dat hc, .dat wt, .dat hd, .bool fz]]) =
 Tree.need (HiD.Right (HiD.mk ha hb hc))
 (.br (Prod.fst (checkH (HiD.hist (HiD.mk ha hb hc))) != 0)
 (.ret (.int .i64 (Prod.fst (checkH (HiD.hist (HiD.mk ha hb hc))))))
 (.need (D.Is Int wt ∧ D.len wt ≤ 1048576)
 (.br (!setH (D.to Int wt) (↑(D.len hb) : Int)) (.ret (.int .i64 3))
 (.leaf
 (Conf.mk
 (SFrm.mk 31 none none
 [Item.inLoop (cAt Try.prog 31 [1, 1, 1, 1, 0, 1, 0, 0]), Item.inBlock 0,
 Item.code (cAt Try.prog 31 [1, 1, 1, 1, 1])]
 (mkJ 0 [(1, .ptr 0 0), (4, .int .i64 (↑(D.len hb) : Int)), (5, .int .i64 0)] 0 74))
 [] [(0, OBlk.cells 28 [.dat ha, .dat hb, .dat hc, .dat wt, .dat hd, .bool fz])]))))) := by kernel_rfl

theorem rfew_in : exec Try.prog ctRf 200 (entry Try.prog 11 [.agg [.dat ha, .dat hb, .dat hc, .dat wt, .dat hd, .bool fz]]) =
 Tree.need (D.Is Int ha ∧ D.Is Wt hb ∧ D.Is Ev hc)
 (.br (fewH (HiD.hist (HiD.mk ha hb hc)))
 (.br (decide ((↑(D.len wt) : Int) ≤ 50)) (.ret (.bool (decide ((↑(D.len hd) : Int) ≤ 50))))
 (.ret (.lb false)))
 (.ret (.lb false))) := by kernel_rfl

theorem rsame_in : exec Try.prog ctRs2 200 (entry Try.prog 17 [.agg [.dat ha, .dat hb, .dat hc, .dat wt, .dat hd, .bool fz], .agg [.dat ha2, .dat hb2, .dat hc2, .dat wt2, .dat hd2, .bool fz2]]) =
 Tree.need (HiD.Right (HiD.mk ha hb hc) ∧ D.Is Int ha2 ∧ D.Is Wt hb2 ∧ D.Is Ev hc2)
 (.br (decide (HiD.hist (HiD.mk ha hb hc) = HiD.hist (HiD.mk ha2 hb2 hc2)))
 (.need (D.Is Int wt ∧ D.Is Int wt2 ∧ D.len wt ≤ 1048576)
 (.br (decide (D.to Int wt = D.to Int wt2))
 (.need (D.Is Int hd ∧ D.Is Int hd2 ∧ D.len hd ≤ 1048576)
 (.br (decide (D.to Int hd = D.to Int hd2)) (.ret (.bool (decide (fz = fz2))))
 (.ret (.lb false))))
 (.ret (.lb false))))
 (.ret (.lb false))) := by kernel_rfl

end
end Go.Proofs.Ytodhhmjilnfecaa
end
section
open Go Go.Proofs Sx
namespace Go.Proofs.Ytodhhmjilnfecaa
set_option maxRecDepth 100000
set_option maxHeartbeats 0
noncomputable def rckA (n : Int) (ha hb hc wt hd : D) (fz : Bool) (j : Int) : Conf := Conf.mk (SFrm.mk 31 none none [Item.inLoop (cAt Try.prog 31 [1, 1, 1, 1, 0, 1, 0, 0]), Item.inBlock 0, Item.code (cAt Try.prog 31 [1, 1, 1, 1, 1])] (mkJ 0 [(1, .ptr 0 0), (4, .int .i64 n), (5, .int .i64 j)] 0 74)) [] [(0, OBlk.cells 28 [.dat ha, .dat hb, .dat hc, .dat wt, .dat hd, .bool fz])]
section
variable (n j : Int) (ha hb hc wt hd : D) (fz : Bool)
theorem rcka_go : exec Try.prog ctRk 200 (unroll (rckA n ha hb hc wt hd fz j)) =
 Tree.br (decide (j < (↑(D.len hd) : Int)))
 (.need (0 ≤ j ∧ j < (↑(D.len hd) : Int) ∧ D.sz hd = 1)
 (.need (D.HasCell hd (Int.toNat j) 0 (FT.int .i64))
 (.br (decide (D.getInt hd (Int.toNat j) 0 < 0)) (.ret (.int .i64 3))
 (.need (0 ≤ j ∧ j < (↑(D.len hd) : Int) ∧ D.sz hd = 1)
 (.need (D.HasCell hd (Int.toNat j) 0 (FT.int .i64))
 (.br (decide (D.getInt hd (Int.toNat j) 0 ≥ n)) (.ret (.int .i64 3))
 (.leaf
 (Conf.mk
 (SFrm.mk 31 none none
 [Item.inLoop (cAt Try.prog 31 [1, 1, 1, 1, 0, 1, 0, 0]), Item.inBlock 0,
 Item.code (cAt Try.prog 31 [1, 1, 1, 1, 1])]
 (mkJ 0
 [(1, .ptr 0 0), (4, .int .i64 n),
 (5, .int .i64 (IntKind.wrap .i64 (j + 1)))]
 0 74))
 [] [(0, OBlk.cells 28 [.dat ha, .dat hb, .dat hc, .dat wt, .dat hd, .bool fz])]))))))))
 (.leaf
 (Conf.mk
 (SFrm.mk 31 none none
 [Item.inLoop (cAt Try.prog 31 [1, 1, 1, 1, 1, 0, 1, 0, 0]), Item.inBlock 2,
 Item.code (cAt Try.prog 31 [1, 1, 1, 1, 1, 1])]
 (mkJ 0 [(1, .ptr 0 0), (4, .int .i64 n), (6, .int .i64 0)] 0 74))
 [] [(0, OBlk.cells 28 [.dat ha, .dat hb, .dat hc, .dat wt, .dat hd, .bool fz])])) := by kernel_rfl

end
end Go.Proofs.Ytodhhmjilnfecaa
end
section
open Go Go.Proofs Sx
namespace Go.Proofs.Ytodhhmjilnfecaa
set_option maxRecDepth 100000
set_option maxHeartbeats 0
noncomputable def rckB (n : Int) (ha hb hc wt hd : D) (fz : Bool) (j : Int) : Conf := Conf.mk (SFrm.mk 31 none none [Item.inLoop (cAt Try.prog 31 [1, 1, 1, 1, 1, 0, 1, 0, 0]), Item.inBlock 2, Item.code (cAt Try.prog 31 [1, 1, 1, 1, 1, 1])] (mkJ 0 [(1, .ptr 0 0), (4, .int .i64 n), (6, .int .i64 j)] 0 74)) [] [(0, OBlk.cells 28 [.dat ha, .dat hb, .dat hc, .dat wt, .dat hd, .bool fz])]
section
variable (n j : Int) (ha hb hc wt hd : D) (fz : Bool)
theorem rckb_go : exec Try.prog ctRk 200 (unroll (rckB n ha hb hc wt hd fz j)) =
 Tree.br (decide (j < n))
 (.need (D.Is Ev hc ∧ D.len hc ≤ 1048576)
 (.br (decide (atEv (D.to Ev hc) (Ev.mk 1 j) ≥ 0))
 (.all fun hs =>
 .need (D.Is Int wt ∧ D.len wt ≤ 1048576)
 (.need (D.Is Int hd ∧ D.len hd ≤ 1048576)
 (.br (IntKind.wrap .i64 ((↑(cntI (D.to Int wt) j) : Int) + (↑(cntI (D.to Int hd) j) : Int)) != 0)
 (.ret (.int .i64 3))
 (.leaf
 (Conf.mk
 (SFrm.mk 31 none none
 [Item.inLoop (cAt Try.prog 31 [1, 1, 1, 1, 1, 0, 1, 0, 0]), Item.inBlock 2,
 Item.code (cAt Try.prog 31 [1, 1, 1, 1, 1, 1])]
 (mkJ 0
 [(1, .ptr 0 0), (4, .int .i64 n),
 (6, .int .i64 (IntKind.wrap .i64 (j + 1)))]
 0 74))
 [] [(0, OBlk.cells 28 [.dat ha, .dat hb, .dat hc, .dat wt, .dat hd, .bool fz])])))))
 (.all fun hs =>
 .need (D.Is Int wt ∧ D.len wt ≤ 1048576)
 (.need (D.Is Int hd ∧ D.len hd ≤ 1048576)
 (.br (IntKind.wrap .i64 ((↑(cntI (D.to Int wt) j) : Int) + (↑(cntI (D.to Int hd) j) : Int)) != 1)
 (.ret (.int .i64 3))
 (.leaf
 (Conf.mk
 (SFrm.mk 31 none none
 [Item.inLoop (cAt Try.prog 31 [1, 1, 1, 1, 1, 0, 1, 0, 0]), Item.inBlock 2,
 Item.code (cAt Try.prog 31 [1, 1, 1, 1, 1, 1])]
 (mkJ 0
 [(1, .ptr 0 0), (4, .int .i64 n),
 (6, .int .i64 (IntKind.wrap .i64 (j + 1)))]
 0 74))
 [] [(0, OBlk.cells 28 [.dat ha, .dat hb, .dat hc, .dat wt, .dat hd, .bool fz])])))))))
 (.br (decide ((↑(D.len hd) : Int) > 0))
 (.br (!fz) (.ret (.int .i64 12)) (.ret (.int .i64 0)))
 (.ret (.int .i64 0))) := by kernel_rfl

end
end Go.Proofs.Ytodhhmjilnfecaa
end
section
open Go
namespace Sx
theorem runEv_more {n m : Nat} {l : List Ev} : ∀ j, (runEv n l j).1 = 0 → (runEv n l j).2.issued.length ≤ m → runEv m l j = runEv n l j
  | 0, _, _ => rfl
  | j + 1, h0, hm => by
    unfold runEv at h0 hm ⊢
    split at h0
    · rename_i h1; exact absurd h0 h1
    · rename_i h1
      rw [if_neg h1] at hm
      have h1' : (runEv n l j).1 = 0 := by simpa using h1
      cases e : l[j]? with
      | none =>
        rw [e] at h0 hm
        simp only at h0 hm
        have ih := runEv_more j h1' hm
        rw [ih, if_neg h1]
      | some x =>
        rw [e] at h0 hm
        simp only at h0 hm
        have hle := evStep_len h0
        have ih := runEv_more (m := m) j h1' (by omega)
        rw [ih, if_neg h1, if_neg h1]
        simp only
        unfold evStep at h0 hm hle ⊢
        split at h0
        · rename_i hk
          simp only [if_pos hk] at hm hle ⊢
          split at h0
          · exact absurd h0 (by simp)
          · rename_i hc
            rw [if_neg hc] at hm ⊢
            simp only [List.length_append, List.length_singleton] at hm
            rw [if_neg (by omega)]
        · rename_i hk
          simp only [if_neg hk]
theorem runEv_take {n : Nat} {l : List Ev} {k : Nat} (hk : k ≤ l.length) : ∀ j, j ≤ k → runEv n (l.take k) j = runEv n l j
  | 0, _ => rfl
  | j + 1, hj => by
    unfold runEv
    rw [runEv_take hk j (by omega)]
    rw [List.getElem?_take_of_lt (by omega)]
theorem runEv_app {n : Nat} {l : List Ev} {e : Ev} (h0 : (runEv n l l.length).1 = 0) : runEv n (l ++ [e]) (l ++ [e]).length = evStep n l.length (runEv n l l.length).2 e := by
  have h1 := runEv_take (n := n) (l := l ++ [e]) (k := l.length) (by simp) l.length (Nat.le_refl _)
  rw [List.take_left'  rfl] at h1
  rw [List.length_append, List.length_singleton]
  conv => lhs; unfold runEv
  rw [← h1, if_neg (by simp [h0])]
  simp
theorem checkH_of {h : Hist} (h1 : sizesErr h.sizes = 0) (h2 : h.writes.length ≤ 4096) (h3 : firstErr h.sizes h.writes = 0) (h4 : (runEv h.writes.length h.events h.events.length).1 = 0)
    (h5 : h.writes.length ≤ (runEv h.writes.length h.events h.events.length).2.issued.length) : (checkH h).1 = 0 := by
  unfold checkH
  rw [if_neg (by simp [h1]), if_neg (by omega), if_neg (by simp [h3]), if_neg (by simp [h4]), if_neg (by omega)]
theorem newH_check {s : List Int} (h : (newH s).2 = 0) : (checkH (newH s).1).1 = 0 := by
  unfold newH at h ⊢
  split at h
  · rename_i h1; exact absurd h h1
  · rename_i h1
    rw [if_neg h1]
    exact checkH_of (by simpa using h1) (by simp) rfl rfl (by simp)
theorem ackH_inv {h : Hist} {n : Int} (h0 : (ackH h n).2 = 0) : (checkH h).1 = 0 ∧ 0 ≤ n ∧ n < h.writes.length ∧ atEv h.events ⟨1, n⟩ < 0 ∧ (ackH h n).1 = ⟨h.sizes, h.writes, h.events ++ [⟨1, n⟩]⟩ := by
  unfold ackH at h0 ⊢
  split at h0
  · rename_i h1; exact absurd h0 h1
  · rename_i h1
    rw [if_neg h1]
    split at h0
    · exact absurd h0 (by simp)
    · rename_i h2
      rw [if_neg h2]
      split at h0
      · exact absurd h0 (by simp)
      · rename_i h3
        rw [if_neg h3]
        exact ⟨by simpa using h1, by omega, by omega, by omega, rfl⟩
theorem issueH_inv {h : Hist} {w : Wt} (h0 : (issueH h w).2.2 = 0) : (checkH h).1 = 0 ∧ h.writes.length < 4096 ∧ fitsErr h.sizes w = 0 ∧ (issueH h w).1 = ⟨h.sizes, h.writes ++ [w], h.events ++ [⟨0, h.writes.length⟩]⟩ := by
  unfold issueH at h0 ⊢
  split at h0
  · rename_i h1; exact absurd h0 h1
  · rename_i h1
    rw [if_neg h1]
    split at h0
    · exact absurd h0 (by simp)
    · rename_i h2
      rw [if_neg h2]
      split at h0
      · rename_i h3; exact absurd h0 h3
      · rename_i h3
        rw [if_neg h3]
        exact ⟨by simpa using h1, by omega, by simpa using h3, rfl⟩
theorem ackH_check {h : Hist} {n : Int} (h0 : (ackH h n).2 = 0) : (checkH (ackH h n).1).1 = 0 := by
  obtain ⟨hc, h1, h2, h3, e⟩ := ackH_inv h0
  rw [e]
  obtain ⟨htl, hlen, k1, k2, k3⟩ := checkH_ok hc
  obtain ⟨r1, r2⟩ := checkH_run hc
  rw [r2] at htl hlen
  have ha := runEv_app (n := h.writes.length) (e := ⟨1, n⟩) r1
  have hs : evStep h.writes.length h.events.length (runEv h.writes.length h.events h.events.length).2 ⟨1, n⟩ = (0, ⟨(runEv h.writes.length h.events h.events.length).2.issued, (runEv h.writes.length h.events h.events.length).2.acked.set n.toNat h.events.length⟩) := by
    obtain ⟨y, rfl⟩ := Int.eq_ofNat_of_zero_le h1
    have hy : y < (runEv h.writes.length h.events h.events.length).2.acked.length := by have := htl.len; omega
    have e2 : (runEv h.writes.length h.events h.events.length).2.acked.getD (Int.toNat (y : Int)) 0 = atEv h.events ⟨1, y⟩ := by rw [← htl.ack y hy, Int.toNat_natCast]; exact getD_lt hy
    unfold evStep
    simp only
    rw [if_neg (by decide), if_pos trivial, if_neg (by omega), e2, if_neg (by omega)]
  rw [hs] at ha
  exact checkH_of k1 k2 k3 (by simp only [ha]) (by simp only [ha]; omega)
theorem issueH_check {h : Hist} {w : Wt} (h0 : (issueH h w).2.2 = 0) : (checkH (issueH h w).1).1 = 0 := by
  obtain ⟨hc, h1, h2, e⟩ := issueH_inv h0
  rw [e]
  obtain ⟨htl, hlen, k1, k2, k3⟩ := checkH_ok hc
  obtain ⟨r1, r2⟩ := checkH_run hc
  rw [r2] at hlen
  have hm := runEv_more (m := h.writes.length + 1) h.events.length r1 (by omega)
  have ha := runEv_app (n := h.writes.length + 1) (l := h.events) (e := ⟨0, h.writes.length⟩) (by rw [hm]; exact r1)
  rw [hm] at ha
  have hs : evStep (h.writes.length + 1) h.events.length (runEv h.writes.length h.events h.events.length).2 ⟨0, h.writes.length⟩ = (0, ⟨(runEv h.writes.length h.events h.events.length).2.issued ++ [(h.events.length : Int)], (runEv h.writes.length h.events h.events.length).2.acked ++ [-1]⟩) := by
    unfold evStep
    simp only
    rw [if_pos trivial, if_neg (by omega)]
  rw [hs] at ha
  refine checkH_of k1 (by simp; omega) ?_ ?_ ?_
  · simp only [firstErr_append, k3]; simp [firstErr, h2]
  · simp only [List.length_append, List.length_singleton] at ha ⊢; rw [ha]
  · simp only [List.length_append, List.length_singleton] at ha ⊢; rw [ha]; simp; omega
theorem stepE_check {ws : List Wt} {st : Hist × Nat} {e : Ev} (h : (checkH st.1).1 = 0) : (checkH (stepE ws st e).1).1 = 0 := by
  unfold stepE
  split
  · split
    · rename_i h1; exact ackH_check h1
    · exact h
  · split
    · split
      · rename_i h1; exact issueH_check h1
      · exact h
    · exact h
theorem runE_check {ws : List Wt} {h0 : Hist} {evs : List Ev} (h : (checkH h0).1 = 0) : ∀ j, j ≤ evs.length → (checkH (runE ws h0 evs j).1).1 = 0
  | 0, _ => by simp only [runE, List.take_zero, List.foldl_nil]; exact h
  | j + 1, hj => by rw [runE_succ (by omega)]; exact stepE_check (runE_check h j (by omega))
theorem newH_sizes {s : List Int} (h : sizesErr s = 0) : newH s = (⟨s, [], []⟩, 0) := by
  unfold newH; rw [if_neg (by simp [h])]
theorem replay_upto {h : Hist} (hc : (checkH h).1 = 0) : ∀ j, j ≤ h.events.length →
    runE h.writes (newH h.sizes).1 h.events j = (⟨h.sizes, h.writes.take (runEv h.writes.length h.events j).2.issued.length, h.events.take j⟩, (runEv h.writes.length h.events j).2.issued.length) ∧ (runEv h.writes.length h.events j).1 = 0
  | 0, _ => by
    obtain ⟨_, _, k1, _, _⟩ := checkH_ok hc
    simp only [runE, List.take_zero, List.foldl_nil, newH_sizes k1, runEv, List.length_nil, and_self]
  | j + 1, hj => by
    obtain ⟨ih, i0⟩ := replay_upto hc j (by omega)
    obtain ⟨htl, hlen, k1, k2, k3⟩ := checkH_ok hc
    obtain ⟨r1, r2⟩ := checkH_run hc
    -- up to here the history is correct
    have hcj := runE_check (ws := h.writes) (evs := h.events) (newH_check (s := h.sizes) (by rw [newH_sizes k1])) j (by omega)
    rw [ih] at hcj
    have tj := runEv_ok (n := h.writes.length) (l := h.events) j (by omega) i0
    -- the next one is correct
    have s1 : (runEv h.writes.length h.events (j + 1)).1 = 0 := by
      have mono : ∀ d, (runEv h.writes.length h.events (j + 1 + d)).1 = 0 → (runEv h.writes.length h.events (j + 1)).1 = 0 := by
        intro d
        induction d with
        | zero => exact id
        | succ d ihd =>
          intro hz
          have hz : (runEv h.writes.length h.events (j + 1 + d + 1)).1 = 0 := hz
          apply ihd
          unfold runEv at hz
          split at hz
          · rename_i hn; exact absurd hz hn
          · rename_i hn; simpa using hn
      have := mono (h.events.length - (j + 1)) (by rw [show j + 1 + (h.events.length - (j + 1)) = h.events.length by omega]; exact r1)
      exact this
    have hjl : j < h.events.length := by omega
    have e1 : runEv h.writes.length h.events (j + 1) = evStep h.writes.length j (runEv h.writes.length h.events j).2 h.events[j] := by
      conv => lhs; unfold runEv
      rw [if_neg (by simp [i0])]
      simp [hjl]
    refine ⟨?_, s1⟩
    rw [runE_succ hjl, ih, List.take_succ_eq_append_getElem hjl]
    rw [e1] at s1 ⊢
    generalize hT : (runEv h.writes.length h.events j).2 = T at *
    generalize hE : h.events[j] = e at *
    obtain ⟨k, x⟩ := e
    have hTl := tj.le
    unfold stepE
    unfold evStep at s1 ⊢
    simp only at s1 ⊢
    by_cases hk : k = 0
    · subst hk
      rw [if_pos rfl] at s1 ⊢
      rw [if_neg (show ¬((0 : Int) = 1) by decide)]
      by_cases hq : x ≠ T.issued.length ∨ x ≥ h.writes.length
      · rw [if_pos hq] at s1; exact absurd s1 (by simp)
      · rw [if_neg hq]
        have hlt : T.issued.length < h.writes.length := by omega
        have hx : x = T.issued.length := by omega
        subst hx
        rw [if_pos hlt]
        have hw : h.writes.getD T.issued.length zWt = h.writes[T.issued.length] := by simp [hlt]
        rw [hw]
        have hf : fitsErr h.sizes h.writes[T.issued.length] = 0 := by
          have := firstErr_take (s := h.sizes) hlt
          have t1 : firstErr h.sizes (h.writes.take (T.issued.length + 1)) = 0 := by
            rcases Classical.em (firstErr h.sizes (h.writes.take (T.issued.length + 1)) = 0) with h' | h'
            · exact h'
            · have := firstErr_of_take h'; rw [k3] at this; exact this.symm
          have t2 : firstErr h.sizes (h.writes.take T.issued.length) = 0 := by
            rcases Classical.em (firstErr h.sizes (h.writes.take T.issued.length) = 0) with h' | h'
            · exact h'
            · have := firstErr_of_take h'; rw [k3] at this; exact this.symm
          rw [t1, t2] at this
          simpa using this.symm
        have hl : (h.writes.take T.issued.length).length = T.issued.length := by rw [List.length_take]; omega
        have hi : issueH ⟨h.sizes, h.writes.take T.issued.length, h.events.take j⟩ h.writes[T.issued.length] = (⟨h.sizes, h.writes.take T.issued.length ++ [h.writes[T.issued.length]], h.events.take j ++ [⟨0, (h.writes.take T.issued.length).length⟩]⟩, ((h.writes.take T.issued.length).length : Int), (0 : Int)) := by
          unfold issueH
          rw [if_neg (by simp only [hcj]; simp), if_neg (by simp only [hl]; omega), if_neg (by simp only [hf]; simp)]
        rw [hi]
        simp only [if_pos, List.length_append, List.length_singleton, hl]
        rw [List.take_succ_eq_append_getElem hlt]
    · rw [if_neg hk] at s1 ⊢
      by_cases hk1 : k = 1
      · subst hk1
        rw [if_pos rfl] at s1 ⊢
        rw [if_pos rfl]
        by_cases hq : x < 0 ∨ x ≥ T.issued.length
        · rw [if_pos hq] at s1; exact absurd s1 (by simp)
        · rw [if_neg hq] at s1 ⊢
          by_cases hd : T.acked.getD x.toNat 0 ≥ 0
          · rw [if_pos hd] at s1; exact absurd s1 (by simp)
          · rw [if_neg hd]
            obtain ⟨y, rfl⟩ := Int.eq_ofNat_of_zero_le (show 0 ≤ x by omega)
            have hy : y < T.acked.length := by have := tj.len; omega
            have e2 : T.acked.getD (Int.toNat (y : Int)) 0 = atEv (h.events.take j) ⟨1, y⟩ := by rw [← tj.ack y hy, Int.toNat_natCast]; exact getD_lt hy
            have hl : (h.writes.take T.issued.length).length = T.issued.length := by rw [List.length_take]; omega
            have hi : ackH ⟨h.sizes, h.writes.take T.issued.length, h.events.take j⟩ (y : Int) = (⟨h.sizes, h.writes.take T.issued.length, h.events.take j ++ [⟨1, y⟩]⟩, (0 : Int)) := by
              unfold ackH
              rw [if_neg (by simp only [hcj]; simp), if_neg (by simp only [hl]; omega), if_neg (by simp only; rw [← e2]; exact hd)]
            rw [hi]
            simp only [if_pos]
      · rw [if_neg hk1] at s1; exact absurd s1 (by simp)
end Sx
end
section
open Go
namespace Sx
def iss (l : List Ev) : Nat := l.countP fun e => decide (e.kind = 0)
theorem iss_app (a b : List Ev) : iss (a ++ b) = iss a + iss b := List.countP_append ..
theorem iss_one (e : Ev) : iss [e] = if e.kind = 0 then 1 else 0 := by
  unfold iss; rw [List.countP_cons]; by_cases h : e.kind = 0 <;> simp [h]
def stepOk (n : Nat) (p : List Ev) (e : Ev) : Prop := (e.kind = 0 ∧ e.write = (iss p : Int) ∧ e.write < n) ∨ (e.kind = 1 ∧ 0 ≤ e.write ∧ e.write < (iss p : Int) ∧ (⟨1, e.write⟩ : Ev) ∉ p)
inductive EvOk (n : Nat) : List Ev → Prop
  | nil : EvOk n []
  | snoc (l : List Ev) (e : Ev) : EvOk n l → stepOk n l e → EvOk n (l ++ [e])
theorem step_iff {n : Nat} {p : List Ev} {t : Tl} {i : Int} {e : Ev} (h : TlOk n p t) (hi : t.issued.length = iss p) : (evStep n i t e).1 = 0 ↔ stepOk n p e := by
  unfold evStep stepOk
  by_cases hk : e.kind = 0
  · rw [if_pos hk]
    by_cases hc : e.write ≠ t.issued.length ∨ e.write ≥ n
    · rw [if_pos hc]
      constructor
      · intro h; exact absurd h (by simp)
      · rintro (⟨_, h1, h2⟩ | ⟨h1, _⟩)
        · omega
        · omega
    · rw [if_neg hc]
      exact ⟨fun _ => .inl ⟨hk, by omega, by omega⟩, fun _ => rfl⟩
  · rw [if_neg hk]
    by_cases hk1 : e.kind = 1
    · rw [if_pos hk1]
      by_cases hc : e.write < 0 ∨ e.write ≥ t.issued.length
      · rw [if_pos hc]
        constructor
        · intro h; exact absurd h (by simp)
        · rintro (⟨h1, _⟩ | ⟨_, h1, h2, _⟩)
          · exact absurd h1 hk
          · omega
      · rw [if_neg hc]
        obtain ⟨y, hy⟩ := Int.eq_ofNat_of_zero_le (show 0 ≤ e.write by omega)
        have hy2 : y < t.acked.length := by have := h.len; omega
        have e2 : t.acked.getD e.write.toNat 0 = atEv p ⟨1, e.write⟩ := by rw [hy, ← h.ack y hy2]; simp [hy2]
        rw [e2]
        by_cases ha : atEv p ⟨1, e.write⟩ ≥ 0
        · rw [if_pos ha]
          constructor
          · intro h; exact absurd h (by simp)
          · rintro (⟨h1, _⟩ | ⟨_, _, _, h1⟩)
            · exact absurd h1 hk
            · exact absurd (atEv_mem.1 ha) h1
        · rw [if_neg ha]
          exact ⟨fun _ => .inr ⟨hk1, by omega, by omega, fun hm => ha (atEv_mem.2 hm)⟩, fun _ => rfl⟩
    · rw [if_neg hk1]
      constructor
      · intro h; exact absurd h (by simp)
      · rintro (⟨h1, _⟩ | ⟨h1, _⟩)
        · exact absurd h1 hk
        · exact absurd h1 hk1
theorem evOk_run {n : Nat} {l : List Ev} : ∀ j, j ≤ l.length → (runEv n l j).1 = 0 → EvOk n (l.take j) ∧ (runEv n l j).2.issued.length = iss (l.take j)
  | 0, _, _ => ⟨by rw [List.take_zero]; exact .nil, rfl⟩
  | j + 1, hj, h0 => by
    have h1 : (runEv n l j).1 = 0 := by
      apply Classical.byContradiction
      intro hne
      have := runEv_stop hne 1
      rw [this] at h0; exact hne h0
    obtain ⟨i1, i2⟩ := evOk_run j (by omega) h1
    rw [runEv_step (by omega) h1] at h0 ⊢
    have ht := runEv_ok (n := n) (l := l) j (by omega) h1
    have hs := (step_iff (i := (j : Int)) (e := l[j]) ht i2).1 h0
    have hlen := evStep_len h0
    rw [List.take_succ_eq_append_getElem (by omega : j < l.length)]
    refine ⟨.snoc _ _ i1 hs, ?_⟩
    rw [iss_app, iss_one]
    by_cases hk : l[j].kind = 0
    · rw [if_pos hk] at hlen ⊢; omega
    · rw [if_neg hk] at hlen ⊢; omega
theorem run_evOk {n : Nat} {l : List Ev} (h : EvOk n l) : (runEv n l l.length).1 = 0 ∧ (runEv n l l.length).2.issued.length = iss l := by
  induction h with
  | nil => exact ⟨rfl, rfl⟩
  | snoc l e hl hs ih =>
    obtain ⟨i1, i2⟩ := ih
    rw [runEv_app i1]
    have ht := runEv_ok (n := n) (l := l) l.length (Nat.le_refl _) i1
    rw [List.take_length] at ht
    have h0 := (step_iff (i := (l.length : Int)) (e := e) ht i2).2 hs
    have hlen := evStep_len h0
    refine ⟨h0, ?_⟩
    rw [iss_app, iss_one]
    by_cases hk : e.kind = 0
    · rw [if_pos hk] at hlen ⊢; omega
    · rw [if_neg hk] at hlen ⊢; omega
theorem firstErr_zero {s : List Int} : ∀ {l : List Wt}, firstErr s l = 0 ↔ ∀ w, w ∈ l → fitsErr s w = 0
  | [] => by simp [firstErr]
  | w :: r => by
    rw [firstErr_cons]
    by_cases h : fitsErr s w ≠ 0
    · rw [if_pos h]
      exact ⟨fun e => absurd e h, fun e => e w List.mem_cons_self⟩
    · rw [if_neg h, firstErr_zero (l := r)]
      have h : fitsErr s w = 0 := by simpa using h
      simp [h]
theorem checkH_iff {h : Hist} : (checkH h).1 = 0 ↔ sizesErr h.sizes = 0 ∧ h.writes.length ≤ 4096 ∧ (∀ w, w ∈ h.writes → fitsErr h.sizes w = 0) ∧ EvOk h.writes.length h.events ∧ iss h.events = h.writes.length := by
  constructor
  · intro hc
    obtain ⟨htl, hlen, k1, k2, k3⟩ := checkH_ok hc
    obtain ⟨r1, r2⟩ := checkH_run hc
    obtain ⟨e1, e2⟩ := evOk_run _ (Nat.le_refl _) r1
    rw [List.take_length] at e1 e2
    rw [r2] at hlen
    exact ⟨k1, k2, firstErr_zero.1 k3, e1, by omega⟩
  · rintro ⟨k1, k2, k3, k4, k5⟩
    obtain ⟨e1, e2⟩ := run_evOk k4
    exact checkH_of k1 k2 (firstErr_zero.2 k3) e1 (by omega)

/-! Restricted. -/
def cntB (s : List Int) (m : Int) : Nat := s.countP fun x => decide (x < m)
theorem cntB_zero {s : List Int} {m : Int} (h : ∀ x, x ∈ s → m ≤ x) : cntB s m = 0 := by
  unfold cntB
  rw [List.countP_eq_zero]
  intro x hx; have := h x hx; simp; omega
theorem cntB_all {s : List Int} {m : Int} (h : ∀ x, x ∈ s → x < m) : cntB s m = s.length := by
  unfold cntB
  rw [List.countP_eq_length]
  intro x hx; have := h x hx; simp; omega
theorem cntB_idx : ∀ {s : List Int}, s.Pairwise (· < ·) → ∀ {k : Nat} (hk : k < s.length), cntB s s[k] = k
  | x :: r, h, 0, _ => by
    rw [List.pairwise_cons] at h
    refine cntB_zero fun y hy => ?_
    rcases List.mem_cons.1 hy with rfl | hy
    · exact Int.le_refl _
    · have := h.1 y hy; simp only [List.getElem_cons_zero]; omega
  | x :: r, h, k + 1, hk => by
    rw [List.pairwise_cons] at h
    have hk' : k < r.length := by simpa using hk
    have ih := cntB_idx h.2 (k := k) hk'
    have hx := h.1 r[k] (List.getElem_mem hk')
    simp only [List.getElem_cons_succ]
    unfold cntB at ih ⊢
    rw [List.countP_cons, ih]; simp [hx]
theorem cntB_succ {m : Int} : ∀ {s : List Int}, s.Pairwise (· < ·) → cntB s (m + 1) = cntB s m + if m ∈ s then 1 else 0
  | [], _ => by simp [cntB]
  | x :: r, h => by
    rw [List.pairwise_cons] at h
    have ih := cntB_succ (m := m) h.2
    unfold cntB at ih ⊢
    rw [List.countP_cons, List.countP_cons, ih]
    by_cases hx : x = m
    · subst hx
      have : x ∉ r := fun hm => by have := h.1 x hm; omega
      rw [if_neg this, if_pos List.mem_cons_self]
      simp; omega
    · have e1 : decide (x < m + 1) = decide (x < m) := by rw [decide_eq_decide]; omega
      have e2 : m ∈ x :: r ↔ m ∈ r := by rw [List.mem_cons]; constructor
                                         · rintro (h | h)
                                           · exact absurd h.symm hx
                                           · exact h
                                         · exact .inr
      simp only [e1, e2]; omega
theorem evR_cases {s : List Int} {n : Int} (h : setH s n = true) (x : Ev) : (x.write ∉ s ∧ evR s x = []) ∨ ∃ k : Nat, ∃ hk : k < s.length, s[k] = x.write ∧ evR s x = [⟨x.kind, (k : Int)⟩] := by
  rw [evR_idx h]
  by_cases hi : idxG s (fun y => decide (x.write = y)) ≥ 0
  · right
    obtain ⟨j, hj, hj1, hj2⟩ := idxG_range (show ¬idxG s (fun y => decide (x.write = y)) < 0 by omega)
    rw [if_pos hi, hj]
    exact ⟨j, hj1, (of_decide_eq_true hj2).symm, rfl⟩
  · left
    rw [if_neg hi]
    refine ⟨fun hm => hi ?_, rfl⟩
    have := idxG_any s (fun y => decide (x.write = y))
    have h2 : s.any (fun y => decide (x.write = y)) = true := List.any_eq_true.2 ⟨_, hm, by simp⟩
    rw [h2] at this
    exact of_decide_eq_true this
theorem restE_app {s : List Int} (a b : List Ev) : restE s (a ++ b) = restE s a ++ restE s b := List.flatMap_append ..
theorem restE_one {s : List Int} (e : Ev) : restE s [e] = evR s e := by simp [restE]
theorem restE_mem {s : List Int} {l : List Ev} {c : Int} {k : Nat} (hk : k < s.length) : (⟨c, (k : Int)⟩ : Ev) ∈ restE s l ↔ (⟨c, s[k]⟩ : Ev) ∈ l := by
  unfold restE evR
  simp only [List.mem_flatMap, List.mem_map, List.mem_filter, List.mem_range, decide_eq_true_eq]
  constructor
  · rintro ⟨x, hx, j, ⟨hj, e⟩, he⟩
    injection he with e1 e2
    have e2 : j = k := by omega
    subst e2
    rw [getD_lt hj] at e
    obtain ⟨a, b⟩ := x
    simp only at e e1
    subst e1; rw [e]; exact hx
  · intro h
    exact ⟨_, h, k, ⟨hk, getD_lt hk⟩, rfl⟩
theorem rest_evOk {s : List Int} {n : Nat} (hs : setH s n = true) {l : List Ev} (h : EvOk n l) : EvOk s.length (restE s l) ∧ iss (restE s l) = cntB s (iss l) := by
  have hp := asc_pair (setH_iff.1 hs).1
  induction h with
  | nil => exact ⟨.nil, (cntB_zero fun x hx => by have := (setH_iff.1 hs).2 x hx; simp [iss]; omega).symm⟩
  | snoc l e hl hst ih =>
    obtain ⟨i1, i2⟩ := ih
    rw [restE_app, restE_one, iss_app, iss_app, iss_one]
    rcases hst with ⟨k1, k2, k3⟩ | ⟨k1, k2, k3, k4⟩
    · rw [if_pos k1]
      have sc := cntB_succ (m := (iss l : Int)) hp
      rcases evR_cases hs e with ⟨hm, he⟩ | ⟨k, hk, hsk, he⟩
      · rw [he, List.append_nil]
        refine ⟨i1, ?_⟩
        rw [k2] at hm
        rw [if_neg hm] at sc
        have : ((iss l + 1 : Nat) : Int) = (iss l : Int) + 1 := by omega
        rw [this, sc, i2]; simp [iss]
      · have ck := cntB_idx hp hk
        rw [hsk, k2] at ck
        have hm : (iss l : Int) ∈ s := by rw [← k2, ← hsk]; exact List.getElem_mem hk
        rw [if_pos hm] at sc
        rw [he]
        refine ⟨.snoc _ _ i1 (.inl ⟨k1, ?_, ?_⟩), ?_⟩
        · simp only; rw [i2, ck]
        · simp only; omega
        · rw [iss_one, if_pos k1]
          have : ((iss l + 1 : Nat) : Int) = (iss l : Int) + 1 := by omega
          rw [this, sc, i2]
    · have hk0 : ¬e.kind = 0 := by omega
      rw [if_neg hk0, Nat.add_zero]
      rcases evR_cases hs e with ⟨hm, he⟩ | ⟨k, hk, hsk, he⟩
      · rw [he, List.append_nil]; exact ⟨i1, by rw [i2]; simp [iss]⟩
      · rw [he]
        refine ⟨.snoc _ _ i1 (.inr ⟨k1, ?_, ?_, ?_⟩), ?_⟩
        · simp only; omega
        · simp only
          rw [i2]
          have ck := cntB_idx hp hk
          rw [hsk] at ck
          have hle : cntB s (e.write + 1) ≤ cntB s (iss l) := by
            unfold cntB
            apply List.countP_mono_left
            intro x _ h
            simp only [decide_eq_true_eq] at h ⊢; omega
          have sc := cntB_succ (m := e.write) hp
          rw [if_pos (by rw [← hsk]; exact List.getElem_mem hk)] at sc
          omega
        · simp only
          rw [restE_mem hk, hsk]; exact k4
        · rw [iss_one, if_neg hk0]; simpa using i2
theorem pickW_mem {ws : List Wt} {s : List Int} (h : ∀ x, x ∈ s → 0 ≤ x ∧ x < (ws.length : Int)) {w : Wt} (hw : w ∈ pickW ws s) : w ∈ ws := by
  unfold pickW at hw
  obtain ⟨x, hx, rfl⟩ := List.mem_map.1 hw
  have := h x hx
  have hl : x.toNat < ws.length := by omega
  rw [List.getD_eq_getElem?_getD, List.getElem?_eq_getElem hl]
  exact List.getElem_mem hl
theorem setH_len {s : List Int} {n : Nat} (h : setH s n = true) : s.length ≤ n := by
  have hp := asc_pair (setH_iff.1 h).1
  have h2 := (setH_iff.1 h).2
  rcases Nat.eq_zero_or_pos s.length with h0 | h0
  · omega
  · have hk : s.length - 1 < s.length := by omega
    have : ∀ k, (hk : k < s.length) → (k : Int) ≤ s[k] := by
      intro k
      induction k with
      | zero => intro hk; have := h2 _ (List.getElem_mem hk); omega
      | succ k ih =>
        intro hk
        have := ih (by omega)
        have := (List.pairwise_iff_getElem.1 hp) k (k + 1) (by omega) hk (by omega)
        omega
    have h3 := this _ hk
    have h4 := h2 _ (List.getElem_mem hk)
    omega
theorem restrict_ok {h : Hist} {s : List Int} (hc : (checkH h).1 = 0) (hs : setH s h.writes.length = true) : (checkH ⟨h.sizes, pickW h.writes s, restE s h.events⟩).1 = 0 := by
  obtain ⟨k1, k2, k3, k4, k5⟩ := checkH_iff.1 hc
  obtain ⟨e1, e2⟩ := rest_evOk hs k4
  have h2 := (setH_iff.1 hs).2
  have hl := setH_len hs
  refine checkH_iff.2 ⟨k1, by simp only [pickW_len]; omega, fun w hw => k3 w (pickW_mem h2 hw), by simp only [pickW_len]; exact e1, ?_⟩
  simp only [pickW_len]
  rw [e2, k5]
  exact cntB_all fun x hx => (h2 x hx).2
end Sx
end
section
open Go
namespace Sx
theorem asc_of {l : List Int} (h : l.Pairwise (· < ·)) : asc l = true :=
  (asc_iff l).2 fun i hi => by rw [getD_lt (by omega), getD_lt hi]; exact (List.pairwise_iff_getElem.1 h) i (i + 1) (by omega) hi (by omega)
theorem openErr_iff (g : Gr) : openErr g = 0 ↔ (checkH g.hist).1 = 0 ∧ g.waiting.Pairwise (· < ·) ∧ (∀ w, w ∈ g.waiting ++ g.held → 0 ≤ w ∧ w < (g.hist.writes.length : Int)) ∧
    (∀ i : Nat, i < g.hist.writes.length → cntI g.waiting (i : Int) + cntI g.held (i : Int) + (if (⟨1, (i : Int)⟩ : Ev) ∈ g.hist.events then 1 else 0) = 1) ∧ (g.held ≠ [] → g.frozen = true) := by
  have key : (checkH g.hist).1 = 0 → ((∀ i : Nat, i < g.hist.writes.length → cntI (g.waiting ++ g.held) (i : Int) + (if (ackd g.hist.writes.length g.hist.events).getD i false = true then 1 else 0) = 1) ↔
      (∀ i : Nat, i < g.hist.writes.length → cntI g.waiting (i : Int) + cntI g.held (i : Int) + (if (⟨1, (i : Int)⟩ : Ev) ∈ g.hist.events then 1 else 0) = 1)) := fun hc =>
    forall_congr' fun i => forall_congr' fun hi => by
      have := ackd_mem (fun e he => (checkH_in hc e he).2.1) hi
      simp only [this, cntI_app]
  unfold openErr
  by_cases hc : (checkH g.hist).1 ≠ 0
  · rw [if_pos hc]
    exact ⟨fun h => absurd h hc, fun h => absurd h.1 hc⟩
  · rw [if_neg hc]
    have hc : (checkH g.hist).1 = 0 := by simpa using hc
    cases hd : divided g with
    | false =>
      rw [if_pos rfl]
      refine ⟨fun h => absurd h (by decide), fun ⟨_, h1, h2, h3, _⟩ => ?_⟩
      have := (divided_iff g).2 ⟨asc_of h1, h2, (key hc).2 h3⟩
      rw [hd] at this; cases this
    | true =>
      rw [if_neg (by simp)]
      obtain ⟨d1, d2, d3⟩ := (divided_iff g).1 hd
      by_cases hh : g.held.length > 0 ∧ g.frozen = false
      · rw [if_pos hh]
        refine ⟨fun h => absurd h (by decide), fun ⟨_, _, _, _, h⟩ => ?_⟩
        have := h (by intro e; rw [e] at hh; simp at hh)
        rw [hh.2] at this; cases this
      · rw [if_neg hh]
        refine ⟨fun _ => ⟨hc, asc_pair d1, d2, (key hc).1 d3, fun hne => ?_⟩, fun _ => rfl⟩
        cases hf : g.frozen with
        | true => rfl
        | false => exact absurd ⟨List.length_pos_iff.2 hne, hf⟩ hh

def withoutI (l : List Int) (n : Int) : List Int := l.filter fun x => !decide (x = n)
theorem without_idx {l : List Int} (h : l.Pairwise (· < ·)) {n : Int} {j : Nat} (hj : idxG l (fun y => decide (n = y)) = (j : Int)) : l.take j ++ l.drop (j + 1) = withoutI l n := by
  obtain ⟨k, hk, hk1, hk2⟩ := idxG_range (show ¬idxG l (fun y => decide (n = y)) < 0 by omega)
  have : k = j := by omega
  subst this
  have hn : n = l[k] := of_decide_eq_true hk2
  unfold withoutI
  conv => rhs; rw [← List.take_append_drop k l, List.drop_eq_getElem_cons hk1]
  rw [List.filter_append, List.filter_cons, if_neg (by simp [hn])]
  congr 1
  · symm
    rw [List.filter_eq_self]
    intro x hx
    obtain ⟨i, hi, rfl⟩ := List.mem_take_iff_getElem.1 hx
    have := (List.pairwise_iff_getElem.1 h) i k (by omega) hk1 (by omega)
    simp; omega
  · symm
    rw [List.filter_eq_self]
    intro x hx
    obtain ⟨i, hi, rfl⟩ := List.mem_drop_iff_getElem.1 hx
    have := (List.pairwise_iff_getElem.1 h) k (k + 1 + i) hk1 (by omega) (by omega)
    simp; omega
theorem without_mem {l : List Int} {n x : Int} : x ∈ withoutI l n ↔ x ∈ l ∧ x ≠ n := by unfold withoutI; simp [List.mem_filter]
theorem idx_contains (l : List Int) (n : Int) : (idxG l fun y => decide (n = y)) < 0 ↔ l.contains n = false := by
  have h := idxG_any l (fun y => decide (n = y))
  have h2 : l.any (fun y => decide (n = y)) = l.contains n := by
    rw [List.contains_eq_any_beq]; congr 1
  rw [h2] at h
  rw [← h, decide_eq_false_iff_not]; omega
theorem ackH_go {h : Hist} {n : Int} (hc : (checkH h).1 = 0) (h1 : 0 ≤ n ∧ n < (h.writes.length : Int)) (h2 : (⟨1, n⟩ : Ev) ∉ h.events) : ackH h n = (⟨h.sizes, h.writes, h.events ++ [⟨1, n⟩]⟩, 0) := by
  unfold ackH
  rw [if_neg (by simp [hc]), if_neg (by omega), if_neg (by rw [atEv_mem]; exact h2)]
def ackAll (l : List Int) (h : Hist) : Hist := l.foldl (fun h n => (ackH h n).1) h
theorem ackAll_go : ∀ {l : List Int} {h : Hist}, (checkH h).1 = 0 → l.Nodup → (∀ n, n ∈ l → (0 ≤ n ∧ n < (h.writes.length : Int)) ∧ (⟨1, n⟩ : Ev) ∉ h.events) →
    ackAll l h = ⟨h.sizes, h.writes, h.events ++ l.map (Ev.mk 1)⟩ ∧ (checkH ⟨h.sizes, h.writes, h.events ++ l.map (Ev.mk 1)⟩).1 = 0
  | [], h, hc, _, _ => by simp [ackAll, hc]
  | x :: r, h, hc, hn, hx => by
    rw [List.nodup_cons] at hn
    obtain ⟨a, b⟩ := hx x List.mem_cons_self
    have e := ackH_go hc a b
    have hc2 := ackH_check (h := h) (n := x) (by rw [e])
    rw [e] at hc2
    have := ackAll_go (l := r) hc2 hn.2 fun n hnr => by
      obtain ⟨a', b'⟩ := hx n (List.mem_cons_of_mem _ hnr)
      refine ⟨a', ?_⟩
      simp only [List.mem_append, List.mem_singleton, not_or]
      refine ⟨b', fun e => ?_⟩
      injection e with _ e
      subst e; exact hn.1 hnr
    simp only [List.map_cons]
    have ap : h.events ++ ({ kind := 1, write := x } : Ev) :: r.map (Ev.mk 1) = h.events ++ [⟨1, x⟩] ++ r.map (Ev.mk 1) := by simp
    rw [ap]
    refine ⟨?_, this.2⟩
    rw [← this.1]
    show r.foldl (fun h n => (ackH h n).1) (ackH h x).1 = _
    rw [e]; rfl
theorem nodup_cnt : ∀ {l : List Int}, (∀ n, n ∈ l → cntI l n ≤ 1) → l.Nodup
  | [], _ => List.nodup_nil
  | x :: r, h => by
    rw [List.nodup_cons]
    constructor
    · intro hm
      have := h x List.mem_cons_self
      rw [cntI_cons, if_pos rfl] at this
      have := cntI_pos.2 hm
      omega
    · refine nodup_cnt fun n hn => ?_
      have := h n (List.mem_cons_of_mem _ hn)
      rw [cntI_cons] at this; omega

/-! Durable. -/
def durR (g : Gr) (n : Int) : Gr × List Int × Int :=
  if openErr g ≠ 0 then (zGr, [], openErr g)
  else if g.waiting.contains n = false then (zGr, [], 7)
  else if g.frozen = true then (⟨g.hist, withoutI g.waiting n, g.held ++ [n], true⟩, [], 0)
  else (⟨(ackH g.hist n).1, withoutI g.waiting n, g.held, false⟩, [n], 0)
theorem wait_free {g : Gr} (h : openErr g = 0) {n : Int} (hn : n ∈ g.waiting) : (0 ≤ n ∧ n < (g.hist.writes.length : Int)) ∧ (⟨1, n⟩ : Ev) ∉ g.hist.events ∧ cntI g.waiting n = 1 ∧ n ∉ g.held := by
  obtain ⟨hc, h1, h2, h3, h4⟩ := (openErr_iff g).1 h
  have a := h2 n (List.mem_append_left _ hn)
  have b := h3 n.toNat (by omega)
  rw [Int.toNat_of_nonneg a.1] at b
  have c := cntI_pos.2 hn
  refine ⟨a, fun hm => ?_, ?_, fun hm => ?_⟩
  · rw [if_pos hm] at b; omega
  · split at b <;> omega
  · have := cntI_pos.2 hm; split at b <;> omega
theorem held_free {g : Gr} (h : openErr g = 0) : g.held.Nodup ∧ ∀ n, n ∈ g.held → (0 ≤ n ∧ n < (g.hist.writes.length : Int)) ∧ (⟨1, n⟩ : Ev) ∉ g.hist.events := by
  obtain ⟨hc, h1, h2, h3, h4⟩ := (openErr_iff g).1 h
  have key : ∀ n, n ∈ g.held → (0 ≤ n ∧ n < (g.hist.writes.length : Int)) ∧ (⟨1, n⟩ : Ev) ∉ g.hist.events ∧ cntI g.held n ≤ 1 := fun n hn => by
    have a := h2 n (List.mem_append_right _ hn)
    have b := h3 n.toNat (by omega)
    rw [Int.toNat_of_nonneg a.1] at b
    have c := cntI_pos.2 hn
    refine ⟨a, fun hm => ?_, ?_⟩
    · rw [if_pos hm] at b; omega
    · split at b <;> omega
  exact ⟨nodup_cnt fun n hn => (key n hn).2.2, fun n hn => ⟨(key n hn).1, (key n hn).2.1⟩⟩
theorem durG_ref (g : Gr) (n : Int) : durG g n = durR g n := by
  unfold durR
  by_cases h : openErr g ≠ 0
  · rw [if_pos h, durG_e1 h]
  · rw [if_neg h]
    have h : openErr g = 0 := by simpa using h
    by_cases hi : (idxG g.waiting fun y => decide (n = y)) < 0
    · rw [if_pos ((idx_contains _ _).1 hi), durG_e2 h hi]
    · rw [if_neg (fun e => hi ((idx_contains _ _).2 e))]
      obtain ⟨j, hj, hj1, hj2⟩ := idxG_range hi
      have hp := ((openErr_iff g).1 h).2.1
      have hm : n ∈ g.waiting := by rw [of_decide_eq_true hj2]; exact List.getElem_mem hj1
      cases hf : g.frozen with
      | true => rw [if_pos rfl, durG_fz h hj hf, without_idx hp hj]
      | false =>
        rw [if_neg (by simp), durG_un h hj hf, without_idx hp hj]
        obtain ⟨a, b, _⟩ := wait_free h hm
        rw [ackH_go ((openErr_iff g).1 h).1 a b]

/-! Freeze and Thaw. -/
def frzR (g : Gr) : Gr × Int × Int :=
  if openErr g ≠ 0 then (zGr, 0, openErr g) else if g.frozen then (zGr, 0, 26) else (⟨g.hist, g.waiting, [], true⟩, g.hist.writes.length, 0)
theorem frzG_ref (g : Gr) : freezeG g = frzR g := by
  unfold freezeG frzR
  by_cases h : openErr g ≠ 0
  · rw [if_pos h, if_pos h]
  · rw [if_neg h, if_neg h]
    have h : openErr g = 0 := by simpa using h
    cases hf : g.frozen with
    | true => rfl
    | false =>
      have : g.held = [] := by
        apply Classical.byContradiction
        intro hne
        have := ((openErr_iff g).1 h).2.2.2.2 hne; rw [hf] at this; cases this
      rw [this]
def thawR (g : Gr) : Gr × List Int × Int :=
  if openErr g ≠ 0 then (zGr, [], openErr g) else if g.frozen = false then (zGr, [], 12)
  else (⟨ackAll g.held g.hist, g.waiting, [], false⟩, g.held, 0)
theorem thawG_ref (g : Gr) : thawG g = thawR g := by
  unfold thawG thawR
  by_cases h : openErr g ≠ 0
  · rw [if_pos h, if_pos h]
  · rw [if_neg h, if_neg h]
    have h : openErr g = 0 := by simpa using h
    obtain ⟨a, b⟩ := held_free h
    rw [(ackAll_go ((openErr_iff g).1 h).1 a b).1]

/-! Issue. -/
end Sx
end
section
open Go
namespace Sx
def fewG (g : Gr) : Bool := fewH g.hist && (decide (g.waiting.length ≤ 50) && decide (g.held.length ≤ 50))
def spFewG (x : GrD) : SpecR := .scalar [x.h.s.Is Int ∧ x.h.w.Is Wt ∧ x.h.e.Is Ev ∧ x.wt.Is Int ∧ x.hd.Is Int] (.bool (fewG x.gr))
def spSameG (x : GrD × GrD) : SpecR := .scalar [x.1.Right ∧ x.2.h.s.Is Int ∧ x.2.h.w.Is Wt ∧ x.2.h.e.Is Ev ∧ x.2.wt.Is Int ∧ x.2.hd.Is Int] (.bool (decide (x.1.gr = x.2.gr)))
theorem gr_eq {a b : Gr} : a = b ↔ a.hist = b.hist ∧ a.waiting = b.waiting ∧ a.held = b.held ∧ a.frozen = b.frozen := by
  obtain ⟨_, _, _, _⟩ := a; obtain ⟨_, _, _, _⟩ := b; simp
def needCp (x : D × D) : List Prop := [x.1.Is Int ∧ x.2.Is Int ∧ x.1.len ≤ 1048576 ∧ x.2.len ≤ 1048576]
noncomputable def spCpd (e : TypeId) : OSpec := spOwnI (rdD.two rdD) e needCp fun x => x.1.to Int ++ x.2.to Int
noncomputable def spWo (e : TypeId) : OSpec := spOwnI (rdD.two rdInt) e (fun x => [x.1.Is Int ∧ x.1.len ≤ 1048576]) fun x => withoutI (x.1.to Int) x.2
theorem cpd_is {a b : Hd} {d e : D} (hd : d.Is Int) (he : e.Is Int) : (D.slc b 1 (List.append (D.rows (D.slc a 1 (D.rows d))) (D.rows e))).Is Int ∧ (D.slc b 1 (List.append (D.rows (D.slc a 1 (D.rows d))) (D.rows e))).to Int = d.to Int ++ e.to Int :=
  is_of rfl (rows_app (rows_of (slc_same hd a rfl).1) (rows_of he)) |>.imp id fun h => h.trans (by rw [(slc_same hd a rfl).2])
theorem withoutI_take {l : List Int} {n : Int} {j : Nat} (hj : j < l.length) : withoutI (l.take (j + 1)) n = if l[j] = n then withoutI (l.take j) n else withoutI (l.take j) n ++ [l[j]] := by
  unfold withoutI
  rw [List.take_succ_eq_append_getElem hj, List.filter_append]
  by_cases h : l[j] = n
  · rw [if_pos h]; simp [h]
  · rw [if_neg h]; simp [h]
end Sx
end
section
open Go Go.Proofs Sx
namespace Go.Proofs.Ytodhhmjilnfecaa
set_option maxRecDepth 100000
theorem ctRkOk : Ctrs.Ok Try.prog ctRk := by
  intro x hx
  simp only [ctRk, List.mem_cons, List.not_mem_nil, or_false] at hx
  rcases hx with rfl | rfl | rfl | rfl
  · exact ctrOf_ok lawCkR
  · exact ctrOf_ok lawSet
  · exact ctrOf_ok lawAckd
  · exact ctrOf_ok lawCnt
theorem lawFewG : Law Try.prog 11 (rdGr.one.sp spFewG) := by
  refine law_in _ (by kernel_rfl) fun H w ⟨⟨ha, hb, hc⟩, wt, hd, fz⟩ hok hp => ?_
  obtain ⟨h1, h2, h3, h4, h5⟩ := hp _ (List.mem_singleton.2 rfl)
  simp only at h1 h2 h3 h4 h5
  have wl := D.Is.length (α := Int) wt
  have hl := D.Is.length (α := Int) hd
  apply exec_sound (cs := ctRf) (by intro x hx; rw [List.mem_singleton.1 hx]; exact ctrOf_ok lawFew) 200
  rw [show rdGr.one.canon ⟨⟨ha, hb, hc⟩, wt, hd, fz⟩ = [.agg [.dat ha, .dat hb, .dat hc, .dat wt, .dat hd, .bool fz]] from rfl, rfew_in]
  have e1 : decide ((wt.len : Int) ≤ 50) = decide ((wt.to Int).length ≤ 50) := by rw [wl, decide_eq_decide]; omega
  have e2 : decide ((hd.len : Int) ≤ 50) = decide ((hd.to Int).length ≤ 50) := by rw [hl, decide_eq_decide]; omega
  refine ⟨⟨h1, h2, h3⟩, fun hf => ⟨fun hw => ret_bool ?_, fun hw => ret_lb ?_⟩, fun hf => ret_lb ?_⟩
  · rw [e1] at hw
    show _ = (fewH (HiD.mk ha hb hc).hist && (decide ((wt.to Int).length ≤ 50) && decide ((hd.to Int).length ≤ 50)))
    rw [hf, hw, e2]; rfl
  · rw [e1] at hw
    show _ = (fewH (HiD.mk ha hb hc).hist && (decide ((wt.to Int).length ≤ 50) && decide ((hd.to Int).length ≤ 50)))
    rw [hw]; simp
  · show _ = (fewH (HiD.mk ha hb hc).hist && (decide ((wt.to Int).length ≤ 50) && decide ((hd.to Int).length ≤ 50)))
    rw [hf]; rfl
theorem ctRs2Ok : Ctrs.Ok Try.prog ctRs2 := by
  intro x hx
  simp only [ctRs2, List.mem_cons, List.not_mem_nil, or_false] at hx
  rcases hx with rfl | rfl
  · exact ctrOf_ok lawSameH
  · exact ctrOf_ok lawInts
theorem lawSameG : Law Try.prog 17 ((rdGr.two rdGr).sp spSameG) := by
  refine law_in _ (by kernel_rfl) fun H w ⟨⟨⟨ha, hb, hc⟩, wt, hd, fz⟩, ⟨⟨ha2, hb2, hc2⟩, wt2, hd2, fz2⟩⟩ hok hp => ?_
  obtain ⟨⟨hR, rw', rh, lw, lh⟩, h1, h2, h3, h4, h5⟩ := hp _ (List.mem_singleton.2 rfl)
  simp only at hR rw' rh lw lh h1 h2 h3 h4 h5
  apply exec_sound ctRs2Ok 200
  rw [show (rdGr.two rdGr).canon (⟨⟨ha, hb, hc⟩, wt, hd, fz⟩, ⟨⟨ha2, hb2, hc2⟩, wt2, hd2, fz2⟩) = [.agg [.dat ha, .dat hb, .dat hc, .dat wt, .dat hd, .bool fz], .agg [.dat ha2, .dat hb2, .dat hc2, .dat wt2, .dat hd2, .bool fz2]] from rfl, rsame_in]
  have key : ∀ b : Bool, (b = true ↔ (HiD.mk ha hb hc).hist = (HiD.mk ha2 hb2 hc2).hist ∧ wt.to Int = wt2.to Int ∧ hd.to Int = hd2.to Int ∧ fz = fz2) → b = decide (GrD.gr ⟨⟨ha, hb, hc⟩, wt, hd, fz⟩ = GrD.gr ⟨⟨ha2, hb2, hc2⟩, wt2, hd2, fz2⟩) := fun b hb => by
    rw [Bool.eq_iff_iff, hb, decide_eq_true_eq, gr_eq]; rfl
  refine ⟨⟨hR, h1, h2, h3⟩, fun e1 => ⟨⟨rw', h4, lw⟩, fun e2 => ⟨⟨rh, h5, lh⟩, fun e3 => ret_bool (key _ ?_), fun e3 => ret_lb (key _ ?_)⟩, fun e2 => ret_lb (key _ ?_)⟩, fun e1 => ret_lb (key _ ?_)⟩
  · have e1 := of_decide_eq_true e1
    have e2 := of_decide_eq_true e2
    have e3 := of_decide_eq_true e3
    simp [e1, e2, e3]
  · have e3 := of_decide_eq_false e3
    simp [e3]
  · have e3 := of_decide_eq_false e2
    simp [e3]
  · have e3 := of_decide_eq_false e1
    simp [e3]
theorem lawRkG : Law Try.prog 31 (rdGr.one.sp spCkG) := by
  refine law_in _ (by kernel_rfl) fun H w ⟨⟨ha, hb, hc⟩, wt, hd, fz⟩ hok hp => ?_
  have hx : GrD.Right ⟨⟨ha, hb, hc⟩, wt, hd, fz⟩ := hp _ (List.mem_singleton.2 rfl)
  obtain ⟨hR, rw', rh, lw, lh⟩ := id hx
  obtain ⟨ra, rb, rc, la, lb, lc, rd⟩ := id hR
  simp only at ra rb rc la lb lc rd rw' rh lw lh
  have bl := D.Is.length (α := Wt) hb
  have hl := D.Is.length (α := Int) hd
  have wl := D.Is.length (α := Int) wt
  apply exec_sound ctRkOk 200
  rw [show rdGr.one.canon ⟨⟨ha, hb, hc⟩, wt, hd, fz⟩ = [.agg [.dat ha, .dat hb, .dat hc, .dat wt, .dat hd, .bool fz]] from rfl, rck_in]
  generalize hg : GrD.gr ⟨⟨ha, hb, hc⟩, wt, hd, fz⟩ = g
  have g1 : g.hist = (HiD.mk ha hb hc).hist := by rw [← hg]; rfl
  have g2 : g.waiting = wt.to Int := by rw [← hg]; rfl
  have g3 : g.held = hd.to Int := by rw [← hg]; rfl
  have g4 : g.frozen = fz := by rw [← hg]; rfl
  have g5 : g.hist.writes.length = hb.len := by rw [g1, bl]; rfl
  have g6 : g.hist.events = hc.to Ev := by rw [g1]; rfl
  have hr := openErr_ref g
  rw [hr]
  refine ⟨hR, fun e1 => ret_int ?_, fun e1 => ⟨⟨rw', lw⟩, fun e2 => ret_int ?_, fun e2 => ?_⟩⟩
  · have e1 : (checkH g.hist).1 ≠ 0 := by rw [g1]; simpa using e1
    unfold refErrG; rw [if_pos e1, g1]
  · have e1 : ¬(checkH g.hist).1 ≠ 0 := by rw [g1]; simpa using e1
    have e2 : setH g.waiting g.hist.writes.length = false := by rw [g2, g5]; simpa using e2
    unfold refErrG; rw [if_neg e1, if_pos e2]
  have e1 : ¬(checkH g.hist).1 ≠ 0 := by rw [g1]; simpa using e1
  have e2 : ¬setH g.waiting g.hist.writes.length = false := by rw [g2, g5]; simpa using e2
  show Runs _ _ (rckA hb.len ha hb hc wt hd fz 0) _
  refine runs_loop (fun j : Nat => rckA hb.len ha hb hc wt hd fz j) (fun j => j ≤ (hd.to Int).length ∧ ((hd.to Int).take j).all (fun w => decide (0 ≤ w) && decide (w < (hb.len : Int))) = true) (fun j => (hd.to Int).length - j) (fun _ => rfl) ?_ 0 ⟨Nat.zero_le _, by simp⟩
  intro j ⟨hj, hpre⟩ ih
  apply exec_sound ctRkOk 200
  rw [rcka_go]
  refine ⟨fun hc' => ?_, fun hc' => ?_⟩
  · have hcj : j < (hd.to Int).length := by have := of_decide_eq_true hc'; omega
    obtain ⟨c1, c2, c3⟩ := int_at rh hcj
    have bad : ¬((0 : Int) ≤ (hd.to Int)[j] ∧ (hd.to Int)[j] < (hb.len : Int)) → (3 : Int) = refErrG g := fun h => by
      have e3 : (g.held.all fun w => decide (0 ≤ w) && decide (w < (g.hist.writes.length : Int))) = false := by
        rw [g3, g5, List.all_eq_false]
        refine ⟨_, List.getElem_mem hcj, ?_⟩
        simp only [Bool.and_eq_true, decide_eq_true_eq]; exact h
      unfold refErrG; rw [if_neg e1, if_neg e2, if_pos e3]
    rw [c3]
    refine ⟨c1, c2, fun h => ret_int ?_, fun h => ⟨c1, c2, fun h' => ret_int ?_, fun h' => ?_⟩⟩
    · have := of_decide_eq_true h; exact bad (by omega)
    · have := of_decide_eq_true h'; exact bad (by omega)
    · have h := of_decide_eq_false h
      have h' := of_decide_eq_false h'
      have := ih (j + 1) ⟨hcj, by
        rw [List.take_succ_eq_append_getElem hcj, List.all_append, hpre]
        simp only [List.all_cons, List.all_nil, Bool.and_true, Bool.true_and, Bool.and_eq_true, decide_eq_true_eq]; omega⟩ (by omega)
      rw [← wrap_succ hcj (by omega)] at this
      exact this
  · have hjl : j = (hd.to Int).length := by have := of_decide_eq_false hc'; omega
    subst hjl
    rw [List.take_length] at hpre
    have e3 : ¬(g.held.all fun w => decide (0 ≤ w) && decide (w < (g.hist.writes.length : Int))) = false := by rw [g3, g5, hpre]; simp
    show Runs _ _ (rckB hb.len ha hb hc wt hd fz 0) _
    refine runs_loop (fun j : Nat => rckB hb.len ha hb hc wt hd fz j) (fun j => j ≤ hb.len ∧ ∀ i : Nat, i < j → cntI g.waiting (i : Int) + cntI g.held (i : Int) = if atEv g.hist.events ⟨1, (i : Int)⟩ ≥ 0 then 0 else 1) (fun j => hb.len - j) (fun _ => rfl) ?_ 0 ⟨Nat.zero_le _, fun i h => absurd h (Nat.not_lt_zero _)⟩
    intro j ⟨hj, hpj⟩ ih
    apply exec_sound ctRkOk 200
    rw [rckb_go]
    have cw := cntI_le (wt.to Int) j
    have ch := cntI_le (hd.to Int) j
    have wr : IntKind.i64.wrap ((cntI (wt.to Int) j : Int) + (cntI (hd.to Int) j : Int)) = ((cntI (wt.to Int) j : Int) + (cntI (hd.to Int) j : Int)) := wrap64 (by omega) (by omega)
    have nxt : j < hb.len → (cntI g.waiting (j : Int) + cntI g.held (j : Int) = if atEv g.hist.events ⟨1, (j : Int)⟩ ≥ 0 then 0 else 1) → Runs Try.prog ⟨w, H⟩ (rckB hb.len ha hb hc wt hd fz (IntKind.i64.wrap ((j : Int) + 1))) (RetS w H (.int .i64 (refErrG g))) := fun hcj h => by
      have := ih (j + 1) ⟨hcj, fun i hi => by
        by_cases e : i = j
        · subst e; exact h
        · exact hpj i (by omega)⟩ (by omega)
      rw [← wrap_succ hcj (by omega)] at this
      exact this
    have bad : j < hb.len → ¬(cntI g.waiting (j : Int) + cntI g.held (j : Int) = if atEv g.hist.events ⟨1, (j : Int)⟩ ≥ 0 then 0 else 1) → (3 : Int) = refErrG g := fun hcj h => by
      have e4 : ((List.range g.hist.writes.length).all fun i => decide (cntI g.waiting (i : Int) + cntI g.held (i : Int) = if atEv g.hist.events ⟨1, (i : Int)⟩ ≥ 0 then 0 else 1)) = false := by
        rw [List.all_eq_false]
        exact ⟨j, List.mem_range.2 (by omega), by simpa using h⟩
      unfold refErrG; rw [if_neg e1, if_neg e2, if_neg e3, if_pos e4]
    rw [g2, g3, g6] at nxt bad
    refine ⟨fun hcj => ⟨⟨rc, lc⟩, fun ha' hs => ⟨⟨rw', lw⟩, ⟨rh, lh⟩, fun hz => ret_int ?_, fun hz => ?_⟩, fun ha' hs => ⟨⟨rw', lw⟩, ⟨rh, lh⟩, fun hz => ret_int ?_, fun hz => ?_⟩⟩, fun hcj => ?_⟩
    · have hcj : j < hb.len := by have := of_decide_eq_true hcj; omega
      have ha' := of_decide_eq_true ha'
      rw [wr] at hz
      exact bad hcj (by rw [if_pos ha']; simp only [bne_iff_ne, ne_eq] at hz; omega)
    · have hcj : j < hb.len := by have := of_decide_eq_true hcj; omega
      have ha' := of_decide_eq_true ha'
      rw [wr] at hz
      exact nxt hcj (by rw [if_pos ha']; simp only [bne_eq_false_iff_eq] at hz; omega)
    · have hcj : j < hb.len := by have := of_decide_eq_true hcj; omega
      have ha' := of_decide_eq_false ha'
      rw [wr] at hz
      exact bad hcj (by rw [if_neg ha']; simp only [bne_iff_ne, ne_eq] at hz; omega)
    · have hcj : j < hb.len := by have := of_decide_eq_true hcj; omega
      have ha' := of_decide_eq_false ha'
      rw [wr] at hz
      exact nxt hcj (by rw [if_neg ha']; simp only [bne_eq_false_iff_eq] at hz; omega)
    · have hjl : j = hb.len := by have := of_decide_eq_false hcj; omega
      subst hjl
      have e4 : ¬((List.range g.hist.writes.length).all fun i => decide (cntI g.waiting (i : Int) + cntI g.held (i : Int) = if atEv g.hist.events ⟨1, (i : Int)⟩ ≥ 0 then 0 else 1)) = false := by
        rw [Bool.not_eq_false, List.all_eq_true]
        intro i hi
        exact decide_eq_true (hpj i (by have := List.mem_range.1 hi; omega))
      have fin : refErrG g = if (hd.to Int).length > 0 ∧ fz = false then 12 else 0 := by
        unfold refErrG; rw [if_neg e1, if_neg e2, if_neg e3, if_neg e4, g3, g4]
      rw [fin]
      refine ⟨fun h1 => ⟨fun h2 => ret_int ?_, fun h2 => ret_int ?_⟩, fun h1 => ret_int ?_⟩
      · have h1 := of_decide_eq_true h1
        rw [if_pos ⟨by omega, by simpa using h2⟩]
      · rw [if_neg (by simp at h2; simp [h2])]
      · have h1 := of_decide_eq_false h1
        rw [if_neg (by omega)]
theorem lawCpd : OLaw Try.prog 43 (spCpd 3) := by
  refine olaw_ints (by kernel_rfl) fun H w ⟨d, e⟩ hok hp => ?_
  obtain ⟨hd, he, ld, le⟩ := hp _ (List.mem_singleton.2 rfl)
  simp only at hd he ld le
  apply execR_sound (noCtr _) 200
  rw [show (rdD.two rdD).canon (d, e) = [.dat d, .dat e] from rfl, cpd_in2]
  refine ⟨⟨hd.fits, by omega, by omega⟩, fun hs => ⟨⟨rfl, he.fits, ?_, ?_⟩, fun hs1 => ?_⟩⟩
  · simp only [D.len, D.rows] at ld le ⊢; omega
  · simp only [D.len, D.rows] at ld le ⊢; omega
  · exact own_ret (h := D.slc (D.hd (hs1 0 0)) 1 []) Try.func43 (by kernel_rfl) rfl (ints_rows (cpd_is hd he).1 rfl (cpd_is hd he).2)
theorem ctrCpd : CtrOk Try.prog 43 (oCtr (spCpd 3)) := oCtr_ok lawCpd
theorem lawWo : OLaw Try.prog 49 (spWo 3) := by
  refine olaw_ints (by kernel_rfl) fun H w ⟨d, n⟩ hok hp => ?_
  obtain ⟨hd, ld⟩ := hp _ (List.mem_singleton.2 rfl)
  simp only at hd ld
  have dl := D.Is.length (α := Int) d
  apply exec_sound (noCtr _) 200
  rw [show (rdD.two rdInt).canon (d, n) = [.dat d, .int .i64 n] from rfl, wo_in]
  refine vecIn_to 9 3 1 none 5 (woL d (.slc none 1 []) n 0) (by kernel_rfl) ?_
  refine runs_loop (fun s : D × Nat => woL d s.1 n s.2) (fun s => s.2 ≤ (d.to Int).length ∧ s.1.Is Int ∧ s.1.sz = 1 ∧ s.1.to Int = withoutI ((d.to Int).take s.2) n) (fun s => (d.to Int).length - s.2) (fun _ => rfl) ?_ (_, 0) ⟨Nat.zero_le _, is_nil _ _, rfl, rfl⟩
  rintro ⟨r, j⟩ ⟨hj, r1, r2, r3⟩ ih
  simp only at hj r1 r2 r3 ih ⊢
  have rl : r.len ≤ 1048576 := by
    rw [D.Is.length (α := Int), r3]
    refine Nat.le_trans (List.length_filter_le _ _) ?_
    rw [List.length_take]; omega
  apply execR_sound (noCtr _) 200
  rw [wo_go]
  refine ⟨fun hc => ?_, fun hc => ?_⟩
  · have hc : j < (d.to Int).length := by have := of_decide_eq_true hc; omega
    obtain ⟨c1, c2, c3⟩ := int_at hd hc
    have wj : IntKind.i64.wrap ((j : Int) + 1) = ((j + 1 : Nat) : Int) := wrap_succ hc (by omega)
    have sn := withoutI_take (n := n) hc
    rw [wj, c3]
    refine ⟨c1, c2, fun hz => ⟨c1, c2, fun hs => ⟨apq_need r2 rl, fun hs1 => ?_⟩⟩, fun hz => ?_⟩
    · rw [if_neg (by simpa using hz)] at sn
      obtain ⟨i1, i2, i3⟩ := apq_is (a := D.hd (hs 0 0)) (b := D.hd (hs1 0 0)) (z := (d.to Int)[j]) r1 r3
      exact ih (_, j + 1) ⟨hc, i1, i2, i3.trans sn.symm⟩ (by simp only; omega)
    · rw [if_pos (by simpa using hz)] at sn
      exact ih (r, j + 1) ⟨hc, r1, r2, r3.trans sn.symm⟩ (by simp only; omega)
  · have hc := of_decide_eq_false hc
    have : j = (d.to Int).length := by omega
    subst this
    rw [List.take_length] at r3
    exact own_ret (h := r) Try.func49 (by kernel_rfl) rfl (ints_rows r1 r2 r3)
theorem ctrWo : CtrOk Try.prog 49 (oCtr (spWo 3)) := oCtr_ok lawWo
end Go.Proofs.Ytodhhmjilnfecaa
end
section
open Go Go.Proofs Sx
namespace Go.Proofs.Ytodhhmjilnfecaa
set_option maxRecDepth 100000


theorem lawBefT : Law Try.prog 96 ((rdTl.three rdInt rdInt).sp spBefT) := by
  refine law_in _ (by kernel_rfl) fun H w ⟨⟨i, o⟩, n, j⟩ hok hp => ?_
  obtain ⟨ri, ro, hn0, hn1, hj0, hj1⟩ := hp _ (List.mem_singleton.2 rfl)
  simp only at ri ro hn0 hn1 hj0 hj1
  obtain ⟨x, rfl⟩ := Int.eq_ofNat_of_zero_le hn0
  obtain ⟨y, rfl⟩ := Int.eq_ofNat_of_zero_le hj0
  have hx : x < (o.to Int).length := by omega
  have hy : y < (i.to Int).length := by omega
  obtain ⟨c1, c2, c3⟩ := int_at ro hx
  obtain ⟨d1, d2, d3⟩ := int_at ri hy
  apply exec_sound (noCtr _) 200
  rw [show (rdTl.three rdInt rdInt).canon (⟨i, o⟩, (x : Int), (y : Int)) = [.agg [.dat i, .dat o], .int .i64 x, .int .i64 y] from rfl, tb_in]
  have e1 : (o.to Int).getD (Int.toNat (x : Int)) 0 = (o.to Int)[x] := getD_lt hx
  have e2 : (i.to Int).getD (Int.toNat (y : Int)) 0 = (i.to Int)[y] := getD_lt hy
  have eb : beforeT ⟨i.to Int, o.to Int⟩ x y = (decide ((o.to Int)[x] ≥ 0) && decide ((o.to Int)[x] < (i.to Int)[y])) := by unfold beforeT; simp only [e1, e2]
  intro hs
  rw [c3, d3]
  refine ⟨fun h => ?_, fun h => ?_⟩
  · refine ⟨c1, c2, h, h, h, h, c1, h, c2, h, h, h, h, d1, h, d2, h, h, ret_bool (Eq.trans ?_ eb.symm)⟩
    rw [h]; rfl
  · refine ⟨c1, c2, h, h, h, h, h, h, h, h, h, h, h, h, ret_lb (Eq.trans ?_ eb.symm)⟩
    rw [h]; rfl
end Go.Proofs.Ytodhhmjilnfecaa
end
section
namespace Sx
open Go RowKit
def atEnd (c : Conf) : Bool :=
  match c.rest with
  | [] => match c.top.ri with
    | none => match c.top.todo with
      | [] => true
      | .code .ret :: _ => true
      | _ => false
    | some _ => false
  | _ :: _ => false
noncomputable def execP (P : Program) (cs : Ctrs) (n : Nat) : Conf → Tree :=
  Nat.rec (motive := fun _ => Conf → Tree) (fun _ => .stuck) (fun _ ih c => match atEnd c with
    | true => leafR c
    | false => stepC P cs (fun _ => false) ih c) n

theorem execP_sound {P : Program} {C : Ctx} {R : Value → World → Prop} {cs : Ctrs} (hcs : cs.Ok P) : ∀ (n : Nat) (c : Conf), (execP P cs n c).holds P C R → Runs P C c R
  | 0, _, h => h.elim
  | n + 1, c, h => by
    have e : execP P cs (n + 1) c = match atEnd c with
      | true => leafR c
      | false => stepC P cs (fun _ => false) (execP P cs n) c := rfl
    rw [e] at h
    cases hr : atEnd c with
    | true => rw [hr, leafR_eq] at h; exact h
    | false => rw [hr] at h; exact step_sound (U := fun _ => false) (ih := execP P cs n) hcs (fun c h => execP_sound hcs n c h) c h
def EndR (C : Ctx) (Φ : Bool → List SV → Mem → Prop) (v : Value) (w : World) : Prop :=
  ∃ e tmps mem E H, Φ e tmps mem ∧ v = rv e (SV.denL E tmps).toArray ∧ Good C mem E H w ∧ SV.OkL H tmps

section
variable {P : Program} {C : Ctx} {Φ : Bool → List SV → Mem → Prop}

theorem kind_piece {C : Ctx} (hrd : C.x.rd = true) : kindOf C.x = some (marksOf C.x.df) := by simp [kindOf, hrd]

theorem end_here {fn : FuncId} {aw : Option Tmp} {tmps : List SV} {mem : Mem} (hrd : C.x.rd = true) (h : Φ true tmps mem) : Runs P C ⟨⟨fn, none, aw, [], tmps⟩, [], mem⟩ (EndR C Φ) := by
  intro E H w g ok
  show Go1 P (kindOf C.x) fn [] ⟨(SV.denL E tmps).toArray, marksOf C.x.df⟩ w _
  rw [kind_piece hrd]
  exact Go1.round_end ⟨true, tmps, mem, E, H, h, rfl, g, ok.1⟩

theorem end_ret {fn : FuncId} {aw : Option Tmp} {k : List Item} {tmps : List SV} {mem : Mem} (hrd : C.x.rd = true) (h : Φ false tmps mem) : Runs P C ⟨⟨fn, none, aw, .code .ret :: k, tmps⟩, [], mem⟩ (EndR C Φ) := by
  intro E H w g ok
  show Go1 P (kindOf C.x) fn (.code .ret :: k) ⟨(SV.denL E tmps).toArray, marksOf C.x.df⟩ w _
  rw [kind_piece hrd]
  exact Go1.round_ret ⟨false, tmps, mem, E, H, h, rfl, g, ok.1⟩

theorem end_ops {fn : FuncId} {aw : Option Tmp} {ops : Array Oper} {tmps : List SV} {mem : Mem} (hrd : C.x.rd = true) (h : Φ true tmps mem) : Runs P C ⟨⟨fn, some (ops, []), aw, [], tmps⟩, [], mem⟩ (EndR C Φ) := by
  intro E H w g ok
  show wpOps P ops (Qk P (kindOf C.x) fn [] (EndR C Φ)) [] ⟨(SV.denL E tmps).toArray, marksOf C.x.df⟩ w
  rw [kind_piece hrd]
  exact ⟨rfl, Go1.round_end ⟨true, tmps, mem, E, H, h, rfl, g, ok.1⟩⟩
theorem piece (hrd : C.x.rd = true) {fn : FuncId} {aw : Option Tmp} {todo : List Item} {tmps : List SV} {mem : Mem} (h : Runs P C ⟨⟨fn, none, aw, todo, tmps⟩, [], mem⟩ (EndR C Φ)) {E : Env} {H : HV} {w : World} (g : Good C mem E H w) (ok : SV.OkL H tmps)
    (b : Frame) (K : List Item) (cs : List Frame) (hb : b.fn = fn) :
    ∃ e tmps' mem' E' H' w', Φ e tmps' mem' ∧ Good C mem' E' H' w' ∧ SV.OkL H' tmps' ∧
      RoundTo P (lone (b.atR ⟨(SV.denL E tmps).toArray, marksOf C.x.df⟩ (todo ++ K)) cs w) b K cs ⟨(SV.denL E' tmps').toArray, marksOf C.x.df⟩ w' e := by
  have h1 : Go1 P (kindOf C.x) fn todo ⟨(SV.denL E tmps).toArray, marksOf C.x.df⟩ w (EndR C Φ) := h E H w g ⟨ok, by simp⟩
  rw [kind_piece hrd] at h1
  obtain ⟨e, T, w', ⟨e', tmps', mem', E', H', h2, h3, h4, h5⟩, h6⟩ := h1 b K cs hb
  simp only [rv, Value.tuple.injEq, Array.mk.injEq, List.cons.injEq, Value.bool.injEq, and_true] at h3
  obtain ⟨rfl, rfl⟩ := h3
  exact ⟨e, tmps', mem', E', H', w', h2, h4, h5, h6⟩
theorem piece_ops (hrd : C.x.rd = true) {fn : FuncId} {aw : Option Tmp} {ops : Array Oper} (hcalm : calmOps ops = true) {l : List Nat} {tmps : List SV} {mem : Mem}
    (h : Runs P C ⟨⟨fn, some (ops, l), aw, [], tmps⟩, [], mem⟩ (EndR C fun e t m => e = true ∧ Φ true t m)) {E : Env} {H : HV} {w : World} (g : Good C mem E H w) (ok : SV.OkL H tmps)
    (b : Frame) (more : List Nat) (K : List Item) (cs : List Frame) (hb : b.fn = fn) :
    ∃ tmps' mem' E' H' w', Φ true tmps' mem' ∧ Good C mem' E' H' w' ∧ SV.OkL H' tmps' ∧
      Steps P (lone (b.atR ⟨(SV.denL E tmps).toArray, marksOf C.x.df⟩ (.inRegion ops (l ++ more) :: K)) cs w) (lone (b.atR ⟨(SV.denL E' tmps').toArray, marksOf C.x.df⟩ (.inRegion ops more :: K)) cs w') := by
  have h1 : wpOps P ops (Qk P (kindOf C.x) fn [] (EndR C fun e t m => e = true ∧ Φ true t m)) l ⟨(SV.denL E tmps).toArray, marksOf C.x.df⟩ w := h E H w g ⟨ok, by simp⟩
  rw [kind_piece hrd] at h1
  obtain ⟨a', w', h2, h3⟩ := ops_part hcalm (T := fun a w => Go1 P (some (marksOf C.x.df)) fn [] a w (EndR C fun e t m => e = true ∧ Φ true t m)) l more _ _ h1 b K cs
  obtain ⟨e, T, w2, ⟨e', tmps', mem', E', H', ⟨h4, h4'⟩, h5, h6, h7⟩, h8⟩ := h2 b (.inRegion ops more :: K) cs hb
  simp only [rv, Value.tuple.injEq, Array.mk.injEq, List.cons.injEq, Value.bool.injEq, and_true] at h5
  obtain ⟨rfl, rfl⟩ := h5
  subst h4
  exact ⟨tmps', mem', E', H', w2, h4', h6, h7, h3.trans h8⟩
end
def SV.plainK : SV → Bool
  | .int .. => true
  | .bool _ => true
  | .lb _ => true
  | .str _ => true
  | .nils => true
  | .dat _ => true
  | _ => false
def SV.kept : SV → Bool
  | .vec _ => false
  | .ptr k _ => Nat.ble PIN k
  | .velt .. => false
  | .view .. => false
  | .mapp _ => false
  | .agg l => l.all SV.plainK
  | .tup _ => false
  | .fn _ a c => a.isEmpty && c.all fun x => match x with
    | .ptr k _ => Nat.ble PIN k
    | _ => false
  | _ => true

theorem kept_den {E E' : Env} (hj : E'.j = E.j) (hb : ∀ k, PIN ≤ k → E'.b k = E.b k) (x : SV) (h : x.kept = true) : x.den E' = x.den E := by
  cases x <;> simp only [SV.kept] at h <;> try (first | rfl | (cases h; done))
  case ptr k o => simp only [SV.den, hb k (Nat.le_of_ble_eq_true h)]
  case agg l =>
    have : SV.denL E' l = SV.denL E l := by
      rw [SV.denL_eq, SV.denL_eq]
      apply List.map_congr_left
      intro y hy
      have := List.all_eq_true.1 h y hy
      cases y <;> first | rfl | (cases this; done)
    simp only [SV.den, this]
  case fn f a c =>
    simp only [Bool.and_eq_true, List.isEmpty_iff, List.all_eq_true] at h
    obtain ⟨rfl, h⟩ := h
    have : SV.denL E' c = SV.denL E c := by
      rw [SV.denL_eq, SV.denL_eq]
      apply List.map_congr_left
      intro y hy
      have := h y hy
      cases y <;> simp only [SV.den] <;> try (cases this; done)
      rw [hb _ (Nat.le_of_ble_eq_true this)]
    simp only [SV.den, this, SV.denL]
  case junk i => simp only [SV.den, hj]
theorem kept_denL {E E' : Env} (hj : E'.j = E.j) (hb : ∀ k, PIN ≤ k → E'.b k = E.b k) {l : List SV} (h : l.all SV.kept = true) : SV.denL E' l = SV.denL E l := by
  rw [SV.denL_eq, SV.denL_eq]
  exact List.map_congr_left fun x hx => kept_den hj hb x (List.all_eq_true.1 h x hx)
theorem Good.ctx {C C' : Ctx} {m : Mem} {E : Env} {H : HV} {w : World} (g : Good C m E H w) (h0 : C'.w0 = C.w0) (hle : HLe C'.H0 H) (hf : ∀ b o v, H b o = some v → C'.H0 b o = some v ∨ C.w0.heap.size ≤ b) (hx : FixOk C'.x C.w0.heap.size E w) : Good C' m E H w := by
  obtain ⟨w0, H0⟩ := C'
  simp only at h0
  subst h0
  refine ⟨g.below, hle, hf, g.cell, fun k o hk => ?_, g.keys, g.apart, hx⟩
  have := g.own k o hk
  cases o <;> exact this
theorem Good.still {C : Ctx} {m : Mem} {E : Env} {H : HV} {w w' : World} (g : Good C m E H w) (hos : w'.os = w.os) (ht : w'.tape = w.tape) (hu : w'.output = w.output) (hs : w.heap.size ≤ w'.heap.size)
    (hb : ∀ j o, w.heap[j]? = some o → w'.heap[j]? = some o ∨ (stillO o = true ∧ C.w0.heap.size ≤ j ∧ C.x.fx j = none)) : Good C m E H w' := by
  have hq : ∀ j o, w.heap[j]? = some o → stillO o = false → w'.heap[j]? = w.heap[j]? := fun j o hj ho => by
    rcases hb j o hj with h | ⟨h, _⟩
    · rw [h, hj]
    · rw [ho] at h; cases h
  have hc : ∀ b o v, H b o = some v → w'.heap[b]? = w.heap[b]? := fun b o v h => by
    have h1 := g.cell b o v h
    cases hj : w.heap[b]? with
    | none => simp [World.cell?, hj] at h1
    | some q =>
      rw [← hj]
      refine hq b q hj ?_
      simp only [World.cell?, hj, Option.isSome_none, Bool.false_eq_true, if_false] at h1
      cases q <;> first | rfl | (simp at h1)
  refine ⟨⟨hos.trans g.below.os, ht.trans g.below.tape, hu.trans g.below.output, Nat.le_trans g.below.size hs, fun j hj => ?_⟩, g.ext, g.fresh, fun b o v h => ?_, fun k o h => ?_, g.keys, g.apart, ?_⟩
  · rw [← g.below.block j hj]
    have hlt : j < w.heap.size := Nat.lt_of_lt_of_le hj g.below.size
    have hget : w.heap[j]? = some w.heap[j] := by simp [hlt]
    rcases hb j _ hget with h | ⟨_, h, _⟩
    · rw [h, hget]
    · omega
  · rw [cell_of_heap (w := w) (hc b o v h)]; exact g.cell b o v h
  · refine (g.own k o h).keep fun hl => ?_
    have hlt := (g.own k o h).lt hl
    have hget : w.heap[E.b k]? = some w.heap[E.b k] := by simp [hlt]
    exact hq _ _ hget ((g.own k o h).moves hl hget)
  · refine ⟨fun b o h => ⟨?_, (g.fix.fx b o h).2⟩, g.fix.mark, g.fix.nodup, g.fix.pin⟩
    rcases hb b o (g.fix.fx b o h).1 with h1 | ⟨_, _, h1⟩
    · exact h1
    · rw [h1] at h; cases h
theorem Good.junk {C : Ctx} {m : Mem} {E : Env} {H : HV} {w : World} (g : Good C m E H w) (j : Nat → Value) (hm : m.all (fun x => !x.2.jk 0) = true) : Good C m ⟨E.b, E.v, j⟩ H w :=
  g.same' (n := 0) ⟨rfl, rfl, fun i hi => absurd hi (Nat.not_lt_zero _)⟩ fun x hx => by simpa using List.all_eq_true.1 hm x hx
end Sx
end
section
namespace Sx
open Go RowKit
structure IterCode (P : Program) (it : FuncId) where
  fn : Func
  hfn : P.funcs[it]? = some fn
  name : (fn.name == "runtime.NumGoroutine") = false
  ntmps : fn.ntmps = 23
  results : fn.results = #[]
  i0 : Nat
  i1 : Nat
  i2 : Nat
  i3 : Nat
  i4 : Nat
  ops0 : Array Oper
  ops1 : Array Oper
  ops2 : Array Oper
  ops3 : Array Oper
  ops4 : Array Oper
  body : fn.body = some (.seq (.region i0 ops0 false) (.block 0 (.loop (.seq (.region i1 ops1 false) (.seq (.cond (.tmp 9) .skip (.exit 0))
    (.seq (.block 1 (.seq (.region i2 ops2 false) (.seq (.region i3 ops3 false) (.cond (.tmp 21) .ret .skip)))) (.region i4 ops4 false)))))))
  calm3 : calmOps ops3 = true
  size3 : ops3.size = 10
  o8 : Oper
  at8 : ops3[8]? = some o8
  tys : Array TypeId
  op8 : o8.op = .call { callee := .value (.tmp 12), args := #[.tmp 13, .tmp 19], argTypes := tys }
  dst8 : o8.dst = some 20
  guard8 : o8.guard = none

def IterCode.loopC {P : Program} {it : FuncId} (I : IterCode P it) : Code := .seq (.region I.i1 I.ops1 false) (.seq (.cond (.tmp 9) .skip (.exit 0))
    (.seq (.block 1 (.seq (.region I.i2 I.ops2 false) (.seq (.region I.i3 I.ops3 false) (.cond (.tmp 21) .ret .skip)))) (.region I.i4 I.ops4 false)))
def liveIt : List Nat := [0, 1, 2, 6, 7, 8]
def MemTo (m m' : Mem) : Prop := ∀ (C : Ctx) (E : Env) (H : HV) (w : World), Good C m E H w → ∃ E', E'.j = E.j ∧ (∀ k, PIN ≤ k → E'.b k = E.b k) ∧ Good C m' E' H w

theorem MemTo.sub {m m' : Mem} (h : m'.Sublist m) : MemTo m m' := fun _ E _ _ g => ⟨E, rfl, fun _ _ => rfl, g.sub h⟩
theorem MemTo.refl (m : Mem) : MemTo m m := fun _ E _ _ g => ⟨E, rfl, fun _ _ => rfl, g⟩
theorem MemTo.ren {m : Mem} (ρ : Nat → Nat) (hpin : ∀ k, PIN ≤ k → ρ k = k) (hlow : ∀ k, k ∈ m.named → k < PIN → ρ k < PIN)
    (hinj : ∀ k j, k ∈ m.named → j ∈ m.named → ρ k = ρ j → k = j) : MemTo m (m.map fun e => (ρ e.1, e.2.ren ρ)) := by
  intro C E H w g
  let inv : Nat → Nat := fun i => if PIN ≤ i then i else ((m.named.find? fun k => ρ k == i).getD i)
  let E' : Env := ⟨fun i => E.b (inv i), fun i => E.v (inv i), E.j⟩
  have hinv : ∀ k, k ∈ m.named → inv (ρ k) = k := fun k hk => by
    rcases Nat.lt_or_ge k PIN with h | h
    · have hl := hlow k hk h
      simp only [inv, if_neg (Nat.not_le.2 hl)]
      cases hf : m.named.find? fun j => ρ j == ρ k with
      | none =>
        have := List.find?_eq_none.1 hf k hk
        simp at this
      | some j =>
        have h1 := List.find?_some hf
        have h2 := List.mem_of_find?_eq_some hf
        simp only [beq_iff_eq] at h1
        simp only [Option.getD_some]
        exact hinj j k h2 hk h1
    · rw [hpin k h]; simp only [inv, if_pos h]
  have ren : ∀ k, k ∈ m.named → Ren ρ E E' k := fun k hk => by
    simp only [Ren, E', hinv k hk, and_self]
  refine ⟨E', rfl, fun k hk => by simp only [E', inv, if_pos hk], ?_⟩
  refine ⟨g.below, g.ext, g.fresh, g.cell, fun k o hko => ?_, ?_, fun x y hx hy hne hlx hly => ?_, g.fix.keep (fun k hk => by simp only [E', inv, if_pos hk]) fun _ _ h _ => h⟩
  · obtain ⟨e, he, h1⟩ := List.mem_map.1 hko
    simp only [Prod.mk.injEq] at h1
    obtain ⟨rfl, rfl⟩ := h1
    exact (g.own e.1 e.2 he).ren (E' := E') (show E'.j = E.j from rfl) (ren _ (named_key (o := e.2) he)) (fun j hj => ren j (named_in he hj)) (fun es _ hk => keysOk_ren hk)
  · rw [List.pairwise_map]
    refine g.keys.imp_of_mem ?_
    intro a b ha hb hne e
    exact hne (hinj _ _ (named_key (o := a.2) ha) (named_key (o := b.2) hb) e)
  · obtain ⟨a, ha, h1⟩ := List.mem_map.1 hx
    obtain ⟨b, hb, h2⟩ := List.mem_map.1 hy
    subst h1; subst h2
    simp only at hne hlx hly ⊢
    rw [(ren a.1 (named_key (o := a.2) ha)).1, (ren b.1 (named_key (o := b.2) hb)).1]
    exact g.apart a b ha hb (fun e => hne (by rw [e])) ((OBlk.lies_ren _ _).1 hlx) ((OBlk.lies_ren _ _).1 hly)
def Ctx.marked (C : Ctx) (D : Nat) : Ctx := @Ctx.mk C.w0 C.H0 ⟨fun b => if b = D then some (.deferred (some [])) else C.x.fx b, D :: C.x.df, C.x.rd, C.x.pn⟩
def Ctx.loopX (C : Ctx) (Hb : HV) (pb : Nat → Nat) (D l : Nat) (r : Loop) : Ctx :=
  @Ctx.mk C.w0 Hb ⟨fun b => if b = D then some (.deferred (some [])) else if b = l then some (.loop r) else C.x.fx b, [], true, some pb⟩

def yieldV (l : Nat) : Value := .func (.yield l) #[] #[]

section
variable {P : Program} {it : FuncId}
structure IterWalk (I : IterCode P it) {σ : Type} (mm : σ → Mem) (n : Nat) (z : Nat → Int) (wv : Nat → SV) (Inv : Nat → σ → Prop) (caps : List SV) where
  itL : Nat → Nat → List SV
  TA : Nat → List SV
  T1 : Nat → Nat → List SV
  T2 : Nat → Nat → List SV
  T3 : Nat → Nat → List SV
  TC : Bool → Nat → Nat → List SV
  TD : Nat → Nat → List SV
  kept : ∀ l j, (itL l j).all SV.kept = true
  okL : ∀ (C : Ctx) (E : Env) (H : HV) (w : World) (s : σ), Good C (mm s) E H w → ∀ l j, SV.OkL H (itL l j)
  okw : ∀ (C : Ctx) (E : Env) (H : HV) (w : World) (s : σ), Good C (mm s) E H w → ∀ j, j < n → (wv j).Ok H
  A : ∀ (C : Ctx) (s : σ) (l : Nat), C.x.rd = true → Inv 0 s → Runs P C ⟨⟨it, none, none, [.code (.region I.i0 I.ops0 false)], SV.raw (yieldV l) :: caps ++ List.replicate 20 .undef⟩, [], mm s⟩ (EndR C fun e T m => e = true ∧ T = TA l ∧ m = mm s)
  mA : ∀ l, maskT 0 liveIt 0 (TA l) = itL l 0 ∧ keptOk 0 liveIt 0 (TA l) = true
  B1 : ∀ (C : Ctx) (s : σ) (l j : Nat), C.x.rd = true → j ≤ n → Inv j s → Runs P C ⟨⟨it, none, none, [.code (.region I.i1 I.ops1 false)], itL l j⟩, [], mm s⟩ (EndR C fun e T m => e = true ∧ T = T1 l j ∧ m = mm s)
  c1 : ∀ l j, (T1 l j)[9]? = some (.bool (decide ((j : Int) < n)))
  B2 : ∀ (C : Ctx) (s : σ) (l j : Nat), C.x.rd = true → j < n → Inv j s → Runs P C ⟨⟨it, none, none, [.code (.region I.i2 I.ops2 false)], T1 l j⟩, [], mm s⟩ (EndR C fun e T m => e = true ∧ T = T2 l j ∧ m = mm s)
  B3 : ∀ (C : Ctx) (s : σ) (l j : Nat), C.x.rd = true → j < n → Inv j s → Runs P C ⟨⟨it, some (I.ops3, [0, 1, 2, 3, 4, 5, 6, 7]), none, [], T2 l j⟩, [], mm s⟩ (EndR C fun e T m => e = true ∧ T = T3 l j ∧ m = mm s)
  c3 : ∀ l j, (T3 l j)[12]? = some (.raw (yieldV l)) ∧ (T3 l j)[13]? = some (.int .i64 (z j)) ∧ (T3 l j)[19]? = some (wv j)
  m3 : ∀ l j, maskT 0 liveIt 0 (T3 l j) = itL l j ∧ keptOk 0 liveIt 0 (T3 l j) = true
  Cc : ∀ (C : Ctx) (s : σ) (m : Mem) (e : Bool) (l j : Nat), C.x.rd = true → Runs P C ⟨⟨it, some (I.ops3, [9]), none, [], (itL l j).set 20 (.lb e)⟩, [], m⟩ (EndR C fun e' T m' => e' = true ∧ T = TC e l j ∧ m' = m)
  cC : ∀ e l j, (TC e l j)[21]? = some (.lb (!e))
  Dd : ∀ (C : Ctx) (s : σ) (l j : Nat), C.x.rd = true → j < n → Runs P C ⟨⟨it, none, none, [.code (.region I.i4 I.ops4 false)], TC true l j⟩, [], mm s⟩ (EndR C fun e T m => e = true ∧ T = TD l j ∧ m = mm s)
  mD : ∀ l j, j < n → maskT 0 liveIt 0 (TD l j) = itL l (j + 1) ∧ keptOk 0 liveIt 0 (TD l j) = true
  indep : ∀ (j : Nat) (E E' : Env), (wv j).den E' = (wv j).den E
end


theorem act_get {tmps : List SV} {E : Env} {i : Nat} {x : SV} (h : tmps[i]? = some x) (ds : List Deferred) : (⟨(SV.denL E tmps).toArray, ds⟩ : Act).eval (.tmp i) = x.den E := by
  simp [Act.eval, SV.denL_eq, h, Array.getD]
  split
  · have := (List.getElem?_eq_some_iff.1 h).2
    simp [this]
  · rename_i hlt
    have := (List.getElem?_eq_some_iff.1 h).1
    exact absurd this hlt

theorem maskIt {E : Env} {T L : List SV} (h : maskT 0 liveIt 0 T = L ∧ keptOk 0 liveIt 0 T = true) : ∃ J : Nat → Value, SV.denL ⟨E.b, E.v, J⟩ L = SV.denL E T := by
  refine ⟨fun i => ((SV.denL E T)[i]?).getD Go.undef, ?_⟩
  rw [← h.1]
  refine maskT_den (n := 0) (E := E) (E' := ⟨E.b, E.v, fun i => ((SV.denL E T)[i]?).getD Go.undef⟩) ⟨rfl, rfl, fun i hi => absurd hi (Nat.not_lt_zero _)⟩ liveIt T 0 h.2 fun i v hv => ?_
  simp [SV.denL_eq, hv]

section
variable {P : Program} {it : FuncId}
theorem iter_out (I : IterCode P it) {b bF : Frame} {a aM : Act} {l : Nat} {k : List Item} {cs : List Frame} {w : World} {r : Loop} (hb : b.fn = it) (hk : b.kind = .normal) (hro : b.roundOf = none) (hd : a.defers = [])
    (hl : w.heap[l]? = some (.loop r)) (hr : r.state ≠ .busy) {todo : List Item} (ht : todo = [] ∨ ∃ q, todo = .code .ret :: q) :
    Steps P (lone (b.atR a todo) (bF.atR aM (.inRangeFunc l :: k) :: cs) w) (lone (bF.atR aM ((r.pending.map Item.code).toList ++ k)) cs (w.putObj l (.loop { r with state := .exhausted }))) := by
  have hres : (results I.fn a.tmps).run P w = .ok (.tuple #[]) w := by simp [Go.results, I.results]
  have leave : ∀ todo, Steps P (lone { b.atR a todo with mode := .returning } (bF.atR aM (.inRangeFunc l :: k) :: cs) w) (lone (bF.atR aM ((r.pending.map Item.code).toList ++ k)) cs (w.putObj l (.loop { r with state := .exhausted }))) := fun todo => by
    have hleave : Frame.leaving P { b.atR a todo with mode := .returning } w (.returned (.tuple #[])) := ⟨rfl, hd, hk, I.fn, by rw [← I.hfn]; exact congrArg _ hb, hres⟩
    refine .head (step_leave_returned hleave) ?_
    rw [finish_atR_inRangeFunc]
    exact .one (stepR_endRangeFunc (run_endLoop hl hr))
  rcases ht with rfl | ⟨q, rfl⟩
  · exact .head (stepR_end hro) (leave [])
  · exact .head (stepR_ret hro) (leave _)

theorem run_yieldOp {I : IterCode P it} {a : Act} {l : Nat} {r : Loop} {x y : Value} {w : World} (h12 : a.eval (.tmp 12) = yieldV l) (h13 : a.eval (.tmp 13) = x) (h19 : a.eval (.tmp 19) = y)
    (hl : w.heap[l]? = some (.loop r)) (hs : r.params.size = 2) :
    (execOp a.eval I.o8).run P w = .ok (.round l r.fn ((r.params.zip #[x, y]).foldl (fun tmps (t, a) => tmps.setIfInBounds t a) r.tmps) r.assign r.body) w := by
  have hy := run_yield (P := P) (args := #[x, y]) hl (by rw [hs]; rfl)
  unfold execOp
  simp only [I.op8, resolve, h12, yieldV, Deferred.ofValue, Sem.run_bind, Sem.run_pure, Result.andThen_ok, invoke]
  simp only [List.map_toArray, List.map_cons, List.map_nil, h13, h19]
  simpa using hy
def roundF (fn : FuncId) (l : Nat) : Frame := { (default : Frame) with fn := fn, kind := .normal, roundOf := some l }
theorem steps_round {I : IterCode P it} {b : Frame} {a : Act} {k : List Item} {cs : List Frame} {w w1 w2 : World} {l : Nat} {r : Loop} {T T1 T2 : Array Value} {e : Bool} (hb : b.roundOf = none)
    (hy : (execOp a.eval I.o8).run P w = .ok (.round l r.fn T r.assign r.body) w)
    (h1 : Steps P (lone ((roundF r.fn l).atR ⟨T, []⟩ [.code r.assign, .beginRound, .code r.body]) (b.atR a (.inRegion I.ops3 [8, 9] :: k) :: cs) w) (lone ((roundF r.fn l).atR ⟨T1, []⟩ [.beginRound, .code r.body]) (b.atR a (.inRegion I.ops3 [8, 9] :: k) :: cs) w1))
    (hl1 : w1.heap[l]? = some (.loop { r with state := .ready, pending := none }))
    (h2 : RoundTo P (lone ((roundF r.fn l).atR ⟨T1, []⟩ [.code r.body]) (b.atR a (.inRegion I.ops3 [8, 9] :: k) :: cs) (w1.putObj l (.loop { r with state := .busy, pending := none }))) (roundF r.fn l) [] (b.atR a (.inRegion I.ops3 [8, 9] :: k) :: cs) ⟨T2, []⟩ w2 e)
    (hl2 : w2.heap[l]? = some (.loop { r with state := .busy, pending := none })) :
    Steps P (lone (b.atR a (.inRegion I.ops3 [8, 9] :: k)) cs w) (lone (b.atR (a.put (some 20) (.bool e)) (.inRegion I.ops3 [9] :: k)) cs
      (w2.putObj l (.loop { r with state := if e then .ready else .done, pending := if e then none else some .ret }))) := by
  have hw : Region.wanted I.o8 (yielded I.ops3 a.tmps) = true := by simp [Region.wanted, I.guard8]
  have hg := stepGR_op (P := P) (b := b) (k := k) (cs := cs) (w := w) (rest := [9]) I.at8 hw
  rw [semAt_calm I.calm3 I.at8] at hg
  have hfin : ∀ v, (b.atR a (.inRegion I.ops3 [8, 9] :: k)).finish v = b.atR (a.put (some 20) v) (.inRegion I.ops3 [9] :: k) := by
    intro v; rw [Frame.finish_atR, I.at8]; simp [I.dst8]
  have henter : Go.step P (lone (b.atR a (.inRegion I.ops3 [8, 9] :: k)) cs w) = .next (lone ((roundF r.fn l).atR ⟨T, []⟩ [.code r.assign, .beginRound, .code r.body]) (b.atR a (.inRegion I.ops3 [8, 9] :: k) :: cs) w) :=
    step_lone_go (by rw [hg]; simp [stepG.apply, hy, Frame.atR, Frame.round, roundF])
  refine .head henter (h1.trans ?_)
  have hbeg := run_beginRound (P := P) hl1 rfl
  refine .head (stepR_beginRound (b := roundF r.fn l) rfl hbeg) ?_
  cases e with
  | true =>
    refine Steps.trans h2 (.one ?_)
    have hend := run_endRound (P := P) none hl2
    rw [← hfin]
    exact stepR_round_end (b := roundF r.fn l) rfl rfl hend
  | false =>
    obtain ⟨q, h3⟩ := h2
    refine Steps.trans h3 (.one ?_)
    have hend := run_endRound (P := P) (some .ret) hl2
    rw [← hfin]
    exact stepR_round_ret (b := roundF r.fn l) rfl rfl hend
end

section
variable {P : Program} {it : FuncId}

theorem kind_none {X : CtxX} (h : X.rd = false) : kindOf X = none := by unfold kindOf; rw [h]

theorem loopX_at {C : Ctx} {Hb : HV} {pb : Nat → Nat} {D l : Nat} {r : Loop} (hne : l ≠ D) : (C.loopX Hb pb D l r).x.fx l = some (.loop r) := by
  show (if l = D then some (Obj.deferred (some [])) else if l = l then some (.loop r) else C.x.fx l) = _
  rw [if_neg hne, if_pos rfl]

theorem loopX_fix {C : Ctx} {Hb : HV} {E : Env} {w : World} {D l : Nat} {r : Loop} (hf : FixOk C.x C.w0.heap.size E w) {E' : Env} {w' : World} (hk : ∀ (b : Nat) (o : Obj), C.x.fx b = some o → w'.heap[b]? = some o)
    (hD : w'.heap[D]? = some (.deferred (some []))) (hl : w'.heap[l]? = some (.loop r)) (hp : ∀ k, PIN ≤ k → E'.b k = E.b k) : FixOk (C.loopX Hb E.b D l r).x C.w0.heap.size E' w' := by
  refine ⟨fun b o h => ?_, (fun _ h => by cases h), List.nodup_nil, fun f h k hk => ?_⟩
  · have h : (if b = D then some (Obj.deferred (some [])) else if b = l then some (.loop r) else C.x.fx b) = some o := h
    split at h
    · cases h; rename_i e; rw [e]; exact ⟨hD, rfl⟩
    · split at h
      · cases h; rename_i e; rw [e]; exact ⟨hl, rfl⟩
      · exact ⟨hk b o h, (hf.fx b o h).2⟩
  · cases h; exact hp k hk
theorem Good.record {C : Ctx} {Hb : HV} {pb : Nat → Nat} {D l : Nat} {r r' : Loop} {m : Mem} {E : Env} {H : HV} {w : World} (g : Good (C.loopX Hb pb D l r) m E H w) (hlow : C.w0.heap.size ≤ l) (hne : l ≠ D) (hfx : C.x.fx l = none) :
    Good (C.loopX Hb pb D l r') m E H (w.putObj l (.loop r')) := by
  have hl := (g.fix.fx l (.loop r) (loopX_at hne)).1
  have hlt := (Array.getElem?_eq_some_iff.1 hl).1
  have g1 : Good (@Ctx.mk C.w0 Hb ⟨fun b => if b = D then some (.deferred (some [])) else C.x.fx b, [], true, some pb⟩) m E H w := by
    refine g.ctx rfl g.ext (fun b o v h => g.fresh b o v h) ⟨fun b o h => ?_, (fun _ h => by cases h), List.nodup_nil, g.fix.pin⟩
    refine g.fix.fx b o ?_
    show (if b = D then some (Obj.deferred (some [])) else if b = l then some (.loop r) else C.x.fx b) = some o
    have h : (if b = D then some (Obj.deferred (some [])) else C.x.fx b) = some o := h
    split at h
    · rename_i e; rw [if_pos e]; exact h
    · rename_i e
      rw [if_neg e]
      by_cases e2 : b = l
      · rw [e2, hfx] at h; cases h
      · rw [if_neg e2]; exact h
  have g2 := g1.still (w' := w.putObj l (.loop r')) rfl rfl rfl (by simp) fun j o hj => by
    by_cases e : j = l
    · subst e; rw [hl] at hj; cases hj
      exact .inr ⟨rfl, hlow, by show (if j = D then some (Obj.deferred (some [])) else C.x.fx j) = none; rw [if_neg hne, hfx]⟩
    · exact .inl (by rw [heap_putObj _ _ _ _ e]; exact hj)
  refine g2.ctx rfl g2.ext (fun b o v h => g2.fresh b o v h) ⟨fun b o h => ?_, (fun _ h => by cases h), List.nodup_nil, g2.fix.pin⟩
  have h : (if b = D then some (Obj.deferred (some [])) else if b = l then some (.loop r') else C.x.fx b) = some o := h
  split at h
  · rename_i e
    exact g2.fix.fx b o (by show (if b = D then some (Obj.deferred (some [])) else C.x.fx b) = some o; rw [if_pos e]; exact h)
  · rename_i e
    split at h
    · rename_i e2; cases h; rw [e2]
      exact ⟨World.putObj_heap_same hlt, rfl⟩
    · exact g2.fix.fx b o (by show (if b = D then some (Obj.deferred (some [])) else C.x.fx b) = some o; rw [if_neg e]; exact h)
theorem Good.behind {C : Ctx} {Hb : HV} {pb : Nat → Nat} {D l : Nat} {r : Loop} {m : Mem} {E : Env} {H : HV} {w : World} (g : Good (C.loopX Hb pb D l r) m E H w) (hle : HLe C.H0 Hb) (hfr : ∀ b o v, Hb b o = some v → C.H0 b o = some v ∨ C.w0.heap.size ≤ b)
    (hpn : C.x.pn = none) (hlowD : C.w0.heap.size ≤ D) (hlow : C.w0.heap.size ≤ l) (hne : l ≠ D) (hfl : C.x.fx l = none) (hnd : D ∉ C.x.df) (hm : ∀ b, b ∈ C.x.df → C.w0.heap.size ≤ b ∧ b ≠ D ∧ C.x.fx b = some (.deferred (some []))) (hn : C.x.df.Nodup) (r' : Loop) :
    Good (C.marked D) m E H (w.putObj l (.loop r')) := by
  have g1 := g.record (r' := r') hlow hne hfl
  refine g1.ctx rfl (hle.trans g1.ext) (fun b o v h => ?_) ⟨fun b o h => ?_, fun b h => ?_, ?_, fun f h => ?_⟩
  · rcases g1.fresh b o v h with h1 | h1
    · exact hfr b o v h1
    · exact .inr h1
  · refine g1.fix.fx b o ?_
    show (if b = D then some (Obj.deferred (some [])) else if b = l then some (.loop r') else C.x.fx b) = some o
    have h : (if b = D then some (Obj.deferred (some [])) else C.x.fx b) = some o := h
    split at h
    · rename_i e; rw [if_pos e]; exact h
    · rename_i e
      rw [if_neg e]
      by_cases e2 : b = l
      · rw [e2, hfl] at h; cases h
      · rw [if_neg e2]; exact h
  · have h : b ∈ D :: C.x.df := h
    rcases List.mem_cons.1 h with rfl | h
    · exact ⟨hlowD, by show (if b = b then some (Obj.deferred (some [])) else C.x.fx b) = _; rw [if_pos rfl]⟩
    · obtain ⟨h1, h2, h3⟩ := hm b h
      exact ⟨h1, by show (if b = D then some (Obj.deferred (some [])) else C.x.fx b) = _; rw [if_neg h2]; exact h3⟩
  · exact List.nodup_cons.2 ⟨hnd, hn⟩
  · have h : C.x.pn = some f := h
    rw [hpn] at h; cases h

theorem runs_range {C : Ctx} {R : Value → World → Prop} (I : IterCode P it) {fnF : FuncId} {aw : Option Tmp} {t p0 p1 : Tmp} {assign body : Code} {k : List Item} {tmps caps : List SV}
    {σ : Type} {mm : σ → Mem} {n : Nat} {z : Nat → Int} {wv : Nat → SV} {Inv : Nat → σ → Prop} {Stop : Mem → Prop} (W : IterWalk I mm n z wv Inv caps) (s0 : σ) (h0 : Inv 0 s0)
    (hrd : C.x.rd = false) (hpn : C.x.pn = none) (hkept : tmps.all SV.kept = true) (hcap : caps.all SV.kept = true) (hlen : caps.length = 2) (ht : tmps[t]? = some (.fn it [] caps)) (hj : ∀ s, (mm s).all (fun x => !x.2.jk 0) = true)
    (rT : Nat → List SV) (am : Nat → σ → Mem) (assigned : ∀ (C1 : Ctx) (s : σ) (j : Nat), C1.x.rd = true → j < n → Inv j s → Runs P C1 ⟨⟨fnF, none, none, [.code assign], (tmps.set p0 (.int .i64 (z j))).set p1 (wv j)⟩, [], mm s⟩ (EndR C1 fun e T m => e = true ∧ T = rT j ∧ m = am j s))
    (rounds : ∀ (C1 : Ctx) (s : σ) (j : Nat), C1.x.rd = true → j < n → Inv j s → Runs P C1 ⟨⟨fnF, none, none, [.code body], rT j⟩, [], am j s⟩ (EndR C1 fun e T m => (e = true → ∃ s', MemTo m (mm s') ∧ Inv (j + 1) s') ∧ (e = false → ∃ s', MemTo m (mm s') ∧ Stop (mm s'))))
    (done : ∀ (D : Nat) (s : σ), Inv n s → Runs P (C.marked D) ⟨⟨fnF, none, aw, k, tmps⟩, [], mm s⟩ R)
    (stop : ∀ (D : Nat) (s : σ), Stop (mm s) → Runs P (C.marked D) ⟨⟨fnF, none, aw, .code .ret :: k, tmps⟩, [], mm s⟩ R) :
    Runs P C ⟨⟨fnF, none, aw, .code (.rangeFunc (.tmp t) #[p0, p1] assign body) :: k, tmps⟩, [], mm s0⟩ R := by
  intro E H w g ok
  show Go1 P (kindOf C.x) fnF (.code (.rangeFunc (.tmp t) #[p0, p1] assign body) :: k) ⟨(SV.denL E tmps).toArray, marksOf C.x.df⟩ w R
  rw [kind_none hrd]
  intro b cs hb hk hro
  have okT : SV.OkL H tmps := ok.1
  let TF : Array Value := (SV.denL E tmps).toArray
  let D := w.heap.size
  let l := w.heap.size + 1
  let rec' : LoopState → Option Code → Loop := fun st pe => { state := st, pending := pe, fn := fnF, tmps := TF, params := #[p0, p1], assign, body, defers := D }
  let W1 := (w.alloc (.deferred (some []))).alloc (.loop (rec' .ready none))
  have hlow : C.w0.heap.size ≤ w.heap.size := g.below.size
  have hsz : W1.heap.size = w.heap.size + 2 := by simp [W1]
  have hold : ∀ j, j < w.heap.size → W1.heap[j]? = w.heap[j]? := fun j hj => by
    rw [Below.heap_alloc _ _ _ (by simp; omega), Below.heap_alloc _ _ _ hj]
  have hD1 : W1.heap[D]? = some (.deferred (some [])) := (Below.heap_alloc _ _ _ (by simp [D])).trans (World.alloc_heap_new w _)
  have hl1 : W1.heap[l]? = some (.loop (rec' .ready none)) := by
    have := World.alloc_heap_new (w.alloc (.deferred (some []))) (.loop (rec' .ready none))
    rwa [World.size_alloc] at this
  have hfxlt : ∀ q o, C.x.fx q = some o → q < w.heap.size := fun q o h => (Array.getElem?_eq_some_iff.1 (g.fix.fx q o h).1).1
  have hfl : C.x.fx l = none := by
    cases h : C.x.fx l with
    | none => rfl
    | some o => have := hfxlt l o h; simp only [l] at this; omega
  have hne : l ≠ D := by simp only [l, D]; omega
  -- what stands while the loop runs
  have gW1 : Good C (mm s0) E H W1 := g.still rfl rfl rfl (by rw [hsz]; omega) fun j o hj => .inl (by rw [hold j (lt_of_some hj)]; exact hj)
  let X : Loop → Ctx := C.loopX H E.b D l
  have gX : Good (X (rec' .ready none)) (mm s0) E H W1 := gW1.ctx rfl (HLe.refl _) (fun _ _ _ h => .inl h) (loopX_fix g.fix (fun q o h => by rw [hold q (hfxlt q o h)]; exact (g.fix.fx q o h).1) hD1 hl1 fun _ _ => rfl)
  have okI := W.okL C E H w s0 g
  have okW := W.okw C E H w s0 g
  -- the frame that waits
  let bF := b
  let aM : Act := ⟨TF, [({ target := .collected D, args := #[] } : Deferred)] ++ marksOf C.x.df⟩
  -- behind the loop
  have fin : ∀ (pe : Option Code) (s : σ) (E2 : Env) (H2 : HV) (w2 : World) (q : Loop), (pe = none ∧ Inv n s) ∨ (pe = some .ret ∧ Stop (mm s)) → q.state ≠ .busy → Good (X q) (mm s) E2 H2 w2 →
      ∃ v w3 fr, R v w3 ∧ Steps P (lone (b.atR aM ((pe.map Item.code).toList ++ k)) cs (w2.putObj l (.loop { q with state := .exhausted }))) (lone fr cs w3) ∧ fr.fn = fnF ∧ fr.leaving P w3 (.returned v) := by
    intro pe s E2 H2 w2 q hpe hq g2
    have hpin : ∀ k, PIN ≤ k → E2.b k = E.b k := fun k hk => g2.fix.pin E.b rfl k hk
    have g3 : Good (C.marked D) (mm s) E2 H2 (w2.putObj l (.loop { q with state := .exhausted })) := g2.behind g.ext g.fresh hpn hlow (by simp only [l]; omega) hne hfl
      (fun h => by have := hfxlt D _ (g.fix.mark D h).2; simp only [D] at this; omega)
      (fun q hq => ⟨(g.fix.mark q hq).1, fun e => by have := hfxlt q _ (g.fix.mark q hq).2; simp only [D] at e; omega, (g.fix.mark q hq).2⟩) g.fix.nodup _
    have g4 := g3.junk E.j (hj s)
    have hden : SV.denL ⟨E2.b, E2.v, E.j⟩ tmps = SV.denL E tmps := kept_denL (E := E) (E' := ⟨E2.b, E2.v, E.j⟩) rfl hpin hkept
    have okT2 : SV.OkL H2 tmps := SV.OkL.mono g2.ext _ okT
    have run : ∀ todo, Runs P (C.marked D) ⟨⟨fnF, none, aw, todo, tmps⟩, [], mm s⟩ R → ∃ v w3 fr, R v w3 ∧ Steps P (lone (b.atR aM todo) cs (w2.putObj l (.loop { q with state := .exhausted }))) (lone fr cs w3) ∧ fr.fn = fnF ∧ fr.leaving P w3 (.returned v) := by
      intro todo hr
      have h1 : Go1 P (kindOf (C.marked D).x) fnF todo ⟨(SV.denL ⟨E2.b, E2.v, E.j⟩ tmps).toArray, marksOf (C.marked D).x.df⟩ _ R := hr _ _ _ g4 ⟨okT2, by simp⟩
      rw [kind_none (X := (C.marked D).x) hrd, hden] at h1
      exact h1 b cs hb hk hro
    rcases hpe with ⟨rfl, hi⟩ | ⟨rfl, hs⟩
    · exact run k (done D s hi)
    · exact run _ (stop D s hs)
  -- the iterator's frame
  let bI : Frame := { (default : Frame) with fn := it, kind := .normal, roundOf := none }
  let calls : List Frame := b.atR aM (.inRangeFunc l :: k) :: cs
  have claim : ∀ (d j : Nat) (s : σ) (E2 : Env) (H2 : HV) (w2 : World) (J : Nat → Value), n - j = d → j ≤ n → Inv j s → Good (X (rec' .ready none)) (mm s) E2 H2 w2 →
      ∃ v w3 fr, R v w3 ∧ Steps P (lone (bI.atR ⟨(SV.denL ⟨E2.b, E2.v, J⟩ (W.itL l j)).toArray, []⟩ [.code I.loopC, .inLoop I.loopC, .inBlock 0]) calls w2) (lone fr cs w3) ∧ fr.fn = fnF ∧ fr.leaving P w3 (.returned v) := by
    intro d
    induction d with
    | zero =>
      intro j s E2 H2 w2 J hd hjn hi g2
      have okL2 : SV.OkL H2 (W.itL l j) := SV.OkL.mono g2.ext _ (okI l j)
      obtain ⟨e, T, m, E3, H3, w3, ⟨rfl, rfl, rfl⟩, g3, ok3, st⟩ := piece (C := X (rec' .ready none)) rfl (W.B1 (X (rec' .ready none)) s l j rfl hjn hi) (g2.junk J (hj s)) okL2 bI [.code (.seq (.cond (.tmp 9) .skip (.exit 0)) (.seq (.block 1 (.seq (.region I.i2 I.ops2 false) (.seq (.region I.i3 I.ops3 false) (.cond (.tmp 21) .ret .skip)))) (.region I.i4 I.ops4 false))), .inLoop I.loopC, .inBlock 0] calls rfl
      have hc := act_get (E := E3) (W.c1 l j) []
      simp only [SV.den] at hc
      rw [decide_eq_false (by omega)] at hc
      have hl3 : w3.heap[l]? = some (.loop (rec' .ready none)) := (g3.fix.fx l _ (loopX_at hne)).1
      have hout := iter_out I (b := bI) (bF := b) (a := ⟨(SV.denL E3 (W.T1 l j)).toArray, []⟩) (aM := aM) (l := l) (k := k) (cs := cs) rfl rfl rfl rfl hl3 (by simp [rec']) (todo := []) (.inl rfl)
      obtain ⟨v, w4, fr, h1, h2, h3⟩ := fin none s E3 H3 w3 (rec' .ready none) (.inl ⟨rfl, by rw [show n = j by omega]; exact hi⟩) (by simp [rec']) g3
      refine ⟨v, w4, fr, h1, ?_, h3⟩
      refine .head stepR_seq (Steps.trans st (.head stepR_seq (.head (stepR_cond hc) ?_)))
      refine .head (stepR_exit (id := 0) (k' := []) rfl) ?_
      exact hout.trans h2
    | succ d ih =>
      intro j s E2 H2 w2 J hd hjn hi g2
      have hjlt : j < n := by omega
      have okL2 : SV.OkL H2 (W.itL l j) := SV.OkL.mono g2.ext _ (okI l j)
      -- up to the call of yield
      obtain ⟨e, T, m, E3, H3, w3, ⟨rfl, rfl, rfl⟩, g3, ok3, st1⟩ := piece (C := X (rec' .ready none)) rfl (W.B1 (X (rec' .ready none)) s l j rfl hjn hi) (g2.junk J (hj s)) okL2 bI [.code (.seq (.cond (.tmp 9) .skip (.exit 0)) (.seq (.block 1 (.seq (.region I.i2 I.ops2 false) (.seq (.region I.i3 I.ops3 false) (.cond (.tmp 21) .ret .skip)))) (.region I.i4 I.ops4 false))), .inLoop I.loopC, .inBlock 0] calls rfl
      have hc := act_get (E := E3) (W.c1 l j) []
      simp only [SV.den] at hc
      rw [decide_eq_true (by omega)] at hc
      let K3 : List Item := [.code (.cond (.tmp 21) .ret .skip), .inBlock 1, .code (.region I.i4 I.ops4 false), .inLoop I.loopC, .inBlock 0]
      obtain ⟨e, T, m, E4, H4, w4, ⟨rfl, rfl, rfl⟩, g4, ok4, st2⟩ := piece (C := X (rec' .ready none)) rfl (W.B2 (X (rec' .ready none)) s l j rfl hjlt hi) g3 ok3 bI (.code (.seq (.region I.i3 I.ops3 false) (.cond (.tmp 21) .ret .skip)) :: K3.tail) calls rfl
      obtain ⟨T, m, E5, H5, w5, ⟨rfl, rfl⟩, g5, ok5, st3⟩ := piece_ops (C := X (rec' .ready none)) (Φ := fun _ T m => T = W.T3 l j ∧ m = mm s) rfl I.calm3 (W.B3 (X (rec' .ready none)) s l j rfl hjlt hi) g4 ok4 bI [8, 9] K3 calls rfl
      obtain ⟨c12, c13, c19⟩ := W.c3 l j
      have e12 := act_get (E := E5) c12 []
      have e13 := act_get (E := E5) c13 []
      have e19 := act_get (E := E5) c19 []
      simp only [SV.den] at e12 e13
      have hl5 : w5.heap[l]? = some (.loop (rec' .ready none)) := (g5.fix.fx l _ (loopX_at hne)).1
      have hy := run_yieldOp (I := I) (P := P) e12 e13 e19 hl5 rfl
      -- the round's frame
      have hpin5 : ∀ k, PIN ≤ k → E5.b k = E.b k := fun k hk => g5.fix.pin E.b rfl k hk
      let E6 : Env := ⟨E5.b, E5.v, E.j⟩
      have g6 : Good (X (rec' .ready none)) (mm s) E6 H5 w5 := g5.junk E.j (hj s)
      have hTF : SV.denL E6 tmps = SV.denL E tmps := kept_denL (E := E) (E' := E6) rfl hpin5 hkept
      have hTR : ((#[p0, p1].zip #[Value.int .i64 (z j), (wv j).den E5]).foldl (fun tmps (t, a) => tmps.setIfInBounds t a) TF) = (SV.denL E6 ((tmps.set p0 (.int .i64 (z j))).set p1 (wv j))).toArray := by
        simp [TF, ← hTF, denL_set, SV.den, W.indep j E6 E5]
      have okR : SV.OkL H5 ((tmps.set p0 (.int .i64 (z j))).set p1 (wv j)) := okL_putS (dst := some p1) (okL_putS (dst := some p0) (SV.OkL.mono g5.ext _ okT) (by simp [SV.Ok])) ((okW j hjlt).mono g5.ext)
      let itf : Frame := bI.atR ⟨(SV.denL E5 (W.T3 l j)).toArray, []⟩ (.inRegion I.ops3 [8, 9] :: K3)
      obtain ⟨e, T, m, E7, H7, w7, ⟨rfl, rfl, rfl⟩, g7, ok7, st7⟩ := piece (C := X (rec' .ready none)) rfl (assigned (X (rec' .ready none)) s j rfl hjlt hi) g6 okR (roundF fnF l) [.beginRound, .code body] (itf :: calls) rfl
      have hl7 : w7.heap[l]? = some (.loop (rec' .ready none)) := (g7.fix.fx l _ (loopX_at hne)).1
      have g8 : Good (X (rec' .busy none)) (am j s) E7 H7 (w7.putObj l (.loop (rec' .busy none))) := g7.record (by simp only [l]; omega) hne hfl
      obtain ⟨e, T9, m9, E9, H9, w9, ⟨hTr, hFa⟩, g9, ok9, st9⟩ := piece (C := X (rec' .busy none)) rfl (rounds (X (rec' .busy none)) s j rfl hjlt hi) g8 ok7 (roundF fnF l) [] (itf :: calls) rfl
      have hl9 : w9.heap[l]? = some (.loop (rec' .busy none)) := (g9.fix.fx l _ (loopX_at hne)).1
      rw [hTR] at hy
      have stR := steps_round (I := I) (P := P) (b := bI) (a := ⟨(SV.denL E5 (W.T3 l j)).toArray, []⟩) (k := K3) (cs := calls) (r := rec' .ready none) rfl hy st7 hl7 st9 hl9
      -- behind the round
      obtain ⟨J5, hJ5⟩ := maskIt (E := E5) (W.m3 l j)
      have pre : Steps P (lone (bI.atR ⟨(SV.denL ⟨E2.b, E2.v, J⟩ (W.itL l j)).toArray, []⟩ [.code I.loopC, .inLoop I.loopC, .inBlock 0]) calls w2) (lone itf calls w5) := by
        refine .head stepR_seq (Steps.trans st1 (.head stepR_seq (.head (stepR_cond hc) (.head stepR_skip (.head stepR_seq (.head stepR_block (.head stepR_seq (Steps.trans st2 (.head stepR_seq (.head stepR_region ?_))))))))))
        rw [show List.range I.ops3.size = [0, 1, 2, 3, 4, 5, 6, 7] ++ [8, 9] by rw [I.size3]; rfl]
        exact st3
      have back : ∀ (s' : σ) (q : Loop), MemTo m9 (mm s') → Good (X q) m9 E9 H9 (w9.putObj l (.loop q)) → ∃ E10 : Env, (∀ k, PIN ≤ k → E10.b k = E.b k) ∧ Good (X q) (mm s') E10 H9 (w9.putObj l (.loop q)) ∧
          (⟨(SV.denL E5 (W.T3 l j)).toArray, []⟩ : Act).put (some 20) (.bool e) = ⟨(SV.denL E10 ((W.itL l j).set 20 (.lb e))).toArray, []⟩ := by
        intro s' q hm g10
        obtain ⟨E10, h1, h2, h3⟩ := hm _ _ _ _ g10
        have hp10 : ∀ k, PIN ≤ k → E10.b k = E.b k := fun k hk => (h2 k hk).trans (g9.fix.pin E.b rfl k hk)
        refine ⟨⟨E10.b, E10.v, J5⟩, hp10, h3.junk J5 (hj s'), ?_⟩
        rw [← hJ5, ← kept_denL (E := ⟨E5.b, E5.v, J5⟩) (E' := ⟨E10.b, E10.v, J5⟩) rfl (fun k hk => (hp10 k hk).trans (hpin5 k hk).symm) (W.kept l j)]
        exact put_den [] ⟨E10.b, E10.v, J5⟩ (W.itL l j) (some 20) (.lb e)
      have okS : SV.OkL H9 ((W.itL l j).set 20 (.lb e)) := okL_putS (dst := some 20) (SV.OkL.mono g9.ext _ (okI l j)) (by simp [SV.Ok])
      cases e with
      | true =>
        obtain ⟨s', hm, hi'⟩ := hTr rfl
        obtain ⟨E10, hp10, g10, hput⟩ := back s' (rec' .ready none) hm (g9.record (by simp only [l]; omega) hne hfl)
        obtain ⟨T, m, E11, H11, w11, ⟨rfl, rfl⟩, g11, ok11, st11⟩ := piece_ops (C := X (rec' .ready none)) (Φ := fun _ T m => T = W.TC true l j ∧ m = mm s') rfl I.calm3 (W.Cc (X (rec' .ready none)) s' (mm s') true l j rfl) g10 okS bI [] K3 calls rfl
        have hcc := act_get (E := E11) (W.cC true l j) []
        simp only [SV.den] at hcc
        obtain ⟨e, T, m, E12, H12, w12, ⟨rfl, rfl, rfl⟩, g12, ok12, st12⟩ := piece (C := X (rec' .ready none)) rfl (W.Dd (X (rec' .ready none)) s' l j rfl hjlt) g11 ok11 bI [.inLoop I.loopC, .inBlock 0] calls rfl
        obtain ⟨J13, hJ13⟩ := maskIt (E := E12) (W.mD l j hjlt)
        obtain ⟨v, w13, fr, h1, h2, h3⟩ := ih (j + 1) s' E12 H12 w12 J13 (by omega) (by omega) hi' g12
        refine ⟨v, w13, fr, h1, ?_, h3⟩
        refine pre.trans (stR.trans ?_)
        rw [hput]
        refine Steps.trans st11 (.head stepR_region_end (.head (stepR_cond hcc) (.head stepR_skip (.head stepR_inBlock (Steps.trans st12 (.head stepR_inLoop ?_))))))
        rw [← hJ13]
        exact h2
      | false =>
        obtain ⟨s', hm, hs'⟩ := hFa rfl
        obtain ⟨E10, hp10, g10, hput⟩ := back s' (rec' .done (some .ret)) hm (g9.record (by simp only [l]; omega) hne hfl)
        obtain ⟨T, m, E11, H11, w11, ⟨rfl, rfl⟩, g11, ok11, st11⟩ := piece_ops (C := X (rec' .done (some .ret))) (Φ := fun _ T m => T = W.TC false l j ∧ m = mm s') rfl I.calm3 (W.Cc (X (rec' .done (some .ret))) s' (mm s') false l j rfl) g10 okS bI [] K3 calls rfl
        have hcc := act_get (E := E11) (W.cC false l j) []
        simp only [SV.den] at hcc
        have hl11 : w11.heap[l]? = some (.loop (rec' .done (some .ret))) := (g11.fix.fx l _ (loopX_at hne)).1
        have hout := iter_out I (b := bI) (bF := b) (a := ⟨(SV.denL E11 (W.TC false l j)).toArray, []⟩) (aM := aM) (l := l) (k := k) (cs := cs) rfl rfl rfl rfl hl11 (by simp [rec']) (todo := .code .ret :: K3.tail) (.inr ⟨_, rfl⟩)
        obtain ⟨v, w13, fr, h1, h2, h3⟩ := fin (some .ret) s' E11 H11 w11 (rec' .done (some .ret)) (.inr ⟨rfl, hs'⟩) (by simp [rec']) g11
        refine ⟨v, w13, fr, h1, ?_, h3⟩
        refine pre.trans (stR.trans ?_)
        rw [hput]
        refine Steps.trans st11 (.head stepR_region_end (.head (stepR_cond hcc) ?_))
        exact hout.trans h2
  -- the statement itself
  have hev := act_get (E := E) ht (marksOf C.x.df)
  simp only [SV.den, SV.denL] at hev
  have hev : (⟨TF, marksOf C.x.df⟩ : Act).eval (.tmp t) = .func (.func it) #[] (SV.denL E caps).toArray := hev
  have hcapv : SV.denL E (SV.raw (yieldV l) :: caps ++ List.replicate 20 .undef) = yieldV l :: (SV.denL E caps ++ List.replicate 20 Go.undef) := by
    simp [SV.denL_eq, SV.den]
  have hstep : Go.step P (lone (b.atR ⟨TF, marksOf C.x.df⟩ (.code (.rangeFunc (.tmp t) #[p0, p1] assign body) :: k)) cs w) =
      .next (lone (Frame.enter P it (#[yieldV l] ++ (SV.denL E caps).toArray) .normal) calls W1) := by
    refine stepR_rangeFunc (w₁ := W1) (d := { target := .fn (.func it) (SV.denL E caps).toArray, args := #[yieldV l] }) (w₁' := W1) ?_ ?_ ?_
    · rw [hb, hro]; exact run_enterLoop_outer _ _ _ _ _
    · simp only [resolve, rangeCall, hev, Deferred.ofValue]
      simp [Act.eval, yieldV]
    · have hbn : I.fn.body.isNone = false := by simp [I.body]
      simp only [invoke, callFunc, Sem.run_bind, run_program, Result.andThen_ok, I.hfn, I.name, hbn, Bool.false_eq_true, if_false, Sem.run_pure]
  have henter : Frame.enter P it (#[yieldV l] ++ (SV.denL E caps).toArray) .normal = bI.atR ⟨(SV.denL E (SV.raw (yieldV l) :: caps ++ List.replicate 20 .undef)).toArray, []⟩ [.code (.seq (.region I.i0 I.ops0 false) (.block 0 (.loop I.loopC)))] := by
    have h2 : (SV.denL E caps).length = 2 := by rw [SV.denL_eq, List.length_map, hlen]
    have h3 : #[yieldV l] ++ (SV.denL E caps).toArray ++ Array.replicate (23 - (#[yieldV l] ++ (SV.denL E caps).toArray).size) undef = (SV.denL E (SV.raw (yieldV l) :: caps ++ List.replicate 20 .undef)).toArray := by
      rw [hcapv]; simp [h2, ← List.toArray_replicate]
    rw [← h3]
    simp [Frame.enter, Frame.atR, I.hfn, I.body, I.ntmps, bI, IterCode.loopC]
  have okA : SV.OkL H (SV.raw (yieldV l) :: caps ++ List.replicate 20 .undef) := by
    refine okL_append ⟨by simp [SV.Ok], ?_⟩ (by rw [SV.OkL_iff]; intro x hx; rw [List.eq_of_mem_replicate hx]; simp [SV.Ok])
    have := (SV.OkL_iff _).1 okT _ (List.mem_of_getElem? ht)
    exact this.2
  obtain ⟨e, T, m, E3, H3, w3, ⟨rfl, rfl, rfl⟩, g3, ok3, stA⟩ := piece (C := X (rec' .ready none)) rfl (W.A (X (rec' .ready none)) s0 l rfl h0) gX okA bI [.code (.block 0 (.loop I.loopC))] calls rfl
  obtain ⟨JA, hJA⟩ := maskIt (E := E3) (W.mA l)
  obtain ⟨v, w4, fr, h1, h2, h3⟩ := claim n 0 s0 E3 H3 w3 JA (by omega) (Nat.zero_le _) h0 g3
  refine ⟨v, w4, fr, h1, .head hstep ?_, h3⟩
  rw [henter]
  refine .head stepR_seq (Steps.trans stA (.head stepR_block (.head stepR_loop ?_)))
  rw [← hJA]
  exact h2
end
end Sx
end
section
namespace Sx
open Go RowKit
def usesC : Code → List Nat
  | .seq a b => usesC a ++ usesC b
  | .cond x a b => (match x with | .tmp t => [t] | _ => []) ++ (usesC a ++ usesC b)
  | .block _ b => usesC b
  | .loop b => usesC b
  | .scope b => usesC b
  | .region _ ops _ => ops.toList.flatMap (usesOp ops)
  | .rangeFunc g _ a b => (match g with | .tmp t => [t] | _ => []) ++ (usesC a ++ usesC b)
  | _ => []

def atRange (c : Conf) : Bool :=
  match c.rest with
  | [] => match c.top.ri with
    | none => match c.top.todo with
      | .code (.rangeFunc ..) :: _ => true
      | _ => false
    | some _ => false
  | _ :: _ => false
def fgtQ (P : Program) (c : Conf) : Conf :=
  match c.top.todo with
  | .code (.rangeFunc g ps a b) :: k =>
    match forgetC (addNs (usesC (.rangeFunc g ps a b)) (liveI (retN P c.top.fn) k).1) c with
    | some c' => c'
    | none => c
  | _ => c

noncomputable def restQ (P : Program) (c : Conf) : Tree := nz (renC (fgtQ P c)) fun c => nz (sortC c) leafR

noncomputable def execQ (P : Program) (cs : Ctrs) (n : Nat) : Conf → Tree :=
  Nat.rec (motive := fun _ => Conf → Tree) (fun _ => .stuck) (fun _ ih c => match atRange c with
    | true => restQ P c
    | false => stepC P cs (fun _ => false) ih c) n

section
variable {P : Program} {C : Ctx} {R : Value → World → Prop}
theorem fgtQ_sound {c : Conf} (h : Runs P C (fgtQ P c) R) : Runs P C c R := by
  unfold fgtQ at h
  split at h
  · split at h
    · rename_i hc; exact forget_sound hc h
    · exact h
  · exact h

theorem execQ_sound {cs : Ctrs} (hcs : cs.Ok P) : ∀ (n : Nat) (c : Conf), (execQ P cs n c).holds P C R → Runs P C c R
  | 0, _, h => h.elim
  | n + 1, c, h => by
    have e : execQ P cs (n + 1) c = match atRange c with
      | true => restQ P c
      | false => stepC P cs (fun _ => false) (execQ P cs n) c := rfl
    rw [e] at h
    cases hr : atRange c with
    | true =>
      rw [hr] at h
      simp only [restQ, nz_eq, leafR_eq] at h
      exact fgtQ_sound (renC_sound (sortC_sound h))
    | false => rw [hr] at h; exact step_sound (U := fun _ => false) (ih := execQ P cs n) hcs (fun c h => execQ_sound hcs n c h) c h
def pinK (B k : Nat) : Nat :=
  match Nat.ble PIN k with
  | true => k
  | false => k + B

def pinC (B : Nat) (c : Conf) : Option Conf :=
  match Nat.ble PIN B && c.allKeys.all (fun k => Nat.blt k B) with
  | true => some (renWith (pinK B) c)
  | false => none

theorem pin_to (B : Nat) {c : Conf} (c' : Conf) (hc : pinC B c = some c') (h : Runs P C c' R) (hpn : C.x.pn = none := by rfl) : Runs P C c R := by
  unfold pinC at hc
  split at hc
  · rename_i hchk
    cases hc
    simp only [Bool.and_eq_true, List.all_eq_true] at hchk
    obtain ⟨hB, hall⟩ := hchk
    have hB : PIN ≤ B := Nat.le_of_ble_eq_true hB
    have hall : ∀ k, k ∈ c.allKeys → k < B := fun k hk => by simpa [Nat.blt_eq] using hall k hk
    intro E H w g ok
    have all : ∀ k, k ∈ SV.keysL c.top.tmps ∨ (∃ f, f ∈ c.rest ∧ k ∈ SV.keysL f.tmps) ∨ k ∈ Mem.named c.mem → k ∈ c.allKeys := fun k hk => by
      rcases hk with hk | ⟨f, hf, hk⟩ | hk
      · exact meet_mem (.inl (walkK_mem (meet_mem (.inr (List.mem_append_left _ hk)))))
      · exact meet_mem (.inl (walkK_mem (meet_mem (.inr (List.mem_append_right _ (List.mem_flatMap.2 ⟨f, hf, hk⟩))))))
      · exact meet_mem (.inr hk)
    let E' : Env := ⟨fun i => if B ≤ i then E.b (i - B) else E.b i, fun i => if B ≤ i then E.v (i - B) else E.v i, E.j⟩
    have cas : ∀ k, k ∈ c.allKeys → (PIN ≤ k ∧ pinK B k = k ∧ k < B) ∨ (k < PIN ∧ pinK B k = k + B) := fun k hk => by
      rcases Nat.lt_or_ge k PIN with hl | hl
      · right
        refine ⟨hl, ?_⟩
        have : Nat.ble PIN k = false := by
          cases hb : Nat.ble PIN k with
          | false => rfl
          | true => have := Nat.le_of_ble_eq_true hb; omega
        simp only [pinK, this]
      · left
        refine ⟨hl, ?_, hall k hk⟩
        simp only [pinK, Nat.ble_eq_true_of_le hl]
    have ren : ∀ k, k ∈ c.allKeys → Ren (pinK B) E E' k := fun k hk => by
      rcases cas k hk with ⟨h1, h2, h3⟩ | ⟨h1, h2⟩
      · simp only [Ren, E', h2, if_neg (Nat.not_le.2 h3), and_self]
      · simp only [Ren, E', h2, if_pos (Nat.le_add_left B k), Nat.add_sub_cancel, and_self]
    have inj : ∀ k j, k ∈ c.allKeys → j ∈ c.allKeys → pinK B k = pinK B j → k = j := fun k j hk hj e => by
      rcases cas k hk with ⟨h1, h2, h3⟩ | ⟨h1, h2⟩ <;> rcases cas j hj with ⟨g1, g2, g3⟩ | ⟨g1, g2⟩ <;> omega
    have named : ∀ k o, (k, o) ∈ c.mem → k ∈ c.allKeys ∧ ∀ j, j ∈ o.keys → j ∈ c.allKeys := fun k o hm => by
      refine ⟨all k (.inr (.inr ?_)), fun j hj => all j (.inr (.inr ?_))⟩
      · simp only [Mem.named, List.mem_flatMap]; exact ⟨_, hm, List.mem_cons_self⟩
      · simp only [Mem.named, List.mem_flatMap]; exact ⟨_, hm, List.mem_cons_of_mem _ hj⟩
    have gd : Good C (c.mem.map fun e => (pinK B e.1, e.2.ren (pinK B))) E' H w := by
      refine ⟨g.below, g.ext, g.fresh, g.cell, fun k o hko => ?_, ?_, fun x y hx hy hne hlx hly => ?_, ⟨g.fix.fx, g.fix.mark, g.fix.nodup, fun f hf => by rw [hpn] at hf; cases hf⟩⟩
      · obtain ⟨e, he, h1⟩ := List.mem_map.1 hko
        simp only [Prod.mk.injEq] at h1
        obtain ⟨rfl, rfl⟩ := h1
        obtain ⟨n1, n2⟩ := named e.1 e.2 he
        exact (g.own e.1 e.2 he).ren (E' := E') (show E'.j = E.j from rfl) (ren _ n1) (fun j hj => ren j (n2 j hj)) (fun es _ hk => keysOk_ren hk)
      · rw [List.pairwise_map]
        refine g.keys.imp_of_mem ?_
        intro a b ha hb hne e
        exact hne (inj _ _ (named a.1 a.2 ha).1 (named b.1 b.2 hb).1 e)
      · obtain ⟨a, ha, h1⟩ := List.mem_map.1 hx
        obtain ⟨b, hb, h2⟩ := List.mem_map.1 hy
        subst h1; subst h2
        simp only at hne hlx hly ⊢
        rw [(ren a.1 (named a.1 a.2 ha).1).1, (ren b.1 (named b.1 b.2 hb).1).1]
        exact g.apart a b ha hb (fun e => hne (by rw [e])) ((OBlk.lies_ren _ _).1 hlx) ((OBlk.lies_ren _ _).1 hly)
    have hr := h E' H w gd ⟨SV.okL_ren _ ok.1, fun f hf => by
      obtain ⟨f', hf', rfl⟩ := List.mem_map.1 hf
      exact SV.okL_ren _ (ok.2 f' hf')⟩
    have e1 : (renWith (pinK B) c).top.den E' = c.top.den E := by
      simp only [renWith, SFrm.den]
      rw [SV.denL_ren (E := E) (E' := E') rfl _ fun k hk => ren k (all k (.inl hk))]
    have e2 : (renWith (pinK B) c).rest.map (SFrm.den E') = c.rest.map (SFrm.den E) := by
      simp only [renWith, List.map_map]
      apply List.map_congr_left
      intro f hf
      simp only [Function.comp, SFrm.den]
      rw [SV.denL_ren (E := E) (E' := E') rfl _ fun k hk => ren k (all k (.inr (.inl ⟨f, hf, hk⟩)))]
    rw [e1, e2] at hr
    exact hr
  · cases hc

theorem holds_of {t t' : Tree} (e : t = t') (h : t'.holds P C R) : t.holds P C R := by rw [e]; exact h
theorem runs_perm {top : SFrm} {rest : List SFrm} {m : Mem} (m' : Mem) (hp : m'.Perm m) (h : Runs P C ⟨top, rest, m'⟩ R) : Runs P C ⟨top, rest, m⟩ R := fun E H w g ok => h E H w (g.perm hp) ok
theorem MemTo.perm {m m' : Mem} (hp : m'.Perm m) : MemTo m m' := fun _ E _ _ g => ⟨E, rfl, fun _ _ => rfl, g.perm hp⟩
theorem MemTo.trans {a b c : Mem} (h : MemTo a b) (k : MemTo b c) : MemTo a c := fun C E H w g => by
  obtain ⟨E1, h1, h2, h3⟩ := h C E H w g
  obtain ⟨E2, k1, k2, k3⟩ := k C E1 H w h3
  exact ⟨E2, k1.trans h1, fun q hq => (k2 q hq).trans (h2 q hq), k3⟩
def moveK (a b k : Nat) : Nat :=
  match Nat.beq k a with
  | true => b
  | false => k
theorem MemTo.move {m : Mem} (a b : Nat) (hab : (Nat.blt a PIN && Nat.blt b PIN && !(m.named.contains b)) = true) : MemTo m (m.map fun e => (moveK a b e.1, e.2.ren (moveK a b))) := by
  simp only [Bool.and_eq_true, Bool.not_eq_true', Nat.blt_eq] at hab
  obtain ⟨⟨ha, hb⟩, hno⟩ := hab
  have hno : b ∉ m.named := fun h => by
    have := List.contains_iff_mem.2 h
    rw [hno] at this; cases this
  have e1 : ∀ k, k ≠ a → moveK a b k = k := fun k h => by
    have : Nat.beq k a = false := by
      cases hb : Nat.beq k a with
      | false => rfl
      | true => exact absurd (Nat.eq_of_beq_eq_true hb) h
    simp only [moveK, this]
  have e2 : moveK a b a = b := by simp only [moveK, Nat.beq_refl]
  refine MemTo.ren _ (fun k hk => e1 k (by omega)) (fun k _ hk => ?_) fun k j hk hj e => ?_
  · by_cases h : k = a
    · subst h; rw [e2]; exact hb
    · rw [e1 k h]; exact hk
  · by_cases h : k = a <;> by_cases h' : j = a
    · rw [h, h']
    · subst h; rw [e2, e1 j h'] at e; exact absurd (e ▸ hj) hno
    · subst h'; rw [e2, e1 k h] at e; exact absurd (e ▸ hk) hno
    · rw [e1 k h, e1 j h'] at e; exact e
theorem ret_marked {v : SV} {D : Nat} (h : (Tree.ret v).holds P C R) : (Tree.ret v).holds P (C.marked D) R := h
end
end Sx
end
section
open Go Go.Proofs Sx
namespace Go.Proofs.Ytodhhmjilnfecaa
set_option maxRecDepth 100000
set_option maxHeartbeats 0
noncomputable def icode : IterCode Try.prog 100 where
  fn := Try.f100
  hfn := by kernel_rfl
  name := by kernel_rfl
  ntmps := by kernel_rfl
  results := by kernel_rfl
  i0 := 0
  i1 := 1
  i2 := 2
  i3 := 3
  i4 := 4
  ops0 := opsAt Try.prog 100 [0]
  ops1 := opsAt Try.prog 100 [1, 0, 0, 0]
  ops2 := opsAt Try.prog 100 [1, 0, 0, 1, 1, 0, 0, 0]
  ops3 := opsAt Try.prog 100 [1, 0, 0, 1, 1, 0, 0, 1, 0]
  ops4 := opsAt Try.prog 100 [1, 0, 0, 1, 1, 1]
  body := by kernel_rfl
  calm3 := by kernel_rfl
  size3 := by kernel_rfl
  o8 := (opsAt Try.prog 100 [1, 0, 0, 1, 1, 0, 0, 1, 0])[8]!
  at8 := by kernel_rfl
  tys := #[3, 31]
  op8 := by kernel_rfl
  dst8 := by kernel_rfl
  guard8 := by kernel_rfl


noncomputable def c1L (a : D) (l : Nat) (x : Int) : List SV := mkJ 0 [(0, SV.raw (yieldV l)), (1, SV.ptr 100003 0), (2, SV.ptr 100004 0), (6, SV.dat a), (7, SV.int IntKind.i64 (D.len a : Int)), (8, SV.int IntKind.i64 x)] 0 23
noncomputable def c1A (a : D) (l : Nat) : List SV := mkU [(0, SV.raw (yieldV l)), (1, SV.ptr 100003 0), (2, SV.ptr 100004 0), (6, SV.dat a), (7, SV.int IntKind.i64 (D.len a : Int)), (8, SV.int IntKind.i64 0)] 0 23
noncomputable def c1T1 (a : D) (l : Nat) (x : Int) : List SV := mkJ 0 [(0, SV.raw (yieldV l)), (1, SV.ptr 100003 0), (2, SV.ptr 100004 0), (6, SV.dat a), (7, SV.int IntKind.i64 (D.len a : Int)), (8, SV.int IntKind.i64 x), (9, SV.bool (decide (x < (D.len a : Int))))] 0 23
noncomputable def c1T2 (a : D) (l : Nat) (x : Int) : List SV := mkJ 0 [(5, SV.int IntKind.i64 (D.getInt a (Int.toNat x) 0)), (0, SV.raw (yieldV l)), (1, SV.ptr 100003 0), (2, SV.ptr 100004 0), (6, SV.dat a), (7, SV.int IntKind.i64 (D.len a : Int)), (8, SV.int IntKind.i64 x), (9, SV.bool (decide (x < (D.len a : Int)))), (10, SV.elt a (Int.toNat x) 0), (11, SV.int IntKind.i64 (D.getInt a (Int.toNat x) 0))] 0 23
noncomputable def c1T3 (hb a : D) (l : Nat) (x : Int) : List SV := mkJ 0 [(5, SV.int IntKind.i64 (D.getInt a (Int.toNat x) 0)), (0, SV.raw (yieldV l)), (1, SV.ptr 100003 0), (2, SV.ptr 100004 0), (6, SV.dat a), (7, SV.int IntKind.i64 (D.len a : Int)), (8, SV.int IntKind.i64 x), (9, SV.bool (decide (x < (D.len a : Int)))), (10, SV.elt a (Int.toNat x) 0), (11, SV.int IntKind.i64 (D.getInt a (Int.toNat x) 0)), (12, SV.raw (yieldV l)), (13, SV.int IntKind.i64 (D.getInt a (Int.toNat x) 0)), (14, SV.ptr 100004 0), (15, SV.ptr 100004 1), (16, SV.dat hb), (17, SV.int IntKind.i64 (D.getInt a (Int.toNat x) 0)), (18, SV.elt hb (Int.toNat (D.getInt a (Int.toNat x) 0)) 0), (19, (SV.agg [SV.int IntKind.i64 (D.getInt hb (Int.toNat (D.getInt a (Int.toNat x) 0)) 0), SV.int IntKind.i64 (D.getInt hb (Int.toNat (D.getInt a (Int.toNat x) 0)) 1), SV.dat (D.cell hb (Int.toNat (D.getInt a (Int.toNat x) 0)) 2)]))] 0 23
noncomputable def c1TC (a : D) (e : Bool) (l : Nat) (x : Int) : List SV := mkJ 0 [(0, SV.raw (yieldV l)), (1, SV.ptr 100003 0), (2, SV.ptr 100004 0), (6, SV.dat a), (7, SV.int IntKind.i64 (D.len a : Int)), (8, SV.int IntKind.i64 x), (20, SV.lb e), (21, SV.lb (!e))] 0 23
noncomputable def c1TD (a : D) (l : Nat) (x : Int) : List SV := mkJ 0 [(0, SV.raw (yieldV l)), (1, SV.ptr 100003 0), (2, SV.ptr 100004 0), (6, SV.dat a), (7, SV.int IntKind.i64 (D.len a : Int)), (8, SV.int IntKind.i64 (IntKind.wrap IntKind.i64 (x + 1))), (20, SV.lb true), (21, SV.lb false), (22, SV.int IntKind.i64 (IntKind.wrap IntKind.i64 (x + 1)))] 0 23
section
variable (ha hb hc i o a : D) (l : Nat) (x : Int) (e : Bool) (r : Mem)
theorem c1_A : execT Try.prog [] (fun _ => false) 4 ⟨⟨100, none, none, [.code (cAt Try.prog 100 [0])], SV.raw (yieldV l) :: [SV.ptr 100003 0, SV.ptr 100004 0] ++ List.replicate 20 .undef⟩, [], ((100003, OBlk.cells 22 [SV.dat a]) :: (100004, OBlk.cells 121 [SV.dat ha, SV.dat hb, SV.dat hc, SV.dat i, SV.dat o]) :: r)⟩ = .leaf ⟨⟨100, some (opsAt Try.prog 100 [0], []), none, [], c1A a l⟩, [], ((100003, OBlk.cells 22 [SV.dat a]) :: (100004, OBlk.cells 121 [SV.dat ha, SV.dat hb, SV.dat hc, SV.dat i, SV.dat o]) :: r)⟩ := by kernel_rfl
theorem c1_B1 : execT Try.prog [] (fun _ => false) 2 ⟨⟨100, none, none, [.code (cAt Try.prog 100 [1, 0, 0, 0])], c1L a l x⟩, [], ((100003, OBlk.cells 22 [SV.dat a]) :: (100004, OBlk.cells 121 [SV.dat ha, SV.dat hb, SV.dat hc, SV.dat i, SV.dat o]) :: r)⟩ = .leaf ⟨⟨100, some (opsAt Try.prog 100 [1, 0, 0, 0], []), none, [], c1T1 a l x⟩, [], ((100003, OBlk.cells 22 [SV.dat a]) :: (100004, OBlk.cells 121 [SV.dat ha, SV.dat hb, SV.dat hc, SV.dat i, SV.dat o]) :: r)⟩ := by kernel_rfl
theorem c1_B2 : execT Try.prog [] (fun _ => false) 4 ⟨⟨100, none, none, [.code (cAt Try.prog 100 [1, 0, 0, 1, 1, 0, 0, 0])], c1T1 a l x⟩, [], ((100003, OBlk.cells 22 [SV.dat a]) :: (100004, OBlk.cells 121 [SV.dat ha, SV.dat hb, SV.dat hc, SV.dat i, SV.dat o]) :: r)⟩ = .need (0 ≤ x ∧ x < (D.len a : Int) ∧ D.sz a = 1) (.need (D.HasCell a (Int.toNat x) 0 (FT.int IntKind.i64)) (.leaf ⟨⟨100, some (opsAt Try.prog 100 [1, 0, 0, 1, 1, 0, 0, 0], []), none, [], c1T2 a l x⟩, [], ((100003, OBlk.cells 22 [SV.dat a]) :: (100004, OBlk.cells 121 [SV.dat ha, SV.dat hb, SV.dat hc, SV.dat i, SV.dat o]) :: r)⟩)) := by kernel_rfl
theorem c1_B3 : execT Try.prog [] (fun _ => false) 8 ⟨⟨100, some (opsAt Try.prog 100 [1, 0, 0, 1, 1, 0, 0, 1, 0], [0, 1, 2, 3, 4, 5, 6, 7]), none, [], c1T2 a l x⟩, [], ((100003, OBlk.cells 22 [SV.dat a]) :: (100004, OBlk.cells 121 [SV.dat ha, SV.dat hb, SV.dat hc, SV.dat i, SV.dat o]) :: r)⟩ = .need (0 ≤ (D.getInt a (Int.toNat x) 0) ∧ (D.getInt a (Int.toNat x) 0) < (D.len hb : Int) ∧ D.sz hb = 3) (.need (D.HasCells hb (Int.toNat (D.getInt a (Int.toNat x) 0)) 0 [FT.int IntKind.i64, FT.int IntKind.i64, FT.slc]) (.leaf ⟨⟨100, some (opsAt Try.prog 100 [1, 0, 0, 1, 1, 0, 0, 1, 0], []), none, [], c1T3 hb a l x⟩, [], ((100003, OBlk.cells 22 [SV.dat a]) :: (100004, OBlk.cells 121 [SV.dat ha, SV.dat hb, SV.dat hc, SV.dat i, SV.dat o]) :: r)⟩)) := by kernel_rfl
theorem c1_C (m : Mem) : execT Try.prog [] (fun _ => false) 1 ⟨⟨100, some (opsAt Try.prog 100 [1, 0, 0, 1, 1, 0, 0, 1, 0], [9]), none, [], (c1L a l x).set 20 (.lb e)⟩, [], m⟩ = .leaf ⟨⟨100, some (opsAt Try.prog 100 [1, 0, 0, 1, 1, 0, 0, 1, 0], []), none, [], c1TC a e l x⟩, [], m⟩ := by cases e <;> kernel_rfl
theorem c1_D : execT Try.prog [] (fun _ => false) 3 ⟨⟨100, none, none, [.code (cAt Try.prog 100 [1, 0, 0, 1, 1, 1])], c1TC a true l x⟩, [], ((100003, OBlk.cells 22 [SV.dat a]) :: (100004, OBlk.cells 121 [SV.dat ha, SV.dat hb, SV.dat hc, SV.dat i, SV.dat o]) :: r)⟩ = .leaf ⟨⟨100, some (opsAt Try.prog 100 [1, 0, 0, 1, 1, 1], []), none, [], c1TD a l x⟩, [], ((100003, OBlk.cells 22 [SV.dat a]) :: (100004, OBlk.cells 121 [SV.dat ha, SV.dat hb, SV.dat hc, SV.dat i, SV.dat o]) :: r)⟩ := by kernel_rfl
end
noncomputable def c1W {σ : Type} {ha hb hc i o a : D} (r : σ → Mem) (Inv : Nat → σ → Prop) (hset : a.Is Int) (hw : hb.Is Wt) (hlen : a.len ≤ 1048576) (hin : ∀ j, j < a.len → 0 ≤ a.getInt (Int.toNat (j : Int)) 0 ∧ a.getInt (Int.toNat (j : Int)) 0 < (hb.len : Int)) :
    IterWalk icode (fun s => (100003, OBlk.cells 22 [SV.dat a]) :: (100004, OBlk.cells 121 [SV.dat ha, SV.dat hb, SV.dat hc, SV.dat i, SV.dat o]) :: r s) a.len (fun j => a.getInt (Int.toNat (j : Int)) 0) (fun j => wvH hb (a.getInt (Int.toNat (j : Int)) 0)) Inv [SV.ptr 100003 0, SV.ptr 100004 0] where
  itL l j := c1L a l j
  TA l := c1A a l
  T1 l j := c1T1 a l j
  T2 l j := c1T2 a l j
  T3 l j := c1T3 hb a l j
  TC e l j := c1TC a e l j
  TD l j := c1TD a l j
  kept _ _ := rfl
  okL C E H w s g l j := by
    obtain ⟨_, _, _, h⟩ := g.own 100003 _ List.mem_cons_self
    simp [c1L, mkJ, slotS, SV.OkL, SV.Ok, h.1.1, h.1.2]
  okw C E H w s g j hj := by
    obtain ⟨_, _, _, h⟩ := g.own 100004 _ (List.mem_cons_of_mem _ List.mem_cons_self)
    have hz := hin j hj
    exact wvH_ok hw h.2.1.1 hz.1 hz.2
  A C s l hrd _ := by
    apply execT_sound (noCtr _) (fun _ => false) 4
    refine holds_of (c1_A ha hb hc i o a l (r s)) ?_
    exact end_ops hrd ⟨rfl, rfl, rfl⟩
  mA l := ⟨rfl, rfl⟩
  B1 C s l j hrd _ _ := by
    apply execT_sound (noCtr _) (fun _ => false) 2
    refine holds_of (c1_B1 ha hb hc i o a l j (r s)) ?_
    exact end_ops hrd ⟨rfl, rfl, rfl⟩
  c1 l j := rfl
  B2 C s l j hrd hj _ := by
    apply execT_sound (noCtr _) (fun _ => false) 4
    refine holds_of (c1_B2 ha hb hc i o a l j (r s)) ?_
    have hj' : j < (a.to Int).length := by rw [← D.Is.length (α := Int)]; exact hj
    obtain ⟨c1, c2, _⟩ := int_at hset hj'
    exact ⟨c1, c2, end_ops hrd ⟨rfl, rfl, rfl⟩⟩
  B3 C s l j hrd hj _ := by
    apply execT_sound (noCtr _) (fun _ => false) 8
    refine holds_of (c1_B3 ha hb hc i o a l j (r s)) ?_
    have hz := hin j hj
    have hi : Int.toNat (a.getInt (Int.toNat (j : Int)) 0) < (hb.to Wt).length := by rw [← D.Is.length (α := Wt)]; omega
    exact ⟨⟨hz.1, hz.2, hw.size hi⟩, (wt_cell hw hi).1, end_ops hrd ⟨rfl, rfl, rfl⟩⟩
  c3 l j := ⟨rfl, rfl, rfl⟩
  m3 l j := ⟨rfl, rfl⟩
  Cc C s m e l j hrd := by
    apply execT_sound (noCtr _) (fun _ => false) 1
    refine holds_of (c1_C a l j e m) ?_
    exact end_ops hrd ⟨rfl, rfl, rfl⟩
  cC e l j := rfl
  Dd C s l j hrd _ := by
    apply execT_sound (noCtr _) (fun _ => false) 3
    refine holds_of (c1_D ha hb hc i o a l j (r s)) ?_
    exact end_ops hrd ⟨rfl, rfl, rfl⟩
  mD l j hj := by
    refine ⟨?_, rfl⟩
    have e : maskT 0 liveIt 0 (c1TD a l j) = c1L a l (IntKind.wrap IntKind.i64 ((j : Int) + 1)) := rfl
    rw [e, wrap_succ hj hlen]
  indep j E E' := by simp [wvH, SV.den, SV.denL]


noncomputable def c2L (a : D) (l : Nat) (x : Int) : List SV := mkJ 0 [(0, SV.raw (yieldV l)), (1, SV.ptr 200005 0), (2, SV.ptr 200006 0), (6, SV.dat a), (7, SV.int IntKind.i64 (D.len a : Int)), (8, SV.int IntKind.i64 x)] 0 23
noncomputable def c2A (a : D) (l : Nat) : List SV := mkU [(0, SV.raw (yieldV l)), (1, SV.ptr 200005 0), (2, SV.ptr 200006 0), (6, SV.dat a), (7, SV.int IntKind.i64 (D.len a : Int)), (8, SV.int IntKind.i64 0)] 0 23
noncomputable def c2T1 (a : D) (l : Nat) (x : Int) : List SV := mkJ 0 [(0, SV.raw (yieldV l)), (1, SV.ptr 200005 0), (2, SV.ptr 200006 0), (6, SV.dat a), (7, SV.int IntKind.i64 (D.len a : Int)), (8, SV.int IntKind.i64 x), (9, SV.bool (decide (x < (D.len a : Int))))] 0 23
noncomputable def c2T2 (a : D) (l : Nat) (x : Int) : List SV := mkJ 0 [(5, SV.int IntKind.i64 (D.getInt a (Int.toNat x) 0)), (0, SV.raw (yieldV l)), (1, SV.ptr 200005 0), (2, SV.ptr 200006 0), (6, SV.dat a), (7, SV.int IntKind.i64 (D.len a : Int)), (8, SV.int IntKind.i64 x), (9, SV.bool (decide (x < (D.len a : Int)))), (10, SV.elt a (Int.toNat x) 0), (11, SV.int IntKind.i64 (D.getInt a (Int.toNat x) 0))] 0 23
noncomputable def c2T3 (hb a : D) (l : Nat) (x : Int) : List SV := mkJ 0 [(5, SV.int IntKind.i64 (D.getInt a (Int.toNat x) 0)), (0, SV.raw (yieldV l)), (1, SV.ptr 200005 0), (2, SV.ptr 200006 0), (6, SV.dat a), (7, SV.int IntKind.i64 (D.len a : Int)), (8, SV.int IntKind.i64 x), (9, SV.bool (decide (x < (D.len a : Int)))), (10, SV.elt a (Int.toNat x) 0), (11, SV.int IntKind.i64 (D.getInt a (Int.toNat x) 0)), (12, SV.raw (yieldV l)), (13, SV.int IntKind.i64 (D.getInt a (Int.toNat x) 0)), (14, SV.ptr 200006 0), (15, SV.ptr 200006 1), (16, SV.dat hb), (17, SV.int IntKind.i64 (D.getInt a (Int.toNat x) 0)), (18, SV.elt hb (Int.toNat (D.getInt a (Int.toNat x) 0)) 0), (19, (SV.agg [SV.int IntKind.i64 (D.getInt hb (Int.toNat (D.getInt a (Int.toNat x) 0)) 0), SV.int IntKind.i64 (D.getInt hb (Int.toNat (D.getInt a (Int.toNat x) 0)) 1), SV.dat (D.cell hb (Int.toNat (D.getInt a (Int.toNat x) 0)) 2)]))] 0 23
noncomputable def c2TC (a : D) (e : Bool) (l : Nat) (x : Int) : List SV := mkJ 0 [(0, SV.raw (yieldV l)), (1, SV.ptr 200005 0), (2, SV.ptr 200006 0), (6, SV.dat a), (7, SV.int IntKind.i64 (D.len a : Int)), (8, SV.int IntKind.i64 x), (20, SV.lb e), (21, SV.lb (!e))] 0 23
noncomputable def c2TD (a : D) (l : Nat) (x : Int) : List SV := mkJ 0 [(0, SV.raw (yieldV l)), (1, SV.ptr 200005 0), (2, SV.ptr 200006 0), (6, SV.dat a), (7, SV.int IntKind.i64 (D.len a : Int)), (8, SV.int IntKind.i64 (IntKind.wrap IntKind.i64 (x + 1))), (20, SV.lb true), (21, SV.lb false), (22, SV.int IntKind.i64 (IntKind.wrap IntKind.i64 (x + 1)))] 0 23
section
variable (ha hb hc i o a : D) (l : Nat) (x : Int) (e : Bool) (r : Mem)
theorem c2_A : execT Try.prog [] (fun _ => false) 4 ⟨⟨100, none, none, [.code (cAt Try.prog 100 [0])], SV.raw (yieldV l) :: [SV.ptr 200005 0, SV.ptr 200006 0] ++ List.replicate 20 .undef⟩, [], ((200005, OBlk.cells 22 [SV.dat a]) :: (200006, OBlk.cells 121 [SV.dat ha, SV.dat hb, SV.dat hc, SV.dat i, SV.dat o]) :: r)⟩ = .leaf ⟨⟨100, some (opsAt Try.prog 100 [0], []), none, [], c2A a l⟩, [], ((200005, OBlk.cells 22 [SV.dat a]) :: (200006, OBlk.cells 121 [SV.dat ha, SV.dat hb, SV.dat hc, SV.dat i, SV.dat o]) :: r)⟩ := by kernel_rfl
theorem c2_B1 : execT Try.prog [] (fun _ => false) 2 ⟨⟨100, none, none, [.code (cAt Try.prog 100 [1, 0, 0, 0])], c2L a l x⟩, [], ((200005, OBlk.cells 22 [SV.dat a]) :: (200006, OBlk.cells 121 [SV.dat ha, SV.dat hb, SV.dat hc, SV.dat i, SV.dat o]) :: r)⟩ = .leaf ⟨⟨100, some (opsAt Try.prog 100 [1, 0, 0, 0], []), none, [], c2T1 a l x⟩, [], ((200005, OBlk.cells 22 [SV.dat a]) :: (200006, OBlk.cells 121 [SV.dat ha, SV.dat hb, SV.dat hc, SV.dat i, SV.dat o]) :: r)⟩ := by kernel_rfl
theorem c2_B2 : execT Try.prog [] (fun _ => false) 4 ⟨⟨100, none, none, [.code (cAt Try.prog 100 [1, 0, 0, 1, 1, 0, 0, 0])], c2T1 a l x⟩, [], ((200005, OBlk.cells 22 [SV.dat a]) :: (200006, OBlk.cells 121 [SV.dat ha, SV.dat hb, SV.dat hc, SV.dat i, SV.dat o]) :: r)⟩ = .need (0 ≤ x ∧ x < (D.len a : Int) ∧ D.sz a = 1) (.need (D.HasCell a (Int.toNat x) 0 (FT.int IntKind.i64)) (.leaf ⟨⟨100, some (opsAt Try.prog 100 [1, 0, 0, 1, 1, 0, 0, 0], []), none, [], c2T2 a l x⟩, [], ((200005, OBlk.cells 22 [SV.dat a]) :: (200006, OBlk.cells 121 [SV.dat ha, SV.dat hb, SV.dat hc, SV.dat i, SV.dat o]) :: r)⟩)) := by kernel_rfl
theorem c2_B3 : execT Try.prog [] (fun _ => false) 8 ⟨⟨100, some (opsAt Try.prog 100 [1, 0, 0, 1, 1, 0, 0, 1, 0], [0, 1, 2, 3, 4, 5, 6, 7]), none, [], c2T2 a l x⟩, [], ((200005, OBlk.cells 22 [SV.dat a]) :: (200006, OBlk.cells 121 [SV.dat ha, SV.dat hb, SV.dat hc, SV.dat i, SV.dat o]) :: r)⟩ = .need (0 ≤ (D.getInt a (Int.toNat x) 0) ∧ (D.getInt a (Int.toNat x) 0) < (D.len hb : Int) ∧ D.sz hb = 3) (.need (D.HasCells hb (Int.toNat (D.getInt a (Int.toNat x) 0)) 0 [FT.int IntKind.i64, FT.int IntKind.i64, FT.slc]) (.leaf ⟨⟨100, some (opsAt Try.prog 100 [1, 0, 0, 1, 1, 0, 0, 1, 0], []), none, [], c2T3 hb a l x⟩, [], ((200005, OBlk.cells 22 [SV.dat a]) :: (200006, OBlk.cells 121 [SV.dat ha, SV.dat hb, SV.dat hc, SV.dat i, SV.dat o]) :: r)⟩)) := by kernel_rfl
theorem c2_C (m : Mem) : execT Try.prog [] (fun _ => false) 1 ⟨⟨100, some (opsAt Try.prog 100 [1, 0, 0, 1, 1, 0, 0, 1, 0], [9]), none, [], (c2L a l x).set 20 (.lb e)⟩, [], m⟩ = .leaf ⟨⟨100, some (opsAt Try.prog 100 [1, 0, 0, 1, 1, 0, 0, 1, 0], []), none, [], c2TC a e l x⟩, [], m⟩ := by cases e <;> kernel_rfl
theorem c2_D : execT Try.prog [] (fun _ => false) 3 ⟨⟨100, none, none, [.code (cAt Try.prog 100 [1, 0, 0, 1, 1, 1])], c2TC a true l x⟩, [], ((200005, OBlk.cells 22 [SV.dat a]) :: (200006, OBlk.cells 121 [SV.dat ha, SV.dat hb, SV.dat hc, SV.dat i, SV.dat o]) :: r)⟩ = .leaf ⟨⟨100, some (opsAt Try.prog 100 [1, 0, 0, 1, 1, 1], []), none, [], c2TD a l x⟩, [], ((200005, OBlk.cells 22 [SV.dat a]) :: (200006, OBlk.cells 121 [SV.dat ha, SV.dat hb, SV.dat hc, SV.dat i, SV.dat o]) :: r)⟩ := by kernel_rfl
end
noncomputable def c2W {σ : Type} {ha hb hc i o a : D} (r : σ → Mem) (Inv : Nat → σ → Prop) (hset : a.Is Int) (hw : hb.Is Wt) (hlen : a.len ≤ 1048576) (hin : ∀ j, j < a.len → 0 ≤ a.getInt (Int.toNat (j : Int)) 0 ∧ a.getInt (Int.toNat (j : Int)) 0 < (hb.len : Int)) :
    IterWalk icode (fun s => (200005, OBlk.cells 22 [SV.dat a]) :: (200006, OBlk.cells 121 [SV.dat ha, SV.dat hb, SV.dat hc, SV.dat i, SV.dat o]) :: r s) a.len (fun j => a.getInt (Int.toNat (j : Int)) 0) (fun j => wvH hb (a.getInt (Int.toNat (j : Int)) 0)) Inv [SV.ptr 200005 0, SV.ptr 200006 0] where
  itL l j := c2L a l j
  TA l := c2A a l
  T1 l j := c2T1 a l j
  T2 l j := c2T2 a l j
  T3 l j := c2T3 hb a l j
  TC e l j := c2TC a e l j
  TD l j := c2TD a l j
  kept _ _ := rfl
  okL C E H w s g l j := by
    obtain ⟨_, _, _, h⟩ := g.own 200005 _ List.mem_cons_self
    simp [c2L, mkJ, slotS, SV.OkL, SV.Ok, h.1.1, h.1.2]
  okw C E H w s g j hj := by
    obtain ⟨_, _, _, h⟩ := g.own 200006 _ (List.mem_cons_of_mem _ List.mem_cons_self)
    have hz := hin j hj
    exact wvH_ok hw h.2.1.1 hz.1 hz.2
  A C s l hrd _ := by
    apply execT_sound (noCtr _) (fun _ => false) 4
    refine holds_of (c2_A ha hb hc i o a l (r s)) ?_
    exact end_ops hrd ⟨rfl, rfl, rfl⟩
  mA l := ⟨rfl, rfl⟩
  B1 C s l j hrd _ _ := by
    apply execT_sound (noCtr _) (fun _ => false) 2
    refine holds_of (c2_B1 ha hb hc i o a l j (r s)) ?_
    exact end_ops hrd ⟨rfl, rfl, rfl⟩
  c1 l j := rfl
  B2 C s l j hrd hj _ := by
    apply execT_sound (noCtr _) (fun _ => false) 4
    refine holds_of (c2_B2 ha hb hc i o a l j (r s)) ?_
    have hj' : j < (a.to Int).length := by rw [← D.Is.length (α := Int)]; exact hj
    obtain ⟨c1, c2, _⟩ := int_at hset hj'
    exact ⟨c1, c2, end_ops hrd ⟨rfl, rfl, rfl⟩⟩
  B3 C s l j hrd hj _ := by
    apply execT_sound (noCtr _) (fun _ => false) 8
    refine holds_of (c2_B3 ha hb hc i o a l j (r s)) ?_
    have hz := hin j hj
    have hi : Int.toNat (a.getInt (Int.toNat (j : Int)) 0) < (hb.to Wt).length := by rw [← D.Is.length (α := Wt)]; omega
    exact ⟨⟨hz.1, hz.2, hw.size hi⟩, (wt_cell hw hi).1, end_ops hrd ⟨rfl, rfl, rfl⟩⟩
  c3 l j := ⟨rfl, rfl, rfl⟩
  m3 l j := ⟨rfl, rfl⟩
  Cc C s m e l j hrd := by
    apply execT_sound (noCtr _) (fun _ => false) 1
    refine holds_of (c2_C a l j e m) ?_
    exact end_ops hrd ⟨rfl, rfl, rfl⟩
  cC e l j := rfl
  Dd C s l j hrd _ := by
    apply execT_sound (noCtr _) (fun _ => false) 3
    refine holds_of (c2_D ha hb hc i o a l j (r s)) ?_
    exact end_ops hrd ⟨rfl, rfl, rfl⟩
  mD l j hj := by
    refine ⟨?_, rfl⟩
    have e : maskT 0 liveIt 0 (c2TD a l j) = c2L a l (IntKind.wrap IntKind.i64 ((j : Int) + 1)) := rfl
    rw [e, wrap_succ hj hlen]
  indep j E E' := by simp [wvH, SV.den, SV.denL]

end Go.Proofs.Ytodhhmjilnfecaa
end
section
open Go Go.Proofs Sx
namespace Go.Proofs.Ytodhhmjilnfecaa
set_option maxRecDepth 100000
set_option maxHeartbeats 0
noncomputable def ctB : Ctrs := [(96, ctrOf ((rdTl.three rdInt rdInt).sp spBefT))]
section
variable (ha hb hc i o a : D)

end
end Go.Proofs.Ytodhhmjilnfecaa
end
section
open Go Go.Proofs Sx
namespace Go.Proofs.Ytodhhmjilnfecaa
set_option maxRecDepth 100000
set_option maxHeartbeats 0
noncomputable def clK : List Item := [Item.inBlock 0, Item.code (cAt Try.prog 70 [1, 1, 1])]
noncomputable def clT (a : D) : List SV := mkU [(0, SV.junk 0), (1, .dat a), (2, .ptr 100000 0), (3, SV.junk 3), (4, .ptr 100001 0), (5, .ptr 100002 0), (7, SV.junk 7), (8, SV.junk 8), (9, SV.junk 9), (10, SV.junk 10), (11, SV.junk 11), (12, SV.junk 12), (13, SV.junk 13), (14, SV.junk 14), (15, SV.junk 15), (16, SV.fn 100 [] [.ptr 100003 0, .ptr 100004 0]), (18, SV.junk 18), (22, SV.junk 22), (23, SV.junk 23), (24, SV.junk 24), (25, SV.junk 25), (26, SV.junk 26), (27, SV.junk 27), (28, SV.junk 28), (29, SV.junk 29), (30, SV.junk 30), (31, SV.junk 31), (32, SV.junk 32), (33, SV.junk 33), (34, SV.junk 34), (35, SV.junk 35), (36, SV.junk 36), (37, SV.junk 37), (38, SV.junk 38), (39, SV.junk 39), (40, SV.junk 40), (41, SV.junk 41), (42, SV.junk 42), (43, SV.junk 43), (44, SV.junk 44), (45, SV.junk 45), (46, SV.junk 46)] 0 47
noncomputable def clM (ha hb hc i o a q : D) : Mem := (100003, OBlk.cells 22 [.dat a]) :: (100004, OBlk.cells 121 [.dat ha, .dat hb, .dat hc, .dat i, .dat o]) :: [(100000, OBlk.cells 121 [.dat ha, .dat hb, .dat hc, .dat i, .dat o]), (100001, OBlk.cells 4 [.lb false]), (100002, OBlk.cells 87 [.vec 100005]), (100005, OBlk.arr 4 q)]
noncomputable def clR (hb a : D) (z : Int) : List SV := ((clT a).set 17 (.int .i64 z)).set 18 (wvH hb z)
section
variable (ha hb hc i o a q : D) (z : Int)


theorem clq_in : execQ Try.prog ctB 300 ⟨⟨70, none, none, clK, clT a⟩, [], clM ha hb hc i o a q⟩ =
 Tree.leaf
 (Conf.mk
 (SFrm.mk 70 none none
 [Item.code (cAt Try.prog 70 [1, 1, 1, 0, 1, 0]), Item.inBlock 2, Item.code (cAt Try.prog 70 [1, 1, 1, 1])]
 (mkU
 [(0, SV.junk 0), (1, .dat a), (2, .ptr 100000 0), (3, SV.junk 3), (4, .ptr 100001 0),
 (5, .ptr 100002 0), (7, SV.junk 7), (8, SV.junk 8), (9, SV.junk 9), (10, SV.junk 10), (11, SV.junk 11),
 (12, SV.junk 12), (13, SV.junk 13), (14, SV.junk 14), (15, SV.junk 15),
 (16, SV.fn 100 [] [.ptr 100003 0, .ptr 100004 0]), (18, SV.junk 18),
 (22, .agg [.dat ha, .dat hb, .dat hc, .dat i, .dat o]), (23, .dat a),
 (24, SV.fn 100 [] [.ptr 5 0, .ptr 6 0]), (25, SV.junk 25), (26, SV.junk 26), (27, SV.junk 27),
 (28, SV.junk 28), (29, SV.junk 29), (30, SV.junk 30), (31, SV.junk 31), (32, SV.junk 32), (33, SV.junk 33),
 (34, SV.junk 34), (35, SV.junk 35), (36, SV.junk 36), (37, SV.junk 37), (38, SV.junk 38), (39, SV.junk 39),
 (40, SV.junk 40), (41, SV.junk 41), (42, SV.junk 42), (43, SV.junk 43), (44, SV.junk 44), (45, SV.junk 45),
 (46, SV.junk 46)]
 0 47))
 []
 [(5, OBlk.cells 22 [.dat a]), (6, OBlk.cells 121 [.dat ha, .dat hb, .dat hc, .dat i, .dat o]),
 (100000, OBlk.cells 121 [.dat ha, .dat hb, .dat hc, .dat i, .dat o]),
 (100001, OBlk.cells 4 [.lb false]), (100002, OBlk.cells 87 [.vec 100005]), (100003, OBlk.cells 22 [.dat a]),
 (100004, OBlk.cells 121 [.dat ha, .dat hb, .dat hc, .dat i, .dat o]), (100005, OBlk.arr 4 q)]) := by kernel_rfl

end
end Go.Proofs.Ytodhhmjilnfecaa
end
section
open Go Go.Proofs Sx
namespace Go.Proofs.Ytodhhmjilnfecaa
set_option maxRecDepth 100000
set_option maxHeartbeats 0
noncomputable def cmK : List Item := [Item.inBlock 2, Item.code (cAt Try.prog 70 [1, 1, 1, 1])]
noncomputable def cmT (ha hb hc i o a : D) : List SV := mkU [(0, SV.junk 0), (1, .dat a), (2, .ptr 100000 0), (3, SV.junk 3), (4, .ptr 100001 0), (5, .ptr 100002 0), (7, SV.junk 7), (8, SV.junk 8), (9, SV.junk 9), (10, SV.junk 10), (11, SV.junk 11), (12, SV.junk 12), (13, SV.junk 13), (14, SV.junk 14), (15, SV.junk 15), (16, SV.fn 100 [] [.ptr 100003 0, .ptr 100004 0]), (18, SV.junk 18), (22, .agg [.dat ha, .dat hb, .dat hc, .dat i, .dat o]), (23, .dat a), (24, SV.fn 100 [] [.ptr 200005 0, .ptr 200006 0]), (25, SV.junk 25), (26, SV.junk 26), (27, SV.junk 27), (28, SV.junk 28), (29, SV.junk 29), (30, SV.junk 30), (31, SV.junk 31), (32, SV.junk 32), (33, SV.junk 33), (34, SV.junk 34), (35, SV.junk 35), (36, SV.junk 36), (37, SV.junk 37), (38, SV.junk 38), (39, SV.junk 39), (40, SV.junk 40), (41, SV.junk 41), (42, SV.junk 42), (43, SV.junk 43), (44, SV.junk 44), (45, SV.junk 45), (46, SV.junk 46)] 0 47
noncomputable def cmM (ha hb hc i o a q : D) : Mem := (200005, OBlk.cells 22 [.dat a]) :: (200006, OBlk.cells 121 [.dat ha, .dat hb, .dat hc, .dat i, .dat o]) :: [(100000, OBlk.cells 121 [.dat ha, .dat hb, .dat hc, .dat i, .dat o]), (100001, OBlk.cells 4 [.lb false]), (100002, OBlk.cells 87 [.vec 100005]), (100003, OBlk.cells 22 [.dat a]), (100004, OBlk.cells 121 [.dat ha, .dat hb, .dat hc, .dat i, .dat o]), (100005, OBlk.arr 4 q)]
noncomputable def cmR (ha hb hc i o a : D) (z : Int) : List SV := ((cmT ha hb hc i o a).set 25 (.int .i64 z)).set 26 (wvH hb z)
section
variable (ha hb hc i o a q : D) (z : Int)
theorem cma_go : execP Try.prog [] 100 ⟨⟨70, none, none, [.code (cAt Try.prog 70 [1, 1, 1, 0, 1, 0, 0])], cmR ha hb hc i o a z⟩, [], cmM ha hb hc i o a q⟩ =
 Tree.leaf
 (Conf.mk
 (SFrm.mk 70 none none []
 (mkU
 [(0, SV.junk 0), (1, .dat a), (2, .ptr 100000 0), (3, SV.junk 3), (4, .ptr 100001 0),
 (5, .ptr 100002 0), (7, .int .i64 z), (8, SV.junk 8), (9, SV.junk 9), (10, SV.junk 10),
 (11, SV.junk 11), (12, SV.junk 12), (13, SV.junk 13), (14, SV.junk 14), (15, SV.junk 15),
 (16, SV.fn 100 [] [.ptr 100003 0, .ptr 100004 0]), (18, SV.junk 18),
 (22, .agg [.dat ha, .dat hb, .dat hc, .dat i, .dat o]), (23, .dat a),
 (24, SV.fn 100 [] [.ptr 200005 0, .ptr 200006 0]), (25, .int .i64 z),
 (26,
 .agg
 [.int .i64 (D.getInt hb (Int.toNat z) 0), .int .i64 (D.getInt hb (Int.toNat z) 1),
 .dat (D.cell hb (Int.toNat z) 2)]),
 (27, SV.junk 27), (28, SV.junk 28), (29, SV.junk 29), (30, SV.junk 30), (31, SV.junk 31), (32, SV.junk 32),
 (33, SV.junk 33), (34, SV.junk 34), (35, SV.junk 35), (36, SV.junk 36), (37, SV.junk 37), (38, SV.junk 38),
 (39, SV.junk 39), (40, SV.junk 40), (41, SV.junk 41), (42, SV.junk 42), (43, SV.junk 43), (44, SV.junk 44),
 (45, SV.junk 45), (46, SV.junk 46)]
 0 47))
 []
 [(200005, OBlk.cells 22 [.dat a]), (200006, OBlk.cells 121 [.dat ha, .dat hb, .dat hc, .dat i, .dat o]),
 (100000, OBlk.cells 121 [.dat ha, .dat hb, .dat hc, .dat i, .dat o]),
 (100001, OBlk.cells 4 [.lb false]), (100002, OBlk.cells 87 [.vec 100005]), (100003, OBlk.cells 22 [.dat a]),
 (100004, OBlk.cells 121 [.dat ha, .dat hb, .dat hc, .dat i, .dat o]), (100005, OBlk.arr 4 q)]) := by kernel_rfl

theorem cmb_go : execP Try.prog ctB 100 ⟨⟨70, none, none, [.code (cAt Try.prog 70 [1, 1, 1, 0, 1, 0, 1])], (cmR ha hb hc i o a z).set 7 (.int .i64 z)⟩, [], cmM ha hb hc i o a q⟩ =
 Tree.leaf
 (Conf.mk
 (SFrm.mk 70 none none
 [Item.inLoop (cAt Try.prog 70 [1, 1, 1, 0, 1, 0, 1, 0, 1, 0, 0]), Item.inBlock 4, Item.inBlock 3]
 (mkJ 0
 [(2, .ptr 100000 0), (4, .ptr 100001 0), (5, .ptr 100002 0), (7, .int .i64 z),
 (30, .int .i64 (↑(D.len hb) : Int)), (31, .int .i64 0)]
 0 47))
 []
 [(100000, OBlk.cells 121 [.dat ha, .dat hb, .dat hc, .dat i, .dat o]),
 (100001, OBlk.cells 4 [.lb false]), (100002, OBlk.cells 87 [.vec 100005]), (100003, OBlk.cells 22 [.dat a]),
 (100004, OBlk.cells 121 [.dat ha, .dat hb, .dat hc, .dat i, .dat o]), (100005, OBlk.arr 4 q),
 (200005, OBlk.cells 22 [.dat a]),
 (200006, OBlk.cells 121 [.dat ha, .dat hb, .dat hc, .dat i, .dat o])]) := by kernel_rfl

theorem cme_in : execQ Try.prog ctB 300 ⟨⟨70, none, none, cmK, cmT ha hb hc i o a⟩, [], cmM ha hb hc i o a q⟩ =
 Tree.ret (.lb true) := by kernel_rfl

theorem cms_in : execQ Try.prog ctB 300 ⟨⟨70, none, none, .code .ret :: cmK, cmT ha hb hc i o a⟩, [], cmM ha hb hc i o a q⟩ =
 Tree.ret (.lb false) := by kernel_rfl

end
end Go.Proofs.Ytodhhmjilnfecaa
end
section
open Go Go.Proofs Sx
namespace Go.Proofs.Ytodhhmjilnfecaa
set_option maxRecDepth 100000
set_option maxHeartbeats 0
noncomputable def cmL (ha hb hc i o a q : D) (z j : Int) : Conf := Conf.mk (SFrm.mk 70 none none [Item.inLoop (cAt Try.prog 70 [1, 1, 1, 0, 1, 0, 1, 0, 1, 0, 0]), Item.inBlock 4, Item.inBlock 3] (mkJ 0 [(2, .ptr 100000 0), (4, .ptr 100001 0), (5, .ptr 100002 0), (7, .int .i64 z), (30, .int .i64 (D.len hb : Int)), (31, .int .i64 j)] 0 47)) [] [(100000, OBlk.cells 121 [.dat ha, .dat hb, .dat hc, .dat i, .dat o]), (100001, OBlk.cells 4 [.lb false]), (100002, OBlk.cells 87 [.vec 100005]), (100003, OBlk.cells 22 [.dat a]), (100004, OBlk.cells 121 [.dat ha, .dat hb, .dat hc, .dat i, .dat o]), (100005, OBlk.arr 4 q), (200005, OBlk.cells 22 [.dat a]), (200006, OBlk.cells 121 [.dat ha, .dat hb, .dat hc, .dat i, .dat o])]
section
variable (ha hb hc i o a q : D) (z j : Int)
theorem cml_go : 
 let z1 : Tree := (.leaf (Conf.mk (SFrm.mk 70 none none [Item.inLoop (cAt Try.prog 70 [1, 1, 1, 0, 1, 0, 1, 0, 1, 0, 0]), Item.inBlock 4, Item.inBlock 3] (mkJ 0 [(2, .ptr 100000 0), (4, .ptr 100001 0), (5, .ptr 100002 0), (7, .int .i64 z), (30, .int .i64 (↑(D.len hb) : Int)), (31, .int .i64 (IntKind.wrap .i64 (j + 1)))] 0 47)) [] [(100000, OBlk.cells 121 [.dat ha, .dat hb, .dat hc, .dat i, .dat o]), (100001, OBlk.cells 4 [.lb false]), (100002, OBlk.cells 87 [.vec 100005]), (100003, OBlk.cells 22 [.dat a]), (100004, OBlk.cells 121 [.dat ha, .dat hb, .dat hc, .dat i, .dat o]), (100005, OBlk.arr 4 q), (200005, OBlk.cells 22 [.dat a]), (200006, OBlk.cells 121 [.dat ha, .dat hb, .dat hc, .dat i, .dat o])]))
 execP Try.prog ctB 300 (unroll (cmL ha hb hc i o a q z j)) =
 Tree.br (decide (j < (↑(D.len hb) : Int))) (.need (0 ≤ j ∧ j < (↑(D.len q) : Int) ∧ D.sz q = 1) (.need (D.HasCell q (Int.toNat j) 0 FT.bool ∧ D.sz q = 1) (.br (!D.getBool q (Int.toNat j) 0) (.need (D.Is Int i ∧ D.Is Int o ∧ 0 ≤ j ∧ j <
 (↑(List.length (D.to Int o)) : Int) ∧ 0 ≤ z ∧ z < (↑(List.length (D.to Int i)) : Int)) (.br (beforeT (TlD.tl (TlD.mk i o)) j z) (.leaf (Conf.mk (SFrm.mk 70 none none [Item.code (cAt Try.prog 70 [1, 1, 1, 0, 1, 0, 1, 0, 1, 0, 0, 1, 1, 0, 0, 1, 1, 0, 1]), Item.inBlock 5, Item.code
 (cAt Try.prog 70 [1, 1, 1, 0, 1, 0, 1, 0, 1, 0, 0, 1, 1, 1]), Item.inLoop (cAt Try.prog 70 [1, 1, 1, 0, 1, 0, 1, 0, 1, 0, 0]), Item.inBlock 4, Item.inBlock 3] (mkJ 0 [(2, .ptr 100000 0), (4, .ptr 100001 0),
 (5, .ptr 100002 0), (7, .int .i64 z), (8, .int .i64 j), (30, .int .i64 (↑(D.len hb) : Int)), (31, .int .i64 j), (32, .bool (decide (j < (↑(D.len hb) : Int)))), (33, .int .i64 j), (34, .vec 100005), (35, .int .i64 j),
 (36, SV.velt 100005 1 (Int.toNat j) 0), (37, .bool (D.getBool q (Int.toNat j) 0)), (38, .bool !D.getBool q (Int.toNat j) 0), (39, .lb true), (40, .ptr 100000 3), (41, .agg [.dat i, .dat o]), (42, .int .i64 j),
 (43, .int .i64 z), (44, .bool (beforeT (TlD.tl (TlD.mk i o)) j z)), (45, .bool (beforeT (TlD.tl (TlD.mk i o)) j z))] 0 47)) [] [(100000, OBlk.cells 121 [.dat ha, .dat hb, .dat hc, .dat i, .dat o]), (100001, OBlk.cells 4 [.lb false]),
 (100002, OBlk.cells 87 [.vec 100005]), (100003, OBlk.cells 22 [.dat a]), (100004, OBlk.cells 121 [.dat ha, .dat hb, .dat hc, .dat i, .dat o]), (100005, OBlk.arr 4 q), (200005, OBlk.cells 22 [.dat a]),
 (200006, OBlk.cells 121 [.dat ha, .dat hb, .dat hc, .dat i, .dat o])])) z1)) z1))) (.leaf (Conf.mk (SFrm.mk 70 none none [] (mkJ 0 [(2, .ptr 100000 0), (4, .ptr 100001 0), (5, .ptr 100002 0), (7, .int .i64 z),
 (30, .int .i64 (↑(D.len hb) : Int)), (31, .int .i64 j), (32, .bool (decide (j < (↑(D.len hb) : Int))))] 0 47)) [] [(100000, OBlk.cells 121 [.dat ha, .dat hb, .dat hc, .dat i, .dat o]), (100001, OBlk.cells 4 [.lb false]),
 (100002, OBlk.cells 87 [.vec 100005]), (100003, OBlk.cells 22 [.dat a]), (100004, OBlk.cells 121 [.dat ha, .dat hb, .dat hc, .dat i, .dat o]), (100005, OBlk.arr 4 q), (200005, OBlk.cells 22 [.dat a]),
 (200006, OBlk.cells 121 [.dat ha, .dat hb, .dat hc, .dat i, .dat o])])) := by
 intros; kernel_rfl

theorem clF2 : cAt Try.prog 70 [1, 1, 1, 0, 1, 0] = .rangeFunc (.tmp 24) #[25, 26] (cAt Try.prog 70 [1, 1, 1, 0, 1, 0, 0]) (cAt Try.prog 70 [1, 1, 1, 0, 1, 0, 1]) := by kernel_rfl
end
end Go.Proofs.Ytodhhmjilnfecaa
end
section
open Go Go.Proofs Sx
namespace Go.Proofs.Ytodhhmjilnfecaa
set_option maxRecDepth 100000

theorem ctBOk : Ctrs.Ok Try.prog ctB := by
  intro x hx
  simp only [ctB, List.mem_cons, List.not_mem_nil, or_false] at hx
  rcases hx with rfl
  exact ctrOf_ok lawBefT

section
variable {H : HV} {w : World} {ha hb hc i o a : D} (rw' : hb.Is Wt) (ri : i.Is Int) (ro : o.Is Int) (ra : a.Is Int) (lw : hb.len ≤ 1048576) (la : a.len ≤ 1048576)
  (li : (i.to Int).length = (hb.to Wt).length) (lo : (o.to Int).length = (hb.to Wt).length) (hset : setH (a.to Int) (hb.to Wt).length = true)
include rw' ri ro ra lw la li lo hset

theorem cl_in_set : ∀ j, j < a.len → 0 ≤ a.getInt (Int.toNat (j : Int)) 0 ∧ a.getInt (Int.toNat (j : Int)) 0 < (hb.len : Int) := fun j hj => by
  have hj' : j < (a.to Int).length := by rw [← D.Is.length (α := Int)]; exact hj
  have := setH_in hset hj'
  rw [(int_at ra hj').2.2, D.Is.length (α := Wt) hb]
  exact this
theorem cm_inner {C1 : Ctx} (hrd : C1.x.rd = true) {q : D} (hq : q.Is Bool) (hqs : q.sz = 1 ∨ q.len = 0) (hqt : q.to Bool = inL (hb.to Wt).length (a.to Int)) {j : Nat} (hj : j < (a.to Int).length)
    {Φ : Bool → List SV → Mem → Prop} (h1 : rowOk ⟨i.to Int, o.to Int⟩ (hb.to Wt).length (a.to Int) (a.to Int)[j] = true → ∀ T, ∀ m, (cmM ha hb hc i o a q).Perm m → Φ true T m)
    (h2 : rowOk ⟨i.to Int, o.to Int⟩ (hb.to Wt).length (a.to Int) (a.to Int)[j] = false → ∀ T, ∀ m, (cmM ha hb hc i o a q).Perm m → Φ false T m) :
    Runs Try.prog C1 (cmL ha hb hc i o a q (a.to Int)[j] 0) (EndR C1 Φ) := by
  have bl := D.Is.length (α := Wt) hb
  have ql := D.Is.length (α := Bool) q
  rw [hqt, inL_len] at ql
  have hz := setH_in hset hj
  have hperm : (cmM ha hb hc i o a q).Perm [(100000, OBlk.cells 121 [SV.dat ha, SV.dat hb, SV.dat hc, SV.dat i, SV.dat o]), (100001, OBlk.cells 4 [SV.lb false]), (100002, OBlk.cells 87 [SV.vec 100005]), (100003, OBlk.cells 22 [SV.dat a]), (100004, OBlk.cells 121 [SV.dat ha, SV.dat hb, SV.dat hc, SV.dat i, SV.dat o]), (100005, OBlk.arr 4 q), (200005, OBlk.cells 22 [SV.dat a]), (200006, OBlk.cells 121 [SV.dat ha, SV.dat hb, SV.dat hc, SV.dat i, SV.dat o])] :=
    List.perm_append_comm (l₁ := [(200005, OBlk.cells 22 [SV.dat a]), (200006, OBlk.cells 121 [SV.dat ha, SV.dat hb, SV.dat hc, SV.dat i, SV.dat o])])
  refine runs_loop (fun k : Nat => cmL ha hb hc i o a q (a.to Int)[j] k) (fun k => k ≤ (hb.to Wt).length ∧ ∀ x : Nat, x < k → ((a.to Int).contains (x : Int) || !beforeT ⟨i.to Int, o.to Int⟩ x (a.to Int)[j]) = true) (fun k => (hb.to Wt).length - k) (fun _ => rfl) ?_ 0 ⟨Nat.zero_le _, fun x hx => absurd hx (Nat.not_lt_zero _)⟩
  intro k ⟨hk, hpre⟩ ih
  apply execP_sound ctBOk 300
  rw [cml_go]
  refine ⟨fun hck => ?_, fun hck => ?_⟩
  · have hck : k < (hb.to Wt).length := by have := of_decide_eq_true hck; omega
    have hkq : k < (q.to Bool).length := by rw [hqt, inL_len]; exact hck
    obtain ⟨b1, b2⟩ := bool_cell hq hkq
    have hqv : (q.to Bool)[k] = (a.to Int).contains (k : Int) := by simp only [hqt]; exact inL_get _
    rw [hqv] at b1
    have hsz := hq.size hkq
    have hsz1 : q.sz = 1 := hsz
    have gb : q.getBool (Int.toNat (k : Int)) 0 = (a.to Int).contains (k : Int) := b1
    have nxt : ((a.to Int).contains (k : Int) || !beforeT ⟨i.to Int, o.to Int⟩ k (a.to Int)[j]) = true → Runs Try.prog C1 (cmL ha hb hc i o a q (a.to Int)[j] (IntKind.i64.wrap ((k : Int) + 1))) (EndR C1 Φ) := fun h => by
      have := ih (k + 1) ⟨hck, fun x hx => by
        by_cases e : x = k
        · subst e; exact h
        · exact hpre x (by omega)⟩ (by omega)
      rw [← wrap_succ hck (by omega)] at this
      exact this
    rw [gb]
    refine ⟨⟨by omega, by omega, hsz1⟩, ⟨b2, hsz1⟩, fun hn => ⟨⟨ri, ro, by omega, by omega, hz.1, by omega⟩, fun hbf => ?_, fun hbf => ?_⟩, fun hn => ?_⟩
    · have hn : (a.to Int).contains (k : Int) = false := by simpa using hn
      have hbf : beforeT ⟨i.to Int, o.to Int⟩ k (a.to Int)[j] = true := hbf
      refine end_ret hrd (h2 ?_ _ _ hperm)
      unfold rowOk
      rw [List.all_eq_false]
      exact ⟨k, List.mem_range.2 hck, by simp only [hn, hbf]; decide⟩
    · have hbf : beforeT ⟨i.to Int, o.to Int⟩ k (a.to Int)[j] = false := hbf
      exact nxt (by rw [hbf]; simp)
    · have hn : (a.to Int).contains (k : Int) = true := by simpa using hn
      exact nxt (by rw [hn]; simp)
  · have : k = (hb.to Wt).length := by have := of_decide_eq_false hck; omega
    subst this
    refine end_here hrd (h1 ?_ _ _ hperm)
    unfold rowOk
    rw [List.all_eq_true]
    exact fun x hx => hpre x (List.mem_range.1 hx)
theorem cm_runs {Dm : Nat} {q : D} (hq : q.Is Bool) (hqs : q.sz = 1 ∨ q.len = 0) (hqt : q.to Bool = inL (hb.to Wt).length (a.to Int)) :
    Runs Try.prog ((⟨w, H⟩ : Ctx).marked Dm) ⟨⟨70, none, none, clK, clT a⟩, [], clM ha hb hc i o a q⟩ (RetS w H (.bool (closedT ⟨i.to Int, o.to Int⟩ (hb.to Wt).length (a.to Int)))) := by
  have al := D.Is.length (α := Int) a
  apply execQ_sound ctBOk 300
  rw [clq_in]
  refine pin_to 200000 ⟨⟨70, none, none, Item.code (cAt Try.prog 70 [1, 1, 1, 0, 1, 0]) :: cmK, cmT ha hb hc i o a⟩, [], (200005, OBlk.cells 22 [SV.dat a]) :: (200006, OBlk.cells 121 [SV.dat ha, SV.dat hb, SV.dat hc, SV.dat i, SV.dat o]) :: [(100000, OBlk.cells 121 [SV.dat ha, SV.dat hb, SV.dat hc, SV.dat i, SV.dat o]), (100001, OBlk.cells 4 [SV.lb false]), (100002, OBlk.cells 87 [SV.vec 100005]), (100003, OBlk.cells 22 [SV.dat a]), (100004, OBlk.cells 121 [SV.dat ha, SV.dat hb, SV.dat hc, SV.dat i, SV.dat o]), (100005, OBlk.arr 4 q)]⟩ (by kernel_rfl) ?_ rfl
  rw [clF2]
  refine runs_range icode (mm := fun _ : Unit => cmM ha hb hc i o a q) (Inv := fun j _ => ∀ k, (hk : k < (a.to Int).length) → k < j → rowOk ⟨i.to Int, o.to Int⟩ (hb.to Wt).length (a.to Int) (a.to Int)[k] = true) (Stop := fun _ => closedT ⟨i.to Int, o.to Int⟩ (hb.to Wt).length (a.to Int) = false)
    (c2W (fun _ : Unit => [(100000, OBlk.cells 121 [SV.dat ha, SV.dat hb, SV.dat hc, SV.dat i, SV.dat o]), (100001, OBlk.cells 4 [SV.lb false]), (100002, OBlk.cells 87 [SV.vec 100005]), (100003, OBlk.cells 22 [SV.dat a]), (100004, OBlk.cells 121 [SV.dat ha, SV.dat hb, SV.dat hc, SV.dat i, SV.dat o]), (100005, OBlk.arr 4 q)]) _ ra rw' la (cl_in_set rw' ri ro ra lw la li lo hset))
    () (fun k _ h => absurd h (Nat.not_lt_zero _)) rfl rfl rfl rfl rfl rfl (fun _ => rfl) (fun j => (cmR ha hb hc i o a (a.getInt (Int.toNat (j : Int)) 0)).set 7 (.int .i64 (a.getInt (Int.toNat (j : Int)) 0))) (fun _ _ => cmM ha hb hc i o a q) ?_ ?_ ?_ ?_
  · intro C1 s j hrd hj hi
    apply execP_sound (noCtr _) 100
    refine holds_of (cma_go ha hb hc i o a q (a.getInt (Int.toNat (j : Int)) 0)) ?_
    exact end_here hrd ⟨rfl, rfl, rfl⟩
  · intro C1 s j hrd hj hi
    have hj' : j < (a.to Int).length := by omega
    have hz := (int_at ra hj').2.2
    apply execP_sound ctBOk 100
    rw [cmb_go]
    rw [hz]
    refine cm_inner rw' ri ro ra lw la li lo hset hrd hq hqs hqt hj' (fun h T m hp => ⟨fun _ => ⟨(), MemTo.perm hp, fun k hk hkj => ?_⟩, (fun h => by cases h)⟩) (fun h T m hp => ⟨(fun h => by cases h), fun _ => ⟨(), MemTo.perm hp, ?_⟩⟩)
    · by_cases e : k = j
      · subst e; exact h
      · exact hi k hk (by omega)
    · show closedT _ _ _ = false
      unfold closedT
      rw [List.all_eq_false]
      exact ⟨_, List.getElem_mem hj', by rw [h]; decide⟩
  · intro D2 s hi
    apply execQ_sound ctBOk 300
    rw [cme_in]
    refine ret_marked (ret_marked (ret_lb (.symm ?_)))
    unfold closedT
    rw [List.all_eq_true]
    intro b hb'
    obtain ⟨k, hk, rfl⟩ := List.getElem_of_mem hb'
    exact hi k hk (by omega)
  · intro D2 s hs
    apply execQ_sound ctBOk 300
    rw [cms_in]
    exact ret_marked (ret_marked (ret_lb (.symm hs)))
end

end Go.Proofs.Ytodhhmjilnfecaa
end
section
open Go Go.Proofs Sx
namespace Go.Proofs.Ytodhhmjilnfecaa
set_option maxRecDepth 100000
set_option maxHeartbeats 0
noncomputable def ctN : Ctrs := [(68, ctrOf (rdHi.one.sp spCk)), (69, ctrOf ((rdCk.two rdD).sp spIsSet)), (70, ctrOf ((rdCk.two rdD).sp spIsCl)), (96, ctrOf ((rdTl.three rdInt rdInt).sp spBefT))]
noncomputable def ctNR : Ctrs := [(65, ctrOf (rdHi.one.sp spCkI)), (86, ctrOf ((rdD.two rdEv).sp spAt)), (85, ctrOf (rdInt.one.sp spIssE)), (87, ctrOf (rdInt.one.sp spAckE)), (47, ctrOf ((rdD.two rdInt).sp spHas)), (66, ctrOf ((rdD.two rdInt).sp spSet))]
section
variable (n j k : Int) (ha hb hc a : D)

theorem rbf_in : exec Try.prog ctNR 300 (entry Try.prog 108 [.agg [.dat ha, .dat hb, .dat hc], .int .i64 n, .int .i64 k]) =
 Tree.all fun hs =>
 .need (D.Is Ev hc ∧ D.len hc ≤ 1048576)
 (.need (D.Is Ev hc ∧ D.len hc ≤ 1048576)
 (.br (decide (atEv (D.to Ev hc) (EvD.ev (EvD.mk 1 n)) ≥ 0))
 (.ret
 (.bool (decide (atEv (D.to Ev hc) (EvD.ev (EvD.mk 1 n)) < atEv (D.to Ev hc) (EvD.ev (EvD.mk 0 k))))))
 (.ret (.lb false)))) := by kernel_rfl

theorem rcl_in : exec Try.prog ctNR 300 (entry Try.prog 92 [.agg [.dat ha, .dat hb, .dat hc], .dat a]) =
 Tree.leaf
 (Conf.mk
 (SFrm.mk 92 none none
 [Item.inLoop (cAt Try.prog 92 [1, 0, 1, 0, 0]), Item.inBlock 0, Item.code (cAt Try.prog 92 [1, 1])]
 (mkJ 0 [(1, .dat a), (2, .ptr 0 0), (5, .int .i64 0)] 0 33))
 [] [(0, OBlk.cells 26 [.dat ha, .dat hb, .dat hc])]) := by kernel_rfl

theorem fst_in : exec Try.prog ctNR 300 (entry Try.prog 34 [.int .i64 n]) =
 Tree.leaf
 (Conf.mk
 (SFrm.mk 34 none none
 [Item.inLoop (cAt Try.prog 34 [1, 1, 0, 1, 0, 0]), Item.inBlock 0, Item.code (cAt Try.prog 34 [1, 1, 1])]
 (mkJ 0 [(0, .int .i64 n), (3, .nils), (4, .int .i64 0)] 0 15))
 [] []) := by kernel_rfl

end
end Go.Proofs.Ytodhhmjilnfecaa
end
section
open Go Go.Proofs Sx
namespace Go.Proofs.Ytodhhmjilnfecaa
set_option maxRecDepth 100000
set_option maxHeartbeats 0
noncomputable def fstL (q : D) (n j : Int) : Conf := Conf.mk (SFrm.mk 34 none none [Item.inLoop (cAt Try.prog 34 [1, 1, 0, 1, 0, 0]), Item.inBlock 0, Item.code (cAt Try.prog 34 [1, 1, 1])] (mkJ 0 [(0, .int .i64 n), (3, .vec 0), (4, .int .i64 j)] 0 15)) [] [(0, .arr 3 q)]
noncomputable def rclL (ha hb hc a : D) (j : Int) : Conf := Conf.mk (SFrm.mk 92 none none [Item.inLoop (cAt Try.prog 92 [1, 0, 1, 0, 0]), Item.inBlock 0, Item.code (cAt Try.prog 92 [1, 1])] (mkJ 0 [(1, .dat a), (2, .ptr 0 0), (5, .int .i64 j)] 0 33)) [] [(0, OBlk.cells 26 [.dat ha, .dat hb, .dat hc])]
noncomputable def ctNS : Ctrs := (108, ctrOf ((rdHi.three rdInt rdInt).sp spBefR)) :: ctNR
section
variable (n j k m : Int) (ha hb hc a t q : D)
theorem fstL_go : exec Try.prog [] 300 (unroll (fstL q n j)) =
 Tree.br (decide (j < n))
 (.all fun hs =>
 .need
 (D.sz q = 1 ∧
 D.Fits (D.slc (D.hd (hs 0 0)) 1 [[D.int .i64 j]]) 1 ∧
 (D.len q + D.len (D.slc (D.hd (hs 0 0)) 1 [[D.int .i64 j]])) * 8 ≤ 140737488355328 ∧
 D.len q + D.len (D.slc (D.hd (hs 0 0)) 1 [[D.int .i64 j]]) ≤ 9223372036854775807)
 (.all fun hs_1 =>
 .leaf
 (Conf.mk
 (SFrm.mk 34 none none
 [Item.inLoop (cAt Try.prog 34 [1, 1, 0, 1, 0, 0]), Item.inBlock 0, Item.code (cAt Try.prog 34 [1, 1, 1])]
 (mkJ 0
 [(0, .int .i64 n), (3, .vec 0), (4, .int .i64 (IntKind.wrap .i64 (j + 1)))] 0
 15))
 []
 [(0,
 OBlk.arr 3
 (D.slc (D.hd (hs_1 0 0)) 1
 (List.append (D.rows q) (D.rows (D.slc (D.hd (hs 0 0)) 1 [[D.int .i64 j]])))))])))
 (.ret (.dat q)) := by kernel_rfl

theorem rclL_go : exec Try.prog ctNS 300 (unroll (rclL ha hb hc a j)) =
 Tree.br (decide (j < (↑(D.len a) : Int)))
 (.leaf
 (Conf.mk
 (SFrm.mk 92 none none
 [Item.inLoop (cAt Try.prog 92 [1, 0, 1, 0, 0, 1, 0, 0, 1, 0, 0]), Item.inBlock 2, Item.inBlock 1,
 Item.code (cAt Try.prog 92 [1, 0, 1, 0, 0, 1, 1]), Item.inLoop (cAt Try.prog 92 [1, 0, 1, 0, 0]),
 Item.inBlock 0, Item.code (cAt Try.prog 92 [1, 1])]
 (mkJ 0 [(1, .dat a), (2, .ptr 0 0), (5, .int .i64 j), (6, .int .i64 0)] 0 33))
 [] [(0, OBlk.cells 26 [.dat ha, .dat hb, .dat hc])]))
 (.ret (.lb true)) := by kernel_rfl

end
end Go.Proofs.Ytodhhmjilnfecaa
end
section
open Go Go.Proofs Sx
namespace Go.Proofs.Ytodhhmjilnfecaa
set_option maxRecDepth 100000
set_option maxHeartbeats 0
noncomputable def rcl2L (ha hb hc a : D) (j k : Int) : Conf := Conf.mk (SFrm.mk 92 none none [Item.inLoop (cAt Try.prog 92 [1, 0, 1, 0, 0, 1, 0, 0, 1, 0, 0]), Item.inBlock 2, Item.inBlock 1, Item.code (cAt Try.prog 92 [1, 0, 1, 0, 0, 1, 1]), Item.inLoop (cAt Try.prog 92 [1, 0, 1, 0, 0]), Item.inBlock 0, Item.code (cAt Try.prog 92 [1, 1])] (mkJ 0 [(1, .dat a), (2, .ptr 0 0), (5, .int .i64 j), (6, .int .i64 k)] 0 33)) [] [(0, OBlk.cells 26 [.dat ha, .dat hb, .dat hc])]
noncomputable def ixiL (d : D) (n : Int) (j : Int) : Conf := Conf.mk (SFrm.mk 44 none none [Item.inLoop (cAt Try.prog 44 [1, 0, 1, 0, 0]), Item.inBlock 0, Item.code (cAt Try.prog 44 [1, 1])] (mkJ 0 [(0, .dat d), (1, .int .i64 n), (7, .int .i64 d.len), (8, .int .i64 j)] 0 19)) [] []
noncomputable def ctRs : Ctrs := (83, ctrOf (rdHi.one.sp spCopy)) :: (44, ctrOf ((rdD.two rdInt).sp spIxI)) :: ctN
noncomputable def ctRR : Ctrs := (48, ctrOf (rdHi.one.sp spCopy)) :: (92, ctrOf ((rdHi.two rdD).sp spClR)) :: ctNR
section
variable (n j k m : Int) (ha hb hc a d t q : D)
theorem rcl2L_go : exec Try.prog ctNS 300 (unroll (rcl2L ha hb hc a j k)) =
 Tree.br (decide (k < (↑(D.len hb) : Int)))
 (.all fun hs =>
 .br (beforeR (D.to Ev hc) k (D.getInt a (Int.toNat j) 0))
 (.need (0 ≤ j ∧ j < (↑(D.len a) : Int) ∧ D.sz a = 1)
 (.need (D.HasCell a (Int.toNat j) 0 (FT.int .i64))
 (.need (D.Is Ev hc ∧ D.len hc ≤ 1048576)
 (.need (beforeR (D.to Ev hc) k (D.getInt a (Int.toNat j) 0) = true)
 (.need (beforeR (D.to Ev hc) k (D.getInt a (Int.toNat j) 0) = true)
 (.need (beforeR (D.to Ev hc) k (D.getInt a (Int.toNat j) 0) = true)
 (.need (D.Is Int a ∧ D.len a ≤ 1048576)
 (.need (beforeR (D.to Ev hc) k (D.getInt a (Int.toNat j) 0) = true)
 (.need (beforeR (D.to Ev hc) k (D.getInt a (Int.toNat j) 0) = true)
 (.br (!List.contains (D.to Int a) k) (.ret (.lb false))
 (.leaf
 (Conf.mk
 (SFrm.mk 92 none none
 [Item.inLoop (cAt Try.prog 92 [1, 0, 1, 0, 0, 1, 0, 0, 1, 0, 0]), Item.inBlock 2,
 Item.inBlock 1, Item.code (cAt Try.prog 92 [1, 0, 1, 0, 0, 1, 1]),
 Item.inLoop (cAt Try.prog 92 [1, 0, 1, 0, 0]), Item.inBlock 0,
 Item.code (cAt Try.prog 92 [1, 1])]
 (mkJ 0
 [(1, .dat a), (2, .ptr 0 0), (5, .int .i64 j),
 (6, .int .i64 (IntKind.wrap .i64 (k + 1)))]
 0 33))
 [] [(0, OBlk.cells 26 [.dat ha, .dat hb, .dat hc])]))))))))))))
 (.need (0 ≤ j ∧ j < (↑(D.len a) : Int) ∧ D.sz a = 1)
 (.need (D.HasCell a (Int.toNat j) 0 (FT.int .i64))
 (.need (D.Is Ev hc ∧ D.len hc ≤ 1048576)
 (.need (beforeR (D.to Ev hc) k (D.getInt a (Int.toNat j) 0) = false)
 (.need (beforeR (D.to Ev hc) k (D.getInt a (Int.toNat j) 0) = false)
 (.need (beforeR (D.to Ev hc) k (D.getInt a (Int.toNat j) 0) = false)
 (.need (beforeR (D.to Ev hc) k (D.getInt a (Int.toNat j) 0) = false)
 (.need (beforeR (D.to Ev hc) k (D.getInt a (Int.toNat j) 0) = false)
 (.leaf
 (Conf.mk
 (SFrm.mk 92 none none
 [Item.inLoop (cAt Try.prog 92 [1, 0, 1, 0, 0, 1, 0, 0, 1, 0, 0]), Item.inBlock 2,
 Item.inBlock 1, Item.code (cAt Try.prog 92 [1, 0, 1, 0, 0, 1, 1]),
 Item.inLoop (cAt Try.prog 92 [1, 0, 1, 0, 0]), Item.inBlock 0,
 Item.code (cAt Try.prog 92 [1, 1])]
 (mkJ 0
 [(1, .dat a), (2, .ptr 0 0), (5, .int .i64 j),
 (6, .int .i64 (IntKind.wrap .i64 (k + 1)))]
 0 33))
 [] [(0, OBlk.cells 26 [.dat ha, .dat hb, .dat hc])])))))))))))
 (.leaf
 (Conf.mk
 (SFrm.mk 92 none none
 [Item.inLoop (cAt Try.prog 92 [1, 0, 1, 0, 0]), Item.inBlock 0, Item.code (cAt Try.prog 92 [1, 1])]
 (mkJ 0 [(1, .dat a), (2, .ptr 0 0), (5, .int .i64 (IntKind.wrap .i64 (j + 1)))] 0 33))
 [] [(0, OBlk.cells 26 [.dat ha, .dat hb, .dat hc])])) := by kernel_rfl



theorem rstR_in : exec Try.prog ctRR 400 (entry Try.prog 59 [.agg [.dat ha, .dat hb, .dat hc], .dat a]) =
 Tree.need (HiD.Right (HiD.mk ha hb hc))
 (.br (Prod.fst (checkH (HiD.hist (HiD.mk ha hb hc))) != 0)
 (.ret
 (SV.tup
 [.agg [.nils, .nils, .nils], .int .i64 (Prod.fst (checkH (HiD.hist (HiD.mk ha hb hc))))]))
 (.need (D.Is Int a ∧ D.len a ≤ 1048576)
 (.br (!setH (D.to Int a) (↑(D.len hb) : Int))
 (.ret (SV.tup [.agg [.nils, .nils, .nils], .int .i64 2]))
 (.need (D.Is Ev hc ∧ D.len hc ≤ 1048576 ∧ D.Is Wt hb ∧ D.len hb ≤ 1048576 ∧ D.Is Int a ∧ D.len a ≤ 1048576)
 (.br (!closedS (D.to Ev hc) (List.length (D.to Wt hb)) (D.to Int a))
 (.ret (SV.tup [.agg [.nils, .nils, .nils], .int .i64 27]))
 (.leaf
 (Conf.mk
 (SFrm.mk 59 none none
 [Item.inLoop (cAt Try.prog 59 [1, 1, 1, 1, 1, 0, 1, 0, 0]), Item.inBlock 0,
 Item.code (cAt Try.prog 59 [1, 1, 1, 1, 1, 1])]
 (mkJ 0 [(1, .dat a), (2, .ptr 0 0), (4, .ptr 1 0), (7, .ptr 2 0), (8, .int .i64 0)] 0
 90))
 []
 [(0, OBlk.cells 26 [.dat ha, .dat hb, .dat hc]), (1, OBlk.cells 26 [.nils, .nils, .nils]),
 (2, OBlk.cells 26 [.dat ha, .nils, .nils])]))))))) := by kernel_rfl

end
end Go.Proofs.Ytodhhmjilnfecaa
end
section
open Go Go.Proofs Sx
namespace Go.Proofs.Ytodhhmjilnfecaa
set_option maxRecDepth 100000

theorem ctNROk : Ctrs.Ok Try.prog ctNR := by
  intro x hx
  simp only [ctNR, List.mem_cons, List.not_mem_nil, or_false] at hx
  rcases hx with rfl | rfl | rfl | rfl | rfl | rfl
  · exact ctrOf_ok lawCkR
  · exact ctrOf_ok lawAt
  · exact ctrOf_ok lawIssE
  · exact ctrOf_ok lawAckE
  · exact ctrOf_ok lawHas
  · exact ctrOf_ok lawSet


theorem lawBefR : Law Try.prog 108 ((rdHi.three rdInt rdInt).sp spBefR) := by
  refine law_in _ (by kernel_rfl) fun H w ⟨⟨ha, hb, hc⟩, n, k⟩ hok hp => ?_
  obtain ⟨rc, lc⟩ := hp _ (List.mem_singleton.2 rfl)
  simp only at rc lc
  apply exec_sound ctNROk 300
  rw [show (rdHi.three rdInt rdInt).canon (⟨ha, hb, hc⟩, n, k) = [.agg [.dat ha, .dat hb, .dat hc], .int .i64 n, .int .i64 k] from rfl, rbf_in]
  refine fun hs => ⟨⟨rc, lc⟩, ⟨rc, lc⟩, fun h => ret_bool ?_, fun h => ret_lb ?_⟩
  · have e : decide (atEv (hc.to Ev) ⟨1, n⟩ ≥ 0) = true := h
    show decide (atEv (hc.to Ev) ⟨1, n⟩ < atEv (hc.to Ev) ⟨0, k⟩) = beforeR (hc.to Ev) n k
    unfold beforeR; rw [e]; rfl
  · have e : decide (atEv (hc.to Ev) ⟨1, n⟩ ≥ 0) = false := h
    show false = beforeR (hc.to Ev) n k
    unfold beforeR; rw [e]; rfl
theorem ctNSOk : Ctrs.Ok Try.prog ctNS := by
  intro x hx
  rcases List.mem_cons.1 hx with rfl | hx
  · exact ctrOf_ok lawBefR
  · exact ctNROk x hx

theorem lawClR : Law Try.prog 92 ((rdHi.two rdD).sp spClR) := by
  refine law_in _ (by kernel_rfl) fun H w ⟨⟨ha, hb, hc⟩, a⟩ hok hp => ?_
  obtain ⟨rc, lc, rb, lb, ra, la⟩ := hp _ (List.mem_singleton.2 rfl)
  simp only at rc lc rb lb ra la
  have al := D.Is.length (α := Int) a
  have bl := D.Is.length (α := Wt) hb
  apply exec_sound ctNROk 300
  rw [show (rdHi.two rdD).canon (⟨ha, hb, hc⟩, a) = [.agg [.dat ha, .dat hb, .dat hc], .dat a] from rfl, rcl_in]
  refine runs_loop (fun j : Nat => rclL ha hb hc a j) (fun j => j ≤ (a.to Int).length ∧ ∀ x, (hx : x < (a.to Int).length) → x < j → rowOkR (hc.to Ev) (hb.to Wt).length (a.to Int) (a.to Int)[x] = true) (fun j => (a.to Int).length - j) (fun _ => rfl) ?_ 0 ⟨Nat.zero_le _, fun x _ h => absurd h (Nat.not_lt_zero _)⟩
  intro j ⟨hj, hpre⟩ ih
  apply exec_sound ctNSOk 300
  rw [rclL_go]
  refine ⟨fun hcj => ?_, fun hcj => ?_⟩
  · have hcj : j < (a.to Int).length := by have := of_decide_eq_true hcj; omega
    obtain ⟨c1, c2, c3⟩ := int_at ra hcj
    refine runs_loop (fun k : Nat => rcl2L ha hb hc a j k) (fun k => k ≤ (hb.to Wt).length ∧ ∀ x : Nat, x < k → (!beforeR (hc.to Ev) x (a.to Int)[j] || (a.to Int).contains (x : Int)) = true) (fun k => (hb.to Wt).length - k) (fun _ => rfl) ?_ 0 ⟨Nat.zero_le _, fun x h => absurd h (Nat.not_lt_zero _)⟩
    intro k ⟨hk, hpk⟩ ihk
    apply exec_sound ctNSOk 300
    rw [rcl2L_go]
    refine ⟨fun hck hs => ?_, fun hck => ?_⟩
    · have hck : k < (hb.to Wt).length := by have := of_decide_eq_true hck; omega
      have nxt : (!beforeR (hc.to Ev) k (a.to Int)[j] || (a.to Int).contains (k : Int)) = true → Runs Try.prog ⟨w, H⟩ (rcl2L ha hb hc a j (IntKind.i64.wrap ((k : Int) + 1))) (RetS w H (.bool (closedS (hc.to Ev) (hb.to Wt).length (a.to Int)))) := fun h => by
        have := ihk (k + 1) ⟨hck, fun x hx => by
          by_cases e : x = k
          · subst e; exact h
          · exact hpk x (by omega)⟩ (by omega)
        rw [← wrap_succ hck (by omega)] at this
        exact this
      rw [c3]
      refine ⟨fun hbf => ?_, fun hbf => ?_⟩
      · simp only [holds_need]
        refine ⟨c1, c2, ⟨rc, lc⟩, hbf, hbf, hbf, ⟨ra, la⟩, hbf, hbf, fun hn => ret_lb (.symm ?_), fun hn => nxt ?_⟩
        · have hn : (a.to Int).contains (k : Int) = false := by simpa using hn
          unfold closedS
          rw [List.all_eq_false]
          refine ⟨_, List.getElem_mem hcj, ?_⟩
          rw [Bool.not_eq_true]
          unfold rowOkR
          rw [List.all_eq_false]
          exact ⟨k, List.mem_range.2 hck, by rw [hbf, hn]; decide⟩
        · have hn : (a.to Int).contains (k : Int) = true := by simpa using hn
          rw [hn]; simp
      · simp only [holds_need]
        exact ⟨c1, c2, ⟨rc, lc⟩, hbf, hbf, hbf, hbf, hbf, nxt (by rw [hbf]; rfl)⟩
    · have : k = (hb.to Wt).length := by have := of_decide_eq_false hck; omega
      subst this
      have := ih (j + 1) ⟨hcj, fun x hx hxj => by
        by_cases e : x = j
        · subst e
          unfold rowOkR
          rw [List.all_eq_true]
          exact fun y hy => hpk y (List.mem_range.1 hy)
        · exact hpre x hx (by omega)⟩ (by omega)
      rw [← wrap_succ hcj (by omega)] at this
      exact this
  · have : j = (a.to Int).length := by have := of_decide_eq_false hcj; omega
    subst this
    refine ret_lb (.symm ?_)
    unfold closedS
    rw [List.all_eq_true]
    intro b hb'
    obtain ⟨x, hx, rfl⟩ := List.getElem_of_mem hb'
    exact hpre x hx hx
theorem ck_right {x : HiD} (hR : x.Right) (hc : (checkH x.hist).1 = 0) : ((checkH x.hist).2.issued.length = (x.w.to Wt).length) ∧ ((checkH x.hist).2.acked.length = (x.w.to Wt).length) := by
  obtain ⟨htl, hlen, _⟩ := checkH_ok hc
  exact ⟨hlen, by have := htl.len; have e : x.hist.writes.length = (x.w.to Wt).length := rfl; omega⟩


theorem lawFst : Law Try.prog 34 (rdInt.one.sp spFst) := by
  refine law_in _ (by kernel_rfl) fun H w n hok hp => ?_
  have hn : n ≤ 1000000 := hp _ (List.mem_singleton.2 rfl)
  apply exec_sound ctNROk 300
  rw [show rdInt.one.canon n = [.int .i64 n] from rfl, fst_in]
  refine vecIn_to 9 3 1 none 3 (fstL (.slc none 1 []) n 0) (by kernel_rfl) ?_
  refine runs_loop (fun q : D × Nat => fstL q.1 n q.2) (fun q => (q.2 = 0 ∨ (q.2 : Int) ≤ n) ∧ q.1.Is Int ∧ q.1.sz = 1 ∧ q.1.to Int = (List.range q.2).map fun (a : Nat) => (a : Int)) (fun q => n.toNat - q.2) (fun _ => rfl) ?_ (.slc none 1 [], 0) ⟨.inl rfl, is_nil _ _, rfl, rfl⟩
  intro ⟨q, j⟩ ⟨hj, hq, hz, hto⟩ ih
  simp only at hj hq hz hto
  have ql := D.Is.length (α := Int) q
  rw [hto, List.length_map, List.length_range] at ql
  show Runs Try.prog ⟨w, H⟩ (unroll (fstL q n j)) _
  apply exec_sound (noCtr _) 300
  rw [fstL_go]
  refine ⟨fun hcj hs1 => ?_, fun hcj => ?_⟩
  · have hcj : (j : Int) < n := of_decide_eq_true hcj
    refine ⟨⟨hz, .inr rfl, by simp only [len_slc, List.length_cons, List.length_nil]; omega, by simp only [len_slc, List.length_cons, List.length_nil]; omega⟩, fun hs2 => ?_⟩
    have hr := rows_app (rows_of hq) (int_one (j : Int))
    obtain ⟨i1, i2⟩ := is_of (h := D.hd (hs2 0 0)) (s := 1) rfl hr
    have := ih (_, j + 1) ⟨.inr (by simp only; omega), i1, rfl, i2.trans (by rw [hto, List.range_succ, List.map_append]; rfl)⟩ (by simp only; omega)
    simp only at this
    rw [← wrap_succ (n := 1000001) (by omega) (by omega)] at this
    exact this
  · have hcj := of_decide_eq_false hcj
    refine ret_one (stands_dat hq hto) ?_
    unfold firstN
    congr 2
    omega


end Go.Proofs.Ytodhhmjilnfecaa
end
section
open Go Go.Proofs Sx
namespace Go.Proofs.Ytodhhmjilnfecaa
set_option maxRecDepth 100000
set_option maxHeartbeats 0
noncomputable def rsT (a : D) : List SV := mkU [(0, SV.junk 0), (1, .dat a), (2, .ptr 100000 0), (3, SV.junk 3), (4, .ptr 100001 0), (5, SV.junk 5), (6, SV.junk 6), (7, SV.junk 7), (8, .ptr 100002 0), (9, SV.junk 9), (11, SV.junk 11), (12, SV.junk 12), (13, SV.junk 13), (14, SV.junk 14), (15, SV.junk 15), (16, SV.junk 16), (17, SV.junk 17), (18, SV.junk 18), (19, SV.junk 19), (20, SV.junk 20), (21, SV.junk 21), (22, SV.junk 22), (23, SV.junk 23), (24, SV.junk 24), (25, SV.junk 25), (26, SV.junk 26), (27, SV.junk 27), (28, SV.junk 28), (29, SV.junk 29), (30, SV.junk 30), (31, SV.junk 31), (32, SV.junk 32), (33, SV.junk 33), (34, SV.junk 34), (35, SV.junk 35), (36, SV.junk 36), (37, SV.junk 37), (38, SV.junk 38), (39, SV.junk 39), (40, SV.junk 40), (41, SV.fn 100 [] [.ptr 100003 0, .ptr 100004 0]), (42, SV.junk 42), (50, SV.junk 50), (51, SV.junk 51), (52, SV.junk 52), (53, SV.junk 53), (54, SV.junk 54), (55, SV.junk 55), (56, SV.junk 56), (57, SV.junk 57), (58, SV.junk 58), (59, SV.junk 59), (60, SV.junk 60), (61, SV.junk 61), (62, SV.junk 62), (63, SV.junk 63), (64, SV.junk 64), (65, SV.junk 65), (66, SV.junk 66), (67, SV.junk 67), (68, SV.junk 68), (69, SV.junk 69), (70, SV.junk 70), (71, SV.junk 71), (72, SV.junk 72), (73, SV.junk 73), (74, SV.junk 74)] 0 75
noncomputable def rsM (hs ha hb hc ga gb gc i o a q : D) : Mem := (100003, OBlk.cells 22 [.dat a]) :: (100004, OBlk.cells 121 [.dat ha, .dat hb, .dat hc, .dat i, .dat o]) :: [(100000, OBlk.cells 26 [.dat ga, .dat gb, .dat gc]), (100001, OBlk.cells 26 [.nils, .nils, .nils]), (100002, OBlk.cells 26 [.dat hs, .vec 9, .nils]), (9, OBlk.arr 31 q)]
noncomputable def rsN (hs ha hb hc ga gb gc i o a q : D) (z : Int) : Mem := (1010, OBlk.cells 31 [.int .i64 (hb.getInt (Int.toNat z) 0), .int .i64 (hb.getInt (Int.toNat z) 1), .dat (hb.cell (Int.toNat z) 2)]) :: rsM hs ha hb hc ga gb gc i o a q
noncomputable def rsR (hb a : D) (z : Int) : List SV := ((rsT a).set 42 (.int .i64 z)).set 43 (wvH hb z)
noncomputable def rs1L (ha hb hc a q : D) (z : Int) : Conf := Conf.mk (SFrm.mk 59 none none [Item.inLoop (cAt Try.prog 59 [1, 1, 1, 1, 1, 0, 1, 0, 0]), Item.inBlock 0, Item.code (cAt Try.prog 59 [1, 1, 1, 1, 1, 1])] (mkJ 0 [(1, .dat a), (2, .ptr 0 0), (4, .ptr 1 0), (7, .ptr 2 0), (8, .int .i64 z)] 0 90)) [] [(0, OBlk.cells 26 [.dat ha, .dat hb, .dat hc]), (1, OBlk.cells 26 [.nils, .nils, .nils]), (2, OBlk.cells 26 [.dat ha, .nils, .vec 3]), (3, .arr 108 q)]
noncomputable def rs2L (ha hb hc a q : D) (z x : Int) : Conf := Conf.mk (SFrm.mk 59 none none [Item.inLoop (cAt Try.prog 59 [1, 1, 1, 1, 1, 0, 1, 0, 0, 1, 0, 0, 1, 0, 0]), Item.inBlock 2, Item.inBlock 1, Item.code (cAt Try.prog 59 [1, 1, 1, 1, 1, 0, 1, 0, 0, 1, 1]), Item.inLoop (cAt Try.prog 59 [1, 1, 1, 1, 1, 0, 1, 0, 0]), Item.inBlock 0, Item.code (cAt Try.prog 59 [1, 1, 1, 1, 1, 1])] (mkJ 0 [(1, .dat a), (2, .ptr 0 0), (4, .ptr 1 0), (7, .ptr 2 0), (8, .int .i64 z), (9, .int .i64 x)] 0 90)) [] [(0, OBlk.cells 26 [.dat ha, .dat hb, .dat hc]), (1, OBlk.cells 26 [.nils, .nils, .nils]), (2, OBlk.cells 26 [.dat ha, .nils, .vec 3]), (3, .arr 108 q)]
noncomputable def rs3L (ha hb hc a q p : D) (x : Int) : Conf := Conf.mk (SFrm.mk 59 none none [Item.inLoop (cAt Try.prog 59 [1, 1, 1, 1, 1, 1, 0, 1, 0, 0]), Item.inBlock 4, Item.code (cAt Try.prog 59 [1, 1, 1, 1, 1, 1, 1])] (mkJ 0 [(1, .dat a), (2, .ptr 0 0), (4, .ptr 1 0), (7, .ptr 2 0), (10, .int .i64 x)] 0 90)) [] [(0, OBlk.cells 26 [.dat ha, .dat hb, .dat hc]), (1, OBlk.cells 26 [.nils, .nils, .nils]), (2, OBlk.cells 26 [.dat ha, .vec 3, .vec 4]), (3, .arr 31 p), (4, .arr 108 q)]
section
variable (p : D) (x : Int) (hs ha hb hc ga gb gc i o a q : D) (z : Int)
theorem rs1_go : exec Try.prog ctRR 400 (unroll (rs1L ha hb hc a q z)) =
 Tree.br (decide (z < (↑(D.len hc) : Int)))
 (.leaf
 (Conf.mk
 (SFrm.mk 59 none none
 [Item.inLoop (cAt Try.prog 59 [1, 1, 1, 1, 1, 0, 1, 0, 0, 1, 0, 0, 1, 0, 0]), Item.inBlock 2, Item.inBlock 1,
 Item.code (cAt Try.prog 59 [1, 1, 1, 1, 1, 0, 1, 0, 0, 1, 1]),
 Item.inLoop (cAt Try.prog 59 [1, 1, 1, 1, 1, 0, 1, 0, 0]), Item.inBlock 0,
 Item.code (cAt Try.prog 59 [1, 1, 1, 1, 1, 1])]
 (mkJ 0
 [(1, .dat a), (2, .ptr 0 0), (4, .ptr 1 0), (7, .ptr 2 0), (8, .int .i64 z),
 (9, .int .i64 0)]
 0 90))
 []
 [(0, OBlk.cells 26 [.dat ha, .dat hb, .dat hc]), (1, OBlk.cells 26 [.nils, .nils, .nils]),
 (2, OBlk.cells 26 [.dat ha, .nils, .vec 3]), (3, OBlk.arr 108 q)]))
 (.leaf
 (Conf.mk
 (SFrm.mk 59 none none
 [Item.inLoop (cAt Try.prog 59 [1, 1, 1, 1, 1, 1, 0, 1, 0, 0]), Item.inBlock 4,
 Item.code (cAt Try.prog 59 [1, 1, 1, 1, 1, 1, 1])]
 (mkJ 0 [(1, .dat a), (2, .ptr 0 0), (4, .ptr 1 0), (7, .ptr 2 0), (10, .int .i64 0)] 0 90))
 []
 [(0, OBlk.cells 26 [.dat ha, .dat hb, .dat hc]), (1, OBlk.cells 26 [.nils, .nils, .nils]),
 (2, OBlk.cells 26 [.dat ha, .nils, .vec 3]), (3, OBlk.arr 108 q)])) := by kernel_rfl

theorem rs2_go : exec Try.prog ctRR 400 (unroll (rs2L ha hb hc a q z x)) =
 Tree.br (decide (x < (↑(D.len a) : Int)))
 (.all fun hs =>
 .need (0 ≤ x ∧ x < (↑(D.len a) : Int) ∧ D.sz a = 1)
 (.need (D.HasCell a (Int.toNat x) 0 (FT.int .i64))
 (.need (0 ≤ z ∧ z < (↑(D.len hc) : Int) ∧ D.sz hc = 2)
 (.need (D.HasCell hc (Int.toNat z) 1 (FT.int .i64))
 (.br (decide (D.getInt a (Int.toNat x) 0 = D.getInt hc (Int.toNat z) 1))
 (.all fun hs =>
 .need (0 ≤ z ∧ z < (↑(D.len hc) : Int) ∧ D.sz hc = 2)
 (.need (D.HasCell hc (Int.toNat z) 0 (FT.int .i64))
 (.need
 (D.sz q = 2 ∧
 D.Fits
 (D.slc (D.hd (hs 10 0)) 2
 [[D.int .i64 (D.getInt hc (Int.toNat z) 0), D.int .i64 x]])
 2 ∧
 (D.len q +
 D.len
 (D.slc (D.hd (hs 10 0)) 2
 [[D.int .i64 (D.getInt hc (Int.toNat z) 0), D.int .i64 x]])) *
 16 ≤
 140737488355328 ∧
 D.len q +
 D.len
 (D.slc (D.hd (hs 10 0)) 2
 [[D.int .i64 (D.getInt hc (Int.toNat z) 0), D.int .i64 x]]) ≤
 9223372036854775807)
 (.leaf
 (Conf.mk
 (SFrm.mk 59 none none
 [Item.inLoop (cAt Try.prog 59 [1, 1, 1, 1, 1, 0, 1, 0, 0, 1, 0, 0, 1, 0, 0]),
 Item.inBlock 2, Item.inBlock 1,
 Item.code (cAt Try.prog 59 [1, 1, 1, 1, 1, 0, 1, 0, 0, 1, 1]),
 Item.inLoop (cAt Try.prog 59 [1, 1, 1, 1, 1, 0, 1, 0, 0]), Item.inBlock 0,
 Item.code (cAt Try.prog 59 [1, 1, 1, 1, 1, 1])]
 (mkJ 0
 [(1, .dat a), (2, .ptr 0 0), (4, .ptr 1 0), (7, .ptr 2 0),
 (8, .int .i64 z), (9, .int .i64 (IntKind.wrap .i64 (x + 1)))]
 0 90))
 []
 [(0, OBlk.cells 26 [.dat ha, .dat hb, .dat hc]),
 (1, OBlk.cells 26 [.nils, .nils, .nils]),
 (2, OBlk.cells 26 [.dat ha, .nils, .vec 3]),
 (3,
 OBlk.arr 108
 (D.slc (D.hd (hs 11 0)) 2
 (List.append (D.rows q)
 (D.rows
 (D.slc (D.hd (hs 10 0)) 2
 [[D.int .i64 (D.getInt hc (Int.toNat z) 0),
 D.int .i64 x]])))))])))))
 (.leaf
 (Conf.mk
 (SFrm.mk 59 none none
 [Item.inLoop (cAt Try.prog 59 [1, 1, 1, 1, 1, 0, 1, 0, 0, 1, 0, 0, 1, 0, 0]), Item.inBlock 2,
 Item.inBlock 1, Item.code (cAt Try.prog 59 [1, 1, 1, 1, 1, 0, 1, 0, 0, 1, 1]),
 Item.inLoop (cAt Try.prog 59 [1, 1, 1, 1, 1, 0, 1, 0, 0]), Item.inBlock 0,
 Item.code (cAt Try.prog 59 [1, 1, 1, 1, 1, 1])]
 (mkJ 0
 [(1, .dat a), (2, .ptr 0 0), (4, .ptr 1 0), (7, .ptr 2 0), (8, .int .i64 z),
 (9, .int .i64 (IntKind.wrap .i64 (x + 1)))]
 0 90))
 []
 [(0, OBlk.cells 26 [.dat ha, .dat hb, .dat hc]), (1, OBlk.cells 26 [.nils, .nils, .nils]),
 (2, OBlk.cells 26 [.dat ha, .nils, .vec 3]), (3, OBlk.arr 108 q)])))))))
 (.leaf
 (Conf.mk
 (SFrm.mk 59 none none
 [Item.inLoop (cAt Try.prog 59 [1, 1, 1, 1, 1, 0, 1, 0, 0]), Item.inBlock 0,
 Item.code (cAt Try.prog 59 [1, 1, 1, 1, 1, 1])]
 (mkJ 0
 [(1, .dat a), (2, .ptr 0 0), (4, .ptr 1 0), (7, .ptr 2 0),
 (8, .int .i64 (IntKind.wrap .i64 (z + 1)))]
 0 90))
 []
 [(0, OBlk.cells 26 [.dat ha, .dat hb, .dat hc]), (1, OBlk.cells 26 [.nils, .nils, .nils]),
 (2, OBlk.cells 26 [.dat ha, .nils, .vec 3]), (3, OBlk.arr 108 q)])) := by kernel_rfl

theorem rs3_go : exec Try.prog ctRR 400 (unroll (rs3L ha hb hc a q p x)) =
 Tree.br (decide (x < (↑(D.len a) : Int)))
 (.all fun hs =>
 .need (0 ≤ x ∧ x < (↑(D.len a) : Int) ∧ D.sz a = 1)
 (.need (D.HasCell a (Int.toNat x) 0 (FT.int .i64))
 (.need (0 ≤ D.getInt a (Int.toNat x) 0 ∧ D.getInt a (Int.toNat x) 0 < (↑(D.len hb) : Int) ∧ D.sz hb = 3)
 (.need
 (D.HasCells hb (Int.toNat (D.getInt a (Int.toNat x) 0)) 0 [FT.int .i64, FT.int .i64, FT.slc])
 (.need
 (D.sz p = 3 ∧
 D.Fits
 (D.slc (D.hd (hs 10 0)) 3
 [[D.int .i64 (D.getInt hb (Int.toNat (D.getInt a (Int.toNat x) 0)) 0),
 D.int .i64 (D.getInt hb (Int.toNat (D.getInt a (Int.toNat x) 0)) 1),
 D.cell hb (Int.toNat (D.getInt a (Int.toNat x) 0)) 2]])
 3 ∧
 (D.len p +
 D.len
 (D.slc (D.hd (hs 10 0)) 3
 [[D.int .i64 (D.getInt hb (Int.toNat (D.getInt a (Int.toNat x) 0)) 0),
 D.int .i64 (D.getInt hb (Int.toNat (D.getInt a (Int.toNat x) 0)) 1),
 D.cell hb (Int.toNat (D.getInt a (Int.toNat x) 0)) 2]])) *
 40 ≤
 140737488355328 ∧
 D.len p +
 D.len
 (D.slc (D.hd (hs 10 0)) 3
 [[D.int .i64 (D.getInt hb (Int.toNat (D.getInt a (Int.toNat x) 0)) 0),
 D.int .i64 (D.getInt hb (Int.toNat (D.getInt a (Int.toNat x) 0)) 1),
 D.cell hb (Int.toNat (D.getInt a (Int.toNat x) 0)) 2]]) ≤
 9223372036854775807)
 (.leaf
 (Conf.mk
 (SFrm.mk 59 none none
 [Item.inLoop (cAt Try.prog 59 [1, 1, 1, 1, 1, 1, 0, 1, 0, 0]), Item.inBlock 4,
 Item.code (cAt Try.prog 59 [1, 1, 1, 1, 1, 1, 1])]
 (mkJ 0
 [(1, .dat a), (2, .ptr 0 0), (4, .ptr 1 0), (7, .ptr 2 0),
 (10, .int .i64 (IntKind.wrap .i64 (x + 1)))]
 0 90))
 []
 [(0, OBlk.cells 26 [.dat ha, .dat hb, .dat hc]), (1, OBlk.cells 26 [.nils, .nils, .nils]),
 (2, OBlk.cells 26 [.dat ha, .vec 3, .vec 4]),
 (3,
 OBlk.arr 31
 (D.slc (D.hd (hs 11 0)) 3
 (List.append (D.rows p)
 (D.rows
 (D.slc (D.hd (hs 10 0)) 3
 [[D.int .i64 (D.getInt hb (Int.toNat (D.getInt a (Int.toNat x) 0)) 0),
 D.int .i64 (D.getInt hb (Int.toNat (D.getInt a (Int.toNat x) 0)) 1),
 D.cell hb (Int.toNat (D.getInt a (Int.toNat x) 0)) 2]]))))),
 (4, OBlk.arr 108 q)])))))))
 (.need (HiD.Right (HiD.mk ha p q))
 (.all fun hs =>
 .ret
 (SV.tup
 [.agg
 [.dat (D.like (hs 0 0) (D.to Int ha)), .dat (D.like (hs 0 1) (D.to Wt p)),
 .dat (D.like (hs 0 2) (D.to Ev q))],
 .int .i64 0]))) := by kernel_rfl

end
end Go.Proofs.Ytodhhmjilnfecaa
end
