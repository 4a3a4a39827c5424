/- Histories: what correct events are; a restricted history is correct (no program in sight). -/
import Derived.Test.YtodhhmjilnfecaaRntoN38
import Derived.KernelRfl
import Derived.Test.YtodhhmjilnfecaaProg
set_option linter.all false
section
open Go
namespace Sx
def iss (l : List Ev) : Nat := l.countP fun e=>decide (e.kind = 0)
theorem iss_app (a b : List Ev) : iss (a ++ b) = iss a + iss b := List.countP_append ..
theorem iss_one (e : Ev) : iss [e] = if e.kind = 0 then 1 else 0 := by
 unfold iss; rw [List.countP_cons]; by_cases h : e.kind = 0 <;> simp [h]
def stepOk (n : Nat) (p : List Ev) (e : Ev) : Prop := (e.kind = 0 ∧ e.write = (iss p : Int) ∧ e.write < n) ∨ (e.kind = 1 ∧ 0 ≤ e.write ∧ e.write < (iss p : Int) ∧ (⟨1,e.write⟩ : Ev) ∉ p)
inductive EvOk (n : Nat) : List Ev → Prop
 | nil : EvOk n []
 | snoc (l : List Ev) (e : Ev) : EvOk n l → stepOk n l e → EvOk n (l ++ [e])
theorem step_iff {n : Nat} {p : List Ev} {t : Tl} {i : Int} {e : Ev} (h : TlOk n p t) (hi : t.issued.length = iss p) : (evStep n i t e).1 = 0 ↔ stepOk n p e := by
 unfold evStep stepOk
 by_cases hk : e.kind = 0
 ·rw [if_pos hk]
  by_cases hc : e.write ≠ t.issued.length ∨ e.write ≥ n
  ·rw [if_pos hc]
   constructor
   ·intro h; exact absurd h (by simp)
   ·rintro (⟨_,h1,h2⟩ | ⟨h1,_⟩)
    ·omega
    ·omega
  ·rw [if_neg hc]
   exact ⟨fun _=>.inl ⟨hk,by omega,by omega⟩,fun _=>rfl⟩
 ·rw [if_neg hk]
  by_cases hk1 : e.kind = 1
  ·rw [if_pos hk1]
   by_cases hc : e.write < 0 ∨ e.write ≥ t.issued.length
   ·rw [if_pos hc]
    constructor
    ·intro h; exact absurd h (by simp)
    ·rintro (⟨h1,_⟩ | ⟨_,h1,h2,_⟩)
     ·exact absurd h1 hk
     ·omega
   ·rw [if_neg hc]
    obtain ⟨y,hy⟩ := Int.eq_ofNat_of_zero_le (show 0 ≤ e.write by omega)
    have hy2 : y < t.acked.length := by have := h.len; omega
    have e2 : t.acked.getD e.write.toNat 0 = atEv p ⟨1,e.write⟩ := by rw [hy,← h.ack y hy2]; simp [hy2]
    rw [e2]
    by_cases ha : atEv p ⟨1,e.write⟩ ≥ 0
    ·rw [if_pos ha]
     constructor
     ·intro h; exact absurd h (by simp)
     ·rintro (⟨h1,_⟩ | ⟨_,_,_,h1⟩)
      ·exact absurd h1 hk
      ·exact absurd (atEv_mem.1 ha) h1
    ·rw [if_neg ha]
     exact ⟨fun _=>.inr ⟨hk1,by omega,by omega,fun hm=>ha (atEv_mem.2 hm)⟩,fun _=>rfl⟩
  ·rw [if_neg hk1]
   constructor
   ·intro h; exact absurd h (by simp)
   ·rintro (⟨h1,_⟩ | ⟨h1,_⟩)
    ·exact absurd h1 hk
    ·exact absurd h1 hk1
theorem evOk_run {n : Nat} {l : List Ev} : ∀ j,j ≤ l.length → (runEv n l j).1 = 0 → EvOk n (l.take j) ∧ (runEv n l j).2.issued.length = iss (l.take j)
 | 0,_,_=>⟨by rw [List.take_zero]; exact .nil,rfl⟩
 | j + 1,hj,h0=>by
  have h1 : (runEv n l j).1 = 0 := by
   apply Classical.byContradiction
   intro hne
   have := runEv_stop hne 1
   rw [this] at h0; exact hne h0
  obtain ⟨i1,i2⟩ := evOk_run j (by omega) h1
  rw [runEv_step (by omega) h1] at h0 ⊢
  have ht := runEv_ok (n := n) (l := l) j (by omega) h1
  have hs := (step_iff (i := (j : Int)) (e := l[j]) ht i2).1 h0
  have hlen := evStep_len h0
  rw [List.take_succ_eq_append_getElem (by omega : j < l.length)]
  refine ⟨.snoc _ _ i1 hs,?_⟩
  rw [iss_app,iss_one]
  by_cases hk : l[j].kind = 0
  ·rw [if_pos hk] at hlen ⊢; omega
  ·rw [if_neg hk] at hlen ⊢; omega
theorem run_evOk {n : Nat} {l : List Ev} (h : EvOk n l) : (runEv n l l.length).1 = 0 ∧ (runEv n l l.length).2.issued.length = iss l := by
 induction h with
 | nil=>exact ⟨rfl,rfl⟩
 | snoc l e hl hs ih =>
  obtain ⟨i1,i2⟩ := ih
  rw [runEv_app i1]
  have ht := runEv_ok (n := n) (l := l) l.length (Nat.le_refl _) i1
  rw [List.take_length] at ht
  have h0 := (step_iff (i := (l.length : Int)) (e := e) ht i2).2 hs
  have hlen := evStep_len h0
  refine ⟨h0,?_⟩
  rw [iss_app,iss_one]
  by_cases hk : e.kind = 0
  ·rw [if_pos hk] at hlen ⊢; omega
  ·rw [if_neg hk] at hlen ⊢; omega
theorem firstErr_zero {s : List Int} : ∀ {l : List Wt},firstErr s l = 0 ↔ ∀ w,w ∈ l → fitsErr s w = 0
 | []=>by simp [firstErr]
 | w :: r=>by
  rw [firstErr_cons]
  by_cases h : fitsErr s w ≠ 0
  ·rw [if_pos h]
   exact ⟨fun e=>absurd e h,fun e=>e w List.mem_cons_self⟩
  ·rw [if_neg h,firstErr_zero (l := r)]
   have h : fitsErr s w = 0 := by simpa using h
   simp [h]
theorem checkH_iff {h : Hist} : (checkH h).1 = 0 ↔ sizesErr h.sizes = 0 ∧ h.writes.length ≤ 4096 ∧ (∀ w,w ∈ h.writes → fitsErr h.sizes w = 0) ∧ EvOk h.writes.length h.events ∧ iss h.events = h.writes.length := by
 constructor
 ·intro hc
  obtain ⟨htl,hlen,k1,k2,k3⟩ := checkH_ok hc
  obtain ⟨r1,r2⟩ := checkH_run hc
  obtain ⟨e1,e2⟩ := evOk_run _ (Nat.le_refl _) r1
  rw [List.take_length] at e1 e2
  rw [r2] at hlen
  exact ⟨k1,k2,firstErr_zero.1 k3,e1,by omega⟩
 ·rintro ⟨k1,k2,k3,k4,k5⟩
  obtain ⟨e1,e2⟩ := run_evOk k4
  exact checkH_of k1 k2 (firstErr_zero.2 k3) e1 (by omega)

/-! Restricted. -/
def cntB (s : List Int) (m : Int) : Nat := s.countP fun x=>decide (x < m)
theorem cntB_zero {s : List Int} {m : Int} (h : ∀ x,x ∈ s → m ≤ x) : cntB s m = 0 := by
 unfold cntB
 rw [List.countP_eq_zero]
 intro x hx; have := h x hx; simp; omega
theorem cntB_all {s : List Int} {m : Int} (h : ∀ x,x ∈ s → x < m) : cntB s m = s.length := by
 unfold cntB
 rw [List.countP_eq_length]
 intro x hx; have := h x hx; simp; omega
theorem cntB_idx : ∀ {s : List Int},s.Pairwise (· < ·) → ∀ {k : Nat} (hk : k < s.length),cntB s s[k] = k
 | x :: r,h,0,_=>by
  rw [List.pairwise_cons] at h
  refine cntB_zero fun y hy=>?_
  rcases List.mem_cons.1 hy with rfl | hy
  ·exact Int.le_refl _
  ·have := h.1 y hy; simp only [List.getElem_cons_zero]; omega
 | x :: r,h,k + 1,hk=>by
  rw [List.pairwise_cons] at h
  have hk' : k < r.length := by simpa using hk
  have ih := cntB_idx h.2 (k := k) hk'
  have hx := h.1 r[k] (List.getElem_mem hk')
  simp only [List.getElem_cons_succ]
  unfold cntB at ih ⊢
  rw [List.countP_cons,ih]; simp [hx]
theorem cntB_succ {m : Int} : ∀ {s : List Int},s.Pairwise (· < ·) → cntB s (m + 1) = cntB s m + if m ∈ s then 1 else 0
  | [],_=>by simp [cntB]
  | x :: r,h=>by
    rw [List.pairwise_cons] at h
    have ih := cntB_succ (m := m) h.2
    unfold cntB at ih ⊢
    rw [List.countP_cons,List.countP_cons,ih]
    by_cases hx : x = m
    · subst hx
      have : x ∉ r := fun hm=>by have := h.1 x hm; omega
      rw [if_neg this,if_pos List.mem_cons_self]
      simp; omega
    · have e1 : decide (x < m + 1) = decide (x < m) := by rw [decide_eq_decide]; omega
      have e2 : m ∈ x :: r ↔ m ∈ r := by rw [List.mem_cons]; constructor
                                         · rintro (h | h)
                                           · exact absurd h.symm hx
                                           · exact h
                                         · exact .inr
      simp only [e1,e2]; omega
theorem evR_cases {s : List Int} {n : Int} (h : setH s n = true) (x : Ev) : (x.write ∉ s ∧ evR s x = []) ∨ ∃ k : Nat,∃ hk : k < s.length,s[k] = x.write ∧ evR s x = [⟨x.kind,(k : Int)⟩] := by
 rw [evR_idx h]
 by_cases hi : idxG s (fun y=>decide (x.write = y)) ≥ 0
 ·right
  obtain ⟨j,hj,hj1,hj2⟩ := idxG_range (show ¬idxG s (fun y=>decide (x.write = y)) < 0 by omega)
  rw [if_pos hi,hj]
  exact ⟨j,hj1,(of_decide_eq_true hj2).symm,rfl⟩
 ·left
  rw [if_neg hi]
  refine ⟨fun hm=>hi ?_,rfl⟩
  have := idxG_any s (fun y=>decide (x.write = y))
  have h2 : s.any (fun y=>decide (x.write = y)) = true := List.any_eq_true.2 ⟨_,hm,by simp⟩
  rw [h2] at this
  exact of_decide_eq_true this
theorem restE_app {s : List Int} (a b : List Ev) : restE s (a ++ b) = restE s a ++ restE s b := List.flatMap_append ..
theorem restE_one {s : List Int} (e : Ev) : restE s [e] = evR s e := by simp [restE]
theorem restE_mem {s : List Int} {l : List Ev} {c : Int} {k : Nat} (hk : k < s.length) : (⟨c,(k : Int)⟩ : Ev) ∈ restE s l ↔ (⟨c,s[k]⟩ : Ev) ∈ l := by
 unfold restE evR
 simp only [List.mem_flatMap,List.mem_map,List.mem_filter,List.mem_range,decide_eq_true_eq]
 constructor
 ·rintro ⟨x,hx,j,⟨hj,e⟩,he⟩
  injection he with e1 e2
  have e2 : j = k := by omega
  subst e2
  rw [getD_lt hj] at e
  obtain ⟨a,b⟩ := x
  simp only at e e1
  subst e1; rw [e]; exact hx
 ·intro h
  exact ⟨_,h,k,⟨hk,getD_lt hk⟩,rfl⟩
theorem rest_evOk {s : List Int} {n : Nat} (hs : setH s n = true) {l : List Ev} (h : EvOk n l) : EvOk s.length (restE s l) ∧ iss (restE s l) = cntB s (iss l) := by
 have hp := asc_pair (setH_iff.1 hs).1
 induction h with
 | nil=>exact ⟨.nil,(cntB_zero fun x hx=>by have := (setH_iff.1 hs).2 x hx; simp [iss]; omega).symm⟩
 | snoc l e hl hst ih =>
  obtain ⟨i1,i2⟩ := ih
  rw [restE_app,restE_one,iss_app,iss_app,iss_one]
  rcases hst with ⟨k1,k2,k3⟩ | ⟨k1,k2,k3,k4⟩
  ·rw [if_pos k1]
   have sc := cntB_succ (m := (iss l : Int)) hp
   rcases evR_cases hs e with ⟨hm,he⟩ | ⟨k,hk,hsk,he⟩
   ·rw [he,List.append_nil]
    refine ⟨i1,?_⟩
    rw [k2] at hm
    rw [if_neg hm] at sc
    have : ((iss l + 1 : Nat) : Int) = (iss l : Int) + 1 := by omega
    rw [this,sc,i2]; simp [iss]
   ·have ck := cntB_idx hp hk
    rw [hsk,k2] at ck
    have hm : (iss l : Int) ∈ s := by rw [← k2,← hsk]; exact List.getElem_mem hk
    rw [if_pos hm] at sc
    rw [he]
    refine ⟨.snoc _ _ i1 (.inl ⟨k1,?_,?_⟩),?_⟩
    ·simp only; rw [i2,ck]
    ·simp only; omega
    ·rw [iss_one,if_pos k1]
     have : ((iss l + 1 : Nat) : Int) = (iss l : Int) + 1 := by omega
     rw [this,sc,i2]
  ·have hk0 : ¬e.kind = 0 := by omega
   rw [if_neg hk0,Nat.add_zero]
   rcases evR_cases hs e with ⟨hm,he⟩ | ⟨k,hk,hsk,he⟩
   ·rw [he,List.append_nil]; exact ⟨i1,by rw [i2]; simp [iss]⟩
   ·rw [he]
    refine ⟨.snoc _ _ i1 (.inr ⟨k1,?_,?_,?_⟩),?_⟩
    ·simp only; omega
    ·simp only
     rw [i2]
     have ck := cntB_idx hp hk
     rw [hsk] at ck
     have hle : cntB s (e.write + 1) ≤ cntB s (iss l) := by
      unfold cntB
      apply List.countP_mono_left
      intro x _ h
      simp only [decide_eq_true_eq] at h ⊢; omega
     have sc := cntB_succ (m := e.write) hp
     rw [if_pos (by rw [← hsk]; exact List.getElem_mem hk)] at sc
     omega
    ·simp only
     rw [restE_mem hk,hsk]; exact k4
    ·rw [iss_one,if_neg hk0]; simpa using i2
theorem pickW_mem {ws : List Wt} {s : List Int} (h : ∀ x,x ∈ s → 0 ≤ x ∧ x < (ws.length : Int)) {w : Wt} (hw : w ∈ pickW ws s) : w ∈ ws := by
 unfold pickW at hw
 obtain ⟨x,hx,rfl⟩ := List.mem_map.1 hw
 have := h x hx
 have hl : x.toNat < ws.length := by omega
 rw [List.getD_eq_getElem?_getD,List.getElem?_eq_getElem hl]
 exact List.getElem_mem hl
theorem setH_len {s : List Int} {n : Nat} (h : setH s n = true) : s.length ≤ n := by
 have hp := asc_pair (setH_iff.1 h).1
 have h2 := (setH_iff.1 h).2
 rcases Nat.eq_zero_or_pos s.length with h0 | h0
 ·omega
 ·have hk : s.length - 1 < s.length := by omega
  have : ∀ k,(hk : k < s.length) → (k : Int) ≤ s[k] := by
   intro k
   induction k with
   | zero=>intro hk; have := h2 _ (List.getElem_mem hk); omega
   | succ k ih =>
    intro hk
    have := ih (by omega)
    have := (List.pairwise_iff_getElem.1 hp) k (k + 1) (by omega) hk (by omega)
    omega
  have h3 := this _ hk
  have h4 := h2 _ (List.getElem_mem hk)
  omega
theorem restrict_ok {h : Hist} {s : List Int} (hc : (checkH h).1 = 0) (hs : setH s h.writes.length = true) : (checkH ⟨h.sizes,pickW h.writes s,restE s h.events⟩).1 = 0 := by
 obtain ⟨k1,k2,k3,k4,k5⟩ := checkH_iff.1 hc
 obtain ⟨e1,e2⟩ := rest_evOk hs k4
 have h2 := (setH_iff.1 hs).2
 have hl := setH_len hs
 refine checkH_iff.2 ⟨k1,by simp only [pickW_len]; omega,fun w hw=>k3 w (pickW_mem h2 hw),by simp only [pickW_len]; exact e1,?_⟩
 simp only [pickW_len]
 rw [e2,k5]
 exact cntB_all fun x hx=>(h2 x hx).2
end Sx
end
section
open Go
namespace Sx
theorem asc_of {l : List Int} (h : l.Pairwise (· < ·)) : asc l = true :=
 (asc_iff l).2 fun i hi=>by rw [getD_lt (by omega),getD_lt hi]; exact (List.pairwise_iff_getElem.1 h) i (i + 1) (by omega) hi (by omega)
theorem openErr_iff (g : Gr) : openErr g = 0 ↔ (checkH g.hist).1 = 0 ∧ g.waiting.Pairwise (· < ·) ∧ (∀ w,w ∈ g.waiting ++ g.held → 0 ≤ w ∧ w < (g.hist.writes.length : Int)) ∧
  (∀ i : Nat,i < g.hist.writes.length → cntI g.waiting (i : Int) + cntI g.held (i : Int) + (if (⟨1,(i : Int)⟩ : Ev) ∈ g.hist.events then 1 else 0) = 1) ∧ (g.held ≠ [] → g.frozen = true) := by
 have key : (checkH g.hist).1 = 0 → ((∀ i : Nat,i < g.hist.writes.length → cntI (g.waiting ++ g.held) (i : Int) + (if (ackd g.hist.writes.length g.hist.events).getD i false = true then 1 else 0) = 1) ↔
   (∀ i : Nat,i < g.hist.writes.length → cntI g.waiting (i : Int) + cntI g.held (i : Int) + (if (⟨1,(i : Int)⟩ : Ev) ∈ g.hist.events then 1 else 0) = 1)) := fun hc =>
  forall_congr' fun i=>forall_congr' fun hi=>by
   have := ackd_mem (fun e he=>(checkH_in hc e he).2.1) hi
   simp only [this,cntI_app]
 unfold openErr
 by_cases hc : (checkH g.hist).1 ≠ 0
 ·rw [if_pos hc]
  exact ⟨fun h=>absurd h hc,fun h=>absurd h.1 hc⟩
 ·rw [if_neg hc]
  have hc : (checkH g.hist).1 = 0 := by simpa using hc
  cases hd : divided g with
  | false =>
   rw [if_pos rfl]
   refine ⟨fun h=>absurd h (by decide),fun ⟨_,h1,h2,h3,_⟩=>?_⟩
   have := (divided_iff g).2 ⟨asc_of h1,h2,(key hc).2 h3⟩
   rw [hd] at this; cases this
  | true =>
   rw [if_neg (by simp)]
   obtain ⟨d1,d2,d3⟩ := (divided_iff g).1 hd
   by_cases hh : g.held.length > 0 ∧ g.frozen = false
   ·rw [if_pos hh]
    refine ⟨fun h=>absurd h (by decide),fun ⟨_,_,_,_,h⟩=>?_⟩
    have := h (by intro e; rw [e] at hh; simp at hh)
    rw [hh.2] at this; cases this
   ·rw [if_neg hh]
    refine ⟨fun _=>⟨hc,asc_pair d1,d2,(key hc).1 d3,fun hne=>?_⟩,fun _=>rfl⟩
    cases hf : g.frozen with
    | true=>rfl
    | false=>exact absurd ⟨List.length_pos_iff.2 hne,hf⟩ hh

def withoutI (l : List Int) (n : Int) : List Int := l.filter fun x=>!decide (x = n)
theorem without_idx {l : List Int} (h : l.Pairwise (· < ·)) {n : Int} {j : Nat} (hj : idxG l (fun y=>decide (n = y)) = (j : Int)) : l.take j ++ l.drop (j + 1) = withoutI l n := by
 obtain ⟨k,hk,hk1,hk2⟩ := idxG_range (show ¬idxG l (fun y=>decide (n = y)) < 0 by omega)
 have : k = j := by omega
 subst this
 have hn : n = l[k] := of_decide_eq_true hk2
 unfold withoutI
 conv=>rhs; rw [← List.take_append_drop k l,List.drop_eq_getElem_cons hk1]
 rw [List.filter_append,List.filter_cons,if_neg (by simp [hn])]
 congr 1
 ·symm
  rw [List.filter_eq_self]
  intro x hx
  obtain ⟨i,hi,rfl⟩ := List.mem_take_iff_getElem.1 hx
  have := (List.pairwise_iff_getElem.1 h) i k (by omega) hk1 (by omega)
  simp; omega
 ·symm
  rw [List.filter_eq_self]
  intro x hx
  obtain ⟨i,hi,rfl⟩ := List.mem_drop_iff_getElem.1 hx
  have := (List.pairwise_iff_getElem.1 h) k (k + 1 + i) hk1 (by omega) (by omega)
  simp; omega
theorem cntI_without (l : List Int) (n i : Int) : cntI (withoutI l n) i = if i = n then 0 else cntI l i := by
 unfold withoutI
 induction l with
 | nil=>simp [cntI]
 | cons x r ih =>
  rw [List.filter_cons]
  by_cases hx : x = n
  ·subst hx
   rw [if_neg (by simp),ih]
   by_cases hi : i = x
   ·rw [if_pos hi,if_pos hi]
   ·rw [if_neg hi,if_neg hi,cntI_cons,if_neg (fun e=>hi e.symm),Nat.zero_add]
  ·rw [if_pos (by simp [hx]),cntI_cons,ih]
   by_cases hi : i = n
   ·subst hi; rw [if_pos rfl,if_pos rfl,if_neg hx]
   ·rw [if_neg hi,if_neg hi,cntI_cons]
theorem without_mem {l : List Int} {n x : Int} : x ∈ withoutI l n ↔ x ∈ l ∧ x ≠ n := by unfold withoutI; simp [List.mem_filter]
theorem idx_contains (l : List Int) (n : Int) : (idxG l fun y=>decide (n = y)) < 0 ↔ l.contains n = false := by
 have h := idxG_any l (fun y=>decide (n = y))
 have h2 : l.any (fun y=>decide (n = y)) = l.contains n := by
  rw [List.contains_eq_any_beq]; congr 1
 rw [h2] at h
 rw [← h,decide_eq_false_iff_not]; omega
theorem mem_contains {l : List Int} {n : Int} : l.contains n = false ↔ n ∉ l := by
 rw [← Bool.not_eq_true,contains_iff]
theorem ackH_go {h : Hist} {n : Int} (hc : (checkH h).1 = 0) (h1 : 0 ≤ n ∧ n < (h.writes.length : Int)) (h2 : (⟨1,n⟩ : Ev) ∉ h.events) : ackH h n = (⟨h.sizes,h.writes,h.events ++ [⟨1,n⟩]⟩,0) := by
 unfold ackH
 rw [if_neg (by simp [hc]),if_neg (by omega),if_neg (by rw [atEv_mem]; exact h2)]
def ackAll (l : List Int) (h : Hist) : Hist := l.foldl (fun h n=>(ackH h n).1) h
theorem ackAll_go : ∀ {l : List Int} {h : Hist},(checkH h).1 = 0 → l.Nodup → (∀ n,n ∈ l → (0 ≤ n ∧ n < (h.writes.length : Int)) ∧ (⟨1,n⟩ : Ev) ∉ h.events) →
  ackAll l h = ⟨h.sizes,h.writes,h.events ++ l.map (Ev.mk 1)⟩ ∧ (checkH ⟨h.sizes,h.writes,h.events ++ l.map (Ev.mk 1)⟩).1 = 0
 | [],h,hc,_,_=>by simp [ackAll,hc]
 | x :: r,h,hc,hn,hx=>by
  rw [List.nodup_cons] at hn
  obtain ⟨a,b⟩ := hx x List.mem_cons_self
  have e := ackH_go hc a b
  have hc2 := ackH_check (h := h) (n := x) (by rw [e])
  rw [e] at hc2
  have := ackAll_go (l := r) hc2 hn.2 fun n hnr=>by
   obtain ⟨a',b'⟩ := hx n (List.mem_cons_of_mem _ hnr)
   refine ⟨a',?_⟩
   simp only [List.mem_append,List.mem_singleton,not_or]
   refine ⟨b',fun e=>?_⟩
   injection e with _ e
   subst e; exact hn.1 hnr
  simp only [List.map_cons]
  have ap : h.events ++ ({ kind := 1,write := x } : Ev) :: r.map (Ev.mk 1) = h.events ++ [⟨1,x⟩] ++ r.map (Ev.mk 1) := by simp
  rw [ap]
  refine ⟨?_,this.2⟩
  rw [← this.1]
  show r.foldl (fun h n=>(ackH h n).1) (ackH h x).1 = _
  rw [e]; rfl
theorem nodup_cnt : ∀ {l : List Int},(∀ n,n ∈ l → cntI l n ≤ 1) → l.Nodup
 | [],_=>List.nodup_nil
 | x :: r,h=>by
  rw [List.nodup_cons]
  constructor
  ·intro hm
   have := h x List.mem_cons_self
   rw [cntI_cons,if_pos rfl] at this
   have := cntI_pos.2 hm
   omega
  ·refine nodup_cnt fun n hn=>?_
   have := h n (List.mem_cons_of_mem _ hn)
   rw [cntI_cons] at this; omega

/-! Durable. -/
def durR (g : Gr) (n : Int) : Gr × List Int × Int :=
 if openErr g ≠ 0 then (zGr,[],openErr g)
 else if g.waiting.contains n = false then (zGr,[],7)
 else if g.frozen = true then (⟨g.hist,withoutI g.waiting n,g.held ++ [n],true⟩,[],0)
 else (⟨(ackH g.hist n).1,withoutI g.waiting n,g.held,false⟩,[n],0)
theorem wait_free {g : Gr} (h : openErr g = 0) {n : Int} (hn : n ∈ g.waiting) : (0 ≤ n ∧ n < (g.hist.writes.length : Int)) ∧ (⟨1,n⟩ : Ev) ∉ g.hist.events ∧ cntI g.waiting n = 1 ∧ n ∉ g.held := by
 obtain ⟨hc,h1,h2,h3,h4⟩ := (openErr_iff g).1 h
 have a := h2 n (List.mem_append_left _ hn)
 have b := h3 n.toNat (by omega)
 rw [Int.toNat_of_nonneg a.1] at b
 have c := cntI_pos.2 hn
 refine ⟨a,fun hm=>?_,?_,fun hm=>?_⟩
 ·rw [if_pos hm] at b; omega
 ·split at b <;> omega
 ·have := cntI_pos.2 hm; split at b <;> omega
theorem held_free {g : Gr} (h : openErr g = 0) : g.held.Nodup ∧ ∀ n,n ∈ g.held → (0 ≤ n ∧ n < (g.hist.writes.length : Int)) ∧ (⟨1,n⟩ : Ev) ∉ g.hist.events := by
 obtain ⟨hc,h1,h2,h3,h4⟩ := (openErr_iff g).1 h
 have key : ∀ n,n ∈ g.held → (0 ≤ n ∧ n < (g.hist.writes.length : Int)) ∧ (⟨1,n⟩ : Ev) ∉ g.hist.events ∧ cntI g.held n ≤ 1 := fun n hn=>by
  have a := h2 n (List.mem_append_right _ hn)
  have b := h3 n.toNat (by omega)
  rw [Int.toNat_of_nonneg a.1] at b
  have c := cntI_pos.2 hn
  refine ⟨a,fun hm=>?_,?_⟩
  ·rw [if_pos hm] at b; omega
  ·split at b <;> omega
 exact ⟨nodup_cnt fun n hn=>(key n hn).2.2,fun n hn=>⟨(key n hn).1,(key n hn).2.1⟩⟩
theorem durG_ref (g : Gr) (n : Int) : durG g n = durR g n := by
 unfold durR
 by_cases h : openErr g ≠ 0
 ·rw [if_pos h,durG_e1 h]
 ·rw [if_neg h]
  have h : openErr g = 0 := by simpa using h
  by_cases hi : (idxG g.waiting fun y=>decide (n = y)) < 0
  ·rw [if_pos ((idx_contains _ _).1 hi),durG_e2 h hi]
  ·rw [if_neg (fun e=>hi ((idx_contains _ _).2 e))]
   obtain ⟨j,hj,hj1,hj2⟩ := idxG_range hi
   have hp := ((openErr_iff g).1 h).2.1
   have hm : n ∈ g.waiting := by rw [of_decide_eq_true hj2]; exact List.getElem_mem hj1
   cases hf : g.frozen with
   | true=>rw [if_pos rfl,durG_fz h hj hf,without_idx hp hj]
   | false =>
    rw [if_neg (by simp),durG_un h hj hf,without_idx hp hj]
    obtain ⟨a,b,_⟩ := wait_free h hm
    rw [ackH_go ((openErr_iff g).1 h).1 a b]
theorem durR_ok {g : Gr} {n : Int} (h : (durR g n).2.2 = 0) : openErr (durR g n).1 = 0 ∧ openErr g = 0 ∧ n ∈ g.waiting := by
 unfold durR at h ⊢
 by_cases h0 : openErr g ≠ 0
 ·rw [if_pos h0] at h; exact absurd h h0
 ·rw [if_neg h0] at h ⊢
  have h0 : openErr g = 0 := by simpa using h0
  by_cases hi : g.waiting.contains n = false
  ·rw [if_pos hi] at h; exact absurd h (by decide)
  ·rw [if_neg hi]
   have hm : n ∈ g.waiting := contains_iff.1 (by simpa using hi)
   obtain ⟨a,b,c,d⟩ := wait_free h0 hm
   obtain ⟨hc,h1,h2,h3,h4⟩ := (openErr_iff g).1 h0
   refine ⟨?_,h0,hm⟩
   cases hf : g.frozen with
   | true =>
    rw [if_pos rfl]
    refine (openErr_iff _).2 ⟨hc,h1.filter _,fun w hw=>?_,fun i hi=>?_,fun _=>rfl⟩
    ·simp only [List.mem_append,without_mem,List.mem_singleton] at hw
     rcases hw with ⟨hw,_⟩ | hw | rfl
     ·exact h2 w (List.mem_append_left _ hw)
     ·exact h2 w (List.mem_append_right _ hw)
     ·exact a
    ·simp only [cntI_without,cntI_app,cntI_cons]
     have := h3 i hi
     simp only at hi
     by_cases e : (i : Int) = n
     ·rw [if_pos e,if_pos e.symm]
      rw [e] at this ⊢
      have z : cntI ([] : List Int) n = 0 := rfl
      rw [if_neg b] at this ⊢; omega
     ·rw [if_neg e,if_neg (fun e'=>e e'.symm)]
      have z : cntI ([] : List Int) (i : Int) = 0 := rfl
      rw [z]; omega
   | false =>
    rw [if_neg (by simp)]
    have e := ackH_go hc a b
    have hc2 := ackH_check (h := g.hist) (n := n) (by rw [e])
    rw [e] at hc2 ⊢
    refine (openErr_iff _).2 ⟨hc2,h1.filter _,fun w hw=>?_,fun i hi=>?_,fun hne=>?_⟩
    ·simp only [List.mem_append,without_mem] at hw
     rcases hw with ⟨hw,_⟩ | hw
     ·exact h2 w (List.mem_append_left _ hw)
     ·exact h2 w (List.mem_append_right _ hw)
    ·simp only [cntI_without]
     have := h3 i hi
     simp only [List.mem_append,List.mem_singleton]
     by_cases e : (i : Int) = n
     ·rw [if_pos e]
      rw [e] at this ⊢
      rw [if_neg b] at this
      rw [if_pos (.inr rfl)]; omega
     ·rw [if_neg e]
      have hne : ¬((⟨1,(i : Int)⟩ : Ev) = ⟨1,n⟩) := fun e'=>by injection e' with _ e'; exact e e'
      simp only [hne,or_false]; omega
    ·have := h4 hne; rw [hf] at this; cases this

/-! Freeze and Thaw. -/
def frzR (g : Gr) : Gr × Int × Int :=
 if openErr g ≠ 0 then (zGr,0,openErr g) else if g.frozen then (zGr,0,26) else (⟨g.hist,g.waiting,[],true⟩,g.hist.writes.length,0)
theorem frzG_ref (g : Gr) : freezeG g = frzR g := by
 unfold freezeG frzR
 by_cases h : openErr g ≠ 0
 ·rw [if_pos h,if_pos h]
 ·rw [if_neg h,if_neg h]
  have h : openErr g = 0 := by simpa using h
  cases hf : g.frozen with
  | true=>rfl
  | false =>
   have : g.held = [] := by
    apply Classical.byContradiction
    intro hne
    have := ((openErr_iff g).1 h).2.2.2.2 hne; rw [hf] at this; cases this
   rw [this]
theorem frz_ok {g : Gr} (h : (freezeG g).2.2 = 0) : openErr (freezeG g).1 = 0 ∧ openErr g = 0 ∧ g.frozen = false ∧ freezeG g = ((⟨g.hist,g.waiting,[],true⟩ : Gr),(g.hist.writes.length : Int),(0 : Int)) := by
 rw [frzG_ref] at h ⊢
 unfold frzR at h ⊢
 by_cases h0 : openErr g ≠ 0
 ·rw [if_pos h0] at h; exact absurd h h0
 ·rw [if_neg h0] at h ⊢
  have h0 : openErr g = 0 := by simpa using h0
  cases hf : g.frozen with
  | true=>rw [hf] at h; simp at h
  | false =>
   obtain ⟨hc,h1,h2,h3,h4⟩ := (openErr_iff g).1 h0
   have hh : g.held = [] := by
    apply Classical.byContradiction
    intro hne
    have := h4 hne; rw [hf] at this; cases this
   refine ⟨?_,h0,rfl,rfl⟩
   simp only [Bool.false_eq_true,if_false]
   rw [hh] at h2 h3
   exact (openErr_iff _).2 ⟨hc,h1,h2,h3,fun _=>rfl⟩
def thawR (g : Gr) : Gr × List Int × Int :=
 if openErr g ≠ 0 then (zGr,[],openErr g) else if g.frozen = false then (zGr,[],12)
 else (⟨ackAll g.held g.hist,g.waiting,[],false⟩,g.held,0)
theorem thawG_ref (g : Gr) : thawG g = thawR g := by
 unfold thawG thawR
 by_cases h : openErr g ≠ 0
 ·rw [if_pos h,if_pos h]
 ·rw [if_neg h,if_neg h]
  have h : openErr g = 0 := by simpa using h
  obtain ⟨a,b⟩ := held_free h
  rw [(ackAll_go ((openErr_iff g).1 h).1 a b).1]
theorem thaw_ok {g : Gr} (h : (thawG g).2.2 = 0) : openErr (thawG g).1 = 0 ∧ openErr g = 0 ∧ g.frozen = true ∧ thawG g = ((⟨⟨g.hist.sizes,g.hist.writes,g.hist.events ++ g.held.map (Ev.mk 1)⟩,g.waiting,[],false⟩ : Gr),g.held,(0 : Int)) := by
 unfold thawG at h ⊢
 by_cases h0 : openErr g ≠ 0
 ·rw [if_pos h0] at h; exact absurd h h0
 ·rw [if_neg h0] at h ⊢
  have h0 : openErr g = 0 := by simpa using h0
  cases hf : g.frozen with
  | false=>rw [hf] at h; simp at h
  | true =>
   rw [if_neg (by simp)]
   obtain ⟨hc,h1,h2,h3,h4⟩ := (openErr_iff g).1 h0
   obtain ⟨a,b⟩ := held_free h0
   refine ⟨?_,h0,rfl,rfl⟩
   refine (openErr_iff _).2 ⟨(ackAll_go hc a b).2,h1,fun w hw=>?_,fun i hi=>?_,fun hne=>absurd rfl hne⟩
   ·simp only [List.append_nil] at hw
    exact h2 w (List.mem_append_left _ hw)
   ·have := h3 i hi
    simp only [List.mem_append,List.mem_map]
    have z : cntI ([] : List Int) (i : Int) = 0 := rfl
    rw [z]
    by_cases hm : (i : Int) ∈ g.held
    ·have c := cntI_pos.2 hm
     rw [if_pos (.inr ⟨_,hm,rfl⟩)]
     split at this <;> omega
    ·have c : cntI g.held (i : Int) = 0 := by
      rcases Nat.eq_zero_or_pos (cntI g.held (i : Int)) with h | h
      ·exact h
      ·exact absurd (cntI_pos.1 h) hm
     have hne : ¬∃ a,a ∈ g.held ∧ (⟨1,a⟩ : Ev) = ⟨1,(i : Int)⟩ := fun ⟨x,hx,e⟩=>by injection e with _ e; exact hm (e ▸ hx)
     simp only [hne,or_false]; omega

/-! Issue. -/
theorem issue_ok {g : Gr} {w : Wt} (h : (issueG g w).2.2 = 0) : openErr (issueG g w).1 = 0 ∧ openErr g = 0 ∧ issueG g w = ((⟨⟨g.hist.sizes,g.hist.writes ++ [w],g.hist.events ++ [⟨0,g.hist.writes.length⟩]⟩,g.waiting ++ [(g.hist.writes.length : Int)],g.held,g.frozen⟩ : Gr),(g.hist.writes.length : Int),(0 : Int)) := by
 have h0 : openErr g = 0 := by
  apply Classical.byContradiction
  intro hne; rw [issueG_e1 hne] at h; exact hne h
 have hi : (issueH g.hist w).2.2 = 0 := by
  apply Classical.byContradiction
  intro hne; rw [issueG_e2 h0 hne] at h; exact hne h
 have e2 : (issueH g.hist w).2.1 = (g.hist.writes.length : Int) := by
  unfold issueH at hi ⊢
  split at hi
  ·rename_i h1; exact absurd hi h1
  ·rename_i h1; rw [if_neg h1]
   split at hi
   ·exact absurd hi (by decide)
   ·rename_i h1; rw [if_neg h1]
    split at hi
    ·rename_i h1; exact absurd hi h1
    ·rename_i h1; rw [if_neg h1]
 obtain ⟨hc,i1,i2,i3⟩ := issueH_inv hi
 have hck := issueH_check hi
 rw [issueG_ok h0 hi,e2,i3]
 rw [i3] at hck
 obtain ⟨_,h1,h2,h3,h4⟩ := (openErr_iff g).1 h0
 refine ⟨?_,h0,rfl⟩
 refine (openErr_iff _).2 ⟨hck,?_,fun x hx=>?_,fun i hi=>?_,h4⟩
 ·simp only
  rw [List.pairwise_append]
  exact ⟨h1,by simp,fun x hx y hy=>by rw [List.mem_singleton.1 hy]; exact (h2 x (List.mem_append_left _ hx)).2⟩
 ·simp only [List.mem_append,List.mem_singleton,List.length_append,List.length_singleton] at hx ⊢
  rcases hx with (hx | rfl) | hx
  ·have := h2 x (List.mem_append_left _ hx); omega
  ·omega
  ·have := h2 x (List.mem_append_right _ hx); omega
 ·simp only [List.length_append,List.length_singleton] at hi
  simp only [cntI_app,cntI_cons,List.mem_append,List.mem_singleton]
  have z : cntI ([] : List Int) (i : Int) = 0 := rfl
  rw [z]
  have hne : ¬((⟨1,(i : Int)⟩ : Ev) = ⟨0,(g.hist.writes.length : Int)⟩) := fun e=>by injection e with e _; exact absurd e (by decide)
  simp only [hne,or_false]
  by_cases e : i < g.hist.writes.length
  ·have := h3 i e
   rw [if_neg (by omega)]; omega
  ·have e : i = g.hist.writes.length := by omega
   subst e
   rw [if_pos rfl]
   have c1 : cntI g.waiting (g.hist.writes.length : Int) = 0 := by
    rcases Nat.eq_zero_or_pos (cntI g.waiting (g.hist.writes.length : Int)) with h | h
    ·exact h
    ·have := h2 _ (List.mem_append_left _ (cntI_pos.1 h)); omega
   have c2 : cntI g.held (g.hist.writes.length : Int) = 0 := by
    rcases Nat.eq_zero_or_pos (cntI g.held (g.hist.writes.length : Int)) with h | h
    ·exact h
    ·have := h2 _ (List.mem_append_right _ (cntI_pos.1 h)); omega
   rw [if_neg (fun hm=>by have := (checkH_in hc _ hm).2.2; simp only at this; omega)]
   omega
end Sx
end
section
open Go
namespace Sx
def fewG (g : Gr) : Bool := fewH g.hist && (decide (g.waiting.length ≤ 50) && decide (g.held.length ≤ 50))
def spFewG (x : GrD) : SpecR := .scalar [x.h.s.Is Int ∧ x.h.w.Is Wt ∧ x.h.e.Is Ev ∧ x.wt.Is Int ∧ x.hd.Is Int] (.bool (fewG x.gr))
def spSameG (x : GrD × GrD) : SpecR := .scalar [x.1.Right ∧ x.2.h.s.Is Int ∧ x.2.h.w.Is Wt ∧ x.2.h.e.Is Ev ∧ x.2.wt.Is Int ∧ x.2.hd.Is Int] (.bool (decide (x.1.gr = x.2.gr)))
theorem gr_eq {a b : Gr} : a = b ↔ a.hist = b.hist ∧ a.waiting = b.waiting ∧ a.held = b.held ∧ a.frozen = b.frozen := by
 obtain ⟨_,_,_,_⟩ := a; obtain ⟨_,_,_,_⟩ := b; simp
def needCp (x : D × D) : List Prop := [x.1.Is Int ∧ x.2.Is Int ∧ x.1.len ≤ 1048576 ∧ x.2.len ≤ 1048576]
noncomputable def spCpd (e : TypeId) : OSpec := spOwnI (rdD.two rdD) e needCp fun x=>x.1.to Int ++ x.2.to Int
noncomputable def spWo (e : TypeId) : OSpec := spOwnI (rdD.two rdInt) e (fun x=>[x.1.Is Int ∧ x.1.len ≤ 1048576]) fun x=>withoutI (x.1.to Int) x.2
theorem cpd_is {a b : Hd} {d e : D} (hd : d.Is Int) (he : e.Is Int) : (D.slc b 1 (List.append (D.rows (D.slc a 1 (D.rows d))) (D.rows e))).Is Int ∧ (D.slc b 1 (List.append (D.rows (D.slc a 1 (D.rows d))) (D.rows e))).to Int = d.to Int ++ e.to Int :=
 is_of rfl (rows_app (rows_of (slc_same hd a rfl).1) (rows_of he)) |>.imp id fun h=>h.trans (by rw [(slc_same hd a rfl).2])
theorem withoutI_take {l : List Int} {n : Int} {j : Nat} (hj : j < l.length) : withoutI (l.take (j + 1)) n = if l[j] = n then withoutI (l.take j) n else withoutI (l.take j) n ++ [l[j]] := by
 unfold withoutI
 rw [List.take_succ_eq_append_getElem hj,List.filter_append]
 by_cases h : l[j] = n
 ·rw [if_pos h]; simp [h]
 ·rw [if_neg h]; simp [h]
end Sx
end
section
open Go
namespace Sx
theorem firstN_len (p : Nat) : (firstN (p : Int)).length = p := by simp [firstN]
theorem firstN_get {p k : Nat} (hk : k < (firstN (p : Int)).length) : (firstN (p : Int))[k] = (k : Int) := by simp [firstN]
theorem firstN_mem {p : Nat} {x : Int} : x ∈ firstN (p : Int) ↔ 0 ≤ x ∧ x < p := by
 rw [firstN_filt (Nat.le_refl p),filtN_mem]; simp
theorem firstN_set {p n : Nat} (h : p ≤ n) : setH (firstN (p : Int)) n = true := by rw [firstN_filt h]; exact filtN_set
theorem pickW_first {ws : List Wt} {p : Nat} (h : p ≤ ws.length) : pickW ws (firstN (p : Int)) = ws.take p := by
 apply List.ext_getElem
 ·rw [pickW_len,firstN_len,List.length_take]; omega
 ·intro i h1 h2
  rw [pickW_len,firstN_len] at h1
  simp only [pickW,List.getElem_map,firstN_get,Int.toNat_natCast,List.getElem_take]
  rw [List.getD_eq_getElem?_getD,List.getElem?_eq_getElem (by omega)]; rfl
theorem restE_first {p n : Nat} (h : p ≤ n) : ∀ {l : List Ev},(∀ e,e ∈ l → 0 ≤ e.write) → restE (firstN (p : Int)) l = l.filter (fun x=>!decide (x.write ≥ (p : Int)))
 | [],_=>rfl
 | e :: l,hl=>by
  have h0 := hl e List.mem_cons_self
  rw [show e :: l = [e] ++ l from rfl,restE_app,restE_one,restE_first h (fun x hx=>hl x (List.mem_cons_of_mem _ hx)),List.filter_append]
  congr 1
  rcases evR_cases (firstN_set h) e with ⟨hm,he⟩ | ⟨k,hk,hs,he⟩
  ·rw [he]
   have : ¬(0 ≤ e.write ∧ e.write < (p : Int)) := fun hh=>hm (firstN_mem.2 hh)
   rw [List.filter_cons,if_neg (by simp; omega)]; rfl
  ·rw [he]
   rw [firstN_get hk] at hs
   rw [firstN_len] at hk
   rw [List.filter_cons,if_pos (by simp; omega),hs]; rfl
theorem restrict_first {h : Hist} (hc : (checkH h).1 = 0) {p : Nat} (hp : p ≤ h.writes.length) : restrictH h (firstN (p : Int)) = ((⟨h.sizes,h.writes.take p,h.events.filter (fun x=>!decide (x.write ≥ (p : Int)))⟩ : Hist),(0 : Int)) := by
 have hcl := closedB_first hc hp
 unfold closedB at hcl
 simp only [Bool.and_eq_true] at hcl
 rw [rest_ok hc hcl.2.1 hcl.2.2,pickW_first hp,restE_first hp fun e he=>(checkH_in hc e he).2.1]
def recHist (h : Hist) (p j : Nat) : Hist := ⟨h.sizes,h.writes.take p,h.events.filter (fun x=>!decide (x.write ≥ (p : Int))) ++ (unackN (ackd h.writes.length h.events) j).map (Ev.mk 1)⟩
theorem unack_mem {l : List Bool} {j : Nat} {x : Int} : x ∈ unackN l j ↔ 0 ≤ x ∧ x < j ∧ l.getD x.toNat false = false := by
 unfold unackN; rw [filtN_mem]; simp
theorem unack_nodup (l : List Bool) (j : Nat) : (unackN l j).Nodup := by
 have := asc_pair (setH_iff.1 (filtN_set (n := j) (p := fun i=>!l.getD i.toNat false))).1
 exact this.imp (by intro a b h; omega)
theorem unack_succ (l : List Bool) (j : Nat) : unackN l (j + 1) = if l.getD j false = true then unackN l j else unackN l j ++ [(j : Int)] := by
 unfold unackN
 rw [filtN_succ]
 simp only [Int.toNat_natCast,Bool.not_eq_true']
 cases l.getD j false <;> simp
section
variable {h : Hist} (hc : (checkH h).1 = 0) {p : Nat} (hp : p ≤ h.writes.length)
include hc hp
theorem recHist_check {j : Nat} (hj : j ≤ p) : (checkH (recHist h p j)).1 = 0 := by
 have hr := restrict_ok hc (firstN_set hp)
 rw [pickW_first hp,restE_first hp fun e he=>(checkH_in hc e he).2.1] at hr
 refine (ackAll_go hr (unack_nodup _ j) fun n hn=>?_).2
 obtain ⟨h1,h2,h3⟩ := unack_mem.1 hn
 refine ⟨⟨h1,by simp only [List.length_take]; omega⟩,fun hm=>?_⟩
 have hm := (List.mem_filter.1 hm).1
 have hA := (ackd_mem (n := h.writes.length) (l := h.events) (fun e he=>(checkH_in hc e he).2.1) (i := n.toNat) (by omega)).2 (by rw [Int.toNat_of_nonneg h1]; exact hm)
 rw [h3] at hA; cases hA
theorem recHist_acked {i j : Nat} (hi : i < p) : (⟨1,(i : Int)⟩ : Ev) ∈ (recHist h p j).events ↔ (ackd h.writes.length h.events).getD i false = true ∨ i < j := by
 have hA := ackd_mem (l := h.events) (fun e he=>(checkH_in hc e he).2.1) (i := i) (n := h.writes.length) (by omega)
 unfold recHist
 simp only [List.mem_append,List.mem_filter,List.mem_map]
 constructor
 ·rintro (⟨h1,_⟩ | ⟨x,hx,e⟩)
  ·exact .inl (hA.2 h1)
  ·injection e with _ e
   obtain ⟨_,h2,_⟩ := unack_mem.1 hx
   right; omega
 ·intro hh
  cases hb : (ackd h.writes.length h.events).getD i false with
  | true=>exact .inl ⟨hA.1 hb,by simp; omega⟩
  | false =>
   rcases hh with hh | hh
   ·rw [hb] at hh; cases hh
   ·exact .inr ⟨(i : Int),unack_mem.2 ⟨by omega,by omega,by simpa using hb⟩,rfl⟩
theorem recHist_at {j : Nat} (hj : j < p) : decide (atEv (recHist h p j).events ⟨1,(j : Int)⟩ ≥ 0) = (ackd h.writes.length h.events).getD j false := by
 rw [Bool.eq_iff_iff,decide_eq_true_eq,atEv_mem,recHist_acked hc hp hj]
 simp
theorem recHist_go {j : Nat} (hj : j < p) (hA : (ackd h.writes.length h.events).getD j false = false) : ackH (recHist h p j) (j : Int) = (recHist h p (j + 1),0) := by
 rw [ackH_go (recHist_check hc hp (Nat.le_of_lt hj)) ⟨by omega,by simp only [recHist,List.length_take]; omega⟩ (fun hm=>by
  rcases (recHist_acked hc hp hj).1 hm with h | h
  ·rw [hA] at h; cases h
  ·omega)]
 unfold recHist
 rw [unack_succ,if_neg (by rw [hA]; simp)]
 simp
theorem recHist_skip {j : Nat} (hA : (ackd h.writes.length h.events).getD j false = true) : recHist h p (j + 1) = recHist h p j := by
 unfold recHist
 rw [unack_succ,if_pos hA]
theorem recHist_zero : recHist h p 0 = (restrictH h (firstN (p : Int))).1 := by
 rw [restrict_first hc hp]
 unfold recHist unackN filtN
 simp
end
theorem rec_acked {g : Gr} {p : Nat} (hc : (checkH g.hist).1 = 0) : ((ackd g.hist.writes.length g.hist.events).drop p).any (fun y=>decide (true = y)) = false ↔ ∀ i : Nat,p ≤ i → i < g.hist.writes.length → ¬atEv g.hist.events ⟨1,(i : Int)⟩ ≥ 0 := by
 rw [List.any_eq_false]
 have hlen := ackd_len g.hist.writes.length g.hist.events
 constructor
 ·intro h i h1 h2 ha
  have h3 := ackd_at hc h2
  rw [decide_eq_true ha] at h3
  have hil : i < (ackd g.hist.writes.length g.hist.events).length := by omega
  rw [List.getD_eq_getElem?_getD,List.getElem?_eq_getElem hil] at h3
  simp only [Option.getD_some] at h3
  have := h _ (List.mem_drop_iff_getElem.2 ⟨i - p,by omega,rfl⟩)
  have e : p + (i - p) = i := by omega
  simp only [e,h3] at this
  simp at this
 ·intro h y hy
  obtain ⟨k,hk,rfl⟩ := List.mem_drop_iff_getElem.1 hy
  have h1 := h (p + k) (by omega) (by omega)
  have h3 := ackd_at hc (i := p + k) (by omega)
  rw [decide_eq_false h1,List.getD_eq_getElem?_getD,List.getElem?_eq_getElem (show p + k < (ackd g.hist.writes.length g.hist.events).length by omega)] at h3
  simp only [Option.getD_some] at h3
  rw [h3]; simp
theorem rec_done {g : Gr} {p : Nat} (h0 : openErr g = 0) (hp : p ≤ g.hist.writes.length) (h3 : ((ackd g.hist.writes.length g.hist.events).drop p).any (fun y=>decide (true = y)) = false) :
  recoverG g (firstN (p : Int)) = ((⟨recHist g.hist p p,[],[],false⟩ : Gr),unackN (ackd g.hist.writes.length g.hist.events) p,(0 : Int)) := by
 have := recoverG_ok (du := firstN (p : Int)) h0 (by rw [firstN_len]; omega) (by rw [firstN_len]; exact h3) (by rw [firstN_len])
 rw [this]
 simp only [firstN_len]; rfl
theorem rec_ok {g : Gr} {du : List Int} (h : (recoverG g du).2.2 = 0) : openErr (recoverG g du).1 = 0 ∧ openErr g = 0 ∧ du.length ≤ g.hist.writes.length ∧ du = firstN du.length ∧
  (∀ i : Nat,du.length ≤ i → i < g.hist.writes.length → ¬atEv g.hist.events ⟨1,(i : Int)⟩ ≥ 0) ∧ recoverG g du = ((⟨recHist g.hist du.length du.length,[],[],false⟩ : Gr),unackN (ackd g.hist.writes.length g.hist.events) du.length,(0 : Int)) := by
 have h0 : openErr g = 0 := by
  apply Classical.byContradiction
  intro hne; rw [recoverG_e1 hne] at h; exact hne h
 have hc := ((openErr_iff g).1 h0).1
 by_cases h2 : du.length > g.hist.writes.length
 ·rw [recoverG_e2 h0 h2] at h; exact absurd h (by decide)
 cases h3 : ((ackd g.hist.writes.length g.hist.events).drop du.length).any (fun y=>decide (true = y)) with
 | true=>rw [recoverG_e3 h0 h2 h3] at h; exact absurd h (by decide)
 | false =>
  by_cases h4 : du ≠ firstN du.length
  ·rw [recoverG_e4 h0 h2 h3 h4] at h; exact absurd h (by decide)
  ·have h4 : du = firstN du.length := by simpa using h4
   have hp : du.length ≤ g.hist.writes.length := by omega
   have e := rec_done h0 hp h3
   rw [← h4] at e
   refine ⟨?_,h0,hp,h4,(rec_acked hc).1 h3,e⟩
   rw [e]
   refine (openErr_iff _).2 ⟨recHist_check hc hp (Nat.le_refl _),List.Pairwise.nil,by simp,fun i hi=>?_,fun hne=>absurd rfl hne⟩
   have hi : i < du.length := by simp only [recHist,List.length_take] at hi; omega
   have := (recHist_acked hc hp (j := du.length) hi).2 (.inr hi)
   rw [if_pos this]; rfl
end Sx
end
section
open Go
namespace Sx
noncomputable def spDurR (x : GrD × Int) : SpecR := .data [x.1.Right ∧ x.1.h.e.len ≤ 1000000] fun ds=>.tup [grSV ds (durG x.1.gr x.2).1,.dat ((ds 5).like (durG x.1.gr x.2).2.1),.int .i64 (durG x.1.gr x.2).2.2]
noncomputable def spThawR (x : GrD) : SpecR := .data [x.Right ∧ x.h.e.len ≤ 500000 ∧ x.hd.len ≤ 500000] fun ds=>.tup [grSV ds (thawG x.gr).1,.dat ((ds 5).like (thawG x.gr).2.1),.int .i64 (thawG x.gr).2.2]
noncomputable def spRecR (x : GrD × D) : SpecR := .data [x.1.Right ∧ x.1.h.e.len ≤ 500000 ∧ x.2.Is Int ∧ x.2.len ≤ 500000] fun ds=>.tup [grSV ds (recoverG x.1.gr (x.2.to Int)).1,.dat ((ds 5).like (recoverG x.1.gr (x.2.to Int)).2.1),.int .i64 (recoverG x.1.gr (x.2.to Int)).2.2]
theorem one_int (a : Hd) (n : Int) : (D.slc a 1 [[D.int .i64 n]]).Is Int ∧ (D.slc a 1 [[D.int .i64 n]]).to Int = [n] :=
 ⟨⟨_,_,_,rfl,.inr rfl,fun r hr=>by rw [List.mem_singleton.1 hr]; exact ⟨n,rfl⟩⟩,rfl⟩
theorem stands_ints {l l' : List Int} {h : Hd} (e : l = l') : Stands Int (.dat (.slc h 1 (l.map fun n=>[D.int .i64 n]))) l' := by
 subst e
 refine stands_dat ?_ ?_
 ·exact ⟨_,_,_,rfl,.inr rfl,fun r hr=>by obtain ⟨n,_,rfl⟩ := List.mem_map.1 hr; exact ⟨n,rfl⟩⟩
 ·simp only [D.to,D.rows,List.map_map]
  conv=>rhs; rw [← List.map_id l]
  exact List.map_congr_left fun n _=>rfl
theorem is_nil0 : (D.slc none 0 []).Is Int := is_nil _ _
theorem ackAll_snoc {l : List Int} {j : Nat} (hj : j < l.length) (h : Hist) : ackAll (l.take (j + 1)) h = (ackH (ackAll (l.take j) h) l[j]).1 := by
 unfold ackAll
 rw [List.take_succ_eq_append_getElem hj,List.foldl_append]; rfl
theorem thaw_go {g : Gr} (h : openErr g = 0) (j : Nat) : ackAll (g.held.take j) g.hist = ⟨g.hist.sizes,g.hist.writes,g.hist.events ++ (g.held.take j).map (Ev.mk 1)⟩ := by
 obtain ⟨a,b⟩ := held_free h
 exact (ackAll_go ((openErr_iff g).1 h).1 (a.sublist (List.take_sublist _ _)) fun n hn=>b n (List.mem_of_mem_take hn)).1
end Sx
end
section
open Go
namespace Sx
theorem len_without (l : List Int) (n : Int) : (withoutI l n).length + cntI l n = l.length := by
 unfold withoutI
 induction l with
 | nil=>rfl
 | cons x r ih =>
  rw [List.filter_cons,cntI_cons]
  by_cases hx : x = n
  ·subst hx; rw [if_neg (by simp),if_pos rfl,List.length_cons]; omega
  ·rw [if_pos (by simp [hx]),if_neg hx,List.length_cons,List.length_cons]; omega
theorem cnt_nodup {l : List Int} (h : l.Nodup) (n : Int) : cntI l n ≤ 1 := by
 induction l with
 | nil=>simp [cntI]
 | cons x r ih =>
  rw [List.nodup_cons] at h
  rw [cntI_cons]
  by_cases hx : x = n
  ·subst hx
   rw [if_pos rfl]
   have : cntI r x = 0 := by
    rcases Nat.eq_zero_or_pos (cntI r x) with h0 | h0
    ·exact h0
    ·exact absurd (cntI_pos.1 h0) h.1
   omega
  ·rw [if_neg hx]; have := ih h.2; omega
theorem nodup_len : ∀ {m : Nat} {l : List Int},l.Nodup → (∀ x,x ∈ l → 0 ≤ x ∧ x < (m : Int)) → l.length ≤ m
 | 0,l,_,h=>by
  cases l with
  | nil=>simp
  | cons x r=>have := h x List.mem_cons_self; omega
 | m + 1,l,hn,h=>by
  have h1 := nodup_len (m := m) (l := withoutI l m) (hn.filter _) fun x hx=>by
   obtain ⟨a,b⟩ := without_mem.1 hx
   have := h x a; omega
  have h2 := len_without l m
  have h3 := cnt_nodup hn m
  omega
def acksOf (l : List Ev) : List Int := (l.filter fun e=>decide (e.kind = 1)).map Ev.write
theorem acksOf_app (a b : List Ev) : acksOf (a ++ b) = acksOf a ++ acksOf b := by simp [acksOf]
theorem acksOf_mem {l : List Ev} {w : Int} : w ∈ acksOf l ↔ (⟨1,w⟩ : Ev) ∈ l := by
 unfold acksOf
 simp only [List.mem_map,List.mem_filter,decide_eq_true_eq]
 constructor
 ·rintro ⟨⟨k,x⟩,⟨h1,h2⟩,h3⟩; simp only at h2 h3; subst h2; subst h3; exact h1
 ·intro h; exact ⟨_,⟨h,rfl⟩,rfl⟩
theorem evOk_acks {n : Nat} {l : List Ev} (h : EvOk n l) : (acksOf l).Nodup ∧ (∀ x,x ∈ acksOf l → 0 ≤ x ∧ x < (iss l : Int)) ∧ l.length = iss l + (acksOf l).length := by
 induction h with
 | nil=>exact ⟨List.nodup_nil,by simp [acksOf],rfl⟩
 | snoc l e hl hs ih =>
  obtain ⟨i1,i2,i3⟩ := ih
  rw [acksOf_app,iss_app,iss_one]
  rcases hs with ⟨k1,k2,k3⟩ | ⟨k1,k2,k3,k4⟩
  ·have : acksOf [e] = [] := by unfold acksOf; rw [List.filter_cons,if_neg (by simp [k1])]; rfl
   rw [this,List.append_nil,if_pos k1]
   exact ⟨i1,fun x hx=>by have := i2 x hx; omega,by simp only [List.length_append,List.length_singleton]; omega⟩
  ·have : acksOf [e] = [e.write] := by unfold acksOf; rw [List.filter_cons,if_pos (by simp [k1])]; rfl
   rw [this,if_neg (by omega)]
   refine ⟨?_,fun x hx=>?_,by simp only [List.length_append,List.length_singleton]; omega⟩
   ·rw [List.nodup_append]
    refine ⟨i1,by simp,fun a ha b hb=>?_⟩
    rw [List.mem_singleton] at hb
    subst hb
    intro e'; subst e'
    exact k4 (acksOf_mem.1 ha)
   ·rcases List.mem_append.1 hx with hx | hx
    ·have := i2 x hx; omega
    ·rw [List.mem_singleton.1 hx]; omega
theorem sizes_len {s : List Int} (h : sizesErr s = 0) : s.length ≤ 8 ∧ ∀ x,x ∈ s → 1 ≤ x ∧ x ≤ 4096 := by
 unfold sizesErr at h
 split at h
 ·exact absurd h (by decide)
 ·split at h
  ·exact absurd h (by decide)
  ·rename_i h1 h2
   refine ⟨by omega,fun x hx=>?_⟩
   have h2 : s.any badSize = false := by simpa using h2
   have := List.any_eq_false.1 h2 x hx
   simp only [badSize,Bool.or_eq_true,decide_eq_true_eq,not_or] at this
   omega
theorem fits_data {s : List Int} {w : Wt} (hs : sizesErr s = 0) (h : fitsErr s w = 0) : w.data.length ≤ 4096 := by
 unfold fitsErr at h
 split at h
 ·exact absurd h (by decide)
 ·rename_i h1
  split at h
  ·exact absurd h (by decide)
  ·split at h
   ·exact absurd h (by decide)
   ·rename_i h3
    have hl : w.vol.toNat < s.length := by omega
    have := (sizes_len hs).2 (s.getD w.vol.toNat 0) (by rw [List.getD_eq_getElem?_getD,List.getElem?_eq_getElem hl]; exact List.getElem_mem hl)
    omega
structure GrB (g : Gr) : Prop where
 s : g.hist.sizes.length ≤ 8192
 w : g.hist.writes.length ≤ 8192
 e : g.hist.events.length ≤ 8192
 wt : g.waiting.length ≤ 8192
 hd : g.held.length ≤ 8192
 d : ∀ w,w ∈ g.hist.writes → w.data.length ≤ 4096
theorem hist_b {h : Hist} (hc : (checkH h).1 = 0) : h.sizes.length ≤ 8 ∧ h.writes.length ≤ 4096 ∧ h.events.length ≤ 8192 ∧ ∀ w,w ∈ h.writes → w.data.length ≤ 4096 := by
 obtain ⟨k1,k2,k3,k4,k5⟩ := checkH_iff.1 hc
 obtain ⟨a1,a2,a3⟩ := evOk_acks k4
 have := nodup_len a1 a2
 exact ⟨(sizes_len k1).1,k2,by omega,fun w hw=>fits_data k1 (k3 w hw)⟩
theorem valid_b {g : Gr} (h : openErr g = 0) : GrB g := by
 obtain ⟨hc,h1,h2,h3,h4⟩ := (openErr_iff g).1 h
 obtain ⟨a,b,c,d⟩ := hist_b hc
 have w1 := nodup_len (m := g.hist.writes.length) (l := g.waiting) (h1.imp (by intro a b h; omega)) fun x hx=>h2 x (List.mem_append_left _ hx)
 have w2 := nodup_len (held_free h).1 fun x hx=>((held_free h).2 x hx).1
 exact ⟨by omega,by omega,by omega,by omega,by omega,d⟩
theorem newG_cases (s : List Int) : (newG s).1 = zGr ∧ (newG s).2 ≠ 0 ∨ (newG s).2 = 0 ∧ openErr (newG s).1 = 0 ∧ newG s = ((⟨⟨s,[],[]⟩,[],[],false⟩ : Gr),(0 : Int)) := by
 unfold newG
 by_cases h : sizesErr s ≠ 0
 ·rw [if_pos h]; exact .inl ⟨rfl,h⟩
 ·rw [if_neg h]
  have h : sizesErr s = 0 := by simpa using h
  refine .inr ⟨rfl,?_,rfl⟩
  refine (openErr_iff _).2 ⟨checkH_iff.2 ⟨h,by simp,by simp,.nil,rfl⟩,List.Pairwise.nil,by simp,fun i hi=>by simp at hi,fun h=>absurd rfl h⟩
/-! The acknowledgements. -/
/-! As data. -/
theorem likeG_right {g : Gr} {a b c d e : D} {z : Bool} (h : GrB g) : GrD.Right (GrD.mk (HiD.mk (a.like g.hist.sizes) (b.like g.hist.writes) (c.like g.hist.events)) (d.like g.waiting) (e.like g.held) z) :=
 ⟨like_right ⟨Nat.le_trans h.s (by decide),Nat.le_trans h.w (by decide),Nat.le_trans h.e (by decide),fun w hw=>Nat.le_trans (h.d w hw) (by decide)⟩,D.like_is _ _,D.like_is _ _,by simp only [llen]; exact Nat.le_trans h.wt (by decide),by simp only [llen]; exact Nat.le_trans h.hd (by decide)⟩
theorem likeG_gr {g : Gr} {a b c d e : D} : GrD.gr (GrD.mk (HiD.mk (a.like g.hist.sizes) (b.like g.hist.writes) (c.like g.hist.events)) (d.like g.waiting) (e.like g.held) g.frozen) = g := by
 simp only [GrD.gr,like_hist,D.like_to]
end Sx
end
section
open Go
namespace Sx
structure St where
 kind : Int
 wt : Wt
 which : Int
deriving DecidableEq
instance : Codec St where
 sz := 5
 ok r := ∃ k v s d n,r = [.int .i64 k,.int .i64 v,.int .i64 s,d,.int .i64 n] ∧ d.Is Sec
 dec r := match r with | [.int _ k,.int _ v,.int _ s,d,.int _ n]=>⟨k,⟨v,s,d.to Sec⟩,n⟩ | _=>⟨0,⟨0,0,[]⟩,0⟩
 enc s := [.int .i64 s.kind,.int .i64 s.wt.vol,.int .i64 s.wt.start,encD s.wt.data,.int .i64 s.which]
 ok_enc s := ⟨_,_,_,_,_,rfl,encD_is _⟩
 dec_enc s := by simp only [encD_to]
 len r := by rintro ⟨_,_,_,_,_,rfl,_⟩; rfl
def pickI (n : Int) (m : Nat) : Nat := (max 0 n).toNat % m
def runG (g : Gr) (s : St) : Gr × List Int :=
 if s.kind = 0 then (if (issueG g s.wt).2.2 ≠ 0 then (g,[]) else ((issueG g s.wt).1,[]))
 else if s.kind = 1 then (if g.waiting.length = 0 then (g,[]) else if (durG g (g.waiting.getD (pickI s.which g.waiting.length) 0)).2.2 ≠ 0 then (g,[]) else ((durG g (g.waiting.getD (pickI s.which g.waiting.length) 0)).1,(durG g (g.waiting.getD (pickI s.which g.waiting.length) 0)).2.1))
 else if s.kind = 2 then (if (freezeG g).2.2 ≠ 0 then (g,[]) else ((freezeG g).1,[]))
 else if s.kind = 3 then (if (thawG g).2.2 ≠ 0 then (g,[]) else ((thawG g).1,(thawG g).2.1))
 else (if (recoverG g (firstN (pickI s.which (g.hist.writes.length + 1)))).2.2 ≠ 0 then (g,[]) else ((recoverG g (firstN (pickI s.which (g.hist.writes.length + 1)))).1,(recoverG g (firstN (pickI s.which (g.hist.writes.length + 1)))).2.1))
theorem run_cases (g : Gr) (s : St) (hg : openErr g = 0) : runG g s = (g,[]) ∨
  (s.kind = 0 ∧ (issueG g s.wt).2.2 = 0 ∧ runG g s = ((issueG g s.wt).1,[])) ∨
  (s.kind = 1 ∧ ∃ n,n ∈ g.waiting ∧ (durG g n).2.2 = 0 ∧ runG g s = ((durG g n).1,(durG g n).2.1)) ∨
  (s.kind = 2 ∧ (freezeG g).2.2 = 0 ∧ runG g s = ((freezeG g).1,[])) ∨
  (s.kind = 3 ∧ (thawG g).2.2 = 0 ∧ runG g s = ((thawG g).1,(thawG g).2.1)) ∨
  (s.kind ≠ 0 ∧ s.kind ≠ 1 ∧ s.kind ≠ 2 ∧ s.kind ≠ 3 ∧ ∃ p : Nat,(recoverG g (firstN p)).2.2 = 0 ∧ runG g s = ((recoverG g (firstN p)).1,(recoverG g (firstN p)).2.1)) := by
 unfold runG
 by_cases k0 : s.kind = 0
 ·rw [if_pos k0]
  by_cases h : (issueG g s.wt).2.2 ≠ 0
  ·rw [if_pos h]; exact .inl rfl
  ·rw [if_neg h]; exact .inr (.inl ⟨k0,by simpa using h,rfl⟩)
 ·rw [if_neg k0]
  by_cases k1 : s.kind = 1
  ·rw [if_pos k1]
   by_cases h0 : g.waiting.length = 0
   ·rw [if_pos h0]; exact .inl rfl
   ·rw [if_neg h0]
    have hm : g.waiting.getD (pickI s.which g.waiting.length) 0 ∈ g.waiting := by
     have hl : pickI s.which g.waiting.length < g.waiting.length := Nat.mod_lt _ (by omega)
     rw [getD_lt hl]; exact List.getElem_mem hl
    generalize g.waiting.getD (pickI s.which g.waiting.length) 0 = n at hm ⊢
    by_cases h : (durG g n).2.2 ≠ 0
    ·rw [if_pos h]; exact .inl rfl
    ·rw [if_neg h]; exact .inr (.inr (.inl ⟨k1,n,hm,by simpa using h,rfl⟩))
  ·rw [if_neg k1]
   by_cases k2 : s.kind = 2
   ·rw [if_pos k2]
    by_cases h : (freezeG g).2.2 ≠ 0
    ·rw [if_pos h]; exact .inl rfl
    ·rw [if_neg h]; exact .inr (.inr (.inr (.inl ⟨k2,by simpa using h,rfl⟩)))
   ·rw [if_neg k2]
    by_cases k3 : s.kind = 3
    ·rw [if_pos k3]
     by_cases h : (thawG g).2.2 ≠ 0
     ·rw [if_pos h]; exact .inl rfl
     ·rw [if_neg h]; exact .inr (.inr (.inr (.inr (.inl ⟨k3,by simpa using h,rfl⟩))))
    ·rw [if_neg k3]
     generalize pickI s.which (g.hist.writes.length + 1) = p
     by_cases h : (recoverG g (firstN p)).2.2 ≠ 0
     ·rw [if_pos h]; exact .inl rfl
     ·rw [if_neg h]; exact .inr (.inr (.inr (.inr (.inr ⟨k0,k1,k2,k3,p,by simpa using h,rfl⟩))))
theorem run_valid {g : Gr} {s : St} (hg : openErr g = 0) : openErr (runG g s).1 = 0 := by
 rcases run_cases g s hg with h | ⟨_,h0,h⟩ | ⟨_,n,_,h0,h⟩ | ⟨_,h0,h⟩ | ⟨_,h0,h⟩ | ⟨_,_,_,_,p,h0,h⟩
 ·rw [h]; exact hg
 ·rw [h]; exact (issue_ok h0).1
 ·rw [h]; rw [durG_ref] at h0 ⊢; exact (durR_ok h0).1
 ·rw [h]; exact (frz_ok h0).1
 ·rw [h]; exact (thaw_ok h0).1
 ·rw [h]; exact (rec_ok h0).1
theorem acksOf_map (l : List Int) : acksOf (l.map (Ev.mk 1)) = l := by
 unfold acksOf
 rw [List.filter_eq_self.2 (by intro e he; obtain ⟨x,_,rfl⟩ := List.mem_map.1 he; rfl),List.map_map]
 conv=>rhs; rw [← List.map_id l]
 rfl
theorem acksOf_one0 (n : Int) : acksOf [⟨0,n⟩] = [] := rfl
theorem acksOf_one1 (n : Int) : acksOf [⟨1,n⟩] = [n] := rfl
theorem durG_eq {g : Gr} {n : Int} (hg : openErr g = 0) (hn : n ∈ g.waiting) : durG g n = if g.frozen = true then ((⟨g.hist,withoutI g.waiting n,g.held ++ [n],true⟩ : Gr),([] : List Int),(0 : Int)) else ((⟨⟨g.hist.sizes,g.hist.writes,g.hist.events ++ [⟨1,n⟩]⟩,withoutI g.waiting n,g.held,false⟩ : Gr),[n],(0 : Int)) := by
 rw [durG_ref]
 unfold durR
 rw [if_neg (by simp [hg]),if_neg (by rw [mem_contains]; simpa using hn)]
 obtain ⟨a,b,_⟩ := wait_free hg hn
 rw [ackH_go ((openErr_iff g).1 hg).1 a b]
theorem run_acks {g : Gr} {s : St} (hg : openErr g = 0) : acksOf (runG g s).1.hist.events = acksOf g.hist.events ++ (runG g s).2 := by
 rcases run_cases g s hg with h | ⟨_,h0,h⟩ | ⟨_,n,hn,h0,h⟩ | ⟨_,h0,h⟩ | ⟨_,h0,h⟩ | ⟨_,_,_,_,p,h0,h⟩
 ·rw [h]; simp
 ·rw [h,(issue_ok h0).2.2]; simp only [acksOf_app,acksOf_one0]
 ·rw [h,durG_eq hg hn]
  cases g.frozen with
  | true=>simp
  | false=>simp [acksOf_app,acksOf_one1]
 ·rw [h,(frz_ok h0).2.2.2]; simp
 ·rw [h,(thaw_ok h0).2.2.2]; simp only [acksOf_app,acksOf_map]
 ·obtain ⟨_,_,h2,h3,h4,e⟩ := rec_ok h0
  rw [h,e]
  simp only [recHist,acksOf_app,acksOf_map]
  congr 1
  have hc := ((openErr_iff g).1 hg).1
  rw [firstN_len] at h2 h4 ⊢
  unfold acksOf
  rw [List.filter_filter]
  congr 1
  apply List.filter_congr
  intro x hx
  cases hk : decide (x.kind = 1) with
  | false=>simp
  | true =>
   have hk := of_decide_eq_true hk
   have := checkH_in hc x hx
   have hlt : ¬x.write ≥ (p : Int) := fun hge=>by
    refine h4 x.write.toNat (by omega) (by omega) ?_
    rw [atEv_mem,Int.toNat_of_nonneg this.2.1]
    obtain ⟨k,w⟩ := x
    simp only at hk; subst hk; exact hx
   simp [hlt]
theorem run_writes {g : Gr} {s : St} (hg : openErr g = 0) : (s.kind = 0 → (runG g s).1.hist.writes.length = g.hist.writes.length ∨ (runG g s).1.hist.writes.length = g.hist.writes.length + 1) ∧
  (0 < s.kind → s.kind < 4 → (runG g s).1.hist.writes.length = g.hist.writes.length) := by
 rcases run_cases g s hg with h | ⟨k,h0,h⟩ | ⟨k,n,hn,h0,h⟩ | ⟨k,h0,h⟩ | ⟨k,h0,h⟩ | ⟨k0,k1,k2,k3,p,h0,h⟩
 ·rw [h]; exact ⟨fun _=>.inl rfl,fun _ _=>rfl⟩
 ·rw [h,(issue_ok h0).2.2]; exact ⟨fun _=>.inr (by simp),fun h1=>by omega⟩
 ·rw [h,durG_eq hg hn]
  refine ⟨fun h1=>by omega,fun _ _=>?_⟩
  cases g.frozen <;> simp
 ·rw [h,(frz_ok h0).2.2.2]; exact ⟨fun _=>.inl rfl,fun _ _=>rfl⟩
 ·rw [h,(thaw_ok h0).2.2.2]; exact ⟨fun _=>.inl rfl,fun _ _=>rfl⟩
 ·exact ⟨fun h1=>absurd h1 k0,fun h1 h2=>by omega⟩
theorem all_once : ∀ {n : Nat} {l : List Int},(∀ x,x ∈ l → 0 ≤ x ∧ x < (n : Int)) → (∀ i : Nat,i < n → cntI l (i : Int) = 1) → l.length = n
 | 0,l,h,_=>by
  cases l with
  | nil=>rfl
  | cons x r=>have := h x List.mem_cons_self; omega
 | n + 1,l,h,hc=>by
  have h1 := all_once (n := n) (l := withoutI l n) (fun x hx=>by
   obtain ⟨a,b⟩ := without_mem.1 hx
   have := h x a; omega) (fun i hi=>by rw [cntI_without,if_neg (by omega)]; exact hc i (by omega))
  have h2 := len_without l n
  have h3 := hc n (by omega)
  omega
theorem cnt_acks {l : List Ev} (h : (acksOf l).Nodup) (n : Int) : cntI (acksOf l) n = if (⟨1,n⟩ : Ev) ∈ l then 1 else 0 := by
 have h1 := cnt_nodup h n
 by_cases hm : (⟨1,n⟩ : Ev) ∈ l
 ·rw [if_pos hm]
  have := cntI_pos.2 (acksOf_mem.2 hm); omega
 ·rw [if_neg hm]
  rcases Nat.eq_zero_or_pos (cntI (acksOf l) n) with h0 | h0
  ·exact h0
  ·exact absurd (acksOf_mem.1 (cntI_pos.1 h0)) hm
theorem all_accounted {g : Gr} (hg : openErr g = 0) : g.waiting.length + g.held.length + (acksOf g.hist.events).length = g.hist.writes.length := by
 obtain ⟨hc,h1,h2,h3,h4⟩ := (openErr_iff g).1 hg
 obtain ⟨k1,k2,k3,k4,k5⟩ := checkH_iff.1 hc
 obtain ⟨a1,a2,a3⟩ := evOk_acks k4
 have := all_once (n := g.hist.writes.length) (l := g.waiting ++ g.held ++ acksOf g.hist.events) (fun x hx=>by
  rcases List.mem_append.1 hx with hx | hx
  ·exact h2 x hx
  ·have := a2 x hx; omega) (fun i hi=>by rw [cntI_app,cntI_app,cnt_acks a1]; exact h3 i hi)
 simp only [List.length_append] at this
 omega
theorem run_frozen {g : Gr} {s : St} (hg : openErr g = 0) (hf : g.frozen = true) (hk : s.kind = 0 ∨ s.kind = 1) : (runG g s).2 = [] ∧ (runG g s).1.frozen = true ∧ (runG g s).1.held = g.held ++ g.waiting.filter fun w=>!(runG g s).1.waiting.contains w := by
 have same : ∀ l : List Int,(∀ w,w ∈ g.waiting → w ∈ l) → (g.waiting.filter fun w=>!l.contains w) = [] := fun l h=>by
  rw [List.filter_eq_nil_iff]
  intro w hw
  have := contains_iff.2 (h w hw)
  simp [this]
  exact h w hw
 rcases run_cases g s hg with h | ⟨k,h0,h⟩ | ⟨k,n,hn,h0,h⟩ | ⟨k,h0,h⟩ | ⟨k,h0,h⟩ | ⟨k0,k1,k2,k3,p,h0,h⟩
 ·rw [h]; exact ⟨rfl,hf,by simp only; rw [same _ fun w hw=>hw,List.append_nil]⟩
 ·rw [h,(issue_ok h0).2.2]
  exact ⟨rfl,hf,by simp only; rw [same _ fun w hw=>List.mem_append_left _ hw,List.append_nil]⟩
 ·rw [h,durG_eq hg hn,if_pos hf]
  refine ⟨rfl,rfl,?_⟩
  simp only
  congr 1
  have hp := ((openErr_iff g).1 hg).2.1
  obtain ⟨_,_,hc,_⟩ := wait_free hg hn
  have e : (g.waiting.filter fun w=>!(withoutI g.waiting n).contains w) = g.waiting.filter fun w=>decide (w = n) := by
   apply List.filter_congr
   intro w hw
   by_cases e : w = n
   ·subst e
    have : (withoutI g.waiting w).contains w = false := by rw [mem_contains,without_mem]; simp
    rw [this]; simp
   ·have : (withoutI g.waiting n).contains w = true := by rw [contains_iff,without_mem]; exact ⟨hw,e⟩
    rw [this]; simp [e]
  rw [e]
  have gen : ∀ l : List Int,(l.filter fun w=>decide (w = n)) = List.replicate (cntI l n) n := by
   intro l
   induction l with
   | nil=>rfl
   | cons x r ih =>
    rw [List.filter_cons,cntI_cons]
    by_cases hx : x = n
    ·subst hx; rw [if_pos (by simp),if_pos rfl,ih,Nat.add_comm,List.replicate_succ]
    ·rw [if_neg (by simp [hx]),if_neg hx,ih,Nat.zero_add]
  rw [gen,hc]; rfl
 ·omega
 ·omega
 ·omega
end Sx
end
section
open Go
namespace Sx
abbrev tsStp : List TS := [tsJ,.st tsWt,tsJ]
theorem sh_stp {ds : List D} (h : TS.ShL tsStp ds) : ∃ k v s d n,ds = [.int .i64 k,.int .i64 v,.int .i64 s,d,.int .i64 n] ∧ d.Is Sec := by
 simp only [tsStp,TS.ShL] at h
 obtain ⟨_,_,rfl,h1,_,_,rfl,h2,_,_,rfl,h3,rfl⟩ := h
 obtain ⟨k,rfl⟩ := shJ h1
 obtain ⟨v,s,d,rfl,i1,_⟩ := sh_wt (by simpa only [TS.Sh] using h2)
 obtain ⟨n,rfl⟩ := shJ h3
 exact ⟨k,v,s,d,n,rfl,i1⟩
theorem shSts {d : D} (h : TS.Sh (.slc (.st tsStp)) [d]) : d.Is St ∧ d.IsSlc ∧ d.len ≤ maxLen :=
 shSl rfl (fun r hr=>by
  obtain ⟨k,v,s,d,n,rfl,h⟩ := sh_stp (by simpa only [TS.Sh] using hr)
  exact ⟨_,_,_,_,_,rfl,h⟩) h
end Sx
end
section
open Go Go.Proofs Sx
namespace Go.Proofs.Ytodhhmjilnfecaa
set_option maxRecDepth 100000
set_option maxHeartbeats 0
section
variable (n j : Int) (d e a b : D) (v s : Int)
theorem cf_in : exec Try.prog [] 200 (entry Try.prog 71 [.dat d,.fn 109 [] []]) =
 Tree.leaf
 (Conf.mk
 (SFrm.mk 71 none none
 [Item.inLoop (cAt Try.prog 71 [1,0,1,0,0]),Item.inBlock 0,Item.code (cAt Try.prog 71 [1,1])]
 (mkJ 0
 [(0,.dat d),(1,SV.fn 109 [] []),(7,.int .i64 (↑(D.len d) : Int)),(8,.int .i64 0)] 0
 19))
 [] []) := by kernel_rfl

theorem mp_in : exec Try.prog [] 200 (entry Try.prog 98 [.dat d,.fn 99 [] []]) =
 Tree.need
 ((0 : Int) ≤ 0 ∧
 0 ≤ (↑(D.len d) : Int) ∧
 (↑24 : Int) * (↑(D.len d) : Int) ≤ 281474976710656 ∧ (↑(D.len d) : Int) ≤ 9223372036854775807)
 (.all fun hs =>
 .leaf
 (Conf.mk
 (SFrm.mk 98 none none
 [Item.inLoop (cAt Try.prog 98 [1,1,0,1,0,0]),Item.inBlock 0,Item.code (cAt Try.prog 98 [1,1,1])]
 (mkJ 0
 [(1,SV.fn 99 [] []),(5,.vec 0),(11,.dat d),(12,.int .i64 (↑(D.len d) : Int)),
 (13,.int .i64 0)]
 0 25))
 [] [(0,OBlk.arr 29 (D.slc (D.hd (hs 0 0)) 1 (List.replicate 0 [D.slc none 0 []])))])) := by kernel_rfl

theorem ms_in : exec Try.prog [] 200 (entry Try.prog 113 [.dat d,.fn 114 [] []]) =
 Tree.need
 ((0 : Int) ≤ 0 ∧
 0 ≤ (↑(D.len d) : Int) ∧
 (↑8 : Int) * (↑(D.len d) : Int) ≤ 281474976710656 ∧ (↑(D.len d) : Int) ≤ 9223372036854775807)
 (.all fun hs =>
 .leaf
 (Conf.mk
 (SFrm.mk 113 none none
 [Item.inLoop (cAt Try.prog 113 [1,1,0,1,0,0]),Item.inBlock 0,Item.code (cAt Try.prog 113 [1,1,1])]
 (mkJ 0
 [(1,SV.fn 114 [] []),(5,.vec 0),(11,.dat d),(12,.int .i64 (↑(D.len d) : Int)),
 (13,.int .i64 0)]
 0 25))
 [] [(0,OBlk.arr 3 (D.slc (D.hd (hs 0 0)) 1 (List.replicate 0 [D.int .i64 0])))])) := by kernel_rfl

theorem ft_in : exec Try.prog [] 200 (entry Try.prog 103 [.dat d,.agg [.int .i64 v,.int .i64 s,.dat e]]) =
 Tree.br (decide (v < 0)) (.ret (.int .i64 7))
 (.br (decide (v ≥ (↑(D.len d) : Int))) (.ret (.int .i64 7))
 (.br (decide ((↑(D.len e) : Int) = 0)) (.ret (.int .i64 1))
 (.all fun hs =>
 .br (decide (s < 0))
 (.need (decide (s < 0) = true)
 (.need (decide (s < 0) = true)
 (.need (decide (s < 0) = true)
 (.need (decide (s < 0) = true)
 (.need (decide (s < 0) = true)
 (.need (decide (s < 0) = true)
 (.need (decide (s < 0) = true)
 (.need (decide (s < 0) = true)
 (.need (decide (s < 0) = true)
 (.need (decide (s < 0) = true)
 (.need (decide (s < 0) = true)
 (.need (decide (s < 0) = true)
 (.need (decide (s < 0) = true)
 (.need (decide (s < 0) = true) (.ret (.int .i64 2))))))))))))))))
 (.need (decide (s < 0) = false)
 (.need (decide (s < 0) = false)
 (.need (decide (s < 0) = false)
 (.need (decide (s < 0) = false)
 (.need (decide (s < 0) = false)
 (.need (decide (s < 0) = false)
 (.need (0 ≤ v ∧ v < (↑(D.len d) : Int) ∧ D.sz d = 1)
 (.need (decide (s < 0) = false)
 (.need (D.HasCell d (Int.toNat v) 0 FT.slc)
 (.need (decide (s < 0) = false)
 (.need (decide (s < 0) = false)
 (.need (decide (s < 0) = false)
 (.need (decide (s < 0) = false)
 (.need (decide (s < 0) = false)
 (.need (decide (s < 0) = false)
 (.need (decide (s < 0) = false)
 (.br
 (decide
 (s >
 IntKind.wrap .i64
 ((↑(D.len (D.cell d (Int.toNat v) 0)) : Int) - (↑(D.len e) : Int))))
 (.ret (.int .i64 2))
 (.ret (.int .i64 0)))))))))))))))))))))) := by kernel_rfl

theorem rs_in : exec Try.prog [] 200 (entry Try.prog 94 [.dat d]) =
 Tree.br (decide ((↑(D.len d) : Int) < 1)) (.ret (.int .i64 6))
 (.br (decide ((↑(D.len d) : Int) > 8)) (.ret (.int .i64 6))
 (.leaf
 (Conf.mk
 (SFrm.mk 94 none none
 [Item.inLoop (cAt Try.prog 94 [1,1,0,1,0,0]),Item.inBlock 0,Item.code (cAt Try.prog 94 [1,1,1])]
 (mkJ 0 [(0,.dat d),(3,.int .i64 0)] 0 30))
 [] []))) := by kernel_rfl

theorem rf_in : exec Try.prog [] 200 (entry Try.prog 84 [.dat d,.agg [.int .i64 v,.int .i64 s,.dat e]]) =
 Tree.br (decide (v < 0)) (.ret (.int .i64 7))
 (.br (decide (v ≥ (↑(D.len d) : Int))) (.ret (.int .i64 7))
 (.br (decide ((↑(D.len e) : Int) = 0)) (.ret (.int .i64 1))
 (.all fun hs =>
 .br (decide (s < 0))
 (.need (decide (s < 0) = true)
 (.need (decide (s < 0) = true)
 (.need (decide (s < 0) = true)
 (.need (decide (s < 0) = true)
 (.need (decide (s < 0) = true)
 (.need (decide (s < 0) = true)
 (.need (decide (s < 0) = true)
 (.need (decide (s < 0) = true)
 (.need (decide (s < 0) = true) (.ret (.int .i64 2)))))))))))
 (.br (decide (s ≥ D.getInt d (Int.toNat v) 0))
 (.need (decide (s < 0) = false)
 (.need (decide (s < 0) = false)
 (.need (decide (s < 0) = false)
 (.need (decide (s < 0) = false)
 (.need (decide (s < 0) = false)
 (.need (decide (s < 0) = false)
 (.need (0 ≤ v ∧ v < (↑(D.len d) : Int) ∧ D.sz d = 1)
 (.need (decide (s < 0) = false)
 (.need (D.HasCell d (Int.toNat v) 0 (FT.int .i64))
 (.need (decide (s < 0) = false)
 (.need (decide (s < 0) = false)
 (.need (decide (s ≥ D.getInt d (Int.toNat v) 0) = true)
 (.need (decide (s ≥ D.getInt d (Int.toNat v) 0) = true)
 (.need (decide (s ≥ D.getInt d (Int.toNat v) 0) = true)
 (.need (decide (s ≥ D.getInt d (Int.toNat v) 0) = true)
 (.need (decide (s ≥ D.getInt d (Int.toNat v) 0) = true)
 (.need (decide (s ≥ D.getInt d (Int.toNat v) 0) = true)
 (.need (decide (s ≥ D.getInt d (Int.toNat v) 0) = true)
 (.need (decide (s ≥ D.getInt d (Int.toNat v) 0) = true)
 (.need (decide (s ≥ D.getInt d (Int.toNat v) 0) = true)
 (.need (decide (s ≥ D.getInt d (Int.toNat v) 0) = true)
 (.need (decide (s ≥ D.getInt d (Int.toNat v) 0) = true)
 (.need (decide (s ≥ D.getInt d (Int.toNat v) 0) = true)
 (.need (decide (s ≥ D.getInt d (Int.toNat v) 0) = true)
 (.ret (.int .i64 2))))))))))))))))))))))))))
 (.need (decide (s < 0) = false)
 (.need (decide (s < 0) = false)
 (.need (decide (s < 0) = false)
 (.need (decide (s < 0) = false)
 (.need (decide (s < 0) = false)
 (.need (decide (s < 0) = false)
 (.need (0 ≤ v ∧ v < (↑(D.len d) : Int) ∧ D.sz d = 1)
 (.need (decide (s < 0) = false)
 (.need (D.HasCell d (Int.toNat v) 0 (FT.int .i64))
 (.need (decide (s < 0) = false)
 (.need (decide (s < 0) = false)
 (.need (decide (s ≥ D.getInt d (Int.toNat v) 0) = false)
 (.need (decide (s ≥ D.getInt d (Int.toNat v) 0) = false)
 (.need (decide (s ≥ D.getInt d (Int.toNat v) 0) = false)
 (.need (decide (s ≥ D.getInt d (Int.toNat v) 0) = false)
 (.need (decide (s ≥ D.getInt d (Int.toNat v) 0) = false)
 (.need (decide (s ≥ D.getInt d (Int.toNat v) 0) = false)
 (.need (decide (s ≥ D.getInt d (Int.toNat v) 0) = false)
 (.need (0 ≤ v ∧ v < (↑(D.len d) : Int) ∧ D.sz d = 1)
 (.need (decide (s ≥ D.getInt d (Int.toNat v) 0) = false)
 (.need (D.HasCell d (Int.toNat v) 0 (FT.int .i64))
 (.need (decide (s ≥ D.getInt d (Int.toNat v) 0) = false)
 (.need (decide (s ≥ D.getInt d (Int.toNat v) 0) = false)
 (.need (decide (s ≥ D.getInt d (Int.toNat v) 0) = false)
 (.need (decide (s ≥ D.getInt d (Int.toNat v) 0) = false)
 (.need
 (decide (s ≥ D.getInt d (Int.toNat v) 0) = false)
 (.br
 (decide
 ((↑(D.len e) : Int) >
 IntKind.wrap .i64
 (D.getInt d (Int.toNat v) 0 - s)))
 (.ret (.int .i64 2))
 (.ret
 (.int .i64
 0))))))))))))))))))))))))))))))))) := by kernel_rfl

end
end Go.Proofs.Ytodhhmjilnfecaa
end
section
open Go Go.Proofs Sx
namespace Go.Proofs.Ytodhhmjilnfecaa
set_option maxRecDepth 100000
set_option maxHeartbeats 0
noncomputable def cfL (d : D) (j : Int) : Conf := Conf.mk (SFrm.mk 71 none none [Item.inLoop (cAt Try.prog 71 [1,0,1,0,0]),Item.inBlock 0,Item.code (cAt Try.prog 71 [1,1])]
 (mkJ 0 [(0,.dat d),(1,.fn 109 [] []),(7,.int .i64 d.len),(8,.int .i64 j)] 0 19)) [] []
noncomputable def mpL (d o : D) (j : Int) : Conf := Conf.mk (SFrm.mk 98 none none [Item.inLoop (cAt Try.prog 98 [1,1,0,1,0,0]),Item.inBlock 0,Item.code (cAt Try.prog 98 [1,1,1])]
 (mkJ 0 [(1,.fn 99 [] []),(5,.vec 0),(11,.dat d),(12,.int .i64 d.len),(13,.int .i64 j)] 0 25)) [] [(0,.arr 29 o)]
noncomputable def msL (d o : D) (j : Int) : Conf := Conf.mk (SFrm.mk 113 none none [Item.inLoop (cAt Try.prog 113 [1,1,0,1,0,0]),Item.inBlock 0,Item.code (cAt Try.prog 113 [1,1,1])]
 (mkJ 0 [(1,.fn 114 [] []),(5,.vec 0),(11,.dat d),(12,.int .i64 d.len),(13,.int .i64 j)] 0 25)) [] [(0,.arr 3 o)]
noncomputable def rsL (d : D) (j : Int) : Conf := Conf.mk (SFrm.mk 94 none none [Item.inLoop (cAt Try.prog 94 [1,1,0,1,0,0]),Item.inBlock 0,Item.code (cAt Try.prog 94 [1,1,1])]
 (mkJ 0 [(0,.dat d),(3,.int .i64 j)] 0 30)) [] []
section
variable (n j : Int) (d e a b o : D) (v s : Int)
theorem cf_go : exec Try.prog [] 200 (unroll (cfL d j)) =
 Tree.br (decide (j < (↑(D.len d) : Int)))
 (.need (0 ≤ j ∧ j < (↑(D.len d) : Int) ∧ D.sz d = 1)
 (.need (D.HasCell d (Int.toNat j) 0 (FT.int .i64))
 (.br (decide (D.getInt d (Int.toNat j) 0 < 1)) (.ret (.int .i64 j))
 (.br (decide (D.getInt d (Int.toNat j) 0 > 4096)) (.ret (.int .i64 j))
 (.leaf
 (Conf.mk
 (SFrm.mk 71 none none
 [Item.inLoop (cAt Try.prog 71 [1,0,1,0,0]),Item.inBlock 0,Item.code (cAt Try.prog 71 [1,1])]
 (mkJ 0
 [(0,.dat d),(1,SV.fn 109 [] []),(7,.int .i64 (↑(D.len d) : Int)),
 (8,.int .i64 (IntKind.wrap .i64 (j + 1)))]
 0 19))
 [] []))))))
 (.ret (.int .i64 (Int.neg 1))) := by kernel_rfl

theorem mp_go : exec Try.prog [] 200 (unroll (mpL d o j)) =
 Tree.br (decide (j < (↑(D.len d) : Int)))
 (.need (0 ≤ j ∧ j < (↑(D.len d) : Int) ∧ D.sz d = 1)
 (.need (D.HasCell d (Int.toNat j) 0 (FT.int .i64))
 (.need
 (0 ≤ D.getInt d (Int.toNat j) 0 ∧
 D.getInt d (Int.toNat j) 0 = D.getInt d (Int.toNat j) 0 ∧
 (↑8 : Int) * D.getInt d (Int.toNat j) 0 ≤ 281474976710656 ∧
 D.getInt d (Int.toNat j) 0 ≤ 9223372036854775807)
 (.all fun hs =>
 .all fun hs_1 =>
 .need
 (D.sz o = 1 ∧
 D.Fits
 (D.slc (D.hd (hs_1 0 0)) 1
 [[D.slc (D.hd (hs 0 0)) 8
 (List.replicate (Int.toNat (D.getInt d (Int.toNat j) 0))
 [D.int .u8 0,D.int .u8 0,D.int .u8 0,D.int .u8 0,
 D.int .u8 0,D.int .u8 0,D.int .u8 0,D.int .u8 0])]])
 1 ∧
 (D.len o +
 D.len
 (D.slc (D.hd (hs_1 0 0)) 1
 [[D.slc (D.hd (hs 0 0)) 8
 (List.replicate (Int.toNat (D.getInt d (Int.toNat j) 0))
 [D.int .u8 0,D.int .u8 0,D.int .u8 0,D.int .u8 0,
 D.int .u8 0,D.int .u8 0,D.int .u8 0,
 D.int .u8 0])]])) *
 24 ≤
 140737488355328 ∧
 D.len o +
 D.len
 (D.slc (D.hd (hs_1 0 0)) 1
 [[D.slc (D.hd (hs 0 0)) 8
 (List.replicate (Int.toNat (D.getInt d (Int.toNat j) 0))
 [D.int .u8 0,D.int .u8 0,D.int .u8 0,D.int .u8 0,
 D.int .u8 0,D.int .u8 0,D.int .u8 0,
 D.int .u8 0])]]) ≤
 9223372036854775807)
 (.all fun hs_2 =>
 .leaf
 (Conf.mk
 (SFrm.mk 98 none none
 [Item.inLoop (cAt Try.prog 98 [1,1,0,1,0,0]),Item.inBlock 0,
 Item.code (cAt Try.prog 98 [1,1,1])]
 (mkJ 0
 [(1,SV.fn 99 [] []),(5,.vec 0),(11,.dat d),
 (12,.int .i64 (↑(D.len d) : Int)),
 (13,.int .i64 (IntKind.wrap .i64 (j + 1)))]
 0 25))
 []
 [(0,
 OBlk.arr 29
 (D.slc (D.hd (hs_2 0 0)) 1
 (List.append (D.rows o)
 (D.rows
 (D.slc (D.hd (hs_1 0 0)) 1
 [[D.slc (D.hd (hs 0 0)) 8
 (List.replicate (Int.toNat (D.getInt d (Int.toNat j) 0))
 [D.int .u8 0,D.int .u8 0,D.int .u8 0,
 D.int .u8 0,D.int .u8 0,D.int .u8 0,
 D.int .u8 0,D.int .u8 0])]])))))]))))))
 (.ret (.dat o)) := by kernel_rfl

theorem ms_go : exec Try.prog [] 200 (unroll (msL d o j)) =
 Tree.br (decide (j < (↑(D.len d) : Int)))
 (.need (0 ≤ j ∧ j < (↑(D.len d) : Int) ∧ D.sz d = 1)
 (.need (D.HasCell d (Int.toNat j) 0 FT.slc)
 (.all fun hs =>
 .need
 (D.sz o = 1 ∧
 D.Fits (D.slc (D.hd (hs 0 0)) 1 [[D.int .i64 (↑(D.len (D.cell d (Int.toNat j) 0)) : Int)]]) 1 ∧
 (D.len o +
 D.len
 (D.slc (D.hd (hs 0 0)) 1 [[D.int .i64 (↑(D.len (D.cell d (Int.toNat j) 0)) : Int)]])) *
 8 ≤
 140737488355328 ∧
 D.len o +
 D.len (D.slc (D.hd (hs 0 0)) 1 [[D.int .i64 (↑(D.len (D.cell d (Int.toNat j) 0)) : Int)]]) ≤
 9223372036854775807)
 (.all fun hs_1 =>
 .leaf
 (Conf.mk
 (SFrm.mk 113 none none
 [Item.inLoop (cAt Try.prog 113 [1,1,0,1,0,0]),Item.inBlock 0,
 Item.code (cAt Try.prog 113 [1,1,1])]
 (mkJ 0
 [(1,SV.fn 114 [] []),(5,.vec 0),(11,.dat d),(12,.int .i64 (↑(D.len d) : Int)),
 (13,.int .i64 (IntKind.wrap .i64 (j + 1)))]
 0 25))
 []
 [(0,
 OBlk.arr 3
 (D.slc (D.hd (hs_1 0 0)) 1
 (List.append (D.rows o)
 (D.rows
 (D.slc (D.hd (hs 0 0)) 1
 [[D.int .i64 (↑(D.len (D.cell d (Int.toNat j) 0)) : Int)]])))))])))))
 (.ret (.dat o)) := by kernel_rfl

theorem rs_go : exec Try.prog [] 200 (unroll (rsL d j)) =
 Tree.br (decide (j < (↑(D.len d) : Int)))
 (.need (0 ≤ j ∧ j < (↑(D.len d) : Int) ∧ D.sz d = 1)
 (.need (D.HasCell d (Int.toNat j) 0 (FT.int .i64))
 (.br (decide (D.getInt d (Int.toNat j) 0 < 1)) (.ret (.int .i64 2))
 (.need (0 ≤ j ∧ j < (↑(D.len d) : Int) ∧ D.sz d = 1)
 (.need (D.HasCell d (Int.toNat j) 0 (FT.int .i64))
 (.br (decide (D.getInt d (Int.toNat j) 0 > 4096)) (.ret (.int .i64 2))
 (.leaf
 (Conf.mk
 (SFrm.mk 94 none none
 [Item.inLoop (cAt Try.prog 94 [1,1,0,1,0,0]),Item.inBlock 0,
 Item.code (cAt Try.prog 94 [1,1,1])]
 (mkJ 0 [(0,.dat d),(3,.int .i64 (IntKind.wrap .i64 (j + 1)))] 0 30))
 [] []))))))))
 (.ret (.int .i64 0)) := by kernel_rfl

end
end Go.Proofs.Ytodhhmjilnfecaa
end
section
open Go Go.Proofs Sx
namespace Go.Proofs.Ytodhhmjilnfecaa
set_option maxRecDepth 100000

theorem lawIdx : Law Try.prog 71 ((rdD.two (rdFn 109)).sp spIdxBad) := by
 refine law_in _ (by kernel_rfl) fun H w ⟨d,u⟩ hok hp=>?_
 obtain ⟨hd,hlen⟩ := hp _ (List.mem_singleton.2 rfl)
 simp only at hd hlen
 rw [D.Is.length (α := Int)] at hlen
 apply exec_sound (noCtr _) 200
 rw [show (rdD.two (rdFn 109)).canon (d,u) = [.dat d,.fn 109 [] []] from rfl,cf_in]
 refine runs_loop (fun j : Nat=>cfL d j) (fun j=>j ≤ (d.to Int).length ∧ ((d.to Int).take j).findIdx? badSize = none) (fun j=>(d.to Int).length - j) (fun _=>rfl) ?_ 0 ⟨Nat.zero_le _,by simp⟩
 intro j ⟨hj,hpre⟩ ih
 apply exec_sound (noCtr _) 200
 rw [cf_go]
 have hl := D.Is.length (α := Int) d
 have found : ∀ hc : j < (d.to Int).length,badSize (d.to Int)[j] = true → (d.to Int).findIdx? badSize = some j := by
  intro hc hb
  rw [List.findIdx?_eq_some_iff_getElem]
  refine ⟨hc,hb,fun i hi=>?_⟩
  rw [List.findIdx?_eq_none_iff] at hpre
  have := hpre (d.to Int)[i] (List.mem_take_iff_getElem.2 ⟨i,by omega,rfl⟩)
  simp [this]
 refine ⟨fun hc=>?_,fun hc=>?_⟩
 ·simp [hl] at hc
  obtain ⟨c1,c2,c3⟩ := int_at hd hc
  rw [c3]
  refine ⟨c1,c2,fun hc2=>ret_int ?_,fun hc2=>⟨fun hc3=>ret_int ?_,fun hc3=>?_⟩⟩
  ·simp only [idxP,found hc (by simp [badSize,hc2])]
  ·simp only [idxP,found hc (by simp [badSize,hc3])]
  ·have := ih (j + 1) ⟨hc,by rw [List.take_succ_eq_append_getElem hc,List.findIdx?_append,hpre]; simp at hc2 hc3; simp [badSize]; omega⟩ (by omega)
   rw [← wrap_succ hc hlen] at this
   exact this
 ·simp [hl] at hc
  have : j = (d.to Int).length := by omega
  subst this
  rw [List.take_length] at hpre
  exact ret_int (by simp only [idxP,hpre]; rfl)

theorem lawMapN : Law Try.prog 98 ((rdD.two (rdFn 99)).sp spMapN) := by
 refine law_in _ (by kernel_rfl) fun H w ⟨d,u⟩ hok hp=>?_
 obtain ⟨hd,hlen,hn⟩ := hp _ (List.mem_singleton.2 rfl)
 simp only at hd hlen hn
 have hl := D.Is.length (α := Int) d
 apply exec_sound (noCtr _) 200
 rw [show (rdD.two (rdFn 99)).canon (d,u) = [.dat d,.fn 99 [] []] from rfl,mp_in]
 refine ⟨⟨by omega,by omega,by omega,by omega⟩,fun hs=>?_⟩
 refine runs_loop (fun p : D × Nat=>mpL d p.1 p.2) (fun p=>p.2 ≤ (d.to Int).length ∧ p.1.Is Vol ∧ p.1.sz = 1 ∧ p.1.to Vol = ((d.to Int).take p.2).map volOf) (fun p=>(d.to Int).length - p.2) (fun _=>rfl) ?_
  (.slc (D.hd (hs 0 0)) 1 [],0) ⟨Nat.zero_le _,is_nil _ _,rfl,rfl⟩
 intro ⟨o,j⟩ ⟨hj,ho,hz,hto⟩ ih
 simp only at hj ho hz hto
 have hol := D.Is.length (α := Vol) o
 rw [hto] at hol
 simp only [List.length_map,List.length_take] at hol
 apply exec_sound (noCtr _) 200
 rw [mp_go]
 refine ⟨fun hc=>?_,fun hc=>?_⟩
 ·simp [hl] at hc
  obtain ⟨c1,c2,c3⟩ := int_at hd hc
  have hb := hn _ (List.getElem_mem hc)
  rw [c3]
  refine ⟨c1,c2,⟨hb.1,rfl,by omega,by omega⟩,fun hs1 hs2=>⟨⟨hz,.inr rfl,by simp only [len_slc,List.length_cons,List.length_nil]; omega,by simp only [len_slc,List.length_cons,List.length_nil]; omega⟩,fun hs3=>?_⟩⟩
  obtain ⟨z1,z2⟩ := zvol_is (D.hd (hs1 0 0)) (d.to Int)[j]
  have hr := rows_app (rows_of ho) (vol_one z1)
  obtain ⟨i1,i2⟩ := is_of (h := D.hd (hs3 0 0)) (s := 1) rfl hr
  have := ih (_,j + 1) ⟨hc,i1,rfl,i2.trans (by rw [hto,map_take_snoc _ hc,z2]; rfl)⟩ (by simp only; omega)
  simp only at this
  rw [← wrap_succ hc (by omega)] at this
  exact this
 ·simp [hl] at hc
  have : j = (d.to Int).length := by omega
  subst this
  rw [List.take_length] at hto
  exact ret_one (stands_dat ho hto) rfl

theorem lawMapS : Law Try.prog 113 ((rdD.two (rdFn 114)).sp spMapS) := by
 refine law_in _ (by kernel_rfl) fun H w ⟨d,u⟩ hok hp=>?_
 obtain ⟨hd,hlen⟩ := hp _ (List.mem_singleton.2 rfl)
 simp only at hd hlen
 have hl := D.Is.length (α := Vol) d
 apply exec_sound (noCtr _) 200
 rw [show (rdD.two (rdFn 114)).canon (d,u) = [.dat d,.fn 114 [] []] from rfl,ms_in]
 refine ⟨⟨by omega,by omega,by omega,by omega⟩,fun hs=>?_⟩
 refine runs_loop (fun p : D × Nat=>msL d p.1 p.2) (fun p=>p.2 ≤ (d.to Vol).length ∧ p.1.Is Int ∧ p.1.sz = 1 ∧ p.1.to Int = volSizes ((d.to Vol).take p.2)) (fun p=>(d.to Vol).length - p.2) (fun _=>rfl) ?_
  (.slc (D.hd (hs 0 0)) 1 [],0) ⟨Nat.zero_le _,is_nil _ _,rfl,rfl⟩
 intro ⟨o,j⟩ ⟨hj,ho,hz,hto⟩ ih
 simp only at hj ho hz hto
 have hol := D.Is.length (α := Int) o
 rw [hto] at hol
 simp only [volSizes,List.length_map,List.length_take] at hol
 apply exec_sound (noCtr _) 200
 rw [ms_go]
 refine ⟨fun hc=>?_,fun hc=>?_⟩
 ·simp [hl] at hc
  obtain ⟨c1,c2,c3⟩ := vol_cell hd hc
  refine ⟨⟨by omega,by omega,hd.size hc⟩,c1,fun hs1=>⟨⟨hz,.inr rfl,by simp only [len_slc,List.length_cons,List.length_nil]; omega,by simp only [len_slc,List.length_cons,List.length_nil]; omega⟩,fun hs3=>?_⟩⟩
  have hr := rows_app (rows_of ho) (int_one (D.len (D.cell d j 0)))
  obtain ⟨i1,i2⟩ := is_of (h := D.hd (hs3 0 0)) (s := 1) rfl hr
  have := ih (_,j + 1) ⟨hc,i1,rfl,i2.trans (by rw [hto]; unfold volSizes; rw [map_take_snoc _ hc,c3,D.Is.length (α := Sec)])⟩ (by simp only; omega)
  simp only at this
  rw [← wrap_succ hc (by omega)] at this
  exact this
 ·simp [hl] at hc
  have : j = (d.to Vol).length := by omega
  subst this
  rw [List.take_length] at hto
  exact ret_one (stands_dat ho hto) rfl

theorem lawSizesR : Law Try.prog 94 (rdD.one.sp spSizes) := by
 refine law_in _ (by kernel_rfl) fun H w d hok hp=>?_
 obtain ⟨hd,hlen⟩ := hp _ (List.mem_singleton.2 rfl)
 have hl := D.Is.length (α := Int) d
 apply exec_sound (noCtr _) 200
 rw [show rdD.one.canon d = [.dat d] from rfl,rs_in]
 refine ⟨fun hc=>ret_int ?_,fun hc=>⟨fun hc2=>ret_int ?_,fun hc2=>?_⟩⟩
 ·simp [hl] at hc; unfold sizesErr; rw [if_pos (by omega)]
 ·simp [hl] at hc2; unfold sizesErr; rw [if_pos (by omega)]
 simp only [decide_eq_false_iff_not] at hc hc2
 have h6 : ¬((d.to Int).length < 1 ∨ (d.to Int).length > 8) := by omega
 refine runs_loop (fun j : Nat=>rsL d j) (fun j=>j ≤ (d.to Int).length ∧ ((d.to Int).take j).any badSize = false) (fun j=>(d.to Int).length - j) (fun _=>rfl) ?_ 0 ⟨Nat.zero_le _,by simp⟩
 intro j ⟨hj,hpre⟩ ih
 apply exec_sound (noCtr _) 200
 rw [rs_go]
 have bad : ∀ hc : j < (d.to Int).length,badSize (d.to Int)[j] = true → 2 = sizesErr (d.to Int) := fun hc hb=>by
  unfold sizesErr
  rw [if_neg h6,if_pos (List.any_eq_true.2 ⟨_,List.getElem_mem hc,hb⟩)]
 refine ⟨fun hc=>?_,fun hc=>ret_int ?_⟩
 ·simp [hl] at hc
  obtain ⟨c1,c2,c3⟩ := int_at hd hc
  rw [c3]
  refine ⟨c1,c2,fun h1=>ret_int (bad hc (by simp [badSize,h1])),fun h1=>⟨c1,c2,fun h2=>ret_int (bad hc (by simp [badSize,h2])),fun h2=>?_⟩⟩
  have := ih (j + 1) ⟨hc,by rw [List.take_succ_eq_append_getElem hc,List.any_append,hpre]; simp [badSize]; simp at h1 h2; omega⟩ (by omega)
  rw [← wrap_succ hc (by omega)] at this
  exact this
 ·simp [hl] at hc
  have : j = (d.to Int).length := by omega
  subst this
  rw [List.take_length] at hpre
  unfold sizesErr
  rw [if_neg h6,if_neg (by simp [hpre])]

theorem lawFits1 : Law Try.prog 103 ((rdD.two rdWt).sp spFits1) := by
 refine law_in _ (by kernel_rfl) fun H w ⟨d,⟨v,s,e⟩⟩ hok hp=>?_
 obtain ⟨⟨hd,hlen,hv⟩,he,hel⟩ := hp _ (List.mem_singleton.2 rfl)
 simp only at hd hlen hv he hel
 have hl := D.Is.length (α := Vol) d
 have hl2 := D.Is.length (α := Sec) e
 have hvl : (volSizes (d.to Vol)).length = (d.to Vol).length := by simp [volSizes]
 apply exec_sound (noCtr _) 200
 rw [show (rdD.two rdWt).canon (d,⟨v,s,e⟩) = [.dat d,.agg [.int .i64 v,.int .i64 s,.dat e]] from rfl,ft_in]
 have f1 : (v < 0 ∨ v ≥ ((d.to Vol).length : Int)) → 7 = fitsErr (volSizes (d.to Vol)) (WtD.wt ⟨v,s,e⟩) := fun h=>by rw [fitsErr_wt,hvl,if_pos h]
 refine ⟨fun h1=>ret_int (f1 (.inl (of_decide_eq_true h1))),fun h1=>⟨fun h2=>ret_int (f1 (.inr (by have := of_decide_eq_true h2; omega))),fun h2=>?_⟩⟩
 have h1' := of_decide_eq_false h1
 have h2' := of_decide_eq_false h2
 have hc : ¬(v < 0 ∨ v ≥ ((d.to Vol).length : Int)) := by omega
 obtain ⟨y,rfl⟩ := Int.eq_ofNat_of_zero_le (show 0 ≤ v by omega)
 have hy : y < (d.to Vol).length := by omega
 obtain ⟨c1,c2,c3⟩ := vol_cell hd hy
 have hvy := hv _ (List.getElem_mem hy)
 have hls := D.Is.length (α := Sec) (d.cell y 0)
 rw [c3] at hvy
 simp only at hvy
 have hg : (volSizes (d.to Vol)).getD (Int.toNat (y : Int)) 0 = ((d.cell y 0).len : Int) := by
  simp only [Int.toNat_natCast,volSizes]
  rw [getD_lt (by simpa using hy)]
  simp only [List.getElem_map,c3,hls]
 have ef : fitsErr (volSizes (d.to Vol)) (WtD.wt ⟨y,s,e⟩) = if (e.to Sec).length = 0 then 1 else if s < 0 ∨ s > ((d.cell y 0).len : Int) - (e.to Sec).length then 2 else 0 := by
  rw [fitsErr_wt,hvl,if_neg hc,hg]
 refine ⟨fun h3=>ret_int ?_,fun h3 hs=>?_⟩
 ·have := of_decide_eq_true h3; rw [ef,if_pos (by omega)]
 have h3' := of_decide_eq_false h3
 have e0 : ¬(e.to Sec).length = 0 := by omega
 rw [if_neg e0] at ef
 refine ⟨fun h4=>?_,fun h4=>?_⟩
 ·have h4' := of_decide_eq_true h4
  rw [if_pos (.inl h4')] at ef
  repeat' first
  | exact h4
  | exact ret_int ef.symm
  | refine ⟨?_,?_⟩
 ·have h4' := of_decide_eq_false h4
  have hw : IntKind.i64.wrap (((d.cell (Int.toNat (y : Int)) 0).len : Int) - (e.len : Int)) = ((d.cell y 0).len : Int) - (e.to Sec).length := by
   simp only [Int.toNat_natCast]; rw [wrap64 (by omega) (by omega),hl2]
  have i0 : 0 ≤ (y : Int) ∧ (y : Int) < (d.len : Int) ∧ d.sz = 1 := ⟨by omega,by omega,hd.size hy⟩
  have fin : ((Tree.br (decide (s > IntKind.i64.wrap (((d.cell (Int.toNat (y : Int)) 0).len : Int) - (e.len : Int)))) (Tree.ret (SV.int .i64 2)) (Tree.ret (SV.int .i64 0))).holds Try.prog ⟨w,H⟩ (RetS w H (.int .i64 (fitsErr (volSizes (d.to Vol)) (WtD.wt ⟨y,s,e⟩))))) := by
   refine ⟨fun h5=>ret_int ?_,fun h5=>ret_int ?_⟩
   ·have := of_decide_eq_true h5; rw [hw] at this; rw [ef,if_pos (.inr this)]
   ·have := of_decide_eq_false h5; rw [hw] at this; rw [ef,if_neg (by omega)]
  repeat' first
  | exact h4
  | exact i0
  | exact c1
  | exact fin
  | refine ⟨?_,?_⟩

theorem lawFitsR : Law Try.prog 84 ((rdD.two rdWt).sp spFitsR) := by
 refine law_in _ (by kernel_rfl) fun H w ⟨d,⟨v,s,e⟩⟩ hok hp=>?_
 obtain ⟨hd,hlen,hv,he,hel⟩ := hp _ (List.mem_singleton.2 rfl)
 simp only at hd hlen hv he hel
 have hl := D.Is.length (α := Int) d
 have hl2 := D.Is.length (α := Sec) e
 apply exec_sound (noCtr _) 200
 rw [show (rdD.two rdWt).canon (d,⟨v,s,e⟩) = [.dat d,.agg [.int .i64 v,.int .i64 s,.dat e]] from rfl,rf_in]
 have f1 : (v < 0 ∨ v ≥ ((d.to Int).length : Int)) → 7 = fitsErr (d.to Int) (WtD.wt ⟨v,s,e⟩) := fun h=>by rw [fitsErr_wt,if_pos h]
 refine ⟨fun h1=>ret_int (f1 (.inl (of_decide_eq_true h1))),fun h1=>⟨fun h2=>ret_int (f1 (.inr (by have := of_decide_eq_true h2; omega))),fun h2=>?_⟩⟩
 have h1' := of_decide_eq_false h1
 have h2' := of_decide_eq_false h2
 have hc : ¬(v < 0 ∨ v ≥ ((d.to Int).length : Int)) := by omega
 obtain ⟨y,rfl⟩ := Int.eq_ofNat_of_zero_le (show 0 ≤ v by omega)
 have hy : y < (d.to Int).length := by omega
 obtain ⟨c1,c2,c3⟩ := int_at hd hy
 have hvy := hv _ (List.getElem_mem hy)
 have hg : (d.to Int).getD (Int.toNat (y : Int)) 0 = (d.to Int)[y] := by simp [hy]
 have ef : fitsErr (d.to Int) (WtD.wt ⟨y,s,e⟩) = if (e.to Sec).length = 0 then 1 else if s < 0 ∨ s > (d.to Int)[y] - (e.to Sec).length then 2 else 0 := by
  rw [fitsErr_wt,if_neg hc,hg]
 refine ⟨fun h3=>ret_int ?_,fun h3 hs=>?_⟩
 ·have := of_decide_eq_true h3; rw [ef,if_pos (by omega)]
 have h3' := of_decide_eq_false h3
 have e0 : ¬(e.to Sec).length = 0 := by omega
 rw [if_neg e0] at ef
 rw [c3]
 refine ⟨fun h4=>?_,fun h4=>⟨fun h5=>?_,fun h5=>?_⟩⟩
 ·rw [if_pos (.inl (of_decide_eq_true h4))] at ef
  repeat' first
  | exact h4
  | exact ret_int ef.symm
  | refine ⟨?_,?_⟩
 ·rw [if_pos (.inr (by have := of_decide_eq_true h5; omega))] at ef
  repeat' first
  | exact h4
  | exact h5
  | exact c1
  | exact c2
  | exact ret_int ef.symm
  | refine ⟨?_,?_⟩
 ·have h4' := of_decide_eq_false h4
  have h5' := of_decide_eq_false h5
  have hw : IntKind.i64.wrap ((d.to Int)[y] - s) = (d.to Int)[y] - s := wrap64 (by omega) (by omega)
  have fin : ((Tree.br (decide ((e.len : Int) > IntKind.i64.wrap ((d.to Int)[y] - s))) (Tree.ret (SV.int .i64 2)) (Tree.ret (SV.int .i64 0))).holds Try.prog ⟨w,H⟩ (RetS w H (.int .i64 (fitsErr (d.to Int) (WtD.wt ⟨y,s,e⟩))))) := by
   refine ⟨fun h6=>ret_int ?_,fun h6=>ret_int ?_⟩
   ·have := of_decide_eq_true h6; rw [hw] at this; rw [ef,if_pos (by omega)]
   ·have := of_decide_eq_false h6; rw [hw] at this; rw [ef,if_neg (by omega)]
  repeat' first
  | exact h4
  | exact h5
  | exact c1
  | exact c2
  | exact fin
  | refine ⟨?_,?_⟩
end Go.Proofs.Ytodhhmjilnfecaa
end
section
open Go Go.Proofs Sx
namespace Go.Proofs.Ytodhhmjilnfecaa
set_option maxRecDepth 100000
set_option maxHeartbeats 0
section
variable (n j k w : Int) (d e a b i o ha hb hc ga gb gc : D) (v s : Int)
theorem any_in : exec Try.prog [(71,ctrOf ((rdD.two (rdFn 109)).sp spIdxBad))] 200 (entry Try.prog 35 [.dat d,.fn 109 [] []]) =
 Tree.need (D.Is Int d ∧ D.len d ≤ 1048576) (.ret (.bool (decide (idxP (D.to Int d) badSize ≥ 0)))) := by kernel_rfl

theorem cs_in : exec Try.prog [(35,ctrOf ((rdD.two (rdFn 109)).sp spAnyBad))] 200 (entry Try.prog 97 [.dat d]) =
 Tree.br (decide ((↑(D.len d) : Int) < 1)) (.ret (.int .i64 6))
 (.br (decide ((↑(D.len d) : Int) > 8)) (.ret (.int .i64 6))
 (.need (D.Is Int d ∧ D.len d ≤ 1048576)
 (.br (List.any (D.to Int d) badSize) (.ret (.int .i64 2)) (.ret (.int .i64 0))))) := by kernel_rfl

theorem new_in : exec Try.prog [(97,ctrOf (rdD.one.sp spSizes)),(98,ctrOf ((rdD.two (rdFn 99)).sp spMapN))] 200 (entry Try.prog 72 [.dat d]) =
 Tree.need (D.Is Int d ∧ D.len d ≤ 1048576)
 (.br (sizesErr (D.to Int d) != 0) (.ret (SV.tup [.nils,.int .i64 (sizesErr (D.to Int d))]))
 (.need (D.Is Int d ∧ D.len d ≤ 8 ∧ ∀ (n : Int),List.Mem n (D.to Int d) → 0 ≤ n ∧ n ≤ 4096)
 (.all fun hs =>
 .ret (SV.tup [.dat (D.like (hs 0 0) (List.map volOf (D.to Int d))),.int .i64 0])))) := by kernel_rfl

theorem sz_in : exec Try.prog [(113,ctrOf ((rdD.two (rdFn 114)).sp spMapS))] 200 (entry Try.prog 110 [.dat d]) =
 Tree.need (D.Is Vol d ∧ D.len d ≤ 1048576)
 (.all fun hs=>.ret (.dat (D.like (hs 0 0) (volSizes (D.to Vol d))))) := by kernel_rfl

theorem chk_in : exec Try.prog [(110,ctrOf (rdD.one.sp spSzs)),(97,ctrOf (rdD.one.sp spSizes))] 200 (entry Try.prog 101 [.dat d]) =
 Tree.need (D.Is Vol d ∧ D.len d ≤ 1048576)
 (.all fun hs =>
 .need
 (D.Is Int (D.like (hs 0 0) (volSizes (D.to Vol d))) ∧ D.len (D.like (hs 0 0) (volSizes (D.to Vol d))) ≤ 1048576)
 (.ret (.int .i64 (sizesErr (D.to Int (D.like (hs 0 0) (volSizes (D.to Vol d)))))))) := by kernel_rfl

theorem fits_in : exec Try.prog [(101,ctrOf (rdD.one.sp spChkI)),(103,ctrOf ((rdD.two rdWt).sp spFits1))] 200 (entry Try.prog 82 [.dat d,.agg [.int .i64 v,.int .i64 s,.dat e]]) =
 Tree.need (D.Is Vol d ∧ D.len d ≤ 1048576)
 (.br (sizesErr (volSizes (D.to Vol d)) != 0) (.ret (.int .i64 (sizesErr (volSizes (D.to Vol d)))))
 (.need (ImgOk d ∧ WtD.Ok (WtD.mk v s e))
 (.ret (.int .i64 (fitsErr (volSizes (D.to Vol d)) (WtD.wt (WtD.mk v s e))))))) := by kernel_rfl

theorem at_in : exec Try.prog [] 200 (entry Try.prog 86 [.dat d,.agg [.int .i64 k,.int .i64 w]]) =
 Tree.leaf
 (Conf.mk
 (SFrm.mk 86 none none
 [Item.inLoop (cAt Try.prog 86 [1,0,1,0,0]),Item.inBlock 0,Item.code (cAt Try.prog 86 [1,1])]
 (mkJ 0 [(0,.dat d),(3,.ptr 0 0),(5,.int .i64 0)] 0 19))
 [] [(0,OBlk.cells 108 [.int .i64 k,.int .i64 w])]) := by kernel_rfl

theorem ints_in : exec Try.prog [] 200 (entry Try.prog 52 [.dat a,.dat b]) =
 Tree.br ((↑(D.len a) : Int) != (↑(D.len b) : Int)) (.ret (.lb false))
 (.leaf
 (Conf.mk
 (SFrm.mk 52 none none
 [Item.inLoop (cAt Try.prog 52 [1,1,0,1,0,0]),Item.inBlock 0,Item.code (cAt Try.prog 52 [1,1,1])]
 (mkJ 0 [(0,.dat a),(1,.dat b),(5,.int .i64 0)] 0 26))
 [] [])) := by kernel_rfl

theorem evs_in : exec Try.prog [] 200 (entry Try.prog 89 [.dat a,.dat b]) =
 Tree.br ((↑(D.len a) : Int) != (↑(D.len b) : Int)) (.ret (.lb false))
 (.leaf
 (Conf.mk
 (SFrm.mk 89 none none
 [Item.inLoop (cAt Try.prog 89 [1,1,0,1,0,0]),Item.inBlock 0,Item.code (cAt Try.prog 89 [1,1,1])]
 (mkJ 0 [(0,.dat a),(1,.dat b),(5,.int .i64 0)] 0 26))
 [] [])) := by kernel_rfl

theorem secs_in : exec Try.prog [] 200 (entry Try.prog 107 [.dat a,.dat b]) =
 Tree.br ((↑(D.len a) : Int) != (↑(D.len b) : Int)) (.ret (.lb false))
 (.leaf
 (Conf.mk
 (SFrm.mk 107 none none
 [Item.inLoop (cAt Try.prog 107 [1,1,0,1,0,0]),Item.inBlock 0,Item.code (cAt Try.prog 107 [1,1,1])]
 (mkJ 0 [(0,.dat a),(1,.dat b),(5,.int .i64 0)] 0 26))
 [] [])) := by kernel_rfl

theorem wts_in : exec Try.prog [] 200 (entry Try.prog 88 [.dat a,.dat b]) =
 Tree.br ((↑(D.len a) : Int) != (↑(D.len b) : Int)) (.ret (.lb false))
 (.leaf
 (Conf.mk
 (SFrm.mk 88 none none
 [Item.inLoop (cAt Try.prog 88 [1,1,0,1,0,0]),Item.inBlock 0,Item.code (cAt Try.prog 88 [1,1,1])]
 (mkJ 0 [(0,.dat a),(1,.dat b),(5,.int .i64 0)] 0 55))
 [] [])) := by kernel_rfl

theorem has_in : exec Try.prog [] 200 (entry Try.prog 47 [.dat a,.int .i64 n]) =
 Tree.leaf
 (Conf.mk
 (SFrm.mk 47 none none
 [Item.inLoop (cAt Try.prog 47 [1,0,1,0,0]),Item.inBlock 0,Item.code (cAt Try.prog 47 [1,1])]
 (mkJ 0 [(0,.dat a),(1,.int .i64 n),(5,.int .i64 0)] 0 18))
 [] []) := by kernel_rfl

theorem set_in : exec Try.prog [] 200 (entry Try.prog 66 [.dat a,.int .i64 n]) =
 Tree.leaf
 (Conf.mk
 (SFrm.mk 66 none none
 [Item.inLoop (cAt Try.prog 66 [1,0,1,0,0]),Item.inBlock 0,Item.code (cAt Try.prog 66 [1,1])]
 (mkJ 0 [(0,.dat a),(1,.int .i64 n),(5,.int .i64 0)] 0 41))
 [] []) := by kernel_rfl

theorem isset_in : exec Try.prog [] 200 (entry Try.prog 69 [.agg [.dat ha,.dat hb,.dat hc,.dat i,.dat o],.dat a]) =
 Tree.leaf
 (Conf.mk
 (SFrm.mk 69 none none
 [Item.inLoop (cAt Try.prog 69 [1,0,1,0,0]),Item.inBlock 0,Item.code (cAt Try.prog 69 [1,1])]
 (mkJ 0
 [(1,.dat a),(2,.ptr 0 0),(7,.dat a),(8,.int .i64 (↑(D.len a) : Int)),
 (9,.int .i64 0)]
 0 38))
 [] [(0,OBlk.cells 121 [.dat ha,.dat hb,.dat hc,.dat i,.dat o])]) := by kernel_rfl

theorem few_in : exec Try.prog [] 200 (entry Try.prog 39 [.agg [.dat ha,.dat hb,.dat hc]]) =
 Tree.br (decide ((↑(D.len ha) : Int) > 9)) (.ret (.lb false))
 (.br (decide ((↑(D.len hb) : Int) > 40)) (.ret (.lb false))
 (.br (decide ((↑(D.len hc) : Int) > 90)) (.ret (.lb false))
 (.leaf
 (Conf.mk
 (SFrm.mk 39 none none
 [Item.inLoop (cAt Try.prog 39 [1,1,0,1,0,0]),Item.inBlock 0,Item.code (cAt Try.prog 39 [1,1,1])]
 (mkJ 0 [(1,.ptr 0 0),(3,.int .i64 0)] 0 49))
 [] [(0,OBlk.cells 26 [.dat ha,.dat hb,.dat hc])])))) := by kernel_rfl

theorem tb_in : exec Try.prog [] 200 (entry Try.prog 96 [.agg [.dat i,.dat o],.int .i64 n,.int .i64 j]) =
 Tree.all fun hs =>
 .br (decide (D.getInt o (Int.toNat n) 0 ≥ 0))
 (.need (0 ≤ n ∧ n < (↑(D.len o) : Int) ∧ D.sz o = 1)
 (.need (D.HasCell o (Int.toNat n) 0 (FT.int .i64))
 (.need (decide (D.getInt o (Int.toNat n) 0 ≥ 0) = true)
 (.need (decide (D.getInt o (Int.toNat n) 0 ≥ 0) = true)
 (.need (decide (D.getInt o (Int.toNat n) 0 ≥ 0) = true)
 (.need (decide (D.getInt o (Int.toNat n) 0 ≥ 0) = true)
 (.need (0 ≤ n ∧ n < (↑(D.len o) : Int) ∧ D.sz o = 1)
 (.need (decide (D.getInt o (Int.toNat n) 0 ≥ 0) = true)
 (.need (D.HasCell o (Int.toNat n) 0 (FT.int .i64))
 (.need (decide (D.getInt o (Int.toNat n) 0 ≥ 0) = true)
 (.need (decide (D.getInt o (Int.toNat n) 0 ≥ 0) = true)
 (.need (decide (D.getInt o (Int.toNat n) 0 ≥ 0) = true)
 (.need (decide (D.getInt o (Int.toNat n) 0 ≥ 0) = true)
 (.need (0 ≤ j ∧ j < (↑(D.len i) : Int) ∧ D.sz i = 1)
 (.need (decide (D.getInt o (Int.toNat n) 0 ≥ 0) = true)
 (.need (D.HasCell i (Int.toNat j) 0 (FT.int .i64))
 (.need (decide (D.getInt o (Int.toNat n) 0 ≥ 0) = true)
 (.need (decide (D.getInt o (Int.toNat n) 0 ≥ 0) = true)
 (.ret
 (.bool
 (decide
 (D.getInt o (Int.toNat n) 0 <
 D.getInt i (Int.toNat j) 0))))))))))))))))))))))
 (.need (0 ≤ n ∧ n < (↑(D.len o) : Int) ∧ D.sz o = 1)
 (.need (D.HasCell o (Int.toNat n) 0 (FT.int .i64))
 (.need (decide (D.getInt o (Int.toNat n) 0 ≥ 0) = false)
 (.need (decide (D.getInt o (Int.toNat n) 0 ≥ 0) = false)
 (.need (decide (D.getInt o (Int.toNat n) 0 ≥ 0) = false)
 (.need (decide (D.getInt o (Int.toNat n) 0 ≥ 0) = false)
 (.need (decide (D.getInt o (Int.toNat n) 0 ≥ 0) = false)
 (.need (decide (D.getInt o (Int.toNat n) 0 ≥ 0) = false)
 (.need (decide (D.getInt o (Int.toNat n) 0 ≥ 0) = false)
 (.need (decide (D.getInt o (Int.toNat n) 0 ≥ 0) = false)
 (.need (decide (D.getInt o (Int.toNat n) 0 ≥ 0) = false)
 (.need (decide (D.getInt o (Int.toNat n) 0 ≥ 0) = false)
 (.need (decide (D.getInt o (Int.toNat n) 0 ≥ 0) = false)
 (.need (decide (D.getInt o (Int.toNat n) 0 ≥ 0) = false)
 (.ret (.lb false)))))))))))))))) := by kernel_rfl

theorem iss_in : exec Try.prog [] 200 (entry Try.prog 85 [.int .i64 n]) =
 Tree.ret (.agg [.int .i64 0,.int .i64 n]) := by kernel_rfl

theorem ack_in : exec Try.prog [] 200 (entry Try.prog 87 [.int .i64 n]) =
 Tree.ret (.agg [.int .i64 1,.int .i64 n]) := by kernel_rfl

end
end Go.Proofs.Ytodhhmjilnfecaa
end
section
open Go Go.Proofs Sx
namespace Go.Proofs.Ytodhhmjilnfecaa
set_option maxRecDepth 100000
set_option maxHeartbeats 0
noncomputable def atL (d : D) (k w j : Int) : Conf := Conf.mk (SFrm.mk 86 none none [Item.inLoop (cAt Try.prog 86 [1,0,1,0,0]),Item.inBlock 0,Item.code (cAt Try.prog 86 [1,1])]
 (mkJ 0 [(0,.dat d),(3,.ptr 0 0),(5,.int .i64 j)] 0 19)) [] [(0,.cells 108 [.int .i64 k,.int .i64 w])]
noncomputable def intsL (a b : D) (j : Int) : Conf := Conf.mk (SFrm.mk 52 none none [Item.inLoop (cAt Try.prog 52 [1,1,0,1,0,0]),Item.inBlock 0,Item.code (cAt Try.prog 52 [1,1,1])]
 (mkJ 0 [(0,.dat a),(1,.dat b),(5,.int .i64 j)] 0 26)) [] []
noncomputable def evsL (a b : D) (j : Int) : Conf := Conf.mk (SFrm.mk 89 none none [Item.inLoop (cAt Try.prog 89 [1,1,0,1,0,0]),Item.inBlock 0,Item.code (cAt Try.prog 89 [1,1,1])]
 (mkJ 0 [(0,.dat a),(1,.dat b),(5,.int .i64 j)] 0 26)) [] []
noncomputable def secsL (a b : D) (j : Int) : Conf := Conf.mk (SFrm.mk 107 none none [Item.inLoop (cAt Try.prog 107 [1,1,0,1,0,0]),Item.inBlock 0,Item.code (cAt Try.prog 107 [1,1,1])]
 (mkJ 0 [(0,.dat a),(1,.dat b),(5,.int .i64 j)] 0 26)) [] []
noncomputable def wtsL (a b : D) (j : Int) : Conf := Conf.mk (SFrm.mk 88 none none [Item.inLoop (cAt Try.prog 88 [1,1,0,1,0,0]),Item.inBlock 0,Item.code (cAt Try.prog 88 [1,1,1])]
 (mkJ 0 [(0,.dat a),(1,.dat b),(5,.int .i64 j)] 0 55)) [] []
noncomputable def hasL (a : D) (n j : Int) : Conf := Conf.mk (SFrm.mk 47 none none [Item.inLoop (cAt Try.prog 47 [1,0,1,0,0]),Item.inBlock 0,Item.code (cAt Try.prog 47 [1,1])]
 (mkJ 0 [(0,.dat a),(1,.int .i64 n),(5,.int .i64 j)] 0 18)) [] []
noncomputable def setL (a : D) (n j : Int) : Conf := Conf.mk (SFrm.mk 66 none none [Item.inLoop (cAt Try.prog 66 [1,0,1,0,0]),Item.inBlock 0,Item.code (cAt Try.prog 66 [1,1])]
 (mkJ 0 [(0,.dat a),(1,.int .i64 n),(5,.int .i64 j)] 0 41)) [] []
noncomputable def fewL (ha hb hc : D) (j : Int) : Conf := Conf.mk (SFrm.mk 39 none none [Item.inLoop (cAt Try.prog 39 [1,1,0,1,0,0]),Item.inBlock 0,Item.code (cAt Try.prog 39 [1,1,1])]
 (mkJ 0 [(1,.ptr 0 0),(3,.int .i64 j)] 0 49)) [] [(0,.cells 26 [.dat ha,.dat hb,.dat hc])]
section
variable (n j k w : Int) (d e a b i o ha hb hc : D) (v s : Int)
theorem at_go : exec Try.prog [] 200 (unroll (atL d k w j)) =
 Tree.br (decide (j < (↑(D.len d) : Int)))
 (.all fun hs =>
 .need (0 ≤ j ∧ j < (↑(D.len d) : Int) ∧ D.sz d = 2)
 (.need (D.HasCells d (Int.toNat j) 0 [FT.int .i64,FT.int .i64])
 (.br (decide (D.getInt d (Int.toNat j) 0 = k) && (decide (D.getInt d (Int.toNat j) 1 = w) && true))
 (.ret (.int .i64 j))
 (.leaf
 (Conf.mk
 (SFrm.mk 86 none none
 [Item.inLoop (cAt Try.prog 86 [1,0,1,0,0]),Item.inBlock 0,Item.code (cAt Try.prog 86 [1,1])]
 (mkJ 0 [(0,.dat d),(3,.ptr 0 0),(5,.int .i64 (IntKind.wrap .i64 (j + 1)))] 0
 19))
 [] [(0,OBlk.cells 108 [.int .i64 k,.int .i64 w])])))))
 (.ret (.int .i64 (Int.neg 1))) := by kernel_rfl

theorem ints_go : exec Try.prog [] 200 (unroll (intsL a b j)) =
 Tree.br (decide (j < (↑(D.len a) : Int)))
 (.all fun hs =>
 .need (0 ≤ j ∧ j < (↑(D.len a) : Int) ∧ D.sz a = 1)
 (.need (D.HasCell a (Int.toNat j) 0 (FT.int .i64))
 (.need (0 ≤ j ∧ j < (↑(D.len b) : Int) ∧ D.sz b = 1)
 (.need (D.HasCell b (Int.toNat j) 0 (FT.int .i64))
 (.br (D.getInt a (Int.toNat j) 0 != D.getInt b (Int.toNat j) 0) (.ret (.lb false))
 (.leaf
 (Conf.mk
 (SFrm.mk 52 none none
 [Item.inLoop (cAt Try.prog 52 [1,1,0,1,0,0]),Item.inBlock 0,
 Item.code (cAt Try.prog 52 [1,1,1])]
 (mkJ 0 [(0,.dat a),(1,.dat b),(5,.int .i64 (IntKind.wrap .i64 (j + 1)))] 0
 26))
 [] [])))))))
 (.ret (.lb true)) := by kernel_rfl

theorem evs_go : exec Try.prog [] 200 (unroll (evsL a b j)) =
 Tree.br (decide (j < (↑(D.len a) : Int)))
 (.all fun hs =>
 .need (0 ≤ j ∧ j < (↑(D.len a) : Int) ∧ D.sz a = 2)
 (.need (D.HasCells a (Int.toNat j) 0 [FT.int .i64,FT.int .i64])
 (.need (0 ≤ j ∧ j < (↑(D.len b) : Int) ∧ D.sz b = 2)
 (.need (D.HasCells b (Int.toNat j) 0 [FT.int .i64,FT.int .i64])
 (.br
 (!(decide (D.getInt a (Int.toNat j) 0 = D.getInt b (Int.toNat j) 0) &&
 (decide (D.getInt a (Int.toNat j) 1 = D.getInt b (Int.toNat j) 1) && true)))
 (.ret (.lb false))
 (.leaf
 (Conf.mk
 (SFrm.mk 89 none none
 [Item.inLoop (cAt Try.prog 89 [1,1,0,1,0,0]),Item.inBlock 0,
 Item.code (cAt Try.prog 89 [1,1,1])]
 (mkJ 0 [(0,.dat a),(1,.dat b),(5,.int .i64 (IntKind.wrap .i64 (j + 1)))] 0
 26))
 [] [])))))))
 (.ret (.lb true)) := by kernel_rfl

theorem secs_go : exec Try.prog [] 200 (unroll (secsL a b j)) =
 Tree.br (decide (j < (↑(D.len a) : Int)))
 (.all fun hs =>
 .need (0 ≤ j ∧ j < (↑(D.len a) : Int) ∧ D.sz a = 8)
 (.need
 (D.HasCells a (Int.toNat j) 0
 [FT.int .u8,FT.int .u8,FT.int .u8,FT.int .u8,FT.int .u8,
 FT.int .u8,FT.int .u8,FT.int .u8])
 (.need (0 ≤ j ∧ j < (↑(D.len b) : Int) ∧ D.sz b = 8)
 (.need
 (D.HasCells b (Int.toNat j) 0
 [FT.int .u8,FT.int .u8,FT.int .u8,FT.int .u8,FT.int .u8,
 FT.int .u8,FT.int .u8,FT.int .u8])
 (.br
 (!(decide (D.getInt a (Int.toNat j) 0 = D.getInt b (Int.toNat j) 0) &&
 (decide (D.getInt a (Int.toNat j) 1 = D.getInt b (Int.toNat j) 1) &&
 (decide (D.getInt a (Int.toNat j) 2 = D.getInt b (Int.toNat j) 2) &&
 (decide (D.getInt a (Int.toNat j) 3 = D.getInt b (Int.toNat j) 3) &&
 (decide (D.getInt a (Int.toNat j) 4 = D.getInt b (Int.toNat j) 4) &&
 (decide (D.getInt a (Int.toNat j) 5 = D.getInt b (Int.toNat j) 5) &&
 (decide (D.getInt a (Int.toNat j) 6 = D.getInt b (Int.toNat j) 6) &&
 (decide (D.getInt a (Int.toNat j) 7 = D.getInt b (Int.toNat j) 7) && true)))))))))
 (.ret (.lb false))
 (.leaf
 (Conf.mk
 (SFrm.mk 107 none none
 [Item.inLoop (cAt Try.prog 107 [1,1,0,1,0,0]),Item.inBlock 0,
 Item.code (cAt Try.prog 107 [1,1,1])]
 (mkJ 0 [(0,.dat a),(1,.dat b),(5,.int .i64 (IntKind.wrap .i64 (j + 1)))] 0
 26))
 [] [])))))))
 (.ret (.lb true)) := by kernel_rfl

theorem wts_go : exec Try.prog [(107,ctrOf ((rdD.two rdD).sp spSecs))] 300 (unroll (wtsL a b j)) =
 Tree.br (decide (j < (↑(D.len a) : Int)))
 (.all fun hs =>
 .br (D.getInt a (Int.toNat j) 0 != D.getInt b (Int.toNat j) 0)
 (.need (0 ≤ j ∧ j < (↑(D.len a) : Int) ∧ D.sz a = 3)
 (.need (D.HasCell a (Int.toNat j) 0 (FT.int .i64))
 (.need (0 ≤ j ∧ j < (↑(D.len b) : Int) ∧ D.sz b = 3)
 (.need (D.HasCell b (Int.toNat j) 0 (FT.int .i64))
 (.need ((D.getInt a (Int.toNat j) 0 != D.getInt b (Int.toNat j) 0) = true)
 (.need ((D.getInt a (Int.toNat j) 0 != D.getInt b (Int.toNat j) 0) = true)
 (.need ((D.getInt a (Int.toNat j) 0 != D.getInt b (Int.toNat j) 0) = true)
 (.need ((D.getInt a (Int.toNat j) 0 != D.getInt b (Int.toNat j) 0) = true)
 (.need ((D.getInt a (Int.toNat j) 0 != D.getInt b (Int.toNat j) 0) = true)
 (.need ((D.getInt a (Int.toNat j) 0 != D.getInt b (Int.toNat j) 0) = true)
 (.need ((D.getInt a (Int.toNat j) 0 != D.getInt b (Int.toNat j) 0) = true)
 (.need ((D.getInt a (Int.toNat j) 0 != D.getInt b (Int.toNat j) 0) = true)
 (.need ((D.getInt a (Int.toNat j) 0 != D.getInt b (Int.toNat j) 0) = true)
 (.need ((D.getInt a (Int.toNat j) 0 != D.getInt b (Int.toNat j) 0) = true)
 (.need ((D.getInt a (Int.toNat j) 0 != D.getInt b (Int.toNat j) 0) = true)
 (.need ((D.getInt a (Int.toNat j) 0 != D.getInt b (Int.toNat j) 0) = true)
 (.ret (.lb false))))))))))))))))))
 (.br (D.getInt a (Int.toNat j) 1 != D.getInt b (Int.toNat j) 1)
 (.need (0 ≤ j ∧ j < (↑(D.len a) : Int) ∧ D.sz a = 3)
 (.need (D.HasCell a (Int.toNat j) 0 (FT.int .i64))
 (.need (0 ≤ j ∧ j < (↑(D.len b) : Int) ∧ D.sz b = 3)
 (.need (D.HasCell b (Int.toNat j) 0 (FT.int .i64))
 (.need ((D.getInt a (Int.toNat j) 0 != D.getInt b (Int.toNat j) 0) = false)
 (.need ((D.getInt a (Int.toNat j) 0 != D.getInt b (Int.toNat j) 0) = false)
 (.need ((D.getInt a (Int.toNat j) 0 != D.getInt b (Int.toNat j) 0) = false)
 (.need (0 ≤ j ∧ j < (↑(D.len a) : Int) ∧ D.sz a = 3)
 (.need ((D.getInt a (Int.toNat j) 0 != D.getInt b (Int.toNat j) 0) = false)
 (.need ((D.getInt a (Int.toNat j) 0 != D.getInt b (Int.toNat j) 0) = false)
 (.need (D.HasCell a (Int.toNat j) 1 (FT.int .i64))
 (.need ((D.getInt a (Int.toNat j) 0 != D.getInt b (Int.toNat j) 0) = false)
 (.need ((D.getInt a (Int.toNat j) 0 != D.getInt b (Int.toNat j) 0) = false)
 (.need ((D.getInt a (Int.toNat j) 0 != D.getInt b (Int.toNat j) 0) = false)
 (.need (0 ≤ j ∧ j < (↑(D.len b) : Int) ∧ D.sz b = 3)
 (.need ((D.getInt a (Int.toNat j) 0 != D.getInt b (Int.toNat j) 0) = false)
 (.need ((D.getInt a (Int.toNat j) 0 != D.getInt b (Int.toNat j) 0) = false)
 (.need (D.HasCell b (Int.toNat j) 1 (FT.int .i64))
 (.need
 ((D.getInt a (Int.toNat j) 0 != D.getInt b (Int.toNat j) 0) = false)
 (.need
 ((D.getInt a (Int.toNat j) 0 != D.getInt b (Int.toNat j) 0) = false)
 (.need
 ((D.getInt a (Int.toNat j) 1 != D.getInt b (Int.toNat j) 1) = true)
 (.need
 ((D.getInt a (Int.toNat j) 1 != D.getInt b (Int.toNat j) 1) = true)
 (.need
 ((D.getInt a (Int.toNat j) 1 != D.getInt b (Int.toNat j) 1) =
 true)
 (.need
 ((D.getInt a (Int.toNat j) 1 != D.getInt b (Int.toNat j) 1) =
 true)
 (.need
 ((D.getInt a (Int.toNat j) 1 != D.getInt b (Int.toNat j) 1) =
 true)
 (.need
 ((D.getInt a (Int.toNat j) 1 !=
 D.getInt b (Int.toNat j) 1) =
 true)
 (.need
 ((D.getInt a (Int.toNat j) 1 !=
 D.getInt b (Int.toNat j) 1) =
 true)
 (.need
 ((D.getInt a (Int.toNat j) 1 !=
 D.getInt b (Int.toNat j) 1) =
 true)
 (.need
 ((D.getInt a (Int.toNat j) 1 !=
 D.getInt b (Int.toNat j) 1) =
 true)
 (.need
 ((D.getInt a (Int.toNat j) 1 !=
 D.getInt b (Int.toNat j) 1) =
 true)
 (.need
 ((D.getInt a (Int.toNat j) 1 !=
 D.getInt b (Int.toNat j) 1) =
 true)
 (.need
 ((D.getInt a (Int.toNat j) 1 !=
 D.getInt b (Int.toNat j) 1) =
 true)
 (.need
 ((D.getInt a (Int.toNat j) 1 !=
 D.getInt b (Int.toNat j) 1) =
 true)
 (.ret
 (.lb
 false)))))))))))))))))))))))))))))))))))
 (.need (0 ≤ j ∧ j < (↑(D.len a) : Int) ∧ D.sz a = 3)
 (.need (D.HasCell a (Int.toNat j) 0 (FT.int .i64))
 (.need (0 ≤ j ∧ j < (↑(D.len b) : Int) ∧ D.sz b = 3)
 (.need (D.HasCell b (Int.toNat j) 0 (FT.int .i64))
 (.need ((D.getInt a (Int.toNat j) 0 != D.getInt b (Int.toNat j) 0) = false)
 (.need ((D.getInt a (Int.toNat j) 0 != D.getInt b (Int.toNat j) 0) = false)
 (.need ((D.getInt a (Int.toNat j) 0 != D.getInt b (Int.toNat j) 0) = false)
 (.need (0 ≤ j ∧ j < (↑(D.len a) : Int) ∧ D.sz a = 3)
 (.need ((D.getInt a (Int.toNat j) 0 != D.getInt b (Int.toNat j) 0) = false)
 (.need ((D.getInt a (Int.toNat j) 0 != D.getInt b (Int.toNat j) 0) = false)
 (.need (D.HasCell a (Int.toNat j) 1 (FT.int .i64))
 (.need ((D.getInt a (Int.toNat j) 0 != D.getInt b (Int.toNat j) 0) = false)
 (.need ((D.getInt a (Int.toNat j) 0 != D.getInt b (Int.toNat j) 0) = false)
 (.need ((D.getInt a (Int.toNat j) 0 != D.getInt b (Int.toNat j) 0) = false)
 (.need (0 ≤ j ∧ j < (↑(D.len b) : Int) ∧ D.sz b = 3)
 (.need ((D.getInt a (Int.toNat j) 0 != D.getInt b (Int.toNat j) 0) = false)
 (.need ((D.getInt a (Int.toNat j) 0 != D.getInt b (Int.toNat j) 0) = false)
 (.need (D.HasCell b (Int.toNat j) 1 (FT.int .i64))
 (.need
 ((D.getInt a (Int.toNat j) 0 != D.getInt b (Int.toNat j) 0) = false)
 (.need
 ((D.getInt a (Int.toNat j) 0 != D.getInt b (Int.toNat j) 0) = false)
 (.need
 ((D.getInt a (Int.toNat j) 1 != D.getInt b (Int.toNat j) 1) = false)
 (.need
 ((D.getInt a (Int.toNat j) 1 != D.getInt b (Int.toNat j) 1) = false)
 (.need
 ((D.getInt a (Int.toNat j) 1 != D.getInt b (Int.toNat j) 1) =
 false)
 (.need (0 ≤ j ∧ j < (↑(D.len a) : Int) ∧ D.sz a = 3)
 (.need
 ((D.getInt a (Int.toNat j) 1 != D.getInt b (Int.toNat j) 1) =
 false)
 (.need
 ((D.getInt a (Int.toNat j) 1 !=
 D.getInt b (Int.toNat j) 1) =
 false)
 (.need (D.HasCell a (Int.toNat j) 2 FT.slc)
 (.need
 ((D.getInt a (Int.toNat j) 1 !=
 D.getInt b (Int.toNat j) 1) =
 false)
 (.need
 ((D.getInt a (Int.toNat j) 1 !=
 D.getInt b (Int.toNat j) 1) =
 false)
 (.need
 ((D.getInt a (Int.toNat j) 1 !=
 D.getInt b (Int.toNat j) 1) =
 false)
 (.need
 (0 ≤ j ∧ j < (↑(D.len b) : Int) ∧ D.sz b = 3)
 (.need
 ((D.getInt a (Int.toNat j) 1 !=
 D.getInt b (Int.toNat j) 1) =
 false)
 (.need
 ((D.getInt a (Int.toNat j) 1 !=
 D.getInt b (Int.toNat j) 1) =
 false)
 (.need
 (D.HasCell b (Int.toNat j) 2 FT.slc)
 (.need
 ((D.getInt a (Int.toNat j) 1 !=
 D.getInt b (Int.toNat j) 1) =
 false)
 (.need
 (D.Is Sec (D.cell a (Int.toNat j) 2) ∧
 D.Is Sec (D.cell b (Int.toNat j) 2) ∧
 D.len (D.cell a (Int.toNat j) 2) ≤
 1048576)
 (.need
 ((D.getInt a (Int.toNat j) 1 !=
 D.getInt b (Int.toNat j) 1) =
 false)
 (.need
 ((D.getInt a (Int.toNat j) 1 !=
 D.getInt b (Int.toNat j) 1) =
 false)
 (.br
 (!decide
 (D.to Sec
 (D.cell a (Int.toNat j)
 2) =
 D.to Sec
 (D.cell b (Int.toNat j)
 2)))
 (.ret (.lb false))
 (.leaf
 (Conf.mk
 (SFrm.mk 88 none none
 [Item.inLoop
 (cAt Try.prog 88
 [1,1,0,1,0,0]),
 Item.inBlock 0,
 Item.code
 (cAt Try.prog 88
 [1,1,1])]
 (mkJ 0
 [(0,.dat a),
 (1,.dat b),
 (5,
 .int .i64
 (IntKind.wrap
 .i64
 (j + 1)))]
 0 55))
 []
 [])))))))))))))))))))))))))))))))))))))))))))
 (.ret (.lb true)) := by kernel_rfl

theorem has_go : exec Try.prog [] 200 (unroll (hasL a n j)) =
 Tree.br (decide (j < (↑(D.len a) : Int)))
 (.need (0 ≤ j ∧ j < (↑(D.len a) : Int) ∧ D.sz a = 1)
 (.need (D.HasCell a (Int.toNat j) 0 (FT.int .i64))
 (.br (decide (D.getInt a (Int.toNat j) 0 = n)) (.ret (.lb true))
 (.leaf
 (Conf.mk
 (SFrm.mk 47 none none
 [Item.inLoop (cAt Try.prog 47 [1,0,1,0,0]),Item.inBlock 0,Item.code (cAt Try.prog 47 [1,1])]
 (mkJ 0
 [(0,.dat a),(1,.int .i64 n),(5,.int .i64 (IntKind.wrap .i64 (j + 1)))] 0
 18))
 [] [])))))
 (.ret (.lb false)) := by kernel_rfl

theorem set_go : 
 let z1 : Tree := (.leaf (Conf.mk (SFrm.mk 66 none none [Item.inLoop (cAt Try.prog 66 [1,0,1,0,0]),Item.inBlock 0,Item.code (cAt Try.prog 66 [1,1])] (mkJ 0 [(0,.dat a),(1,.int .i64 n),(5,.int .i64 (IntKind.wrap .i64 (j + 1)))] 0 41)) [] []))
 exec Try.prog [] 200 (unroll (setL a n j)) =
 Tree.br (decide (j < (↑(D.len a) : Int))) (.all fun hs=>.br (decide (D.getInt a (Int.toNat j) 0 < 0)) (.need (0 ≤ j ∧ j < (↑(D.len a) : Int) ∧ D.sz a = 1) (.need (D.HasCell a (Int.toNat j) 0 (FT.int .i64))
 (.need (decide (D.getInt a (Int.toNat j) 0 < 0) = true) (.need (decide (D.getInt a (Int.toNat j) 0 < 0) = true) (.need (decide (D.getInt a (Int.toNat j) 0 < 0) = true) (.need (decide (D.getInt a (Int.toNat j) 0 < 0) = true)
 (.need (decide (D.getInt a (Int.toNat j) 0 < 0) = true) (.need (decide (D.getInt a (Int.toNat j) 0 < 0) = true) (.need (decide (D.getInt a (Int.toNat j) 0 < 0) = true) (.ret (.lb false))))))))))) (.br
 (decide (D.getInt a (Int.toNat j) 0 ≥ n)) (.need (0 ≤ j ∧ j < (↑(D.len a) : Int) ∧ D.sz a = 1) (.need (D.HasCell a (Int.toNat j) 0 (FT.int .i64)) (.need (decide (D.getInt a (Int.toNat j) 0 < 0) = false)
 (.need (decide (D.getInt a (Int.toNat j) 0 < 0) = false) (.need (decide (D.getInt a (Int.toNat j) 0 < 0) = false) (.need (0 ≤ j ∧ j < (↑(D.len a) : Int) ∧ D.sz a = 1) (.need (decide (D.getInt a (Int.toNat j) 0 < 0) = false)
 (.need (D.HasCell a (Int.toNat j) 0 (FT.int .i64)) (.need (decide (D.getInt a (Int.toNat j) 0 < 0) = false) (.need (decide (D.getInt a (Int.toNat j) 0 < 0) = false) (.need (decide (D.getInt a (Int.toNat j) 0 < 0) = false)
 (.need (decide (D.getInt a (Int.toNat j) 0 ≥ n) = true) (.need (decide (D.getInt a (Int.toNat j) 0 ≥ n) = true) (.need (decide (D.getInt a (Int.toNat j) 0 ≥ n) = true) (.need (decide (D.getInt a (Int.toNat j) 0 ≥ n) = true)
 (.need (decide (D.getInt a (Int.toNat j) 0 ≥ n) = true) (.ret (.lb false)))))))))))))))))) (.br (decide (j > 0)) (.need (0 ≤ j ∧ j < (↑(D.len a) : Int) ∧ D.sz a = 1) (.need (D.HasCell a (Int.toNat j) 0
 (FT.int .i64)) (.need (decide (D.getInt a (Int.toNat j) 0 < 0) = false) (.need (decide (D.getInt a (Int.toNat j) 0 < 0) = false) (.need (decide (D.getInt a (Int.toNat j) 0 < 0) = false) (.need (0 ≤ j ∧ j <
 (↑(D.len a) : Int) ∧ D.sz a = 1) (.need (decide (D.getInt a (Int.toNat j) 0 < 0) = false) (.need (D.HasCell a (Int.toNat j) 0 (FT.int .i64)) (.need (decide (D.getInt a (Int.toNat j) 0 < 0) = false) (.need
 (decide (D.getInt a (Int.toNat j) 0 < 0) = false) (.need (decide (D.getInt a (Int.toNat j) 0 < 0) = false) (.need (decide (D.getInt a (Int.toNat j) 0 ≥ n) = false) (.need (decide (D.getInt a (Int.toNat j) 0 ≥ n) = false)
 (.need (decide (D.getInt a (Int.toNat j) 0 ≥ n) = false) (.need (decide (j > 0) = true) (.need (decide (j > 0) = true) (.need (decide (j > 0) = true) (.need (0 ≤ j ∧ j < (↑(D.len a) : Int) ∧ D.sz a = 1)
 (.need (decide (j > 0) = true) (.need (D.HasCell a (Int.toNat j) 0 (FT.int .i64)) (.need (decide (j > 0) = true) (.need (decide (j > 0) = true) (.need (decide (j > 0) = true) (.need (decide (j > 0) = true)
 (.need (0 ≤ IntKind.wrap .i64 (j - 1) ∧ IntKind.wrap .i64 (j - 1) < (↑(D.len a) : Int) ∧ D.sz a = 1) (.need (decide (j > 0) = true) (.need (D.HasCell a (Int.toNat (IntKind.wrap .i64 (j - 1))) 0 (FT.int .i64))
 (.need (decide (j > 0) = true) (.need (decide (D.getInt a (Int.toNat j) 0 ≥ n) = false) (.need (decide (j > 0) = true) (.need (decide (D.getInt a (Int.toNat j) 0 ≥ n) = false) (.br (decide (D.getInt a
 (Int.toNat j) 0 ≤ D.getInt a (Int.toNat (IntKind.wrap .i64 (j - 1))) 0)) (.ret (.lb false)) z1)))))))))))))))))))))))))))))))) (.need (0 ≤ j ∧ j < (↑(D.len a) : Int) ∧ D.sz a = 1) (.need (D.HasCell a (Int.toNat j) 0
 (FT.int .i64)) (.need (decide (D.getInt a (Int.toNat j) 0 < 0) = false) (.need (decide (D.getInt a (Int.toNat j) 0 < 0) = false) (.need (decide (D.getInt a (Int.toNat j) 0 < 0) = false) (.need (0 ≤ j ∧ j <
 (↑(D.len a) : Int) ∧ D.sz a = 1) (.need (decide (D.getInt a (Int.toNat j) 0 < 0) = false) (.need (D.HasCell a (Int.toNat j) 0 (FT.int .i64)) (.need (decide (D.getInt a (Int.toNat j) 0 < 0) = false) (.need
 (decide (D.getInt a (Int.toNat j) 0 < 0) = false) (.need (decide (D.getInt a (Int.toNat j) 0 < 0) = false) (.need (decide (D.getInt a (Int.toNat j) 0 ≥ n) = false) (.need (decide (D.getInt a (Int.toNat j) 0 ≥ n) = false)
 (.need (decide (D.getInt a (Int.toNat j) 0 ≥ n) = false) (.need (decide (j > 0) = false) (.need (decide (j > 0) = false) (.need (decide (j > 0) = false) (.need (decide (j > 0) = false) (.need (decide (j > 0) = false)
 (.need (decide (j > 0) = false) (.need (decide (j > 0) = false) (.need (decide (j > 0) = false) (.need (decide (j > 0) = false) (.need (decide (j > 0) = false) (.need (decide (D.getInt a (Int.toNat j) 0 ≥ n) = false)
 (.need (decide (j > 0) = false) (.need (decide (D.getInt a (Int.toNat j) 0 ≥ n) = false) z1)))))))))))))))))))))))))))))) (.ret (.lb true)) := by
 intros; kernel_rfl

theorem few_go : exec Try.prog [] 200 (unroll (fewL ha hb hc j)) =
 Tree.br (decide (j < (↑(D.len ha) : Int)))
 (.need (0 ≤ j ∧ j < (↑(D.len ha) : Int) ∧ D.sz ha = 1)
 (.need (D.HasCell ha (Int.toNat j) 0 (FT.int .i64))
 (.br (decide (D.getInt ha (Int.toNat j) 0 > 24)) (.ret (.lb false))
 (.leaf
 (Conf.mk
 (SFrm.mk 39 none none
 [Item.inLoop (cAt Try.prog 39 [1,1,0,1,0,0]),Item.inBlock 0,Item.code (cAt Try.prog 39 [1,1,1])]
 (mkJ 0 [(1,.ptr 0 0),(3,.int .i64 (IntKind.wrap .i64 (j + 1)))] 0 49))
 [] [(0,OBlk.cells 26 [.dat ha,.dat hb,.dat hc])])))))
 (.leaf
 (Conf.mk
 (SFrm.mk 39 none none
 [Item.inLoop (cAt Try.prog 39 [1,1,1,0,1,0,0]),Item.inBlock 2,Item.code (cAt Try.prog 39 [1,1,1,1])]
 (mkJ 0 [(1,.ptr 0 0),(4,.int .i64 0)] 0 49))
 [] [(0,OBlk.cells 26 [.dat ha,.dat hb,.dat hc])])) := by kernel_rfl

end
end Go.Proofs.Ytodhhmjilnfecaa
end
section
open Go Go.Proofs Sx
namespace Go.Proofs.Ytodhhmjilnfecaa
set_option maxRecDepth 100000

theorem ctIdxOk : Ctrs.Ok Try.prog [(71,ctrOf ((rdD.two (rdFn 109)).sp spIdxBad))] := by
 intro x hx; rw [List.mem_singleton.1 hx]; exact ctrOf_ok lawIdx
theorem lawAny : Law Try.prog 35 ((rdD.two (rdFn 109)).sp spAnyBad) := by
 refine law_in _ (by kernel_rfl) fun H w ⟨d,u⟩ hok hp=>?_
 apply exec_sound ctIdxOk 200
 rw [show (rdD.two (rdFn 109)).canon (d,u) = [.dat d,.fn 109 [] []] from rfl,any_in]
 exact ⟨hp _ (List.mem_singleton.2 rfl),ret_bool (idxP_any _ _)⟩
theorem ctAnyOk : Ctrs.Ok Try.prog [(35,ctrOf ((rdD.two (rdFn 109)).sp spAnyBad))] := by
 intro x hx; rw [List.mem_singleton.1 hx]; exact ctrOf_ok lawAny
theorem lawSizes : Law Try.prog 97 (rdD.one.sp spSizes) := by
 refine law_in _ (by kernel_rfl) fun H w d hok hp=>?_
 obtain ⟨hd,hlen⟩ := hp _ (List.mem_singleton.2 rfl)
 have hl := D.Is.length (α := Int) d
 apply exec_sound ctAnyOk 200
 rw [show rdD.one.canon d = [.dat d] from rfl,cs_in]
 refine ⟨fun hc=>ret_int ?_,fun hc=>⟨fun hc2=>ret_int ?_,fun hc2=>⟨⟨hd,hlen⟩,fun h=>ret_int ?_,fun h=>ret_int ?_⟩⟩⟩
 ·have := of_decide_eq_true hc; unfold sizesErr; rw [if_pos (by omega)]
 ·have := of_decide_eq_true hc2; unfold sizesErr; rw [if_pos (by omega)]
 ·have := of_decide_eq_false hc; have := of_decide_eq_false hc2; unfold sizesErr; rw [if_neg (by omega),if_pos h]
 ·have := of_decide_eq_false hc; have := of_decide_eq_false hc2; unfold sizesErr; rw [if_neg (by omega),if_neg (by simp [h])]
theorem ctNewOk : Ctrs.Ok Try.prog [(97,ctrOf (rdD.one.sp spSizes)),(98,ctrOf ((rdD.two (rdFn 99)).sp spMapN))] := by
 intro x hx
 rcases List.mem_cons.1 hx with rfl | hx
 ·exact ctrOf_ok lawSizes
 ·rw [List.mem_singleton.1 hx]; exact ctrOf_ok lawMapN
theorem lawNewI : Law Try.prog 72 (rdD.one.sp spNewI) := by
 refine law_in _ (by kernel_rfl) fun H w d hok hp=>?_
 obtain ⟨hd,hlen⟩ := hp _ (List.mem_singleton.2 rfl)
 have hl := D.Is.length (α := Int) d
 apply exec_sound ctNewOk 200
 rw [show rdD.one.canon d = [.dat d] from rfl,new_in]
 refine ⟨⟨hd,hlen⟩,fun h=>?_,fun h=>?_⟩
 ·refine ret_oneI stands_nils ?_ rfl
  unfold imgOf
  rw [if_pos (by simpa using h)]
 ·have h0 : sizesErr (d.to Int) = 0 := by simpa using h
  obtain ⟨s1,s2,s3⟩ := sizesErr_ok h0
  refine ⟨⟨hd,by omega,fun n hn=>by have := s3 n hn; omega⟩,fun hs=>ret_oneI stands_like ?_ h0.symm⟩
  unfold imgOf
  rw [if_neg (by simp [h0])]
theorem ctSzOk : Ctrs.Ok Try.prog [(113,ctrOf ((rdD.two (rdFn 114)).sp spMapS))] := by
 intro x hx; rw [List.mem_singleton.1 hx]; exact ctrOf_ok lawMapS
theorem lawSzs : Law Try.prog 110 (rdD.one.sp spSzs) := by
 refine law_in _ (by kernel_rfl) fun H w d hok hp=>?_
 apply exec_sound ctSzOk 200
 rw [show rdD.one.canon d = [.dat d] from rfl,sz_in]
 exact ⟨hp _ (List.mem_singleton.2 rfl),fun hs=>ret_one stands_like rfl⟩
theorem ctChkOk : Ctrs.Ok Try.prog [(110,ctrOf (rdD.one.sp spSzs)),(97,ctrOf (rdD.one.sp spSizes))] := by
 intro x hx
 rcases List.mem_cons.1 hx with rfl | hx
 ·exact ctrOf_ok lawSzs
 ·rw [List.mem_singleton.1 hx]; exact ctrOf_ok lawSizes
theorem lawChkI : Law Try.prog 101 (rdD.one.sp spChkI) := by
 refine law_in _ (by kernel_rfl) fun H w d hok hp=>?_
 obtain ⟨hd,hlen⟩ := hp _ (List.mem_singleton.2 rfl)
 have hl := D.Is.length (α := Vol) d
 apply exec_sound ctChkOk 200
 rw [show rdD.one.canon d = [.dat d] from rfl,chk_in]
 refine ⟨⟨hd,hlen⟩,fun hs=>⟨⟨D.like_is _ _,?_⟩,ret_int (by rw [D.like_to])⟩⟩
 rw [D.Is.length (α := Int),D.like_to]; simp only [volSizes,List.length_map]; omega
theorem ctFitsOk : Ctrs.Ok Try.prog [(101,ctrOf (rdD.one.sp spChkI)),(103,ctrOf ((rdD.two rdWt).sp spFits1))] := by
 intro x hx
 rcases List.mem_cons.1 hx with rfl | hx
 ·exact ctrOf_ok lawChkI
 ·rw [List.mem_singleton.1 hx]; exact ctrOf_ok lawFits1
theorem lawFitsI : Law Try.prog 82 ((rdD.two rdWt).sp spFitsI) := by
 refine law_in _ (by kernel_rfl) fun H w ⟨d,⟨v,s,e⟩⟩ hok hp=>?_
 obtain ⟨hd,he⟩ := hp _ (List.mem_singleton.2 rfl)
 apply exec_sound ctFitsOk 200
 rw [show (rdD.two rdWt).canon (d,⟨v,s,e⟩) = [.dat d,.agg [.int .i64 v,.int .i64 s,.dat e]] from rfl,fits_in]
 refine ⟨⟨hd.1,hd.2.1⟩,fun h=>ret_int ?_,fun h=>⟨⟨hd,he⟩,ret_int ?_⟩⟩
 ·unfold fitsI; rw [if_pos (by simpa using h)]
 ·unfold fitsI; rw [if_neg (by simpa using h)]

theorem lawAt : Law Try.prog 86 ((rdD.two rdEv).sp spAt) := by
 refine law_in _ (by kernel_rfl) fun H w ⟨d,⟨k,e⟩⟩ hok hp=>?_
 obtain ⟨hd,hlen⟩ := hp _ (List.mem_singleton.2 rfl)
 simp only at hd hlen
 have hl := D.Is.length (α := Ev) d
 apply exec_sound (noCtr _) 200
 rw [show (rdD.two rdEv).canon (d,⟨k,e⟩) = [.dat d,.agg [.int .i64 k,.int .i64 e]] from rfl,at_in]
 refine runs_loop (fun j : Nat=>atL d k e j) (fun j=>j ≤ (d.to Ev).length ∧ atEv ((d.to Ev).take j) ⟨k,e⟩ = -1) (fun j=>(d.to Ev).length - j) (fun _=>rfl) ?_ 0 ⟨Nat.zero_le _,by rw [List.take_zero]; rfl⟩
 intro j ⟨hj,hpre⟩ ih
 apply exec_sound (noCtr _) 200
 rw [at_go]
 refine ⟨fun hc hs=>?_,fun hc=>ret_int ?_⟩
 ·have hc : j < (d.to Ev).length := by have := of_decide_eq_true hc; omega
  obtain ⟨c1,c2,c3⟩ := ev_cell hd hc
  refine ⟨⟨by omega,by omega,hd.size hc⟩,c1,fun h=>ret_int ?_,fun h=>?_⟩
  ·simp only [Int.toNat_natCast,c2,c3,Bool.and_true,Bool.and_eq_true,decide_eq_true_eq] at h
   exact (atEv_hit hc hpre (by rw [← h.1,← h.2])).symm
  ·have := ih (j + 1) ⟨hc,atEv_miss hc hpre (fun he=>by
    simp only [Int.toNat_natCast,c2,c3,Bool.and_true,he,decide_true] at h
    cases h)⟩ (by omega)
   rw [← wrap_succ hc (by omega)] at this
   exact this
 ·have := of_decide_eq_false hc
  have : j = (d.to Ev).length := by omega
  subst this
  rw [List.take_length] at hpre
  rw [show EvD.ev ⟨k,e⟩ = ⟨k,e⟩ from rfl,hpre]; rfl

theorem lawInts : Law Try.prog 52 ((rdD.two rdD).sp spInts) := by
 refine law_in _ (by kernel_rfl) fun H w ⟨a,b⟩ hok hp=>?_
 obtain ⟨ha,hb,hlen⟩ := hp _ (List.mem_singleton.2 rfl)
 simp only at ha hb hlen
 have hla := D.Is.length (α := Int) a
 have hlb := D.Is.length (α := Int) b
 apply exec_sound (noCtr _) 200
 rw [show (rdD.two rdD).canon (a,b) = [.dat a,.dat b] from rfl,ints_in]
 refine ⟨fun hc=>ret_lb ?_,fun hc=>?_⟩
 ·exact same_not fun he=>by simp [hla,hlb,he] at hc
 have hc' : (a.to Int).length = (b.to Int).length := by simp [hla,hlb] at hc; omega
 refine runs_loop (fun j : Nat=>intsL a b j) (fun j=>j ≤ (a.to Int).length ∧ (a.to Int).take j = (b.to Int).take j) (fun j=>(a.to Int).length - j) (fun _=>rfl) ?_ 0 ⟨Nat.zero_le _,rfl⟩
 intro j ⟨hj,hpre⟩ ih
 apply exec_sound (noCtr _) 200
 rw [ints_go]
 refine ⟨fun hc hs=>?_,fun hc=>ret_lb ?_⟩
 ·have hc : j < (a.to Int).length := by have := of_decide_eq_true hc; omega
  obtain ⟨c1,c2,c3⟩ := int_at ha hc
  obtain ⟨e1,e2,e3⟩ := int_at hb (hc' ▸ hc)
  refine ⟨c1,c2,e1,e2,fun h=>ret_lb ?_,fun h=>?_⟩
  ·refine same_not fun he=>?_
   simp only [c3,e3,he,bne_self_eq_false] at h
   cases h
  ·have hx : (a.to Int)[j] = (b.to Int)[j]'(hc' ▸ hc) := by rw [c3,e3] at h; simpa using h
   have := ih (j + 1) ⟨hc,take_succ_eq hc (hc' ▸ hc) hpre hx⟩ (by omega)
   rw [← wrap_succ hc (by omega)] at this
   exact this
 ·have := of_decide_eq_false hc
  exact (decide_eq_true (list_eq_of hc' (by omega) hpre)).symm

theorem lawEvs : Law Try.prog 89 ((rdD.two rdD).sp spEvs) := by
 refine law_in _ (by kernel_rfl) fun H w ⟨a,b⟩ hok hp=>?_
 obtain ⟨ha,hb,hlen⟩ := hp _ (List.mem_singleton.2 rfl)
 simp only at ha hb hlen
 have hla := D.Is.length (α := Ev) a
 have hlb := D.Is.length (α := Ev) b
 apply exec_sound (noCtr _) 200
 rw [show (rdD.two rdD).canon (a,b) = [.dat a,.dat b] from rfl,evs_in]
 refine ⟨fun hc=>ret_lb ?_,fun hc=>?_⟩
 ·exact same_not fun he=>by simp [hla,hlb,he] at hc
 have hc' : (a.to Ev).length = (b.to Ev).length := by simp [hla,hlb] at hc; omega
 refine runs_loop (fun j : Nat=>evsL a b j) (fun j=>j ≤ (a.to Ev).length ∧ (a.to Ev).take j = (b.to Ev).take j) (fun j=>(a.to Ev).length - j) (fun _=>rfl) ?_ 0 ⟨Nat.zero_le _,rfl⟩
 intro j ⟨hj,hpre⟩ ih
 apply exec_sound (noCtr _) 200
 rw [evs_go]
 refine ⟨fun hc hs=>?_,fun hc=>ret_lb ?_⟩
 ·have hc : j < (a.to Ev).length := by have := of_decide_eq_true hc; omega
  obtain ⟨c1,c2,c3⟩ := ev_cell ha hc
  obtain ⟨e1,e2,e3⟩ := ev_cell hb (hc' ▸ hc)
  refine ⟨⟨by omega,by omega,ha.size hc⟩,c1,⟨by omega,by omega,hb.size (hc' ▸ hc)⟩,e1,fun h=>ret_lb ?_,fun h=>?_⟩
  ·refine same_not fun he=>?_
   simp only [Int.toNat_natCast,c2,c3,e2,e3,he,decide_true,Bool.and_true,Bool.not_true] at h
   cases h
  ·have hx : (a.to Ev)[j] = (b.to Ev)[j]'(hc' ▸ hc) := by
    simp only [Int.toNat_natCast,c2,c3,e2,e3,Bool.and_true,Bool.not_eq_false',Bool.and_eq_true,decide_eq_true_eq] at h
    generalize (a.to Ev)[j] = x at h; generalize (b.to Ev)[j]'(hc' ▸ hc) = y at h
    obtain ⟨_,_⟩ := x; obtain ⟨_,_⟩ := y
    simp only at h; rw [h.1,h.2]
   have := ih (j + 1) ⟨hc,take_succ_eq hc (hc' ▸ hc) hpre hx⟩ (by omega)
   rw [← wrap_succ hc (by omega)] at this
   exact this
 ·have := of_decide_eq_false hc
  exact (decide_eq_true (list_eq_of hc' (by omega) hpre)).symm

theorem lawSecs : Law Try.prog 107 ((rdD.two rdD).sp spSecs) := by
 refine law_in _ (by kernel_rfl) fun H w ⟨a,b⟩ hok hp=>?_
 obtain ⟨ha,hb,hlen⟩ := hp _ (List.mem_singleton.2 rfl)
 simp only at ha hb hlen
 have hla := D.Is.length (α := Sec) a
 have hlb := D.Is.length (α := Sec) b
 apply exec_sound (noCtr _) 200
 rw [show (rdD.two rdD).canon (a,b) = [.dat a,.dat b] from rfl,secs_in]
 refine ⟨fun hc=>ret_lb ?_,fun hc=>?_⟩
 ·exact same_not fun he=>by simp [hla,hlb,he] at hc
 have hc' : (a.to Sec).length = (b.to Sec).length := by simp [hla,hlb] at hc; omega
 refine runs_loop (fun j : Nat=>secsL a b j) (fun j=>j ≤ (a.to Sec).length ∧ (a.to Sec).take j = (b.to Sec).take j) (fun j=>(a.to Sec).length - j) (fun _=>rfl) ?_ 0 ⟨Nat.zero_le _,rfl⟩
 intro j ⟨hj,hpre⟩ ih
 apply exec_sound (noCtr _) 200
 rw [secs_go]
 refine ⟨fun hc hs=>?_,fun hc=>ret_lb ?_⟩
 ·have hc : j < (a.to Sec).length := by have := of_decide_eq_true hc; omega
  obtain ⟨c1,c2⟩ := sec_cell ha hc
  obtain ⟨e1,e2⟩ := sec_cell hb (hc' ▸ hc)
  refine ⟨⟨by omega,by omega,ha.size hc⟩,c1,⟨by omega,by omega,hb.size (hc' ▸ hc)⟩,e1,fun h=>ret_lb ?_,fun h=>?_⟩
  ·refine same_not fun he=>?_
   have he2 : (a.to Sec)[j] = (b.to Sec)[j]'(hc' ▸ hc) := by simp only [he]
   rw [c2,e2] at he2
   simp only [Sec.mk.injEq] at he2
   simp [he2] at h
  ·have hx : (a.to Sec)[j] = (b.to Sec)[j]'(hc' ▸ hc) := by
    rw [c2,e2]
    simp only [Int.toNat_natCast,Bool.and_true,Bool.not_eq_false',Bool.and_eq_true,decide_eq_true_eq] at h
    rw [h.1,h.2.1,h.2.2.1,h.2.2.2.1,h.2.2.2.2.1,h.2.2.2.2.2.1,h.2.2.2.2.2.2.1,h.2.2.2.2.2.2.2]
   have := ih (j + 1) ⟨hc,take_succ_eq hc (hc' ▸ hc) hpre hx⟩ (by omega)
   rw [← wrap_succ hc (by omega)] at this
   exact this
 ·have := of_decide_eq_false hc
  exact (decide_eq_true (list_eq_of hc' (by omega) hpre)).symm
theorem ctSecs : Ctrs.Ok Try.prog [(107,ctrOf ((rdD.two rdD).sp spSecs))] := by
 intro x hx; rw [List.mem_singleton.1 hx]; exact ctrOf_ok lawSecs

theorem lawWts : Law Try.prog 88 ((rdD.two rdD).sp spWts) := by
 refine law_in _ (by kernel_rfl) fun H w ⟨a,b⟩ hok hp=>?_
 obtain ⟨ha,hb,hlen,hbig⟩ := hp _ (List.mem_singleton.2 rfl)
 simp only at ha hb hlen hbig
 have hla := D.Is.length (α := Wt) a
 have hlb := D.Is.length (α := Wt) b
 apply exec_sound (noCtr _) 200
 rw [show (rdD.two rdD).canon (a,b) = [.dat a,.dat b] from rfl,wts_in]
 refine ⟨fun hc=>ret_lb ?_,fun hc=>?_⟩
 ·exact same_not fun he=>by simp [hla,hlb,he] at hc
 have hc' : (a.to Wt).length = (b.to Wt).length := by simp [hla,hlb] at hc; omega
 refine runs_loop (fun j : Nat=>wtsL a b j) (fun j=>j ≤ (a.to Wt).length ∧ (a.to Wt).take j = (b.to Wt).take j) (fun j=>(a.to Wt).length - j) (fun _=>rfl) ?_ 0 ⟨Nat.zero_le _,rfl⟩
 intro j ⟨hj,hpre⟩ ih
 apply exec_sound ctSecs 300
 rw [wts_go]
 refine ⟨fun hc hs=>?_,fun hc=>ret_lb ?_⟩
 ·have hc : j < (a.to Wt).length := by have := of_decide_eq_true hc; omega
  obtain ⟨c1,c2,c3⟩ := wt_cell ha hc
  obtain ⟨e1,e2,e3⟩ := wt_cell hb (hc' ▸ hc)
  have a0 : 0 ≤ (j : Int) ∧ (j : Int) < (a.len : Int) ∧ a.sz = 3 := ⟨by omega,by omega,ha.size hc⟩
  have b0 : 0 ≤ (j : Int) ∧ (j : Int) < (b.len : Int) ∧ b.sz = 3 := ⟨by omega,by omega,hb.size (hc' ▸ hc)⟩
  have a1 : a.HasCell (Int.toNat (j : Int)) 0 (.int .i64) := c1.1
  have a2 : a.HasCell (Int.toNat (j : Int)) 1 (.int .i64) := c1.2.1
  have a3 : a.HasCell (Int.toNat (j : Int)) 2 .slc := c1.2.2.1
  have b1 : b.HasCell (Int.toNat (j : Int)) 0 (.int .i64) := e1.1
  have b2 : b.HasCell (Int.toNat (j : Int)) 1 (.int .i64) := e1.2.1
  have b3 : b.HasCell (Int.toNat (j : Int)) 2 .slc := e1.2.2.1
  have hsz := hbig _ (List.getElem_mem hc)
  rw [c3] at hsz
  have dif : (¬((a.getInt j 0 = b.getInt j 0 ∧ a.getInt j 1 = b.getInt j 1) ∧ (a.cell j 2).to Sec = (b.cell j 2).to Sec)) → (a.to Wt) ≠ (b.to Wt) := fun hn he=>hn (by
   have he2 : (a.to Wt)[j] = (b.to Wt)[j]'(hc' ▸ hc) := by simp only [he]
   rw [c3,e3] at he2
   simp only [Wt.mk.injEq] at he2
   exact ⟨⟨he2.1,he2.2.1⟩,he2.2.2⟩)
  have s0 : D.Is Sec (a.cell (Int.toNat (j : Int)) 2) ∧ D.Is Sec (b.cell (Int.toNat (j : Int)) 2) ∧ D.len (a.cell (Int.toNat (j : Int)) 2) ≤ 1048576 := ⟨c2,e2,by rw [D.Is.length (α := Sec)]; exact hsz⟩
  refine ⟨fun h1=>?_,fun h1=>⟨fun h2=>?_,fun h2=>?_⟩⟩
  ·have nn := dif (fun hh=>by simp only [Int.toNat_natCast,hh.1.1,bne_self_eq_false] at h1; cases h1)
   repeat' first
   | exact h1
   | exact a0
   | exact b0
   | exact a1
   | exact b1
   | exact ret_lb (same_not nn)
   | refine ⟨?_,?_⟩
  ·have nn := dif (fun hh=>by simp only [Int.toNat_natCast,hh.1.2,bne_self_eq_false] at h2; cases h2)
   repeat' first
   | exact h1
   | exact h2
   | exact a0
   | exact b0
   | exact a1
   | exact b1
   | exact a2
   | exact b2
   | exact ret_lb (same_not nn)
   | refine ⟨?_,?_⟩
  ·have q1 : a.getInt j 0 = b.getInt j 0 := by simpa using h1
   have q2 : a.getInt j 1 = b.getInt j 1 := by simpa using h2
   have fin : ((Tree.br (!decide (D.to Sec (a.cell (Int.toNat (j : Int)) 2) = D.to Sec (b.cell (Int.toNat (j : Int)) 2))) (Tree.ret (SV.lb false)) (Tree.leaf (wtsL a b (IntKind.i64.wrap ((j : Int) + 1))))).holds Try.prog ⟨w,H⟩ (RetS w H (.bool (decide (a.to Wt = b.to Wt))))) := by
    refine ⟨fun h3=>ret_lb (same_not (dif fun hh=>?_)),fun h3=>?_⟩
    ·simp only [Int.toNat_natCast,hh.2,decide_true,Bool.not_true] at h3; cases h3
    ·have q3 : (a.cell j 2).to Sec = (b.cell j 2).to Sec := by simpa using h3
     have := ih (j + 1) ⟨hc,take_succ_eq hc (hc' ▸ hc) hpre (by rw [c3,e3,q1,q2,q3])⟩ (by omega)
     rw [← wrap_succ hc (by omega)] at this
     exact this
   repeat' first
   | exact h1
   | exact h2
   | exact a0
   | exact b0
   | exact a1
   | exact b1
   | exact a2
   | exact b2
   | exact a3
   | exact b3
   | exact s0
   | exact fin
   | refine ⟨?_,?_⟩
 ·have := of_decide_eq_false hc
  exact (decide_eq_true (list_eq_of hc' (by omega) hpre)).symm

theorem lawHas : Law Try.prog 47 ((rdD.two rdInt).sp spHas) := by
 refine law_in _ (by kernel_rfl) fun H w ⟨a,n⟩ hok hp=>?_
 obtain ⟨ha,hlen⟩ := hp _ (List.mem_singleton.2 rfl)
 simp only at ha hlen
 have hl := D.Is.length (α := Int) a
 apply exec_sound (noCtr _) 200
 rw [show (rdD.two rdInt).canon (a,n) = [.dat a,.int .i64 n] from rfl,has_in]
 refine runs_loop (fun j : Nat=>hasL a n j) (fun j=>j ≤ (a.to Int).length ∧ ((a.to Int).take j).contains n = false) (fun j=>(a.to Int).length - j) (fun _=>rfl) ?_ 0 ⟨Nat.zero_le _,by simp⟩
 intro j ⟨hj,hpre⟩ ih
 apply exec_sound (noCtr _) 200
 rw [has_go]
 refine ⟨fun hc=>?_,fun hc=>ret_lb ?_⟩
 ·have hc : j < (a.to Int).length := by have := of_decide_eq_true hc; omega
  obtain ⟨c1,c2,c3⟩ := int_at ha hc
  rw [c3]
  refine ⟨c1,c2,fun h=>ret_lb ?_,fun h=>?_⟩
  ·symm
   rw [List.contains_iff_mem]
   have := of_decide_eq_true h
   rw [← this]; exact List.getElem_mem hc
  ·have := ih (j + 1) ⟨hc,by rw [take_has hc,hpre,Bool.false_or]; simpa using h⟩ (by omega)
   rw [← wrap_succ hc (by omega)] at this
   exact this
 ·have := of_decide_eq_false hc
  have : j = (a.to Int).length := by omega
  subst this
  rw [List.take_length] at hpre
  exact hpre.symm

theorem lawSet : Law Try.prog 66 ((rdD.two rdInt).sp spSet) := by
 refine law_in _ (by kernel_rfl) fun H w ⟨a,n⟩ hok hp=>?_
 obtain ⟨ha,hlen⟩ := hp _ (List.mem_singleton.2 rfl)
 simp only at ha hlen
 have hl := D.Is.length (α := Int) a
 apply exec_sound (noCtr _) 200
 rw [show (rdD.two rdInt).canon (a,n) = [.dat a,.int .i64 n] from rfl,set_in]
 refine runs_loop (fun j : Nat=>setL a n j) (fun j=>j ≤ (a.to Int).length ∧ setUp (a.to Int) n j = true) (fun j=>(a.to Int).length - j) (fun _=>rfl) ?_ 0 ⟨Nat.zero_le _,rfl⟩
 intro j ⟨hj,hpre⟩ ih
 apply exec_sound (noCtr _) 200
 rw [set_go]
 refine ⟨fun hc hs=>?_,fun hc=>ret_lb ?_⟩
 ·have hc : j < (a.to Int).length := by have := of_decide_eq_true hc; omega
  obtain ⟨c1,c2,c3⟩ := int_at ha hc
  have hg : (a.to Int).getD j 0 = a.getInt j 0 := by rw [getD_lt hc]; exact c3.symm
  have bad : ∀ x : Bool,(decide (0 ≤ a.getInt j 0) && (decide (a.getInt j 0 < n) && x)) = false → (j = 0 ∨ ((a.to Int).getD (j - 1) 0 < a.getInt j 0) ↔ x = true) → false = setH (a.to Int) n := fun x h1 h2=>by
   refine (setH_false hc ?_).symm
   rw [hg]
   have : (decide (j = 0) || decide ((a.to Int).getD (j - 1) 0 < a.getInt j 0)) = x := by
    rw [Bool.eq_iff_iff,← h2]; simp
   rw [this]; exact h1
  have nxt : (decide (0 ≤ a.getInt j 0) && (decide (a.getInt j 0 < n) && (decide (j = 0) || decide ((a.to Int).getD (j - 1) 0 < a.getInt j 0)))) = true → Runs Try.prog ⟨w,H⟩ (setL a n (IntKind.i64.wrap ((j : Int) + 1))) (RetS w H (.bool (setH (a.to Int) n))) := fun h=>by
   have := ih (j + 1) ⟨hc,by simp only [setUp]; rw [hpre,hg,h]; rfl⟩ (by omega)
   rw [← wrap_succ hc (by omega)] at this
   exact this
  refine ⟨fun h1=>?_,fun h1=>⟨fun h2=>?_,fun h2=>⟨fun h3=>?_,fun h3=>?_⟩⟩⟩
  ·have h1' : a.getInt j 0 < 0 := of_decide_eq_true h1
   have fin := bad _ (by rw [decide_eq_false (p := 0 ≤ a.getInt j 0) (by omega)]; rfl) (show _ ↔ decide (j = 0 ∨ ((a.to Int).getD (j - 1) 0 < a.getInt j 0)) = true from (by simp))
   repeat' first
   | exact h1
   | exact c1
   | exact c2
   | exact ret_lb fin
   | refine ⟨?_,?_⟩
  ·have h2' : a.getInt j 0 ≥ n := of_decide_eq_true h2
   have fin := bad _ (by rw [decide_eq_false (p := a.getInt j 0 < n) (by omega)]; simp) (show _ ↔ decide (j = 0 ∨ ((a.to Int).getD (j - 1) 0 < a.getInt j 0)) = true from (by simp))
   repeat' first
   | exact h1
   | exact h2
   | exact c1
   | exact c2
   | exact ret_lb fin
   | refine ⟨?_,?_⟩
  ·have h1' : ¬a.getInt j 0 < 0 := of_decide_eq_false h1
   have h2' : ¬a.getInt j 0 ≥ n := of_decide_eq_false h2
   have h3' : (j : Int) > 0 := of_decide_eq_true h3
   have hw : IntKind.i64.wrap ((j : Int) - 1) = ((j - 1 : Nat) : Int) := by rw [wrap64 (by omega) (by omega)]; omega
   obtain ⟨d1,d2,d3⟩ := int_at ha (show j - 1 < (a.to Int).length by omega)
   rw [hw]
   have hg1 : (a.to Int).getD (j - 1) 0 = a.getInt (Int.toNat ((j - 1 : Nat) : Int)) 0 := by rw [getD_lt (by omega)]; exact d3.symm
   have fin : ((Tree.br (decide (a.getInt (Int.toNat (j : Int)) 0 ≤ a.getInt (Int.toNat ((j - 1 : Nat) : Int)) 0)) (Tree.ret (SV.lb false)) (Tree.leaf (setL a n (IntKind.i64.wrap ((j : Int) + 1))))).holds Try.prog ⟨w,H⟩ (RetS w H (.bool (setH (a.to Int) n)))) := by
    refine ⟨fun h4=>ret_lb (bad false (by simp) ?_),fun h4=>nxt ?_⟩
    ·have : a.getInt j 0 ≤ a.getInt (Int.toNat ((j - 1 : Nat) : Int)) 0 := of_decide_eq_true h4
     rw [hg1]
     constructor
     ·intro h; omega
     ·intro h; cases h
    ·have : ¬a.getInt j 0 ≤ a.getInt (Int.toNat ((j - 1 : Nat) : Int)) 0 := of_decide_eq_false h4
     rw [hg1]
     simp only [Bool.and_eq_true,Bool.or_eq_true,decide_eq_true_eq]
     omega
   repeat' first
   | exact h1
   | exact h2
   | exact h3
   | exact c1
   | exact c2
   | exact d1
   | exact d2
   | exact fin
   | refine ⟨?_,?_⟩
  ·have h1' : ¬a.getInt j 0 < 0 := of_decide_eq_false h1
   have h2' : ¬a.getInt j 0 ≥ n := of_decide_eq_false h2
   have h3' : ¬(j : Int) > 0 := of_decide_eq_false h3
   have fin := nxt (by simp only [Bool.and_eq_true,Bool.or_eq_true,decide_eq_true_eq]; omega)
   repeat' first
   | exact h1
   | exact h2
   | exact h3
   | exact c1
   | exact c2
   | exact fin
   | refine ⟨?_,?_⟩
 ·have := of_decide_eq_false hc
  have : j = (a.to Int).length := by omega
  subst this
  exact hpre.symm
theorem lawIssE : Law Try.prog 85 (rdInt.one.sp spIssE) := by
 refine law_in _ (by kernel_rfl) fun H w n hok hp=>?_
 apply exec_sound (noCtr _) 200
 rw [show rdInt.one.canon n = [.int .i64 n] from rfl,iss_in]
 exact ret_D (fun _=>default) (fun _ _=>rfl) (fun _ _=>⟨trivial,trivial,trivial⟩)
theorem lawAckE : Law Try.prog 87 (rdInt.one.sp spAckE) := by
 refine law_in _ (by kernel_rfl) fun H w n hok hp=>?_
 apply exec_sound (noCtr _) 200
 rw [show rdInt.one.canon n = [.int .i64 n] from rfl,ack_in]
 exact ret_D (fun _=>default) (fun _ _=>rfl) (fun _ _=>⟨trivial,trivial,trivial⟩)
end Go.Proofs.Ytodhhmjilnfecaa
end
section
open Go Go.Proofs Sx
namespace Go.Proofs.Ytodhhmjilnfecaa
set_option maxRecDepth 100000
set_option maxHeartbeats 0
noncomputable def ctC1 : Ctrs := [(72,ctrOf (rdD.one.sp spNewI)),(82,ctrOf ((rdD.two rdWt).sp spFitsI))]
noncomputable def ctC2 : Ctrs := [(94,ctrOf (rdD.one.sp spSizes)),(84,ctrOf ((rdD.two rdWt).sp spFitsR)),(86,ctrOf ((rdD.two rdEv).sp spAt)),(85,ctrOf (rdInt.one.sp spIssE)),(87,ctrOf (rdInt.one.sp spAckE))]
noncomputable def few2L (ha hb hc : D) (j : Int) : Conf := Conf.mk (SFrm.mk 39 none none [Item.inLoop (cAt Try.prog 39 [1,1,1,0,1,0,0]),Item.inBlock 2,Item.code (cAt Try.prog 39 [1,1,1,1])]
 (mkJ 0 [(1,.ptr 0 0),(4,.int .i64 j)] 0 49)) [] [(0,.cells 26 [.dat ha,.dat hb,.dat hc])]
noncomputable def issetL (ha hb hc i o a : D) (j : Int) : Conf := Conf.mk (SFrm.mk 69 none none [Item.inLoop (cAt Try.prog 69 [1,0,1,0,0]),Item.inBlock 0,Item.code (cAt Try.prog 69 [1,1])]
 (mkJ 0 [(1,.dat a),(2,.ptr 0 0),(7,.dat a),(8,.int .i64 a.len),(9,.int .i64 j)] 0 38)) [] [(0,.cells 121 [.dat ha,.dat hb,.dat hc,.dat i,.dat o])]
section
variable (n j k w : Int) (d e a b i o ha hb hc : D) (v s : Int)
theorem few2_go : exec Try.prog [] 200 (unroll (few2L ha hb hc j)) =
 Tree.br (decide (j < (↑(D.len hb) : Int)))
 (.need (0 ≤ j ∧ j < (↑(D.len hb) : Int) ∧ D.sz hb = 3)
 (.need (D.HasCell hb (Int.toNat j) 2 FT.slc)
 (.br (decide ((↑(D.len (D.cell hb (Int.toNat j) 2)) : Int) > 30)) (.ret (.lb false))
 (.leaf
 (Conf.mk
 (SFrm.mk 39 none none
 [Item.inLoop (cAt Try.prog 39 [1,1,1,0,1,0,0]),Item.inBlock 2,
 Item.code (cAt Try.prog 39 [1,1,1,1])]
 (mkJ 0 [(1,.ptr 0 0),(4,.int .i64 (IntKind.wrap .i64 (j + 1)))] 0 49))
 [] [(0,OBlk.cells 26 [.dat ha,.dat hb,.dat hc])])))))
 (.ret (.lb true)) := by kernel_rfl

theorem isset_go : exec Try.prog [] 300 (unroll (issetL ha hb hc i o a j)) =
 Tree.br (decide (j < (↑(D.len a) : Int)))
 (.need (0 ≤ j ∧ j < (↑(D.len a) : Int) ∧ D.sz a = 1)
 (.need (D.HasCell a (Int.toNat j) 0 (FT.int .i64))
 (.br (decide (D.getInt a (Int.toNat j) 0 < 0)) (.ret (.lb false))
 (.br (decide (D.getInt a (Int.toNat j) 0 ≥ (↑(D.len hb) : Int))) (.ret (.lb false))
 (.br (decide (j > 0))
 (.need
 (0 ≤ IntKind.wrap .i64 (j - 1) ∧
 IntKind.wrap .i64 (j - 1) < (↑(D.len a) : Int) ∧ D.sz a = 1)
 (.need (D.HasCell a (Int.toNat (IntKind.wrap .i64 (j - 1))) 0 (FT.int .i64))
 (.br
 (decide (D.getInt a (Int.toNat j) 0 ≤ D.getInt a (Int.toNat (IntKind.wrap .i64 (j - 1))) 0))
 (.ret (.lb false))
 (.leaf
 (Conf.mk
 (SFrm.mk 69 none none
 [Item.inLoop (cAt Try.prog 69 [1,0,1,0,0]),Item.inBlock 0,
 Item.code (cAt Try.prog 69 [1,1])]
 (mkJ 0
 [(1,.dat a),(2,.ptr 0 0),(7,.dat a),(8,.int .i64 (↑(D.len a) : Int)),
 (9,.int .i64 (IntKind.wrap .i64 (j + 1)))]
 0 38))
 [] [(0,OBlk.cells 121 [.dat ha,.dat hb,.dat hc,.dat i,.dat o])])))))
 (.leaf
 (Conf.mk
 (SFrm.mk 69 none none
 [Item.inLoop (cAt Try.prog 69 [1,0,1,0,0]),Item.inBlock 0,Item.code (cAt Try.prog 69 [1,1])]
 (mkJ 0
 [(1,.dat a),(2,.ptr 0 0),(7,.dat a),(8,.int .i64 (↑(D.len a) : Int)),
 (9,.int .i64 (IntKind.wrap .i64 (j + 1)))]
 0 38))
 [] [(0,OBlk.cells 121 [.dat ha,.dat hb,.dat hc,.dat i,.dat o])])))))))
 (.ret (.lb true)) := by kernel_rfl

theorem ck_in : exec Try.prog ctC1 400 (entry Try.prog 68 [.agg [.dat ha,.dat hb,.dat hc]]) =
 Tree.need (D.Is Int ha ∧ D.len ha ≤ 1048576)
 (.all fun hs =>
 .br (sizesErr (D.to Int ha) != 0)
 (.ret
 (SV.tup [.agg [.nils,.nils,.nils,.nils,.nils],.int .i64 (sizesErr (D.to Int ha))]))
 (.br (decide ((↑(D.len hb) : Int) > 4096))
 (.ret (SV.tup [.agg [.nils,.nils,.nils,.nils,.nils],.int .i64 6]))
 (.leaf
 (Conf.mk
 (SFrm.mk 68 none none
 [Item.inLoop (cAt Try.prog 68 [1,1,1,1,1,0,1,0,0]),Item.inBlock 0,
 Item.code (cAt Try.prog 68 [1,1,1,1,1,1])]
 (mkJ 0
 [(1,.ptr 0 0),(2,.ptr 1 0),(4,.ptr 2 0),(5,.dat (D.like (hs 0 0) (imgOf (D.to Int ha)))),
 (31,.dat hb),(32,.int .i64 (↑(D.len hb) : Int)),(33,.int .i64 0)]
 0 71))
 []
 [(0,OBlk.cells 26 [.dat ha,.dat hb,.dat hc]),
 (1,OBlk.cells 121 [.nils,.nils,.nils,.nils,.nils]),
 (2,OBlk.cells 121 [.dat ha,.dat hb,.dat hc,.nils,.nils])])))) := by kernel_rfl

theorem ck2_in : exec Try.prog ctC2 400 (entry Try.prog 65 [.agg [.dat ha,.dat hb,.dat hc]]) =
 Tree.need (D.Is Int ha ∧ D.len ha ≤ 1048576)
 (.br (sizesErr (D.to Int ha) != 0) (.ret (.int .i64 (sizesErr (D.to Int ha))))
 (.br (decide ((↑(D.len hb) : Int) > 4096)) (.ret (.int .i64 6))
 (.leaf
 (Conf.mk
 (SFrm.mk 65 none none
 [Item.inLoop (cAt Try.prog 65 [1,1,1,0,1,0,0]),Item.inBlock 0,
 Item.code (cAt Try.prog 65 [1,1,1,1])]
 (mkJ 0 [(1,.ptr 0 0),(4,.int .i64 0)] 0 93))
 [] [(0,OBlk.cells 26 [.dat ha,.dat hb,.dat hc])])))) := by kernel_rfl

end
end Go.Proofs.Ytodhhmjilnfecaa
end
section
open Go Go.Proofs Sx
namespace Go.Proofs.Ytodhhmjilnfecaa
set_option maxRecDepth 100000
set_option maxHeartbeats 0
noncomputable def ckA (ha hb hc im : D) (j : Int) : Conf := Conf.mk (SFrm.mk 68 none none [Item.inLoop (cAt Try.prog 68 [1,1,1,1,1,0,1,0,0]),Item.inBlock 0,Item.code (cAt Try.prog 68 [1,1,1,1,1,1])]
 (mkJ 0 [(1,.ptr 0 0),(2,.ptr 1 0),(4,.ptr 2 0),(5,.dat im),(31,.dat hb),(32,.int .i64 hb.len),(33,.int .i64 j)] 0 71)) [] [(0,.cells 26 [.dat ha,.dat hb,.dat hc]),(1,.cells 121 [.nils,.nils,.nils,.nils,.nils]),(2,.cells 121 [.dat ha,.dat hb,.dat hc,.nils,.nils])]
noncomputable def crA (ha hb hc : D) (j : Int) : Conf := Conf.mk (SFrm.mk 65 none none [Item.inLoop (cAt Try.prog 65 [1,1,1,0,1,0,0]),Item.inBlock 0,Item.code (cAt Try.prog 65 [1,1,1,1])]
 (mkJ 0 [(1,.ptr 0 0),(4,.int .i64 j)] 0 93)) [] [(0,.cells 26 [.dat ha,.dat hb,.dat hc])]
section
variable (n j k w : Int) (d e a b i o ha hb hc im : D) (v s : Int)
theorem ckA_go : exec Try.prog ctC1 400 (unroll (ckA ha hb hc im j)) =
 Tree.br (decide (j < (↑(D.len hb) : Int)))
 (.need (0 ≤ j ∧ j < (↑(D.len hb) : Int) ∧ D.sz hb = 3)
 (.need (D.HasCells hb (Int.toNat j) 0 [FT.int .i64,FT.int .i64,FT.slc])
 (.need
 (ImgOk im ∧
 WtD.Ok (WtD.mk (D.getInt hb (Int.toNat j) 0) (D.getInt hb (Int.toNat j) 1) (D.cell hb (Int.toNat j) 2)))
 (.br
 (fitsI (D.to Vol im)
 (WtD.wt
 (WtD.mk (D.getInt hb (Int.toNat j) 0) (D.getInt hb (Int.toNat j) 1) (D.cell hb (Int.toNat j) 2))) !=
 0)
 (.ret
 (SV.tup
 [.agg [.nils,.nils,.nils,.nils,.nils],
 .int .i64
 (fitsI (D.to Vol im)
 (WtD.wt
 (WtD.mk (D.getInt hb (Int.toNat j) 0) (D.getInt hb (Int.toNat j) 1)
 (D.cell hb (Int.toNat j) 2))))]))
 (.leaf
 (Conf.mk
 (SFrm.mk 68 none none
 [Item.inLoop (cAt Try.prog 68 [1,1,1,1,1,0,1,0,0]),Item.inBlock 0,
 Item.code (cAt Try.prog 68 [1,1,1,1,1,1])]
 (mkJ 0
 [(1,.ptr 0 0),(2,.ptr 1 0),(4,.ptr 2 0),(5,.dat im),(31,.dat hb),
 (32,.int .i64 (↑(D.len hb) : Int)),
 (33,.int .i64 (IntKind.wrap .i64 (j + 1)))]
 0 71))
 []
 [(0,OBlk.cells 26 [.dat ha,.dat hb,.dat hc]),
 (1,OBlk.cells 121 [.nils,.nils,.nils,.nils,.nils]),
 (2,OBlk.cells 121 [.dat ha,.dat hb,.dat hc,.nils,.nils])]))))))
 (.leaf
 (Conf.mk
 (SFrm.mk 68 none none
 [Item.inLoop (cAt Try.prog 68 [1,1,1,1,1,1,0,1,0,0]),Item.inBlock 2,
 Item.code (cAt Try.prog 68 [1,1,1,1,1,1,1])]
 (mkJ 0
 [(1,.ptr 0 0),(2,.ptr 1 0),(4,.ptr 2 0),(46,.dat hc),
 (47,.int .i64 (↑(D.len hc) : Int)),(48,.int .i64 0)]
 0 71))
 []
 [(0,OBlk.cells 26 [.dat ha,.dat hb,.dat hc]),
 (1,OBlk.cells 121 [.nils,.nils,.nils,.nils,.nils]),
 (2,OBlk.cells 121 [.dat ha,.dat hb,.dat hc,.nils,.nils])])) := by kernel_rfl

theorem crA_go : exec Try.prog ctC2 400 (unroll (crA ha hb hc j)) =
 Tree.br (decide (j < (↑(D.len hb) : Int)))
 (.all fun hs =>
 .need (0 ≤ j ∧ j < (↑(D.len hb) : Int) ∧ D.sz hb = 3)
 (.need (D.HasCells hb (Int.toNat j) 0 [FT.int .i64,FT.int .i64,FT.slc])
 (.need
 (D.Is Int ha ∧
 D.len ha ≤ 1048576 ∧
 (∀ (n : Int),List.Mem n (D.to Int ha) → 1 ≤ n ∧ n ≤ 4096) ∧
 WtD.Ok (WtD.mk (D.getInt hb (Int.toNat j) 0) (D.getInt hb (Int.toNat j) 1) (D.cell hb (Int.toNat j) 2)))
 (.br
 (fitsErr (D.to Int ha)
 (WtD.wt
 (WtD.mk (D.getInt hb (Int.toNat j) 0) (D.getInt hb (Int.toNat j) 1) (D.cell hb (Int.toNat j) 2))) !=
 0)
 (.ret
 (.int .i64
 (fitsErr (D.to Int ha)
 (WtD.wt
 (WtD.mk (D.getInt hb (Int.toNat j) 0) (D.getInt hb (Int.toNat j) 1) (D.cell hb (Int.toNat j) 2))))))
 (.leaf
 (Conf.mk
 (SFrm.mk 65 none none
 [Item.inLoop (cAt Try.prog 65 [1,1,1,0,1,0,0]),Item.inBlock 0,
 Item.code (cAt Try.prog 65 [1,1,1,1])]
 (mkJ 0 [(1,.ptr 0 0),(4,.int .i64 (IntKind.wrap .i64 (j + 1)))] 0 93))
 [] [(0,OBlk.cells 26 [.dat ha,.dat hb,.dat hc])]))))))
 (.leaf
 (Conf.mk
 (SFrm.mk 65 none none
 [Item.inLoop (cAt Try.prog 65 [1,1,1,1,1,0,1,0,0]),Item.inBlock 2,
 Item.code (cAt Try.prog 65 [1,1,1,1,1,1])]
 (mkJ 0 [(1,.ptr 0 0),(6,.int .i64 0),(7,.int .i64 0)] 0 93))
 [] [(0,OBlk.cells 26 [.dat ha,.dat hb,.dat hc])])) := by kernel_rfl

end
end Go.Proofs.Ytodhhmjilnfecaa
end
section
open Go Go.Proofs Sx
namespace Go.Proofs.Ytodhhmjilnfecaa
set_option maxRecDepth 100000
set_option maxHeartbeats 0
noncomputable def ckB (ha hb hc t u : D) (j : Int) : Conf := Conf.mk (SFrm.mk 68 none none [Item.inLoop (cAt Try.prog 68 [1,1,1,1,1,1,0,1,0,0]),Item.inBlock 2,Item.code (cAt Try.prog 68 [1,1,1,1,1,1,1])]
 (mkJ 0 [(1,.ptr 0 0),(2,.ptr 1 0),(4,.ptr 2 0),(46,.dat hc),(47,.int .i64 hc.len),(48,.int .i64 j)] 0 71)) [] [(0,.cells 26 [.dat ha,.dat hb,.dat hc]),(1,.cells 121 [.nils,.nils,.nils,.nils,.nils]),(2,.cells 121 [.dat ha,.dat hb,.dat hc,.vec 3,.vec 4]),(3,.arr 3 t),(4,.arr 3 u)]
noncomputable def crB (ha hb hc : D) (n j : Int) : Conf := Conf.mk (SFrm.mk 65 none none [Item.inLoop (cAt Try.prog 65 [1,1,1,1,1,0,1,0,0]),Item.inBlock 2,Item.code (cAt Try.prog 65 [1,1,1,1,1,1])]
 (mkJ 0 [(1,.ptr 0 0),(6,.int .i64 n),(7,.int .i64 j)] 0 93)) [] [(0,.cells 26 [.dat ha,.dat hb,.dat hc])]
section
variable (n j k w : Int) (ha hb hc t u : D) (v s : Int)
theorem ckB_go : 
 let z2 := (SFrm.mk 68 none none [Item.inLoop (cAt Try.prog 68 [1,1,1,1,1,1,0,1,0,0]),Item.inBlock 2,Item.code (cAt Try.prog 68 [1,1,1,1,1,1,1])] (mkJ 0 [(1,.ptr 0 0),(2,.ptr 1 0),(4,.ptr 2 0),(46,.dat hc),(47,.int .i64 (↑(D.len hc) : Int)),(48,.int .i64 (IntKind.wrap .i64 (j + 1)))] 0 71))
 let z1 : Tree := (.leaf (Conf.mk z2 [] [(0,OBlk.cells 26 [.dat ha,.dat hb,.dat hc]),(1,OBlk.cells 121 [.nils,.nils,.nils,.nils,.nils]),(2,OBlk.cells 121 [.dat ha,.dat hb,.dat hc,.vec 3,.vec 4]),(3,OBlk.arr 3 t),(4,OBlk.arr 3 u)]))
 let z3 : Tree := (.ret (SV.tup [.agg [.nils,.nils,.nils,.nils,.nils],.int .i64 3]))
 exec Try.prog ctC1 600 (unroll (ckB ha hb hc t u j)) =
 Tree.br (decide (j < (↑(D.len hc) : Int))) (.need (0 ≤ j ∧ j < (↑(D.len hc) : Int) ∧ D.sz hc = 2) (.need (D.HasCells hc (Int.toNat j) 0 [FT.int .i64,FT.int .i64]) (.br (decide (D.getInt hc (Int.toNat j) 0 = 0))
 (.all fun hs=>.br (D.getInt hc (Int.toNat j) 1 != (↑(D.len t) : Int)) (.need ((D.getInt hc (Int.toNat j) 1 != (↑(D.len t) : Int)) = true) (.need ((D.getInt hc (Int.toNat j) 1 != (↑(D.len t) : Int)) = true)
 (.need ((D.getInt hc (Int.toNat j) 1 != (↑(D.len t) : Int)) = true) (.need ((D.getInt hc (Int.toNat j) 1 != (↑(D.len t) : Int)) = true) (.need ((D.getInt hc (Int.toNat j) 1 != (↑(D.len t) : Int)) = true)
 (.need ((D.getInt hc (Int.toNat j) 1 != (↑(D.len t) : Int)) = true) (.need ((D.getInt hc (Int.toNat j) 1 != (↑(D.len t) : Int)) = true) (.need ((D.getInt hc (Int.toNat j) 1 != (↑(D.len t) : Int)) = true)
 (.need ((D.getInt hc (Int.toNat j) 1 != (↑(D.len t) : Int)) = true) (.need ((D.getInt hc (Int.toNat j) 1 != (↑(D.len t) : Int)) = true) (.br true z3 z1))))))))))) (.need ((D.getInt hc (Int.toNat j) 1 !=
 (↑(D.len t) : Int)) = false) (.need ((D.getInt hc (Int.toNat j) 1 != (↑(D.len t) : Int)) = false) (.need ((D.getInt hc (Int.toNat j) 1 != (↑(D.len t) : Int)) = false) (.need ((D.getInt hc (Int.toNat j) 1 !=
 (↑(D.len t) : Int)) = false) (.need ((D.getInt hc (Int.toNat j) 1 != (↑(D.len t) : Int)) = false) (.need ((D.getInt hc (Int.toNat j) 1 != (↑(D.len t) : Int)) = false) (.need ((D.getInt hc (Int.toNat j) 1 !=
 (↑(D.len t) : Int)) = false) (.need ((D.getInt hc (Int.toNat j) 1 != (↑(D.len t) : Int)) = false) (.need ((D.getInt hc (Int.toNat j) 1 != (↑(D.len t) : Int)) = false) (.need ((D.getInt hc (Int.toNat j) 1 !=
 (↑(D.len t) : Int)) = false) (.br (decide (D.getInt hc (Int.toNat j) 1 ≥ (↑(D.len hb) : Int))) (.br true z3 z1) (.all fun hs=>.need (D.sz t = 1 ∧ D.Fits (D.slc (D.hd (hs 8 0)) 1 [[D.int .i64 j]]) 1 ∧
 (D.len t + D.len (D.slc (D.hd (hs 8 0)) 1 [[D.int .i64 j]])) * 8 ≤ 140737488355328 ∧ D.len t + D.len (D.slc (D.hd (hs 8 0)) 1 [[D.int .i64 j]]) ≤ 9223372036854775807) (.need (D.sz u = 1 ∧ D.Fits (D.slc
 (D.hd (hs 15 0)) 1 [[D.int .i64 (Int.neg 1)]]) 1 ∧ (D.len u + D.len (D.slc (D.hd (hs 15 0)) 1 [[D.int .i64 (Int.neg 1)]])) * 8 ≤ 140737488355328 ∧ D.len u + D.len (D.slc (D.hd (hs 15 0)) 1 [[D.int .i64
 (Int.neg 1)]]) ≤ 9223372036854775807) (.br false (.ret (SV.tup [.agg [.nils,.nils,.nils,.nils,.nils],.int .i64 0])) (.leaf (Conf.mk z2 [] [(0,OBlk.cells 26 [.dat ha,.dat hb,.dat hc]),(1,OBlk.cells 121 [.nils,.nils,.nils,.nils,.nils]),
 (2,OBlk.cells 121 [.dat ha,.dat hb,.dat hc,.vec 3,.vec 4]),(3,OBlk.arr 3 (D.slc (D.hd (hs 9 0)) 1 (List.append (D.rows t) (D.rows (D.slc (D.hd (hs 8 0)) 1 [[D.int .i64 j]]))))),(4,OBlk.arr 3 (D.slc
 (D.hd (hs 16 0)) 1 (List.append (D.rows u) (D.rows (D.slc (D.hd (hs 15 0)) 1 [[D.int .i64 (Int.neg 1)]])))))]))))))))))))))))) (.br (decide (D.getInt hc (Int.toNat j) 0 = 1)) (.all fun hs=>.br (decide
 (D.getInt hc (Int.toNat j) 1 < 0)) (.need (decide (D.getInt hc (Int.toNat j) 1 < 0) = true) (.need (decide (D.getInt hc (Int.toNat j) 1 < 0) = true) (.need (decide (D.getInt hc (Int.toNat j) 1 < 0) = true)
 (.need (decide (D.getInt hc (Int.toNat j) 1 < 0) = true) (.need (decide (D.getInt hc (Int.toNat j) 1 < 0) = true) (.need (decide (D.getInt hc (Int.toNat j) 1 < 0) = true) (.need (decide (D.getInt hc (Int.toNat j) 1 < 0) = true)
 (.need (decide (D.getInt hc (Int.toNat j) 1 < 0) = true) (.need (decide (D.getInt hc (Int.toNat j) 1 < 0) = true) (.need (decide (D.getInt hc (Int.toNat j) 1 < 0) = true) (.br true (.ret (SV.tup [.agg [.nils,.nils,.nils,.nils,.nils],.int .i64 7])) z1)))))))))))
 (.need (decide (D.getInt hc (Int.toNat j) 1 < 0) = false) (.need (decide (D.getInt hc (Int.toNat j) 1 < 0) = false) (.need (decide (D.getInt hc (Int.toNat j) 1 < 0) = false) (.need (decide (D.getInt hc
 (Int.toNat j) 1 < 0) = false) (.need (decide (D.getInt hc (Int.toNat j) 1 < 0) = false) (.need (decide (D.getInt hc (Int.toNat j) 1 < 0) = false) (.need (decide (D.getInt hc (Int.toNat j) 1 < 0) = false)
 (.need (decide (D.getInt hc (Int.toNat j) 1 < 0) = false) (.need (decide (D.getInt hc (Int.toNat j) 1 < 0) = false) (.need (decide (D.getInt hc (Int.toNat j) 1 < 0) = false) (.br (decide (D.getInt hc (Int.toNat j) 1 ≥
 (↑(D.len t) : Int))) (.br true (.ret (SV.tup [.agg [.nils,.nils,.nils,.nils,.nils],.int .i64 7])) z1) (.all fun hs=>.need (0 ≤ D.getInt hc (Int.toNat j) 1 ∧ D.getInt hc (Int.toNat j) 1 < (↑(D.len u) : Int) ∧ D.sz u = 1)
 (.need (D.HasCell u (Int.toNat (D.getInt hc (Int.toNat j) 1)) 0 (FT.int .i64) ∧ D.sz u = 1) (.br (decide (D.getInt u (Int.toNat (D.getInt hc (Int.toNat j) 1)) 0 ≥ 0)) (.br true (.ret (SV.tup [.agg [.nils,.nils,.nils,.nils,.nils],.int .i64 8])) z1)
 (.all fun hs=>.need (0 ≤ D.getInt hc (Int.toNat j) 1 ∧ D.getInt hc (Int.toNat j) 1 < (↑(D.len u) : Int) ∧ D.sz u = 1) (.need (Int.toNat (D.getInt hc (Int.toNat j) 1) < D.len u ∧ 1 ≤ D.sz u ∧ D.sz u = 1)
 (.br false (.ret (SV.tup [.agg [.nils,.nils,.nils,.nils,.nils],.int .i64 0])) (.leaf (Conf.mk z2 [] [(0,OBlk.cells 26 [.dat ha,.dat hb,.dat hc]),(1,OBlk.cells 121 [.nils,.nils,.nils,.nils,.nils]),
 (2,OBlk.cells 121 [.dat ha,.dat hb,.dat hc,.vec 3,.vec 4]),(3,OBlk.arr 3 t),(4,OBlk.arr 3 (D.setCells u (Int.toNat (D.getInt hc (Int.toNat j) 1)) 0 [D.int .i64 j]))])))))))))))))))))))) (.br true z3 z1)))))
 (.br (decide ((↑(D.len t) : Int) < (↑(D.len hb) : Int))) z3 (.ret (SV.tup [.agg [.dat ha,.dat hb,.dat hc,.dat t,.dat u],.int .i64 0]))) := by
 intros; kernel_rfl

theorem crB_go : exec Try.prog ctC2 400 (unroll (crB ha hb hc n j)) =
 Tree.br (decide (j < (↑(D.len hc) : Int)))
 (.need (0 ≤ j ∧ j < (↑(D.len hc) : Int) ∧ D.sz hc = 2)
 (.need (D.HasCells hc (Int.toNat j) 0 [FT.int .i64,FT.int .i64])
 (.br (decide (D.getInt hc (Int.toNat j) 0 = 0))
 (.br (D.getInt hc (Int.toNat j) 1 != n) (.ret (.int .i64 3))
 (.br (decide (n ≥ (↑(D.len hb) : Int))) (.ret (.int .i64 3))
 (.leaf
 (Conf.mk
 (SFrm.mk 65 none none
 [Item.inLoop (cAt Try.prog 65 [1,1,1,1,1,0,1,0,0]),Item.inBlock 2,
 Item.code (cAt Try.prog 65 [1,1,1,1,1,1])]
 (mkJ 0
 [(1,.ptr 0 0),(6,.int .i64 (IntKind.wrap .i64 (n + 1))),
 (7,.int .i64 (IntKind.wrap .i64 (j + 1)))]
 0 93))
 [] [(0,OBlk.cells 26 [.dat ha,.dat hb,.dat hc])]))))
 (.br (D.getInt hc (Int.toNat j) 0 != 1) (.ret (.int .i64 3))
 (.all fun hs =>
 .need (0 ≤ (↑0 : Int) ∧ (↑0 : Int) ≤ j ∧ j ≤ (↑(D.len hc) : Int) ∧ D.Fits hc 2)
 (.need (D.Is Ev (D.sub hc 0 (Int.toNat j)) ∧ D.len (D.sub hc 0 (Int.toNat j)) ≤ 1048576)
 (.br
 (decide
 (atEv (D.to Ev (D.sub hc 0 (Int.toNat j))) (EvD.ev (EvD.mk 0 (D.getInt hc (Int.toNat j) 1))) < 0))
 (.ret (.int .i64 7))
 (.all fun hs =>
 .need (0 ≤ (↑0 : Int) ∧ (↑0 : Int) ≤ j ∧ j ≤ (↑(D.len hc) : Int) ∧ D.Fits hc 2)
 (.need (D.Is Ev (D.sub hc 0 (Int.toNat j)) ∧ D.len (D.sub hc 0 (Int.toNat j)) ≤ 1048576)
 (.br
 (decide
 (atEv (D.to Ev (D.sub hc 0 (Int.toNat j)))
 (EvD.ev (EvD.mk (D.getInt hc (Int.toNat j) 0) (D.getInt hc (Int.toNat j) 1))) ≥
 0))
 (.ret (.int .i64 8))
 (.leaf
 (Conf.mk
 (SFrm.mk 65 none none
 [Item.inLoop (cAt Try.prog 65 [1,1,1,1,1,0,1,0,0]),Item.inBlock 2,
 Item.code (cAt Try.prog 65 [1,1,1,1,1,1])]
 (mkJ 0
 [(1,.ptr 0 0),(6,.int .i64 n),
 (7,.int .i64 (IntKind.wrap .i64 (j + 1)))]
 0 93))
 [] [(0,OBlk.cells 26 [.dat ha,.dat hb,.dat hc])]))))))))))))
 (.br (decide (n < (↑(D.len hb) : Int))) (.ret (.int .i64 3)) (.ret (.int .i64 0))) := by kernel_rfl

end
end Go.Proofs.Ytodhhmjilnfecaa
end
section
open Go Go.Proofs Sx
namespace Go.Proofs.Ytodhhmjilnfecaa
set_option maxRecDepth 100000

theorem ctC1Ok : Ctrs.Ok Try.prog ctC1 := by
  intro x hx
  rcases List.mem_cons.1 hx with rfl | hx
  · exact ctrOf_ok lawNewI
  · rw [List.mem_singleton.1 hx]; exact ctrOf_ok lawFitsI
theorem ctC2Ok : Ctrs.Ok Try.prog ctC2 := by
  intro x hx
  simp only [ctC2,List.mem_cons,List.not_mem_nil,or_false] at hx
  rcases hx with rfl | rfl | rfl | rfl | rfl
  · exact ctrOf_ok lawSizesR
  · exact ctrOf_ok lawFitsR
  · exact ctrOf_ok lawAt
  · exact ctrOf_ok lawIssE
  · exact ctrOf_ok lawAckE

theorem ckB_loop {H : HV} {w : World} {ha hb hc : D} (hR : (HiD.mk ha hb hc).Right) (h1 : sizesErr (ha.to Int) = 0) (h2 : ¬(hb.to Wt).length > 4096) (h3 : firstErr (ha.to Int) (hb.to Wt) = 0) :
    Runs Try.prog ⟨w,H⟩ (ckB ha hb hc (.slc none 1 []) (.slc none 1 []) 0) (RetD w H (ckSV ⟨ha,hb,hc⟩)) := by
  obtain ⟨ra,rb,rc,la,lb,lc,rd⟩ := hR
  simp only at ra rb rc la lb lc rd
  have el := D.Is.length (α := Ev) hc
  have bl := D.Is.length (α := Wt) hb
  have errs : ∀ {i : Nat} (hi : i < (hc.to Ev).length) (h0 : (runEv (hb.to Wt).length (hc.to Ev) i).1 = 0) {k : Int},(evStep (hb.to Wt).length i (runEv (hb.to Wt).length (hc.to Ev) i).2 (hc.to Ev)[i]).1 = k → k ≠ 0 → checkH (HiD.mk ha hb hc).hist = (k,zTl) :=
    fun hi h0=>fun hk hk0=>checkH_evErr (h := (HiD.mk ha hb hc).hist) h1 h2 h3 hi h0 hk hk0
  refine runs_loop (fun p : (D × D) × Nat=>ckB ha hb hc p.1.1 p.1.2 p.2) (fun p=>p.2 ≤ (hc.to Ev).length ∧ (runEv (hb.to Wt).length (hc.to Ev) p.2).1 = 0 ∧ (p.1.1.Is Int ∧ p.1.1.sz = 1 ∧ p.1.1.to Int = (runEv (hb.to Wt).length (hc.to Ev) p.2).2.issued) ∧
    (p.1.2.Is Int ∧ p.1.2.sz = 1 ∧ p.1.2.to Int = (runEv (hb.to Wt).length (hc.to Ev) p.2).2.acked)) (fun p=>(hc.to Ev).length - p.2) (fun _=>rfl) ?_ ((.slc none 1 [],.slc none 1 []),0) ⟨Nat.zero_le _,rfl,⟨is_nil _ _,rfl,rfl⟩,⟨is_nil _ _,rfl,rfl⟩⟩
  intro ⟨⟨t,u⟩,j⟩ ⟨hj,h0,⟨ti,ts,tt⟩,ui,us,ut⟩ ih
  simp only at hj h0 ti ts tt ui us ut
  have hto := runEv_ok (n := (hb.to Wt).length) (l := hc.to Ev) j hj h0
  have tl := D.Is.length (α := Int) t
  have ul := D.Is.length (α := Int) u
  rw [tt] at tl
  rw [ut] at ul
  have hlen := hto.len
  have hle := hto.le
  show Runs Try.prog ⟨w,H⟩ (unroll (ckB ha hb hc t u j)) (RetD w H (ckSV ⟨ha,hb,hc⟩))
  apply exec_sound ctC1Ok 600
  rw [ckB_go]
  refine ⟨fun hcj=>?_,fun hcj=>?_⟩
  · have hcj : j < (hc.to Ev).length := by have := of_decide_eq_true hcj; omega
    obtain ⟨c1,c2,c3⟩ := ev_cell rc hcj
    have c0 : 0 ≤ (j : Int) ∧ (j : Int) < (hc.len : Int) ∧ hc.sz = 2 := ⟨by omega,by omega,rc.size hcj⟩
    have hstep := runEv_step (n := (hb.to Wt).length) hcj h0
    generalize hev : (hc.to Ev)[j] = ev at c2 c3 hstep
    obtain ⟨k,x⟩ := ev
    simp only at c2 c3
    have g0 : hc.getInt (Int.toNat (j : Int)) 0 = k := c2
    have g1 : hc.getInt (Int.toNat (j : Int)) 1 = x := c3
    rw [g0,g1]
    generalize hrt : runEv (hb.to Wt).length (hc.to Ev) j = rt at *
    have errs' : ∀ {q : Int},(evStep (hb.to Wt).length j rt.2 ⟨k,x⟩).1 = q → q ≠ 0 → checkH (HiD.mk ha hb hc).hist = (q,zTl) := fun hq hq0=>errs hcj (by rw [hrt]; exact h0) (by rw [hrt,hev]; exact hq) hq0
    have nxt : ∀ (t' u' : D),t'.Is Int → t'.sz = 1 → u'.Is Int → u'.sz = 1 → (evStep (hb.to Wt).length j rt.2 ⟨k,x⟩) = (0,⟨t'.to Int,u'.to Int⟩) → Runs Try.prog ⟨w,H⟩ (ckB ha hb hc t' u' (IntKind.i64.wrap ((j : Int) + 1))) (RetD w H (ckSV ⟨ha,hb,hc⟩)) := fun t' u' a1 a2 a3 a4 he=>by
      have := ih ((t',u'),j + 1) ⟨hcj,by rw [hstep,he],⟨a1,a2,by rw [hstep,he]⟩,a3,a4,by rw [hstep,he]⟩ (by simp only; omega)
      simp only at this
      rw [← wrap_succ hcj (by omega)] at this
      exact this
    refine ⟨c0,c1,fun hk=>?_,fun hk=>⟨fun hk1 hs=>?_,fun hk1=>?_⟩⟩
    · have hk : k = 0 := of_decide_eq_true hk
      subst hk
      refine fun hs=>⟨fun hx=>?_,fun hx=>?_⟩
      · have hx' : x ≠ (t.len : Int) := by simpa using hx
        have fin := ret_ck0 (P := Try.prog) (w := w) (H := H) (errs' (q := 3) (by unfold evStep; rw [if_pos rfl,if_pos (by simp only; omega)]) (by decide)) (by decide)
        repeat' first
        | exact hx
        | exact fin
        | exact fun h=>absurd h (by decide)
        | exact fun _=>fin
        | refine ⟨?_,?_⟩
      · have hx' : x = (t.len : Int) := by simpa using hx
        have issN : decide (x ≥ (hb.len : Int)) = false → ∀ h1 h2 h3 h4 : Hd,Runs Try.prog ⟨w,H⟩ (ckB ha hb hc (.slc h1 1 (List.append t.rows (D.rows (.slc h2 1 [[.int .i64 (j : Int)]])))) (.slc h3 1 (List.append u.rows (D.rows (.slc h4 1 [[.int .i64 (Int.neg 1)]])))) (IntKind.i64.wrap ((j : Int) + 1))) (RetD w H (ckSV ⟨ha,hb,hc⟩)) := fun hy h1 h2 h3 h4=>by
          have hy' := of_decide_eq_false hy
          obtain ⟨p1,p2⟩ := is_of (h := h1) (s := 1) rfl (rows_app (rows_of ti) (int_one (j : Int)))
          obtain ⟨q1,q2⟩ := is_of (h := h3) (s := 1) rfl (rows_app (rows_of ui) (int_one (Int.neg 1)))
          refine nxt _ _ p1 rfl q1 rfl ?_
          unfold evStep
          rw [if_pos rfl,if_neg (by simp only; omega)]
          rw [show (D.rows (.slc h2 1 [[.int .i64 (j : Int)]])) = [[.int .i64 (j : Int)]] from rfl,show (D.rows (.slc h4 1 [[.int .i64 (Int.neg 1)]])) = [[.int .i64 (Int.neg 1)]] from rfl,p2,q2,tt,ut]
          rfl
        repeat' first
        | exact hx
        | exact fun hy=>⟨fun _=>ret_ck0 (errs' (q := 3) (by have := of_decide_eq_true hy; unfold evStep; rw [if_pos rfl,if_pos (by simp only; omega)]) (by decide)) (by decide),fun h=>absurd h (by decide)⟩
        | (intro hy hs3; refine ⟨⟨ts,.inr rfl,?_,?_⟩,⟨us,.inr rfl,?_,?_⟩,fun h=>absurd h (by decide),fun _=>?_⟩)
        | exact issN hy _ _ _ _
        | (simp only [len_slc,List.length_cons,List.length_nil]; omega)
        | refine ⟨?_,?_⟩
    · have hk : ¬k = 0 := of_decide_eq_false hk
      have hk1 : k = 1 := of_decide_eq_true hk1
      subst hk1
      refine ⟨fun hx=>?_,fun hx=>?_⟩
      · have hx' : x < 0 := of_decide_eq_true hx
        have fin := ret_ck0 (P := Try.prog) (w := w) (H := H) (errs' (q := 7) (by unfold evStep; rw [if_neg hk,if_pos rfl,if_pos (by simp only; omega)]) (by decide)) (by decide)
        repeat' first
        | exact hx
        | exact fin
        | exact fun h=>absurd h (by decide)
        | exact fun _=>fin
        | refine ⟨?_,?_⟩
      · have hx' : ¬x < 0 := of_decide_eq_false hx
        repeat' first
        | exact hx
        | exact fun hy=>⟨fun _=>ret_ck0 (errs' (q := 7) (by have := of_decide_eq_true hy; unfold evStep; rw [if_neg hk,if_pos rfl,if_pos (by simp only; omega)]) (by decide)) (by decide),fun h=>absurd h (by decide)⟩
        | exact fun hy hs3=>by
            have hy' := of_decide_eq_false hy
            obtain ⟨y,rfl⟩ := Int.eq_ofNat_of_zero_le (show 0 ≤ x by omega)
            have hyl : y < (u.to Int).length := by rw [ut]; omega
            obtain ⟨d1,d2,d3⟩ := int_at ui hyl
            have hgd : rt.2.acked.getD (Int.toNat (y : Int)) 0 = u.getInt (Int.toNat (y : Int)) 0 := by rw [← ut,d3,Int.toNat_natCast,getD_lt hyl]
            refine ⟨d1,⟨d2,us⟩,fun hz=>⟨fun _=>ret_ck0 (errs' (q := 8) ?_ (by decide)) (by decide),fun h=>absurd h (by decide)⟩,fun hz hs4=>⟨d1,⟨by rw [D.Is.length (α := Int)]; simpa using hyl,by rw [us]; decide,us⟩,fun h=>absurd h (by decide),fun _=>?_⟩⟩
            · have := of_decide_eq_true hz
              unfold evStep; rw [if_neg hk,if_pos rfl,if_neg (by simp only; omega),if_pos (by simp only [hgd]; exact this)]
            · have := of_decide_eq_false hz
              obtain ⟨q1,q2⟩ := set_full ui (i := Int.toNat (y : Int)) (by simpa using hyl) (xs := [D.int IntKind.i64 (j : Int)]) (x := (j : Int)) rfl (ok_int _) rfl
              refine nxt _ _ ti ts q1 us ?_
              unfold evStep; rw [if_neg hk,if_pos rfl,if_neg (by simp only; omega),if_neg (by simp only [hgd]; exact this),q2,tt,ut]
        | refine ⟨?_,?_⟩
    · have hk : ¬k = 0 := of_decide_eq_false hk
      have hk1 : ¬k = 1 := of_decide_eq_false hk1
      exact ⟨fun _=>ret_ck0 (errs' (q := 3) (by unfold evStep; rw [if_neg hk,if_neg hk1]) (by decide)) (by decide),fun h=>absurd h (by decide)⟩
  · have : j = (hc.to Ev).length := by have := of_decide_eq_false hcj; omega
    subst this
    have hall := checkH_ev (h := (HiD.mk ha hb hc).hist) h1 h2 h3
    have h0' : ¬((runEv (HiD.mk ha hb hc).hist.writes.length (HiD.mk ha hb hc).hist.events (HiD.mk ha hb hc).hist.events.length).1 ≠ 0) := by
      show ¬((runEv (hb.to Wt).length (hc.to Ev) (hc.to Ev).length).1 ≠ 0)
      simp [h0]
    rw [if_neg h0'] at hall
    refine ⟨fun hy=>ret_ck0 (e := 3) ?_ (by decide),fun hy=>ret_ck1 (x := ⟨ha,hb,hc⟩) ti ui ?_⟩
    · have := of_decide_eq_true hy
      rw [hall,if_pos]
      show (runEv (hb.to Wt).length (hc.to Ev) (hc.to Ev).length).2.issued.length < (hb.to Wt).length
      omega
    · have := of_decide_eq_false hy
      rw [hall,if_neg]
      · rw [tt,ut]; rfl
      · show ¬(runEv (hb.to Wt).length (hc.to Ev) (hc.to Ev).length).2.issued.length < (hb.to Wt).length
        omega

theorem lawCk : Law Try.prog 68 (rdHi.one.sp spCk) := by
  refine law_in _ (by kernel_rfl) fun H w ⟨ha,hb,hc⟩ hok hp=>?_
  have hR : (HiD.mk ha hb hc).Right := hp _ (List.mem_singleton.2 rfl)
  obtain ⟨ra,rb,rc,la,lb,lc,rd⟩ := id hR
  simp only at ra rb rc la lb lc rd
  have al := D.Is.length (α := Int) ha
  have bl := D.Is.length (α := Wt) hb
  apply exec_sound ctC1Ok 400
  rw [show rdHi.one.canon ⟨ha,hb,hc⟩ = [.agg [.dat ha,.dat hb,.dat hc]] from rfl,ck_in]
  refine ⟨⟨ra,la⟩,fun hs=>⟨fun h=>?_,fun h=>⟨fun h2=>?_,fun h2=>?_⟩⟩⟩
  · have h' : sizesErr (ha.to Int) ≠ 0 := by simpa using h
    exact ret_ck0 (checkH_sz (h := (HiD.mk ha hb hc).hist) h') h'
  · have h' : sizesErr (ha.to Int) = 0 := by simpa using h
    have := of_decide_eq_true h2
    exact ret_ck0 (checkH_many (h := (HiD.mk ha hb hc).hist) h' (by show (hb.to Wt).length > 4096; omega)) (by decide)
  have h1 : sizesErr (ha.to Int) = 0 := by simpa using h
  have h2 : ¬(hb.to Wt).length > 4096 := by have := of_decide_eq_false h2; omega
  have im : ImgOk ((hs 0 0).like (imgOf (ha.to Int))) := by
    refine ⟨D.like_is _ _,?_,fun v hv=>?_⟩
    · rw [D.Is.length (α := Vol),D.like_to]
      unfold imgOf
      rw [if_neg (by simp [h1])]
      simp only [List.length_map]; omega
    · rw [D.like_to] at hv
      unfold imgOf at hv
      rw [if_neg (by simp [h1])] at hv
      obtain ⟨n,hn,rfl⟩ := List.mem_map.1 hv
      have := (sizesErr_ok h1).2.2 n hn
      simp only [volOf,List.length_replicate]; omega
  generalize hIm : (hs 0 0).like (imgOf (ha.to Int)) = I at im
  have hIt : I.to Vol = imgOf (ha.to Int) := by rw [← hIm,D.like_to]
  refine runs_loop (fun j : Nat=>ckA ha hb hc I j) (fun j=>j ≤ (hb.to Wt).length ∧ firstErr (ha.to Int) ((hb.to Wt).take j) = 0) (fun j=>(hb.to Wt).length - j) (fun _=>rfl) ?_ 0 ⟨Nat.zero_le _,rfl⟩
  intro j ⟨hj,hpre⟩ ih
  apply exec_sound ctC1Ok 400
  rw [ckA_go]
  refine ⟨fun hcj=>?_,fun hcj=>?_⟩
  · have hcj : j < (hb.to Wt).length := by have := of_decide_eq_true hcj; omega
    obtain ⟨c1,c2,c3⟩ := wt_cell rb hcj
    have hw : WtD.wt ⟨hb.getInt (Int.toNat (j : Int)) 0,hb.getInt (Int.toNat (j : Int)) 1,hb.cell (Int.toNat (j : Int)) 2⟩ = (hb.to Wt)[j] := c3.symm
    have hwd := rd _ (List.getElem_mem hcj)
    rw [c3] at hwd
    have hok2 : WtD.Ok ⟨hb.getInt (Int.toNat (j : Int)) 0,hb.getInt (Int.toNat (j : Int)) 1,hb.cell (Int.toNat (j : Int)) 2⟩ := ⟨c2,by rw [D.Is.length (α := Sec)]; exact hwd⟩
    rw [hw,hIt,fitsI_img h1]
    have ft := firstErr_take (s := ha.to Int) hcj
    rw [hpre,if_neg (by simp)] at ft
    refine ⟨⟨by omega,by omega,rb.size hcj⟩,c1,⟨im,hok2⟩,fun he=>?_,fun he=>?_⟩
    · have he : fitsErr (ha.to Int) (hb.to Wt)[j] ≠ 0 := by simpa using he
      have hf := firstErr_of_take (s := ha.to Int) (l := hb.to Wt) (i := j + 1) (by rw [ft]; exact he)
      rw [ft] at hf
      exact ret_ck0 ((checkH_fit (h := (HiD.mk ha hb hc).hist) h1 h2 (by show firstErr (ha.to Int) (hb.to Wt) ≠ 0; rw [hf]; exact he)).trans (by show (firstErr (ha.to Int) (hb.to Wt),zTl) = _; rw [hf])) he
    · have he : fitsErr (ha.to Int) (hb.to Wt)[j] = 0 := by simpa using he
      have := ih (j + 1) ⟨hcj,by rw [ft,he]⟩ (by omega)
      rw [← wrap_succ hcj (by omega)] at this
      exact this
  · have : j = (hb.to Wt).length := by have := of_decide_eq_false hcj; omega
    subst this
    rw [List.take_length] at hpre
    exact vecIn2_to 9 3 1 (some 2) 3 10 3 1 (some 2) 4 (ckB ha hb hc (.slc none 1 []) (.slc none 1 []) 0) (by kernel_rfl) (ckB_loop hR h1 h2 hpre)
end Go.Proofs.Ytodhhmjilnfecaa
end
section
open Go Go.Proofs Sx
namespace Go.Proofs.Ytodhhmjilnfecaa
set_option maxRecDepth 100000

theorem crB_loop {H : HV} {w : World} {ha hb hc : D} (hR : (HiD.mk ha hb hc).Right) (h1 : sizesErr (ha.to Int) = 0) (h2 : ¬(hb.to Wt).length > 4096) (h3 : firstErr (ha.to Int) (hb.to Wt) = 0) :
  Runs Try.prog ⟨w,H⟩ (crB ha hb hc 0 0) (RetS w H (.int .i64 (checkH (HiD.mk ha hb hc).hist).1)) := by
 obtain ⟨ra,rb,rc,la,lb,lc,rd⟩ := hR
 simp only at ra rb rc la lb lc rd
 have el := D.Is.length (α := Ev) hc
 have bl := D.Is.length (α := Wt) hb
 have errs : ∀ {i : Nat} (hi : i < (hc.to Ev).length) (h0 : (runEv (hb.to Wt).length (hc.to Ev) i).1 = 0) {k : Int},(evStep (hb.to Wt).length i (runEv (hb.to Wt).length (hc.to Ev) i).2 (hc.to Ev)[i]).1 = k → k ≠ 0 → k = (checkH (HiD.mk ha hb hc).hist).1 :=
  fun hi h0=>fun hk hk0=>by rw [checkH_evErr (h := (HiD.mk ha hb hc).hist) h1 h2 h3 hi h0 hk hk0]
 refine runs_loop (fun p : Nat × Nat=>crB ha hb hc p.1 p.2) (fun p=>p.2 ≤ (hc.to Ev).length ∧ (runEv (hb.to Wt).length (hc.to Ev) p.2).1 = 0 ∧ p.1 = (runEv (hb.to Wt).length (hc.to Ev) p.2).2.issued.length)
  (fun p=>(hc.to Ev).length - p.2) (fun _=>rfl) ?_ (0,0) ⟨Nat.zero_le _,rfl,rfl⟩
 intro ⟨n,j⟩ ⟨hj,h0,hn⟩ ih
 simp only at hj h0 hn
 have hto := runEv_ok (n := (hb.to Wt).length) (l := hc.to Ev) j hj h0
 have hlen := hto.len
 have hle := hto.le
 show Runs Try.prog ⟨w,H⟩ (unroll (crB ha hb hc n j)) (RetS w H (.int .i64 (checkH (HiD.mk ha hb hc).hist).1))
 apply exec_sound ctC2Ok 400
 rw [crB_go]
 refine ⟨fun hcj=>?_,fun hcj=>?_⟩
 ·have hcj : j < (hc.to Ev).length := by have := of_decide_eq_true hcj; omega
  obtain ⟨c1,c2,c3⟩ := ev_cell rc hcj
  have c0 : 0 ≤ (j : Int) ∧ (j : Int) < (hc.len : Int) ∧ hc.sz = 2 := ⟨by omega,by omega,rc.size hcj⟩
  have hstep := runEv_step (n := (hb.to Wt).length) hcj h0
  have hkind := evStep_kind hto (hc.to Ev)[j]
  generalize hev : (hc.to Ev)[j] = ev at c2 c3 hstep hkind
  obtain ⟨k,x⟩ := ev
  simp only at c2 c3
  have g0 : hc.getInt (Int.toNat (j : Int)) 0 = k := c2
  have g1 : hc.getInt (Int.toNat (j : Int)) 1 = x := c3
  rw [g0,g1]
  generalize hrt : runEv (hb.to Wt).length (hc.to Ev) j = rt at *
  have errs' : ∀ {q : Int},(evStep (hb.to Wt).length j rt.2 ⟨k,x⟩).1 = q → q ≠ 0 → q = (checkH (HiD.mk ha hb hc).hist).1 := fun hq hq0=>errs hcj (by rw [hrt]; exact h0) (by rw [hrt,hev]; exact hq) hq0
  have nxt : (evStep (hb.to Wt).length j rt.2 ⟨k,x⟩).1 = 0 → ∀ m : Nat,(m : Int) = n + (if k = 0 then 1 else 0) → Runs Try.prog ⟨w,H⟩ (crB ha hb hc m (IntKind.i64.wrap ((j : Int) + 1))) (RetS w H (.int .i64 (checkH (HiD.mk ha hb hc).hist).1)) := fun h m hm=>by
   have hl := evStep_len h
   have := ih (m,j + 1) ⟨hcj,by rw [hstep]; exact h,by rw [hstep]; simp only at hl ⊢; omega⟩ (by simp only; omega)
   simp only at this
   rw [← wrap_succ hcj (by omega)] at this
   exact this
  simp only at hkind
  have hsub := rc.sub 0 (Int.toNat (j : Int))
  simp only [Int.toNat_natCast,List.drop_zero,Nat.sub_zero] at hsub
  have hsl : (hc.sub 0 j).len ≤ 1048576 := by rw [D.Is.length (α := Ev),hsub.2,List.length_take]; omega
  have i0 : (0 : Int) ≤ 0 ∧ (0 : Int) ≤ (j : Int) ∧ (j : Int) ≤ (hc.len : Int) ∧ hc.Fits 2 := ⟨by omega,by omega,by omega,rc.fits⟩
  refine ⟨c0,c1,fun hk=>?_,fun hk=>⟨fun hk1=>?_,fun hk1 hs=>?_⟩⟩
  ·have hk : k = 0 := of_decide_eq_true hk
   subst hk
   rw [if_pos rfl] at hkind
   refine ⟨fun hx=>ret_int (errs' (q := 3) ?_ (by decide)),fun hx=>⟨fun hy=>ret_int (errs' (q := 3) ?_ (by decide)),fun hy=>?_⟩⟩
   ·have hx' : x ≠ (n : Int) := by simpa using hx
    rw [hkind,if_pos (by omega)]
   ·have := of_decide_eq_true hy
    rw [hkind,if_pos (by omega)]
   ·have hx' : x = (n : Int) := by simpa using hx
    have hy' := of_decide_eq_false hy
    have := nxt (by rw [hkind,if_neg (by omega)]) (n + 1) (by simp)
    rw [← wrap_succ (n := 4097) (by omega) (by omega)] at this
    exact this
  ·have hk : ¬k = 0 := of_decide_eq_false hk
   have hk1 : k ≠ 1 := by simpa using hk1
   exact ret_int (errs' (q := 3) (by rw [hkind,if_neg hk,if_pos hk1]) (by decide))
  ·have hk : ¬k = 0 := of_decide_eq_false hk
   have hk1 : ¬(k ≠ 1) := by simpa using hk1
   rw [if_neg hk,if_neg hk1] at hkind
   have ee : ∀ q,EvD.ev ⟨q,x⟩ = ⟨q,x⟩ := fun _=>rfl
   simp only [Int.toNat_natCast,hsub.2,ee]
   refine ⟨i0,⟨hsub.1,hsl⟩,fun hx=>ret_int (errs' (q := 7) ?_ (by decide)),fun hx hs=>⟨i0,⟨hsub.1,hsl⟩,fun hy=>ret_int (errs' (q := 8) ?_ (by decide)),fun hy=>?_⟩⟩
   ·have := of_decide_eq_true hx
    rw [hkind,if_pos this]
   ·have h7 := of_decide_eq_false hx
    have h8 := of_decide_eq_true hy
    rw [hkind,if_neg h7,if_pos h8]
   ·have h7 := of_decide_eq_false hx
    have h8 := of_decide_eq_false hy
    exact nxt (by rw [hkind,if_neg h7,if_neg h8]) n (by rw [if_neg hk]; simp)
 ·have : j = (hc.to Ev).length := by have := of_decide_eq_false hcj; omega
  subst this
  have hall := checkH_ev (h := (HiD.mk ha hb hc).hist) h1 h2 h3
  have h0' : ¬((runEv (HiD.mk ha hb hc).hist.writes.length (HiD.mk ha hb hc).hist.events (HiD.mk ha hb hc).hist.events.length).1 ≠ 0) := by
   show ¬((runEv (hb.to Wt).length (hc.to Ev) (hc.to Ev).length).1 ≠ 0)
   simp [h0]
  rw [if_neg h0'] at hall
  refine ⟨fun hy=>ret_int ?_,fun hy=>ret_int ?_⟩
  ·have := of_decide_eq_true hy
   rw [hall,if_pos]
   show (runEv (hb.to Wt).length (hc.to Ev) (hc.to Ev).length).2.issued.length < (hb.to Wt).length
   omega
  ·have := of_decide_eq_false hy
   rw [hall,if_neg]
   show ¬(runEv (hb.to Wt).length (hc.to Ev) (hc.to Ev).length).2.issued.length < (hb.to Wt).length
   omega

theorem lawCkR : Law Try.prog 65 (rdHi.one.sp spCkI) := by
 refine law_in _ (by kernel_rfl) fun H w ⟨ha,hb,hc⟩ hok hp=>?_
 have hR : (HiD.mk ha hb hc).Right := hp _ (List.mem_singleton.2 rfl)
 obtain ⟨ra,rb,rc,la,lb,lc,rd⟩ := id hR
 simp only at ra rb rc la lb lc rd
 have al := D.Is.length (α := Int) ha
 have bl := D.Is.length (α := Wt) hb
 apply exec_sound ctC2Ok 400
 rw [show rdHi.one.canon ⟨ha,hb,hc⟩ = [.agg [.dat ha,.dat hb,.dat hc]] from rfl,ck2_in]
 refine ⟨⟨ra,la⟩,fun h=>?_,fun h=>⟨fun h2=>?_,fun h2=>?_⟩⟩
 ·have h' : sizesErr (ha.to Int) ≠ 0 := by simpa using h
  exact ret_int (by rw [checkH_sz (h := (HiD.mk ha hb hc).hist) h']; rfl)
 ·have h' : sizesErr (ha.to Int) = 0 := by simpa using h
  have := of_decide_eq_true h2
  exact ret_int (by rw [checkH_many (h := (HiD.mk ha hb hc).hist) h' (by show (hb.to Wt).length > 4096; omega)])
 have h1 : sizesErr (ha.to Int) = 0 := by simpa using h
 have h2 : ¬(hb.to Wt).length > 4096 := by have := of_decide_eq_false h2; omega
 refine runs_loop (fun j : Nat=>crA ha hb hc j) (fun j=>j ≤ (hb.to Wt).length ∧ firstErr (ha.to Int) ((hb.to Wt).take j) = 0) (fun j=>(hb.to Wt).length - j) (fun _=>rfl) ?_ 0 ⟨Nat.zero_le _,rfl⟩
 intro j ⟨hj,hpre⟩ ih
 apply exec_sound ctC2Ok 400
 rw [crA_go]
 refine ⟨fun hcj hs=>?_,fun hcj=>?_⟩
 ·have hcj : j < (hb.to Wt).length := by have := of_decide_eq_true hcj; omega
  obtain ⟨c1,c2,c3⟩ := wt_cell rb hcj
  have hw : WtD.wt ⟨hb.getInt (Int.toNat (j : Int)) 0,hb.getInt (Int.toNat (j : Int)) 1,hb.cell (Int.toNat (j : Int)) 2⟩ = (hb.to Wt)[j] := c3.symm
  have hwd := rd _ (List.getElem_mem hcj)
  rw [c3] at hwd
  have hok2 : WtD.Ok ⟨hb.getInt (Int.toNat (j : Int)) 0,hb.getInt (Int.toNat (j : Int)) 1,hb.cell (Int.toNat (j : Int)) 2⟩ := ⟨c2,by rw [D.Is.length (α := Sec)]; exact hwd⟩
  rw [hw]
  have ft := firstErr_take (s := ha.to Int) hcj
  rw [hpre,if_neg (by simp)] at ft
  refine ⟨⟨by omega,by omega,rb.size hcj⟩,c1,⟨ra,la,(sizesErr_ok h1).2.2,hok2⟩,fun he=>?_,fun he=>?_⟩
  ·have he : fitsErr (ha.to Int) (hb.to Wt)[j] ≠ 0 := by simpa using he
   have hf := firstErr_of_take (s := ha.to Int) (l := hb.to Wt) (i := j + 1) (by rw [ft]; exact he)
   rw [ft] at hf
   exact ret_int (by rw [checkH_fit (h := (HiD.mk ha hb hc).hist) h1 h2 (by show firstErr (ha.to Int) (hb.to Wt) ≠ 0; rw [hf]; exact he)]; exact hf.symm)
  ·have he : fitsErr (ha.to Int) (hb.to Wt)[j] = 0 := by simpa using he
   have := ih (j + 1) ⟨hcj,by rw [ft,he]⟩ (by omega)
   rw [← wrap_succ hcj (by omega)] at this
   exact this
 ·have : j = (hb.to Wt).length := by have := of_decide_eq_false hcj; omega
  subst this
  rw [List.take_length] at hpre
  exact crB_loop hR h1 h2 hpre

theorem lawFew : Law Try.prog 39 (rdHi.one.sp spFew) := by
 refine law_in _ (by kernel_rfl) fun H w ⟨ha,hb,hc⟩ hok hp=>?_
 obtain ⟨ra,rb,rc⟩ := hp _ (List.mem_singleton.2 rfl)
 simp only at ra rb rc
 have al := D.Is.length (α := Int) ha
 have bl := D.Is.length (α := Wt) hb
 have el := D.Is.length (α := Ev) hc
 have ef : fewH (HiD.mk ha hb hc).hist = (decide ((ha.to Int).length ≤ 9) && (decide ((hb.to Wt).length ≤ 40) && (decide ((hc.to Ev).length ≤ 90) && ((ha.to Int).all (fun n=>decide (n ≤ 24)) && (hb.to Wt).all fun w=>decide (w.data.length ≤ 30))))) := rfl
 apply exec_sound (noCtr _) 200
 rw [show rdHi.one.canon ⟨ha,hb,hc⟩ = [.agg [.dat ha,.dat hb,.dat hc]] from rfl,few_in]
 refine ⟨fun h=>ret_lb ?_,fun h1=>⟨fun h=>ret_lb ?_,fun h2=>⟨fun h=>ret_lb ?_,fun h3=>?_⟩⟩⟩
 ·have := of_decide_eq_true h; rw [ef,decide_eq_false (p := (ha.to Int).length ≤ 9) (by omega)]; rfl
 ·have := of_decide_eq_true h; rw [ef,decide_eq_false (p := (hb.to Wt).length ≤ 40) (by omega)]; simp
 ·have := of_decide_eq_true h; rw [ef,decide_eq_false (p := (hc.to Ev).length ≤ 90) (by omega)]; simp
 have h1 := of_decide_eq_false h1
 have h2 := of_decide_eq_false h2
 have h3 := of_decide_eq_false h3
 rw [decide_eq_true (p := (ha.to Int).length ≤ 9) (by omega),decide_eq_true (p := (hb.to Wt).length ≤ 40) (by omega),decide_eq_true (p := (hc.to Ev).length ≤ 90) (by omega)] at ef
 simp only [Bool.true_and] at ef
 refine runs_loop (fun j : Nat=>fewL ha hb hc j) (fun j=>j ≤ (ha.to Int).length ∧ ∀ n,n ∈ (ha.to Int).take j → n ≤ 24) (fun j=>(ha.to Int).length - j) (fun _=>rfl) ?_ 0 ⟨Nat.zero_le _,by simp⟩
 intro j ⟨hj,hpre⟩ ih
 apply exec_sound (noCtr _) 200
 rw [few_go]
 refine ⟨fun hcj=>?_,fun hcj=>?_⟩
 ·have hcj : j < (ha.to Int).length := by have := of_decide_eq_true hcj; omega
  obtain ⟨c1,c2,c3⟩ := int_at ra hcj
  rw [c3]
  refine ⟨c1,c2,fun h=>ret_lb ?_,fun h=>?_⟩
  ·have := of_decide_eq_true h
   rw [ef]
   have : (ha.to Int).all (fun n=>decide (n ≤ 24)) = false := by
    rw [List.all_eq_false]
    exact ⟨_,List.getElem_mem hcj,by simp; omega⟩
   rw [this]; rfl
  ·have h := of_decide_eq_false h
   have := ih (j + 1) ⟨hcj,fun n hn=>by
    rw [List.take_succ_eq_append_getElem hcj] at hn
    rcases List.mem_append.1 hn with hn | hn
    ·exact hpre n hn
    ·rw [List.mem_singleton.1 hn]; omega⟩ (by omega)
   rw [← wrap_succ hcj (by omega)] at this
   exact this
 ·have : j = (ha.to Int).length := by have := of_decide_eq_false hcj; omega
  subst this
  rw [List.take_length] at hpre
  have ha24 : (ha.to Int).all (fun n=>decide (n ≤ 24)) = true := List.all_eq_true.2 fun n hn=>decide_eq_true (hpre n hn)
  rw [ha24,Bool.true_and] at ef
  refine runs_loop (fun j : Nat=>few2L ha hb hc j) (fun j=>j ≤ (hb.to Wt).length ∧ ∀ n,n ∈ (hb.to Wt).take j → n.data.length ≤ 30) (fun j=>(hb.to Wt).length - j) (fun _=>rfl) ?_ 0 ⟨Nat.zero_le _,by simp⟩
  intro j ⟨hj,hpre⟩ ih
  apply exec_sound (noCtr _) 200
  rw [few2_go]
  refine ⟨fun hcj=>?_,fun hcj=>ret_lb ?_⟩
  ·have hcj : j < (hb.to Wt).length := by have := of_decide_eq_true hcj; omega
   obtain ⟨c1,c2,c3⟩ := wt_cell rb hcj
   have hls := D.Is.length (α := Sec) (hb.cell j 2)
   refine ⟨⟨by omega,by omega,rb.size hcj⟩,c1.2.2.1,fun h=>ret_lb ?_,fun h=>?_⟩
   ·have h : ((hb.cell j 2).len : Int) > 30 := of_decide_eq_true h
    rw [ef]
    symm
    rw [List.all_eq_false]
    exact ⟨_,List.getElem_mem hcj,by rw [c3]; simp only [decide_eq_true_eq]; omega⟩
   ·have h : ¬((hb.cell j 2).len : Int) > 30 := of_decide_eq_false h
    have := ih (j + 1) ⟨hcj,fun n hn=>by
     rw [List.take_succ_eq_append_getElem hcj] at hn
     rcases List.mem_append.1 hn with hn | hn
     ·exact hpre n hn
     ·rw [List.mem_singleton.1 hn,c3]; simp only; omega⟩ (by omega)
    rw [← wrap_succ hcj (by omega)] at this
    exact this
  ·have : j = (hb.to Wt).length := by have := of_decide_eq_false hcj; omega
   subst this
   rw [List.take_length] at hpre
   rw [ef]
   exact (List.all_eq_true.2 fun n hn=>decide_eq_true (hpre n hn)).symm
end Go.Proofs.Ytodhhmjilnfecaa
end
section
open Go Go.Proofs Sx
namespace Go.Proofs.Ytodhhmjilnfecaa
set_option maxRecDepth 100000
set_option maxHeartbeats 0
noncomputable def ctK : Ctrs := [(78,oCtr (spClone Int 3)),(81,oCtr (spClone Sec 81)),(79,oCtr (spClone Ev 108))]
section
variable (n j k w : Int) (d e a b i o ha hb hc : D) (v s : Int)
theorem cl1_in : execT Try.prog [] (fun _=>false) 19 (entry Try.prog 78 [.dat d]) =
 Tree.br
 (nilOf
 (evS
 (putS [.dat d,SV.undef,.nils,SV.undef,SV.undef,SV.undef,SV.undef,SV.undef] (some 3)
 (evS [.dat d,SV.undef,.nils,SV.undef,SV.undef,SV.undef,SV.undef,SV.undef] (Operand.tmp 0)))
 (Operand.tmp 3))
 d)
 (.ret .nils)
 (.all fun hs =>
 .need
 (D.sz (D.slc (D.hd (hs 0 0)) 1 []) = 1 ∧
 D.Fits d 1 ∧
 (D.len (D.slc (D.hd (hs 0 0)) 1 []) + D.len d) * 8 ≤ 140737488355328 ∧
 D.len (D.slc (D.hd (hs 0 0)) 1 []) + D.len d ≤ 9223372036854775807)
 (.all fun hs_1 =>
 .leaf
 (Conf.mk
 (SFrm.mk 78 none none [Item.code (cAt Try.prog 78 [1,0,1,0,1])]
 (mkU
 [(0,.dat d),(2,.vec 1007),(3,.dat d),
 (4,
 .bool
 (nilOf
 (evS
 (putS [.dat d,SV.undef,.nils,SV.undef,SV.undef,SV.undef,SV.undef,SV.undef] (some 3)
 (evS [.dat d,SV.undef,.nils,SV.undef,SV.undef,SV.undef,SV.undef,SV.undef]
 (Operand.tmp 0)))
 (Operand.tmp 3))
 d)),
 (5,.vec 1005),(6,.dat d),(7,.vec 1007)]
 0 8))
 []
 [(1007,
 OBlk.arr 3
 (D.slc (D.hd (hs_1 0 0)) 1 (List.append (D.rows (D.slc (D.hd (hs 0 0)) 1 [])) (D.rows d))))]))) := by kernel_rfl

theorem cl2_in : execT Try.prog [] (fun _=>false) 19 (entry Try.prog 81 [.dat d]) =
 Tree.br
 (nilOf
 (evS
 (putS [.dat d,SV.undef,.nils,SV.undef,SV.undef,SV.undef,SV.undef,SV.undef] (some 3)
 (evS [.dat d,SV.undef,.nils,SV.undef,SV.undef,SV.undef,SV.undef,SV.undef] (Operand.tmp 0)))
 (Operand.tmp 3))
 d)
 (.ret .nils)
 (.all fun hs =>
 .need
 (D.sz (D.slc (D.hd (hs 0 0)) 8 []) = 8 ∧
 D.Fits d 8 ∧
 (D.len (D.slc (D.hd (hs 0 0)) 8 []) + D.len d) * 8 ≤ 140737488355328 ∧
 D.len (D.slc (D.hd (hs 0 0)) 8 []) + D.len d ≤ 9223372036854775807)
 (.all fun hs_1 =>
 .leaf
 (Conf.mk
 (SFrm.mk 81 none none [Item.code (cAt Try.prog 81 [1,0,1,0,1])]
 (mkU
 [(0,.dat d),(2,.vec 1007),(3,.dat d),
 (4,
 .bool
 (nilOf
 (evS
 (putS [.dat d,SV.undef,.nils,SV.undef,SV.undef,SV.undef,SV.undef,SV.undef] (some 3)
 (evS [.dat d,SV.undef,.nils,SV.undef,SV.undef,SV.undef,SV.undef,SV.undef]
 (Operand.tmp 0)))
 (Operand.tmp 3))
 d)),
 (5,.vec 1005),(6,.dat d),(7,.vec 1007)]
 0 8))
 []
 [(1007,
 OBlk.arr 81
 (D.slc (D.hd (hs_1 0 0)) 8 (List.append (D.rows (D.slc (D.hd (hs 0 0)) 8 [])) (D.rows d))))]))) := by kernel_rfl

theorem cl3_in : execT Try.prog [] (fun _=>false) 19 (entry Try.prog 79 [.dat d]) =
 Tree.br
 (nilOf
 (evS
 (putS [.dat d,SV.undef,.nils,SV.undef,SV.undef,SV.undef,SV.undef,SV.undef] (some 3)
 (evS [.dat d,SV.undef,.nils,SV.undef,SV.undef,SV.undef,SV.undef,SV.undef] (Operand.tmp 0)))
 (Operand.tmp 3))
 d)
 (.ret .nils)
 (.all fun hs =>
 .need
 (D.sz (D.slc (D.hd (hs 0 0)) 2 []) = 2 ∧
 D.Fits d 2 ∧
 (D.len (D.slc (D.hd (hs 0 0)) 2 []) + D.len d) * 16 ≤ 140737488355328 ∧
 D.len (D.slc (D.hd (hs 0 0)) 2 []) + D.len d ≤ 9223372036854775807)
 (.all fun hs_1 =>
 .leaf
 (Conf.mk
 (SFrm.mk 79 none none [Item.code (cAt Try.prog 79 [1,0,1,0,1])]
 (mkU
 [(0,.dat d),(2,.vec 1007),(3,.dat d),
 (4,
 .bool
 (nilOf
 (evS
 (putS [.dat d,SV.undef,.nils,SV.undef,SV.undef,SV.undef,SV.undef,SV.undef] (some 3)
 (evS [.dat d,SV.undef,.nils,SV.undef,SV.undef,SV.undef,SV.undef,SV.undef]
 (Operand.tmp 0)))
 (Operand.tmp 3))
 d)),
 (5,.vec 1005),(6,.dat d),(7,.vec 1007)]
 0 8))
 []
 [(1007,
 OBlk.arr 108
 (D.slc (D.hd (hs_1 0 0)) 2 (List.append (D.rows (D.slc (D.hd (hs 0 0)) 2 [])) (D.rows d))))]))) := by kernel_rfl


theorem copR_in : exec Try.prog [] 400 (entry Try.prog 48 [.agg [.dat ha,.dat hb,.dat hc]]) =
 Tree.leaf
 (Conf.mk
 (SFrm.mk 48 none none
 [Item.inLoop (cAt Try.prog 48 [1,1,1,1,0,1,0,0]),Item.inBlock 0,
 Item.code (cAt Try.prog 48 [1,1,1,1,1])]
 (mkJ 0 [(1,.ptr 0 0),(2,.ptr 1 0),(3,.nils),(4,.nils),(5,.nils),(6,.int .i64 0)] 0
 43))
 [] [(0,OBlk.cells 26 [.dat ha,.dat hb,.dat hc]),(1,OBlk.cells 26 [.nils,.nils,.nils])]) := by kernel_rfl

end
end Go.Proofs.Ytodhhmjilnfecaa
end
section
open Go Go.Proofs Sx
namespace Go.Proofs.Ytodhhmjilnfecaa
set_option maxRecDepth 100000
set_option maxHeartbeats 0
noncomputable def crL (ha hb hc q : D) (j : Int) : Conf := Conf.mk (SFrm.mk 48 none none [Item.inLoop (cAt Try.prog 48 [1,1,1,1,0,1,0,0]),Item.inBlock 0,Item.code (cAt Try.prog 48 [1,1,1,1,1])]
 (mkJ 0 [(1,.ptr 0 0),(2,.ptr 1 0),(3,.nils),(4,.vec 2),(5,.nils),(6,.int .i64 j)] 0 43)) [] [(0,.cells 26 [.dat ha,.dat hb,.dat hc]),(1,.cells 26 [.nils,.nils,.nils]),(2,.arr 31 q)]
section
variable (j : Int) (ha hb hc p q r : D)

theorem crL_go : exec Try.prog [] 400 (unroll (crL ha hb hc q j)) =
 Tree.br (decide (j < (↑(D.len hb) : Int)))
 (.need (0 ≤ j ∧ j < (↑(D.len hb) : Int) ∧ D.sz hb = 3)
 (.need (D.HasCells hb (Int.toNat j) 0 [FT.int .i64,FT.int .i64,FT.slc])
 (.all fun hs =>
 .need
 (D.Fits (D.cell hb (Int.toNat j) 2) 8 ∧
 D.len (D.cell hb (Int.toNat j) 2) * 8 ≤ 140737488355328 ∧
 D.len (D.cell hb (Int.toNat j) 2) ≤ 9223372036854775807)
 (.need
 (D.sz q = 3 ∧
 D.Fits
 (D.slc (D.hd (hs 10 0)) 3
 [[D.int .i64 (D.getInt hb (Int.toNat j) 0),D.int .i64 (D.getInt hb (Int.toNat j) 1),
 D.slc (D.hd (hs 8 0)) 8 (D.rows (D.cell hb (Int.toNat j) 2))]])
 3 ∧
 (D.len q +
 D.len
 (D.slc (D.hd (hs 10 0)) 3
 [[D.int .i64 (D.getInt hb (Int.toNat j) 0),
 D.int .i64 (D.getInt hb (Int.toNat j) 1),
 D.slc (D.hd (hs 8 0)) 8 (D.rows (D.cell hb (Int.toNat j) 2))]])) *
 40 ≤
 140737488355328 ∧
 D.len q +
 D.len
 (D.slc (D.hd (hs 10 0)) 3
 [[D.int .i64 (D.getInt hb (Int.toNat j) 0),
 D.int .i64 (D.getInt hb (Int.toNat j) 1),
 D.slc (D.hd (hs 8 0)) 8 (D.rows (D.cell hb (Int.toNat j) 2))]]) ≤
 9223372036854775807)
 (.leaf
 (Conf.mk
 (SFrm.mk 48 none none
 [Item.inLoop (cAt Try.prog 48 [1,1,1,1,0,1,0,0]),Item.inBlock 0,
 Item.code (cAt Try.prog 48 [1,1,1,1,1])]
 (mkJ 0
 [(1,.ptr 0 0),(2,.ptr 1 0),(3,.nils),(4,.vec 2),(5,.nils),
 (6,.int .i64 (IntKind.wrap .i64 (j + 1)))]
 0 43))
 []
 [(0,OBlk.cells 26 [.dat ha,.dat hb,.dat hc]),(1,OBlk.cells 26 [.nils,.nils,.nils]),
 (2,
 OBlk.arr 31
 (D.slc (D.hd (hs 11 0)) 3
 (List.append (D.rows q)
 (D.rows
 (D.slc (D.hd (hs 10 0)) 3
 [[D.int .i64 (D.getInt hb (Int.toNat j) 0),
 D.int .i64 (D.getInt hb (Int.toNat j) 1),
 D.slc (D.hd (hs 8 0)) 8 (D.rows (D.cell hb (Int.toNat j) 2))]])))))]))))))
 (.all fun hs =>
 .need (D.Fits ha 1 ∧ D.len ha * 8 ≤ 140737488355328 ∧ D.len ha ≤ 9223372036854775807)
 (.need (D.Fits hc 2 ∧ D.len hc * 16 ≤ 140737488355328 ∧ D.len hc ≤ 9223372036854775807)
 (.ret
 (.agg
 [.dat (D.slc (D.hd (hs 3 0)) 1 (D.rows ha)),.dat q,.dat (D.slc (D.hd (hs 8 0)) 2 (D.rows hc))])))) := by kernel_rfl

end
end Go.Proofs.Ytodhhmjilnfecaa
end
section
open Go Go.Proofs Sx
namespace Go.Proofs.Ytodhhmjilnfecaa
set_option maxRecDepth 100000

theorem lawCl1 : OLaw Try.prog 78 (spClone Int 3) := by
 refine olaw_clone (by kernel_rfl) fun H w d hok hd hlen=>?_
 apply execT_sound (noCtr _) (fun _=>false) 19
 rw [cl1_in]
 refine ⟨fun hc=>?_,fun hc hs=>⟨⟨rfl,hd.fits,by simp only [len_slc,List.length_nil]; omega,by simp only [len_slc,List.length_nil]; omega⟩,fun hs1=>?_⟩⟩
 ·have hc : d.isNil = true := hc
  have := nil_rows hok hc
  exact own_nil (h := .slc none 1 []) (by rw [this]; rfl)
 ·exact own_ret (f := Try.f78) (j := 1007) (h := hs1 0 0) (by kernel_rfl) (by kernel_rfl) rfl rfl
theorem lawCl2 : OLaw Try.prog 81 (spClone Sec 81) := by
 refine olaw_clone (by kernel_rfl) fun H w d hok hd hlen=>?_
 apply execT_sound (noCtr _) (fun _=>false) 19
 rw [cl2_in]
 refine ⟨fun hc=>?_,fun hc hs=>⟨⟨rfl,hd.fits,by simp only [len_slc,List.length_nil]; omega,by simp only [len_slc,List.length_nil]; omega⟩,fun hs1=>?_⟩⟩
 ·have hc : d.isNil = true := hc
  have := nil_rows hok hc
  exact own_nil (h := .slc none 8 []) (by rw [this]; rfl)
 ·exact own_ret (f := Try.f81) (j := 1007) (h := hs1 0 0) (by kernel_rfl) (by kernel_rfl) rfl rfl
theorem lawCl3 : OLaw Try.prog 79 (spClone Ev 108) := by
 refine olaw_clone (by kernel_rfl) fun H w d hok hd hlen=>?_
 apply execT_sound (noCtr _) (fun _=>false) 19
 rw [cl3_in]
 refine ⟨fun hc=>?_,fun hc hs=>⟨⟨rfl,hd.fits,by simp only [len_slc,List.length_nil]; omega,by simp only [len_slc,List.length_nil]; omega⟩,fun hs1=>?_⟩⟩
 ·have hc : d.isNil = true := hc
  have := nil_rows hok hc
  exact own_nil (h := .slc none 2 []) (by rw [this]; rfl)
 ·exact own_ret (f := Try.f79) (j := 1007) (h := hs1 0 0) (by kernel_rfl) (by kernel_rfl) rfl rfl
theorem ctKOk : Ctrs.Ok Try.prog ctK := by
 intro x hx
 simp only [ctK,List.mem_cons,List.not_mem_nil,or_false] at hx
 rcases hx with rfl | rfl | rfl
 ·exact oCtr_ok lawCl1
 ·exact oCtr_ok lawCl2
 ·exact oCtr_ok lawCl3


theorem copR_loop {H : HV} {w : World} {ha hb hc : D} (hR : (HiD.mk ha hb hc).Right) :
  Runs Try.prog ⟨w,H⟩ (crL ha hb hc (.slc none 3 []) 0) (RetD w H fun ds=>hiSV ds (HiD.mk ha hb hc).hist) := by
 obtain ⟨ra,rb,rc,la,lb,lc,rd⟩ := id hR
 simp only at ra rb rc la lb lc rd
 have bl := D.Is.length (α := Wt) hb
 refine runs_loop (fun q : D × Nat=>crL ha hb hc q.1 q.2) (fun q=>q.2 ≤ (hb.to Wt).length ∧ q.1.Is Wt ∧ q.1.sz = 3 ∧ q.1.to Wt = (hb.to Wt).take q.2) (fun q=>(hb.to Wt).length - q.2) (fun _=>rfl) ?_ (.slc none 3 [],0) ⟨Nat.zero_le _,is_nil _ _,rfl,rfl⟩
 intro ⟨q,j⟩ ⟨hj,hq,hz,hto⟩ ih
 simp only at hj hq hz hto
 have ql := D.Is.length (α := Wt) q
 rw [hto,List.length_take] at ql
 show Runs Try.prog ⟨w,H⟩ (unroll (crL ha hb hc q j)) _
 apply exec_sound (noCtr _) 400
 rw [crL_go]
 refine ⟨fun hcj=>?_,fun hcj hs=>?_⟩
 ·have hcj : j < (hb.to Wt).length := by have := of_decide_eq_true hcj; omega
  obtain ⟨c1,c2,c3⟩ := wt_cell rb hcj
  have hwd := rd _ (List.getElem_mem hcj)
  rw [c3] at hwd
  have hls : (hb.cell (Int.toNat (j : Int)) 2).len ≤ 1048576 := by rw [D.Is.length (α := Sec)]; exact hwd
  refine ⟨⟨by omega,by omega,rb.size hcj⟩,c1,fun hs=>⟨⟨c2.fits,by omega,by omega⟩,⟨hz,.inr rfl,by simp only [len_slc,List.length_cons,List.length_nil]; omega,by simp only [len_slc,List.length_cons,List.length_nil]; omega⟩,?_⟩⟩
  obtain ⟨x1,x2⟩ := slc_same c2 (D.hd (hs 8 0)) (s := 8) rfl
  have hr := rows_app (rows_of hq) (wt_one (hb.getInt j 0) (hb.getInt j 1) x1)
  obtain ⟨i1,i2⟩ := is_of (h := D.hd (hs 11 0)) (s := 3) rfl hr
  have := ih (_,j + 1) ⟨hcj,i1,rfl,i2.trans (by rw [hto,List.take_succ_eq_append_getElem hcj,c3,x2])⟩ (by simp only; omega)
  simp only at this
  rw [← wrap_succ hcj (by omega)] at this
  exact this
 ·have : j = (hb.to Wt).length := by have := of_decide_eq_false hcj; omega
  subst this
  rw [List.take_length] at hto
  obtain ⟨p1,p2⟩ := slc_same ra (D.hd (hs 3 0)) (s := 1) rfl
  obtain ⟨r1,r2⟩ := slc_same rc (D.hd (hs 8 0)) (s := 2) rfl
  exact ⟨⟨ra.fits,by omega,by omega⟩,⟨rc.fits,by omega,by omega⟩,ret_hi (stands_dat p1 p2) (stands_dat hq hto) (stands_dat r1 r2) rfl⟩
theorem lawCopyR : Law Try.prog 48 (rdHi.one.sp spCopy) := by
 refine law_in _ (by kernel_rfl) fun H w ⟨ha,hb,hc⟩ hok hp=>?_
 have hR : (HiD.mk ha hb hc).Right := hp _ (List.mem_singleton.2 rfl)
 apply exec_sound (noCtr _) 400
 rw [show rdHi.one.canon ⟨ha,hb,hc⟩ = [.agg [.dat ha,.dat hb,.dat hc]] from rfl,copR_in]
 exact vecIn_to 9 31 3 none 4 (crL ha hb hc (.slc none 3 []) 0) (by kernel_rfl) (copR_loop hR)
end Go.Proofs.Ytodhhmjilnfecaa
end
section
open Go Go.Proofs Sx
namespace Go.Proofs.Ytodhhmjilnfecaa
set_option maxRecDepth 100000
set_option maxHeartbeats 0
noncomputable def ctM : Ctrs := (68,ctrOf (rdHi.one.sp spCk)) :: (65,ctrOf (rdHi.one.sp spCkI)) :: (48,ctrOf (rdHi.one.sp spCopy)) :: (ctK ++ (ctC1 ++ ctC2))
section
variable (n j k w : Int) (d e a b i o ha hb hc ga gb gc : D) (v s : Int)
theorem nw_in : exec Try.prog ctM 300 (entry Try.prog 60 [.dat d]) =
 Tree.need (D.Is Int d ∧ D.len d ≤ 1048576)
 (.all fun hs =>
 .br (sizesErr (D.to Int d) != 0)
 (.ret (SV.tup [.agg [.nils,.nils,.nils],.int .i64 (sizesErr (D.to Int d))]))
 (.need (D.Is Int d ∧ D.len d ≤ 1048576)
 (.all fun hs =>
 .ret
 (SV.tup [.agg [.dat (D.slc (D.hd (hs 0 0)) 1 (D.rows d)),.nils,.nils],.int .i64 0])))) := by kernel_rfl

theorem nwR_in : exec Try.prog ctM 300 (entry Try.prog 64 [.dat d]) =
 Tree.need (D.Is Int d ∧ D.len d ≤ 1048576)
 (.br (sizesErr (D.to Int d) != 0)
 (.ret (SV.tup [.agg [.nils,.nils,.nils],.int .i64 (sizesErr (D.to Int d))]))
 (.need (D.Fits d 1 ∧ D.len d * 8 ≤ 140737488355328 ∧ D.len d ≤ 9223372036854775807)
 (.all fun hs =>
 .ret
 (SV.tup [.agg [.dat (D.slc (D.hd (hs 0 0)) 1 (D.rows d)),.nils,.nils],.int .i64 0])))) := by kernel_rfl

theorem chk1_in : exec Try.prog ctM 300 (entry Try.prog 76 [.agg [.dat ha,.dat hb,.dat hc]]) =
 Tree.need (HiD.Right (HiD.mk ha hb hc))
 (.all fun hs=>.ret (.int .i64 (Prod.fst (checkH (HiD.hist (HiD.mk ha hb hc)))))) := by kernel_rfl


theorem isR_in : exec Try.prog ctM 500 (entry Try.prog 42 [.agg [.dat ha,.dat hb,.dat hc],.agg [.int .i64 v,.int .i64 s,.dat e]]) =
 Tree.need (HiD.Right (HiD.mk ha hb hc))
 (.br (Prod.fst (checkH (HiD.hist (HiD.mk ha hb hc))) != 0)
 (.ret
 (SV.tup
 [.agg [.nils,.nils,.nils],.int .i64 0,
 .int .i64 (Prod.fst (checkH (HiD.hist (HiD.mk ha hb hc))))]))
 (.br (decide ((↑(D.len hb) : Int) ≥ 4096))
 (.ret (SV.tup [.agg [.nils,.nils,.nils],.int .i64 0,.int .i64 6]))
 (.need
 (D.Is Int ha ∧
 D.len ha ≤ 1048576 ∧ (∀ (n : Int),List.Mem n (D.to Int ha) → 1 ≤ n ∧ n ≤ 4096) ∧ WtD.Ok (WtD.mk v s e))
 (.br (fitsErr (D.to Int ha) (WtD.wt (WtD.mk v s e)) != 0)
 (.ret
 (SV.tup
 [.agg [.nils,.nils,.nils],.int .i64 0,
 .int .i64 (fitsErr (D.to Int ha) (WtD.wt (WtD.mk v s e)))]))
 (.all fun hs =>
 .need
 (0 ≤ (↑0 : Int) ∧
 (↑0 : Int) ≤ (↑(D.len hb) : Int) ∧
 (↑(D.len hb) : Int) ≤ (↑(D.len hb) : Int) ∧ (↑(D.len hb) : Int) = (↑(D.len hb) : Int) ∧ D.Fits hb 3)
 (.need
 (D.Tight (D.sub3 hb 0 (Int.toNat (↑(D.len hb) : Int))) ∧
 D.Fits (D.sub3 hb 0 (Int.toNat (↑(D.len hb) : Int))) 3 ∧
 D.Fits (D.slc (D.hd (hs 6 0)) 3 [[D.int .i64 v,D.int .i64 s,e]]) 3 ∧
 0 < D.len (D.slc (D.hd (hs 6 0)) 3 [[D.int .i64 v,D.int .i64 s,e]]) ∧
 (D.len (D.sub3 hb 0 (Int.toNat (↑(D.len hb) : Int))) +
 D.len (D.slc (D.hd (hs 6 0)) 3 [[D.int .i64 v,D.int .i64 s,e]])) *
 40 ≤
 140737488355328 ∧
 D.len (D.sub3 hb 0 (Int.toNat (↑(D.len hb) : Int))) +
 D.len (D.slc (D.hd (hs 6 0)) 3 [[D.int .i64 v,D.int .i64 s,e]]) ≤
 9223372036854775807)
 (.all fun hs_1 =>
 .need
 (0 ≤ (↑0 : Int) ∧
 (↑0 : Int) ≤ (↑(D.len hc) : Int) ∧
 (↑(D.len hc) : Int) ≤ (↑(D.len hc) : Int) ∧
 (↑(D.len hc) : Int) = (↑(D.len hc) : Int) ∧ D.Fits hc 2)
 (.need
 (D.Tight (D.sub3 hc 0 (Int.toNat (↑(D.len hc) : Int))) ∧
 D.Fits (D.sub3 hc 0 (Int.toNat (↑(D.len hc) : Int))) 2 ∧
 D.Fits
 (D.slc (D.hd (hs_1 11 0)) 2
 [[D.int .i64 0,D.int .i64 (↑(D.len hb) : Int)]])
 2 ∧
 0 <
 D.len
 (D.slc (D.hd (hs_1 11 0)) 2
 [[D.int .i64 0,D.int .i64 (↑(D.len hb) : Int)]]) ∧
 (D.len (D.sub3 hc 0 (Int.toNat (↑(D.len hc) : Int))) +
 D.len
 (D.slc (D.hd (hs_1 11 0)) 2
 [[D.int .i64 0,D.int .i64 (↑(D.len hb) : Int)]])) *
 16 ≤
 140737488355328 ∧
 D.len (D.sub3 hc 0 (Int.toNat (↑(D.len hc) : Int))) +
 D.len
 (D.slc (D.hd (hs_1 11 0)) 2
 [[D.int .i64 0,D.int .i64 (↑(D.len hb) : Int)]]) ≤
 9223372036854775807)
 (.need
 (HiD.Right
 (HiD.mk ha
 (D.slc (D.hd (hs 7 0)) 3
 (List.append (D.rows (D.sub3 hb 0 (Int.toNat (↑(D.len hb) : Int))))
 (D.rows (D.slc (D.hd (hs 6 0)) 3 [[D.int .i64 v,D.int .i64 s,e]]))))
 (D.slc (D.hd (hs_1 12 0)) 2
 (List.append (D.rows (D.sub3 hc 0 (Int.toNat (↑(D.len hc) : Int))))
 (D.rows
 (D.slc (D.hd (hs_1 11 0)) 2
 [[D.int .i64 0,D.int .i64 (↑(D.len hb) : Int)]]))))))
 (.all fun hs_2 =>
 .ret
 (SV.tup
 [.agg
 [.dat (D.like (hs_2 0 0) (D.to Int ha)),
 .dat
 (D.like (hs_2 0 1)
 (D.to Wt
 (D.slc (D.hd (hs 7 0)) 3
 (List.append (D.rows (D.sub3 hb 0 (Int.toNat (↑(D.len hb) : Int))))
 (D.rows
 (D.slc (D.hd (hs 6 0)) 3
 [[D.int .i64 v,D.int .i64 s,e]])))))),
 .dat
 (D.like (hs_2 0 2)
 (D.to Ev
 (D.slc (D.hd (hs_1 12 0)) 2
 (List.append (D.rows (D.sub3 hc 0 (Int.toNat (↑(D.len hc) : Int))))
 (D.rows
 (D.slc (D.hd (hs_1 11 0)) 2
 [[D.int .i64 0,D.int .i64 (↑(D.len hb) : Int)]]))))))],
 .int .i64 (↑(D.len hb) : Int),.int .i64 0]))))))))))) := by kernel_rfl

theorem akR_in : exec Try.prog ctM 500 (entry Try.prog 50 [.agg [.dat ha,.dat hb,.dat hc],.int .i64 n]) =
 Tree.need (HiD.Right (HiD.mk ha hb hc))
 (.br (Prod.fst (checkH (HiD.hist (HiD.mk ha hb hc))) != 0)
 (.ret
 (SV.tup
 [.agg [.nils,.nils,.nils],.int .i64 (Prod.fst (checkH (HiD.hist (HiD.mk ha hb hc))))]))
 (.br (decide (n < 0)) (.ret (SV.tup [.agg [.nils,.nils,.nils],.int .i64 7]))
 (.br (decide (n ≥ (↑(D.len hb) : Int)))
 (.ret (SV.tup [.agg [.nils,.nils,.nils],.int .i64 7]))
 (.all fun hs =>
 .need (D.Is Ev hc ∧ D.len hc ≤ 1048576)
 (.br (decide (atEv (D.to Ev hc) (EvD.ev (EvD.mk 1 n)) ≥ 0))
 (.ret (SV.tup [.agg [.nils,.nils,.nils],.int .i64 8]))
 (.all fun hs =>
 .need
 (0 ≤ (↑0 : Int) ∧
 (↑0 : Int) ≤ (↑(D.len hc) : Int) ∧
 (↑(D.len hc) : Int) ≤ (↑(D.len hc) : Int) ∧
 (↑(D.len hc) : Int) = (↑(D.len hc) : Int) ∧ D.Fits hc 2)
 (.need
 (D.Tight (D.sub3 hc 0 (Int.toNat (↑(D.len hc) : Int))) ∧
 D.Fits (D.sub3 hc 0 (Int.toNat (↑(D.len hc) : Int))) 2 ∧
 D.Fits (D.slc (D.hd (hs 11 0)) 2 [[D.int .i64 1,D.int .i64 n]]) 2 ∧
 0 < D.len (D.slc (D.hd (hs 11 0)) 2 [[D.int .i64 1,D.int .i64 n]]) ∧
 (D.len (D.sub3 hc 0 (Int.toNat (↑(D.len hc) : Int))) +
 D.len (D.slc (D.hd (hs 11 0)) 2 [[D.int .i64 1,D.int .i64 n]])) *
 16 ≤
 140737488355328 ∧
 D.len (D.sub3 hc 0 (Int.toNat (↑(D.len hc) : Int))) +
 D.len (D.slc (D.hd (hs 11 0)) 2 [[D.int .i64 1,D.int .i64 n]]) ≤
 9223372036854775807)
 (.need
 (HiD.Right
 (HiD.mk ha hb
 (D.slc (D.hd (hs 12 0)) 2
 (List.append (D.rows (D.sub3 hc 0 (Int.toNat (↑(D.len hc) : Int))))
 (D.rows (D.slc (D.hd (hs 11 0)) 2 [[D.int .i64 1,D.int .i64 n]]))))))
 (.all fun hs_1 =>
 .ret
 (SV.tup
 [.agg
 [.dat (D.like (hs_1 0 0) (D.to Int ha)),.dat (D.like (hs_1 0 1) (D.to Wt hb)),
 .dat
 (D.like (hs_1 0 2)
 (D.to Ev
 (D.slc (D.hd (hs 12 0)) 2
 (List.append (D.rows (D.sub3 hc 0 (Int.toNat (↑(D.len hc) : Int))))
 (D.rows
 (D.slc (D.hd (hs 11 0)) 2
 [[D.int .i64 1,D.int .i64 n]]))))))],
 .int .i64 0])))))))))) := by kernel_rfl

theorem sm_in : exec Try.prog ((52,ctrOf ((rdD.two rdD).sp spInts)) :: (88,ctrOf ((rdD.two rdD).sp spWts)) :: (89,ctrOf ((rdD.two rdD).sp spEvs)) :: []) 300 (entry Try.prog 51 [.agg [.dat ha,.dat hb,.dat hc],.agg [.dat ga,.dat gb,.dat gc]]) =
 Tree.need (D.Is Int ha ∧ D.Is Int ga ∧ D.len ha ≤ 1048576)
 (.br (decide (D.to Int ha = D.to Int ga))
 (.need
 (D.Is Wt hb ∧
 D.Is Wt gb ∧ D.len hb ≤ 1048576 ∧ ∀ (w : Wt),List.Mem w (D.to Wt hb) → List.length (Wt.data w) ≤ 1048576)
 (.br (decide (D.to Wt hb = D.to Wt gb))
 (.need (D.Is Ev hc ∧ D.Is Ev gc ∧ D.len hc ≤ 1048576)
 (.ret (.bool (decide (D.to Ev hc = D.to Ev gc)))))
 (.ret (.lb false))))
 (.ret (.lb false))) := by kernel_rfl

end
end Go.Proofs.Ytodhhmjilnfecaa
end
section
namespace Sx
open Go
def atDst (c : Conf) : Option (FuncId × Nat) :=
 match c.top.ri with
 | some _=>none
 | none=>match c.top.todo with
  | .code (.region _ ops _) :: _=>match ops[0]? with
   | some o=>match o.dst with
    | some d=>some (c.top.fn,d)
    | none=>none
   | none=>none
  | _=>none

def restsAt (l : List (FuncId × Nat)) (c : Conf) : Bool :=
 match atDst c with
 | some (f,d)=>l.any fun x=>x.1 == f && x.2 == d
 | none=>false
def liveW (P : Program) (g : SFrm) : List Nat :=
 let out := (liveI (retN P g.fn) g.todo).1
 let live := match g.ri with
  | some (ops,l)=>liveOps ops (l.filterMap fun i=>ops[i]?) out
  | none=>out
 match g.await with
 | some t=>live.filter (· != t)
 | none=>live
def fgtR (P : Program) (c : Conf) : Conf :=
 match c.rest with
 | []=>c
 | g :: r =>
  let n := 1000 * r.length
  let live := liveW P g
  if keptOk n live 0 g.tmps && c.mem.all (fun e=>!e.2.jk n) && r.all (fun f=>!SV.jkL n f.tmps) && !SV.jkL n c.top.tmps then
   { c with rest := { g with tmps := maskT n live 0 g.tmps } :: r }
  else c

theorem fgtR_sound {P : Program} {C : Ctx} {R : Value → World → Prop} {c : Conf} (h : Runs P C (fgtR P c) R) : Runs P C c R := by
 obtain ⟨top,rest,mem⟩ := c
 unfold fgtR at h
 simp only at h
 cases rest with
 | nil=>exact h
 | cons g r =>
  simp only at h
  split at h
  ·rename_i hc
   simp only [Bool.and_eq_true,Bool.not_eq_true'] at hc
   obtain ⟨⟨⟨h1,h2⟩,h3⟩,h4⟩ := hc
   intro E H w gd ok
   let n := 1000 * r.length
   let E' : Env := ⟨E.b,E.v,fun i=>if i < n then E.j i else ((SV.denL E g.tmps)[i - n]?).getD Go.undef⟩
   have hs : Same n E E' := ⟨rfl,rfl,fun i hi=>by simp [E',hi]⟩
   have hg := gd.same' hs (fun x hx=>by have := List.all_eq_true.1 h2 x hx; simpa using this)
   have hr := h E' H w hg ⟨ok.1,fun f hf=>by
    rcases List.mem_cons.1 hf with rfl | hf
    ·exact maskT_ok _ _ _ (ok.2 g (by simp))
    ·exact ok.2 f (by simp [hf])⟩
   have e1 : SV.denL E' (maskT n (liveW P g) 0 g.tmps) = SV.denL E g.tmps := by
    refine maskT_den hs _ _ 0 h1 (fun i v hv=>?_)
    simp only [E',Nat.zero_add]
    rw [if_neg (by omega),show n + i - n = i from by omega,SV.denL_eq,List.getElem?_map,hv]
    rfl
   have e2 : r.map (SFrm.den E') = r.map (SFrm.den E) := by
    apply List.map_congr_left
    intro f hf
    have := List.all_eq_true.1 h3 f hf
    simp only [Bool.not_eq_true'] at this
    simp [SFrm.den,denL_same hs _ this]
   have e3 : SFrm.den E' top = top.den E := by simp [SFrm.den,denL_same hs _ h4]
   have e4 : SFrm.den E' { g with tmps := maskT n (liveW P g) 0 g.tmps } = g.den E := by
    simp only [SFrm.den]; rw [e1]
   simp only [List.map_cons] at hr ⊢
   rw [e2,e3] at hr
   rw [show SFrm.den E' { g with tmps := maskT (1000 * r.length) (liveW P g) 0 g.tmps } = g.den E from e4] at hr
   exact hr
  ·exact h
noncomputable def restC (P : Program) (c : Conf) : Tree := headC P (fgtR P c) leafR
noncomputable def execS (P : Program) (cs : Ctrs) (U : FuncId → Bool) (S : List (FuncId × Nat)) (n : Nat) : Conf → Tree :=
 Nat.rec (motive := fun _=>Conf → Tree) (fun _=>.stuck) (fun _ ih c=>match restsAt S c with
  | true=>restC P c
  | false=>stepC P cs U ih c) n
noncomputable def goS (P : Program) (cs : Ctrs) (U : FuncId → Bool) (S : List (FuncId × Nat)) (n : Nat) (c : Conf) : Tree := stepC P cs U (execS P cs U S n) c

section
variable {P : Program} {C : Ctx} {R : Value → World → Prop} {cs : Ctrs}
theorem execS_sound (hcs : cs.Ok P) (U : FuncId → Bool) (S : List (FuncId × Nat)) : ∀ (n : Nat) (c : Conf),(execS P cs U S n c).holds P C R → Runs P C c R
 | 0,_,h=>h.elim
 | n + 1,c,h=>by
  have e : execS P cs U S (n + 1) c = match restsAt S c with
   | true=>restC P c
   | false=>stepC P cs U (execS P cs U S n) c := rfl
  rw [e] at h
  cases hr : restsAt S c with
  | true=>rw [hr] at h; exact fgtR_sound (headR_sound h)
  | false=>rw [hr] at h; exact step_sound (U := U) hcs (fun c h=>execS_sound hcs U S n c h) c h
theorem goS_sound (hcs : cs.Ok P) (U : FuncId → Bool) (S : List (FuncId × Nat)) (n : Nat) (c : Conf) (h : (goS P cs U S n c).holds P C R) : Runs P C c R :=
 step_sound (U := U) hcs (fun c h=>execS_sound hcs U S n c h) c h
end

/-! A cell that is known to be true. -/


end Sx
end
section
open Go Go.Proofs Sx
namespace Go.Proofs.Ytodhhmjilnfecaa
set_option maxRecDepth 100000
set_option maxHeartbeats 0
section
variable (n j k w : Int) (d e a b i o ha hb hc ga gb gc : D) (v s : Int)
theorem is2_in : goS Try.prog ctM (fun _=>false) [(83,1),(83,2),(83,3),(83,4),(83,5),(83,6)] 500 (entry Try.prog 41 [.agg [.dat ha,.dat hb,.dat hc],.agg [.int .i64 v,.int .i64 s,.dat e]]) =
 Tree.need (HiD.Right (HiD.mk ha hb hc))
 (.all fun hs =>
 .br (Prod.fst (checkH (HiD.hist (HiD.mk ha hb hc))) != 0)
 (.ret
 (SV.tup
 [.agg [.nils,.nils,.nils],.int .i64 0,
 .int .i64 (Prod.fst (checkH (HiD.hist (HiD.mk ha hb hc))))]))
 (.br (decide ((↑(D.len hb) : Int) ≥ 4096))
 (.ret (SV.tup [.agg [.nils,.nils,.nils],.int .i64 0,.int .i64 6]))
 (.need (D.Is Int ha ∧ D.len ha ≤ 1048576)
 (.all fun hs =>
 .need (ImgOk (D.like (hs 0 0) (imgOf (D.to Int ha))) ∧ WtD.Ok (WtD.mk v s e))
 (.br (fitsI (D.to Vol (D.like (hs 0 0) (imgOf (D.to Int ha)))) (WtD.wt (WtD.mk v s e)) != 0)
 (.ret
 (SV.tup
 [.agg [.nils,.nils,.nils],.int .i64 0,
 .int .i64
 (fitsI (D.to Vol (D.like (hs 0 0) (imgOf (D.to Int ha)))) (WtD.wt (WtD.mk v s e)))]))
 (.leaf
 (Conf.mk
 (SFrm.mk 83 none none [Item.code (cAt Try.prog 83 [0]),Item.code (cAt Try.prog 83 [1])]
 (mkJ 1 [(0,.agg [.dat ha,.dat hb,.dat hc])] 0 32))
 [SFrm.mk 41 (some (opsAt Try.prog 41 [1,1,1,1,1,1,0],[2,3])) (some 45)
 [Item.code (cAt Try.prog 41 [1,1,1,1,1,1,1])]
 (mkJ 0 [(3,.ptr 0 0),(4,.ptr 1 0),(12,.int .i64 (↑(D.len hb) : Int))] 0 65)]
 [(0,OBlk.cells 31 [.int .i64 v,.int .i64 s,.dat e]),
 (1,OBlk.cells 26 [.nils,.nils,.nils])]))))))) := by kernel_rfl

end
end Go.Proofs.Ytodhhmjilnfecaa
end
section
open Go Go.Proofs Sx
namespace Go.Proofs.Ytodhhmjilnfecaa
set_option maxRecDepth 100000
set_option maxHeartbeats 0
noncomputable def isF (n : Int) : SFrm := SFrm.mk 41 (some (opsAt Try.prog 41 [1,1,1,1,1,1,0],[2,3])) (some 45) [Item.code (cAt Try.prog 41 [1,1,1,1,1,1,1])] (mkJ 0 [(3,.ptr 0 0),(4,.ptr 1 0),(12,.int .i64 n)] 0 65)
noncomputable def isE (ha hb hc : D) (v s : Int) (e : D) : Conf := Conf.mk (SFrm.mk 83 none none [Item.code (cAt Try.prog 83 [0]),Item.code (cAt Try.prog 83 [1])] (mkJ 1 [(0,.agg [.dat ha,.dat hb,.dat hc])] 0 32)) [isF hb.len]
 [(0,.cells 31 [.int .i64 v,.int .i64 s,.dat e]),(1,.cells 26 [.nils,.nils,.nils])]
section
variable (n j k w : Int) (d e a b i o ha hb hc ga gb gc : D) (v s : Int)
theorem isE_in : exec Try.prog ctK 400 (isE ha hb hc v s e) =
 Tree.all fun hs =>
 .need (D.Is Int ha ∧ D.len ha ≤ 1048576)
 (.need (D.Is Ev hc ∧ D.len hc ≤ 1048576)
 (.leaf
 (Conf.mk
 (SFrm.mk 83 none none
 [Item.inLoop (cAt Try.prog 83 [1,1,0,1,0,0]),Item.inBlock 0,Item.code (cAt Try.prog 83 [1,1,1])]
 (mkJ 1
 [(2,.ptr 0 0),(3,.ptr 1 0),(14,.dat hb),(15,.int .i64 (↑(D.len hb) : Int)),
 (16,.int .i64 0)]
 0 32))
 [SFrm.mk 41 (some (opsAt Try.prog 41 [1,1,1,1,1,1,0],[2,3])) (some 45)
 [Item.code (cAt Try.prog 41 [1,1,1,1,1,1,1])]
 (mkJ 0 [(3,.ptr 2 0),(4,.ptr 3 0),(12,.int .i64 (↑(D.len hb) : Int))] 0 65)]
 [(0,OBlk.cells 26 [.nils,.nils,.nils]),(1,OBlk.cells 26 [.vec 4,.nils,.vec 5]),
 (2,OBlk.cells 31 [.int .i64 v,.int .i64 s,.dat e]),
 (3,OBlk.cells 26 [.nils,.nils,.nils]),(4,OBlk.arr 3 (D.slc (D.hd (hs 2 0)) 1 (D.rows ha))),
 (5,OBlk.arr 108 (D.slc (D.hd (hs 5 0)) 2 (D.rows hc)))]))) := by kernel_rfl

end
end Go.Proofs.Ytodhhmjilnfecaa
end
section
open Go Go.Proofs Sx
namespace Go.Proofs.Ytodhhmjilnfecaa
set_option maxRecDepth 100000
set_option maxHeartbeats 0
noncomputable def cpT (hb : D) (j : Int) : SFrm := SFrm.mk 83 none none [Item.inLoop (cAt Try.prog 83 [1,1,0,1,0,0]),Item.inBlock 0,Item.code (cAt Try.prog 83 [1,1,1])] (mkJ 1 [(2,.ptr 0 0),(3,.ptr 1 0),(14,.dat hb),(15,.int .i64 hb.len),(16,.int .i64 j)] 0 32)
noncomputable def isL (hb p q r : D) (v s : Int) (e : D) (j : Int) : Conf := Conf.mk (cpT hb j) [SFrm.mk 41 (some (opsAt Try.prog 41 [1,1,1,1,1,1,0],[2,3])) (some 45) [Item.code (cAt Try.prog 41 [1,1,1,1,1,1,1])] (mkJ 0 [(3,.ptr 2 0),(4,.ptr 3 0),(12,.int .i64 hb.len)] 0 65)]
 [(0,.cells 26 [.nils,.nils,.nils]),(1,.cells 26 [.vec 4,.vec 5,.vec 6]),(2,.cells 31 [.int .i64 v,.int .i64 s,.dat e]),(3,.cells 26 [.nils,.nils,.nils]),(4,.arr 3 p),(5,.arr 31 q),(6,.arr 108 r)]
section
variable (n j k w : Int) (d e a b i o ha hb hc ga gb gc p q r : D) (v s : Int)
theorem isL_go : exec Try.prog ctK 500 (unroll (isL hb p q r v s e j)) =
 Tree.br (decide (j < (↑(D.len hb) : Int)))
 (.need (0 ≤ j ∧ j < (↑(D.len hb) : Int) ∧ D.sz hb = 3)
 (.need (D.HasCells hb (Int.toNat j) 0 [FT.int .i64,FT.int .i64,FT.slc])
 (.need (D.Is Sec (D.cell hb (Int.toNat j) 2) ∧ D.len (D.cell hb (Int.toNat j) 2) ≤ 1048576)
 (.all fun hs =>
 .all fun hs_1 =>
 .need
 (D.sz q = 3 ∧
 D.Fits
 (D.slc (D.hd (hs_1 0 0)) 3
 [[D.int .i64 (D.getInt hb (Int.toNat j) 0),
 D.int .i64 (D.getInt hb (Int.toNat j) 1),
 D.slc (D.hd (hs 0 0)) 8 (D.rows (D.cell hb (Int.toNat j) 2))]])
 3 ∧
 (D.len q +
 D.len
 (D.slc (D.hd (hs_1 0 0)) 3
 [[D.int .i64 (D.getInt hb (Int.toNat j) 0),
 D.int .i64 (D.getInt hb (Int.toNat j) 1),
 D.slc (D.hd (hs 0 0)) 8 (D.rows (D.cell hb (Int.toNat j) 2))]])) *
 40 ≤
 140737488355328 ∧
 D.len q +
 D.len
 (D.slc (D.hd (hs_1 0 0)) 3
 [[D.int .i64 (D.getInt hb (Int.toNat j) 0),
 D.int .i64 (D.getInt hb (Int.toNat j) 1),
 D.slc (D.hd (hs 0 0)) 8 (D.rows (D.cell hb (Int.toNat j) 2))]]) ≤
 9223372036854775807)
 (.all fun hs_2 =>
 .leaf
 (Conf.mk
 (SFrm.mk 83 none none
 [Item.inLoop (cAt Try.prog 83 [1,1,0,1,0,0]),Item.inBlock 0,
 Item.code (cAt Try.prog 83 [1,1,1])]
 (mkJ 1
 [(2,.ptr 0 0),(3,.ptr 1 0),(14,.dat hb),
 (15,.int .i64 (↑(D.len hb) : Int)),
 (16,.int .i64 (IntKind.wrap .i64 (j + 1)))]
 0 32))
 [SFrm.mk 41 (some (opsAt Try.prog 41 [1,1,1,1,1,1,0],[2,3])) (some 45)
 [Item.code (cAt Try.prog 41 [1,1,1,1,1,1,1])]
 (mkJ 0 [(3,.ptr 2 0),(4,.ptr 3 0),(12,.int .i64 (↑(D.len hb) : Int))] 0 65)]
 [(0,OBlk.cells 26 [.nils,.nils,.nils]),(1,OBlk.cells 26 [.vec 4,.vec 5,.vec 6]),
 (2,OBlk.cells 31 [.int .i64 v,.int .i64 s,.dat e]),
 (3,OBlk.cells 26 [.nils,.nils,.nils]),(4,OBlk.arr 3 p),
 (5,
 OBlk.arr 31
 (D.slc (D.hd (hs_2 0 0)) 3
 (List.append (D.rows q)
 (D.rows
 (D.slc (D.hd (hs_1 0 0)) 3
 [[D.int .i64 (D.getInt hb (Int.toNat j) 0),
 D.int .i64 (D.getInt hb (Int.toNat j) 1),
 D.slc (D.hd (hs 0 0)) 8 (D.rows (D.cell hb (Int.toNat j) 2))]]))))),
 (6,OBlk.arr 108 r)]))))))
 (.need (D.Is Sec e ∧ D.len e ≤ 1048576)
 (.all fun hs =>
 .all fun hs_1 =>
 .need
 (D.sz q = 3 ∧
 D.Fits
 (D.slc (D.hd (hs_1 0 0)) 3
 [[D.int .i64 v,D.int .i64 s,D.slc (D.hd (hs 0 0)) 8 (D.rows e)]])
 3 ∧
 (D.len q +
 D.len
 (D.slc (D.hd (hs_1 0 0)) 3
 [[D.int .i64 v,D.int .i64 s,D.slc (D.hd (hs 0 0)) 8 (D.rows e)]])) *
 40 ≤
 140737488355328 ∧
 D.len q +
 D.len
 (D.slc (D.hd (hs_1 0 0)) 3
 [[D.int .i64 v,D.int .i64 s,D.slc (D.hd (hs 0 0)) 8 (D.rows e)]]) ≤
 9223372036854775807)
 (.all fun hs_2 =>
 .all fun hs_3 =>
 .need
 (D.sz r = 2 ∧
 D.Fits (D.slc (D.hd (hs_3 0 0)) 2 [[D.int .i64 0,D.int .i64 (↑(D.len hb) : Int)]]) 2 ∧
 (D.len r +
 D.len
 (D.slc (D.hd (hs_3 0 0)) 2
 [[D.int .i64 0,D.int .i64 (↑(D.len hb) : Int)]])) *
 16 ≤
 140737488355328 ∧
 D.len r +
 D.len
 (D.slc (D.hd (hs_3 0 0)) 2 [[D.int .i64 0,D.int .i64 (↑(D.len hb) : Int)]]) ≤
 9223372036854775807)
 (.all fun hs_4 =>
 .ret
 (SV.tup
 [.agg
 [.dat p,
 .dat
 (D.slc (D.hd (hs_2 0 0)) 3
 (List.append (D.rows q)
 (D.rows
 (D.slc (D.hd (hs_1 0 0)) 3
 [[D.int .i64 v,D.int .i64 s,
 D.slc (D.hd (hs 0 0)) 8 (D.rows e)]])))),
 .dat
 (D.slc (D.hd (hs_4 0 0)) 2
 (List.append (D.rows r)
 (D.rows
 (D.slc (D.hd (hs_3 0 0)) 2
 [[D.int .i64 0,D.int .i64 (↑(D.len hb) : Int)]]))))],
 .int .i64 (↑(D.len hb) : Int),.int .i64 0]))))) := by kernel_rfl

end
end Go.Proofs.Ytodhhmjilnfecaa
end
section
open Go Go.Proofs Sx
namespace Go.Proofs.Ytodhhmjilnfecaa
set_option maxRecDepth 100000

theorem ctMOk : Ctrs.Ok Try.prog ctM := by
 intro x hx
 simp only [ctM,List.mem_cons,List.mem_append] at hx
 rcases hx with rfl | rfl | rfl | hx | hx | hx
 ·exact ctrOf_ok lawCk
 ·exact ctrOf_ok lawCkR
 ·exact ctrOf_ok lawCopyR
 ·exact ctKOk _ hx
 ·exact ctC1Ok _ hx
 ·exact ctC2Ok _ hx

theorem lawNewH : Law Try.prog 60 (rdD.one.sp spNewH) := by
 refine law_in _ (by kernel_rfl) fun H w d hok hp=>?_
 obtain ⟨hd,hlen⟩ := hp _ (List.mem_singleton.2 rfl)
 apply exec_sound ctMOk 300
 rw [show rdD.one.canon d = [.dat d] from rfl,nw_in]
 refine ⟨⟨hd,hlen⟩,fun hs=>⟨fun h=>?_,fun h=>⟨⟨hd,hlen⟩,fun hs1=>?_⟩⟩⟩
 ·have h : sizesErr (d.to Int) ≠ 0 := by simpa using h
  exact ret_hiI (s := []) (ws := []) (es := []) stands_nils stands_nils stands_nils (by unfold newH; rw [if_pos h]; rfl) (by unfold newH; rw [if_pos h])
 ·have h : ¬(sizesErr (d.to Int) ≠ 0) := by simpa using h
  obtain ⟨x1,x2⟩ := slc_same hd (D.hd (hs1 0 0)) (s := 1) rfl
  exact ret_hiI (stands_dat x1 x2) stands_nils stands_nils (by unfold newH; rw [if_neg h]) (by unfold newH; rw [if_neg h])
theorem lawNewHR : Law Try.prog 64 (rdD.one.sp spNewH) := by
 refine law_in _ (by kernel_rfl) fun H w d hok hp=>?_
 obtain ⟨hd,hlen⟩ := hp _ (List.mem_singleton.2 rfl)
 apply exec_sound ctMOk 300
 rw [show rdD.one.canon d = [.dat d] from rfl,nwR_in]
 refine ⟨⟨hd,hlen⟩,fun h=>?_,fun h=>⟨⟨hd.fits,by omega,by omega⟩,fun hs1=>?_⟩⟩
 ·have h : sizesErr (d.to Int) ≠ 0 := by simpa using h
  exact ret_hiI (s := []) (ws := []) (es := []) stands_nils stands_nils stands_nils (by unfold newH; rw [if_pos h]; rfl) (by unfold newH; rw [if_pos h])
 ·have h : ¬(sizesErr (d.to Int) ≠ 0) := by simpa using h
  obtain ⟨x1,x2⟩ := slc_same hd (D.hd (hs1 0 0)) (s := 1) rfl
  exact ret_hiI (stands_dat x1 x2) stands_nils stands_nils (by unfold newH; rw [if_neg h]) (by unfold newH; rw [if_neg h])
theorem lawChkH : Law Try.prog 76 (rdHi.one.sp spCkI) := by
 refine law_in _ (by kernel_rfl) fun H w ⟨ha,hb,hc⟩ hok hp=>?_
 apply exec_sound ctMOk 300
 rw [show rdHi.one.canon ⟨ha,hb,hc⟩ = [.agg [.dat ha,.dat hb,.dat hc]] from rfl,chk1_in]
 exact ⟨hp _ (List.mem_singleton.2 rfl),fun hs=>ret_int rfl⟩

theorem isE_run {H : HV} {w : World} {ha hb hc e : D} {v s : Int} (hR : (HiD.mk ha hb hc).Right) (hb2 : hb.len ≤ 4096) (he : WtD.Ok ⟨v,s,e⟩) :
  Runs Try.prog ⟨w,H⟩ (isE ha hb hc v s e) (RetD w H fun ds=>.tup [hiSV ds ⟨ha.to Int,hb.to Wt ++ ([⟨v,s,e.to Sec⟩] : List Wt),hc.to Ev ++ ([⟨0,(hb.to Wt).length⟩] : List Ev)⟩,.int .i64 (hb.to Wt).length,.int .i64 0]) := by
 obtain ⟨ra,rb,rc,la,lb,lc,rd⟩ := id hR
 simp only at ra rb rc la lb lc rd
 have bl := D.Is.length (α := Wt) hb
 have el := D.Is.length (α := Ev) hc
 apply exec_sound ctKOk 400
 rw [isE_in]
 refine fun hs=>⟨⟨ra,la⟩,⟨rc,lc⟩,?_⟩
 obtain ⟨p1,p2⟩ := slc_same ra (D.hd (hs 2 0)) (s := 1) rfl
 obtain ⟨r1,r2⟩ := slc_same rc (D.hd (hs 5 0)) (s := 2) rfl
 refine vecIn_to 9 31 3 (some 1) 1 (isL hb (D.slc (D.hd (hs 2 0)) 1 (D.rows ha)) (.slc none 3 []) (D.slc (D.hd (hs 5 0)) 2 (D.rows hc)) v s e 0) (by kernel_rfl) ?_
 have rsz : (D.slc (D.hd (hs 5 0)) 2 (D.rows hc)).sz = 2 := rfl
 generalize D.slc (D.hd (hs 2 0)) 1 (D.rows ha) = p at p1 p2
 generalize D.slc (D.hd (hs 5 0)) 2 (D.rows hc) = r at r1 r2 rsz
 have rl := D.Is.length (α := Ev) r
 rw [r2] at rl
 refine runs_loop (fun q : D × Nat=>isL hb p q.1 r v s e q.2) (fun q=>q.2 ≤ (hb.to Wt).length ∧ q.1.Is Wt ∧ q.1.sz = 3 ∧ q.1.to Wt = (hb.to Wt).take q.2) (fun q=>(hb.to Wt).length - q.2) (fun _=>rfl) ?_ (.slc none 3 [],0) ⟨Nat.zero_le _,is_nil _ _,rfl,rfl⟩
 intro ⟨q,j⟩ ⟨hj,hq,hz,hto⟩ ih
 simp only at hj hq hz hto
 have ql := D.Is.length (α := Wt) q
 rw [hto,List.length_take] at ql
 show Runs Try.prog ⟨w,H⟩ (unroll (isL hb p q r v s e j)) _
 apply exec_sound ctKOk 500
 rw [isL_go]
 refine ⟨fun hcj=>?_,fun hcj=>?_⟩
 ·have hcj : j < (hb.to Wt).length := by have := of_decide_eq_true hcj; omega
  obtain ⟨c1,c2,c3⟩ := wt_cell rb hcj
  have hwd := rd _ (List.getElem_mem hcj)
  rw [c3] at hwd
  refine ⟨⟨by omega,by omega,rb.size hcj⟩,c1,⟨c2,by rw [D.Is.length (α := Sec)]; exact hwd⟩,fun hs1 hs2=>⟨⟨hz,.inr rfl,by simp only [len_slc,List.length_cons,List.length_nil]; omega,by simp only [len_slc,List.length_cons,List.length_nil]; omega⟩,fun hs3=>?_⟩⟩
  obtain ⟨x1,x2⟩ := slc_same c2 (D.hd (hs1 0 0)) (s := 8) rfl
  have hr := rows_app (rows_of hq) (wt_one (hb.getInt j 0) (hb.getInt j 1) x1)
  obtain ⟨i1,i2⟩ := is_of (h := D.hd (hs3 0 0)) (s := 3) rfl hr
  have := ih (_,j + 1) ⟨hcj,i1,rfl,i2.trans (by rw [hto,List.take_succ_eq_append_getElem hcj,c3,x2])⟩ (by simp only; omega)
  simp only at this
  rw [← wrap_succ hcj (by omega)] at this
  exact this
 ·have : j = (hb.to Wt).length := by have := of_decide_eq_false hcj; omega
  subst this
  rw [List.take_length] at hto
  refine ⟨he,fun hs1 hs2=>⟨⟨hz,.inr rfl,by simp only [len_slc,List.length_cons,List.length_nil]; omega,by simp only [len_slc,List.length_cons,List.length_nil]; omega⟩,fun hs3 hs4=>⟨⟨rsz,.inr rfl,by simp only [len_slc,List.length_cons,List.length_nil]; omega,by simp only [len_slc,List.length_cons,List.length_nil]; omega⟩,fun hs5=>?_⟩⟩⟩
  obtain ⟨x1,x2⟩ := slc_same he.1 (D.hd (hs1 0 0)) (s := 8) rfl
  obtain ⟨i1,i2⟩ := is_of (h := D.hd (hs3 0 0)) (s := 3) rfl (rows_app (rows_of hq) (wt_one v s x1))
  obtain ⟨k1,k2⟩ := is_of (h := D.hd (hs5 0 0)) (s := 2) rfl (rows_app (rows_of r1) (ev_one 0 (hb.len : Int)))
  rw [hto,x2] at i2
  rw [r2,bl] at k2
  rw [bl] at k1
  rw [bl]
  exact ret_hiII (stands_dat p1 p2) (stands_dat i1 i2) (stands_dat k1 k2) rfl rfl rfl

theorem lawIssue : Law Try.prog 41 ((rdHi.two rdWt).sp spIssueH) := by
 refine law_in _ (by kernel_rfl) fun H w ⟨⟨ha,hb,hc⟩,⟨v,s,e⟩⟩ hok hp=>?_
 obtain ⟨hR,hce,he⟩ := hp _ (List.mem_singleton.2 rfl)
 have hR : (HiD.mk ha hb hc).Right := hR
 have he : WtD.Ok ⟨v,s,e⟩ := he
 obtain ⟨ra,rb,rc,la,lb,lc,rd⟩ := id hR
 simp only at ra rb rc la lb lc rd hce
 have al := D.Is.length (α := Int) ha
 have bl := D.Is.length (α := Wt) hb
 apply goS_sound ctMOk
 rw [show (rdHi.two rdWt).canon (⟨ha,hb,hc⟩,⟨v,s,e⟩) = [.agg [.dat ha,.dat hb,.dat hc],.agg [.int .i64 v,.int .i64 s,.dat e]] from rfl,is2_in]
 have ni : ∀ {k : Int},issueH (HiD.mk ha hb hc).hist (WtD.wt ⟨v,s,e⟩) = (zHist,0,k) → (Tree.ret (.tup [.agg [.nils,.nils,.nils],.int .i64 0,.int .i64 k])).holds Try.prog ⟨w,H⟩
   (RetD w H fun ds=>.tup [hiSV ds (issueH (HiD.mk ha hb hc).hist (WtD.wt ⟨v,s,e⟩)).1,.int .i64 (issueH (HiD.mk ha hb hc).hist (WtD.wt ⟨v,s,e⟩)).2.1,.int .i64 (issueH (HiD.mk ha hb hc).hist (WtD.wt ⟨v,s,e⟩)).2.2]) := fun h=>by
  rw [h]; exact ret_hiII (s := []) (ws := []) (es := []) stands_nils stands_nils stands_nils rfl rfl rfl
 refine ⟨hR,fun hs=>⟨fun h=>ni ?_,fun h=>⟨fun h2=>ni ?_,fun h2=>?_⟩⟩⟩
 ·exact issueH_e1 (by simpa using h)
 ·have h1 : ¬((checkH (HiD.mk ha hb hc).hist).1 ≠ 0) := by simpa using h
  have := of_decide_eq_true h2
  exact issueH_e2 h1 (by show (hb.to Wt).length ≥ 4096; omega)
 have h1 : ¬((checkH (HiD.mk ha hb hc).hist).1 ≠ 0) := by simpa using h
 have h2' : ¬(HiD.mk ha hb hc).hist.writes.length ≥ 4096 := by have := of_decide_eq_false h2; show ¬(hb.to Wt).length ≥ 4096; omega
 have h0 : sizesErr (ha.to Int) = 0 := (checkH_ok (h := (HiD.mk ha hb hc).hist) (by simpa using h1)).2.2.1
 refine ⟨⟨ra,la⟩,fun hs1=>?_⟩
 simp only
 have im : ImgOk ((hs1 0 0).like (imgOf (ha.to Int))) := img_ok h0 _
 rw [D.like_to,fitsI_img h0]
 refine ⟨⟨im,he⟩,fun h3=>ni ?_,fun h3=>?_⟩
 ·have h3' : fitsErr (ha.to Int) (WtD.wt ⟨v,s,e⟩) ≠ 0 := by simpa using h3
  exact issueH_e3 h1 h2' h3'
 ·have h3' : ¬(fitsErr (ha.to Int) (WtD.wt ⟨v,s,e⟩) ≠ 0) := by simpa using h3
  rw [issueH_ok h1 h2' h3']
  have h2l : hb.len ≤ 4096 := by have := of_decide_eq_false h2; omega
  exact isE_run hR h2l he

theorem lawIssueR : Law Try.prog 42 ((rdHi.two rdWt).sp spIssueH) := by
 refine law_in _ (by kernel_rfl) fun H w ⟨⟨ha,hb,hc⟩,⟨v,s,e⟩⟩ hok hp=>?_
 obtain ⟨hR,hce,he⟩ := hp _ (List.mem_singleton.2 rfl)
 have hR : (HiD.mk ha hb hc).Right := hR
 have he : WtD.Ok ⟨v,s,e⟩ := he
 obtain ⟨ra,rb,rc,la,lb,lc,rd⟩ := id hR
 simp only at ra rb rc la lb lc rd hce
 have al := D.Is.length (α := Int) ha
 have bl := D.Is.length (α := Wt) hb
 have el := D.Is.length (α := Ev) hc
 apply exec_sound ctMOk 500
 rw [show (rdHi.two rdWt).canon (⟨ha,hb,hc⟩,⟨v,s,e⟩) = [.agg [.dat ha,.dat hb,.dat hc],.agg [.int .i64 v,.int .i64 s,.dat e]] from rfl,isR_in]
 have ni : ∀ {k : Int},issueH (HiD.mk ha hb hc).hist (WtD.wt ⟨v,s,e⟩) = (zHist,0,k) → (Tree.ret (.tup [.agg [.nils,.nils,.nils],.int .i64 0,.int .i64 k])).holds Try.prog ⟨w,H⟩
   (RetD w H fun ds=>.tup [hiSV ds (issueH (HiD.mk ha hb hc).hist (WtD.wt ⟨v,s,e⟩)).1,.int .i64 (issueH (HiD.mk ha hb hc).hist (WtD.wt ⟨v,s,e⟩)).2.1,.int .i64 (issueH (HiD.mk ha hb hc).hist (WtD.wt ⟨v,s,e⟩)).2.2]) := fun h=>by
  rw [h]; exact ret_hiII (s := []) (ws := []) (es := []) stands_nils stands_nils stands_nils rfl rfl rfl
 refine ⟨hR,fun h=>ni ?_,fun h=>⟨fun h2=>ni ?_,fun h2=>?_⟩⟩
 ·exact issueH_e1 (by simpa using h)
 ·have h1 : ¬((checkH (HiD.mk ha hb hc).hist).1 ≠ 0) := by simpa using h
  have := of_decide_eq_true h2
  exact issueH_e2 h1 (by show (hb.to Wt).length ≥ 4096; omega)
 have h1 : ¬((checkH (HiD.mk ha hb hc).hist).1 ≠ 0) := by simpa using h
 have h2' : ¬(HiD.mk ha hb hc).hist.writes.length ≥ 4096 := by have := of_decide_eq_false h2; show ¬(hb.to Wt).length ≥ 4096; omega
 have h2l : ¬hb.len ≥ 4096 := by have := of_decide_eq_false h2; omega
 have h0 : sizesErr (ha.to Int) = 0 := (checkH_ok (h := (HiD.mk ha hb hc).hist) (by simpa using h1)).2.2.1
 refine ⟨⟨ra,la,(sizesErr_ok h0).2.2,he⟩,fun h3=>ni ?_,fun h3 hs=>?_⟩
 ·have h3' : fitsErr (ha.to Int) (WtD.wt ⟨v,s,e⟩) ≠ 0 := by simpa using h3
  exact issueH_e3 h1 h2' h3'
 ·have h3' : ¬(fitsErr (ha.to Int) (WtD.wt ⟨v,s,e⟩) ≠ 0) := by simpa using h3
  rw [issueH_ok h1 h2' h3']
  obtain ⟨t1,t2,t3,t4⟩ := sub3_all rb
  obtain ⟨u1,u2,u3,u4⟩ := sub3_all rc
  obtain ⟨i1,i2⟩ := is_of (h := D.hd (hs 7 0)) (s := 3) rfl (rows_app (rows_of t2) (wt_one v s he.1))
  rw [t3] at i2
  refine ⟨⟨by omega,by omega,by omega,rfl,rb.fits⟩,⟨t1,t2.fits,.inr rfl,by simp only [len_slc,List.length_cons,List.length_nil]; omega,by rw [t4]; simp only [len_slc,List.length_cons,List.length_nil]; omega,by rw [t4]; simp only [len_slc,List.length_cons,List.length_nil]; omega⟩,fun hs1=>?_⟩
  obtain ⟨k1,k2⟩ := is_of (h := D.hd (hs1 12 0)) (s := 2) rfl (rows_app (rows_of u2) (ev_one 0 (hb.len : Int)))
  rw [u3] at k2
  refine ⟨⟨by omega,by omega,by omega,rfl,rc.fits⟩,⟨u1,u2.fits,.inr rfl,by simp only [len_slc,List.length_cons,List.length_nil]; omega,by rw [u4]; simp only [len_slc,List.length_cons,List.length_nil]; omega,by rw [u4]; simp only [len_slc,List.length_cons,List.length_nil]; omega⟩,?_,fun hs2=>?_⟩
  ·have i2' : D.to Wt (D.slc (D.hd (hs 7 0)) 3 (List.append (D.rows (hb.sub3 0 (Int.toNat (hb.len : Int)))) (D.rows (D.slc (D.hd (hs 6 0)) 3 [[D.int IntKind.i64 v,D.int IntKind.i64 s,e]])))) = hb.to Wt ++ [WtD.wt ⟨v,s,e⟩] := i2
   have k2' : D.to Ev (D.slc (D.hd (hs1 12 0)) 2 (List.append (D.rows (hc.sub3 0 (Int.toNat (hc.len : Int)))) (D.rows (D.slc (D.hd (hs1 11 0)) 2 [[D.int IntKind.i64 0,D.int IntKind.i64 (hb.len : Int)]])))) = hc.to Ev ++ [⟨0,(hb.len : Int)⟩] := k2
   refine ⟨ra,i1,k1,la,?_,?_,fun x hx=>?_⟩
   ·simp only
    rw [D.Is.length (α := Wt),i2']; simp only [List.length_append,List.length_cons,List.length_nil]; omega
   ·simp only
    rw [D.Is.length (α := Ev),k2']; simp only [List.length_append,List.length_cons,List.length_nil]; omega
   ·simp only at hx
    rw [i2'] at hx
    rcases List.mem_append.1 hx with hx | hx
    ·exact rd x hx
    ·rw [List.mem_singleton.1 hx]; have := he.2; rw [D.Is.length (α := Sec)] at this; exact this
  ·have k2' : D.to Ev (D.slc (D.hd (hs1 12 0)) 2 (List.append (D.rows (hc.sub3 0 (Int.toNat (hc.len : Int)))) (D.rows (D.slc (D.hd (hs1 11 0)) 2 [[D.int IntKind.i64 0,D.int IntKind.i64 (hb.len : Int)]])))) = hc.to Ev ++ ([⟨0,((hb.to Wt).length : Int)⟩] : List Ev) := by
    rw [← bl]; exact k2
   exact ret_hiII stands_like stands_like stands_like (congr (congrArg (Hist.mk (ha.to Int)) i2.symm) k2'.symm) (by rw [bl]; rfl) rfl

theorem lawAckR : Law Try.prog 50 ((rdHi.two rdInt).sp spAckH) := by
 refine law_in _ (by kernel_rfl) fun H w ⟨⟨ha,hb,hc⟩,n⟩ hok hp=>?_
 obtain ⟨hR,hce⟩ := hp _ (List.mem_singleton.2 rfl)
 have hR : (HiD.mk ha hb hc).Right := hR
 obtain ⟨ra,rb,rc,la,lb,lc,rd⟩ := id hR
 simp only at ra rb rc la lb lc rd hce
 have bl := D.Is.length (α := Wt) hb
 have el := D.Is.length (α := Ev) hc
 apply exec_sound ctMOk 500
 rw [show (rdHi.two rdInt).canon (⟨ha,hb,hc⟩,n) = [.agg [.dat ha,.dat hb,.dat hc],.int .i64 n] from rfl,akR_in]
 have ni : ∀ {k : Int},ackH (HiD.mk ha hb hc).hist n = (zHist,k) → (Tree.ret (.tup [.agg [.nils,.nils,.nils],.int .i64 k])).holds Try.prog ⟨w,H⟩
   (RetD w H fun ds=>.tup [hiSV ds (ackH (HiD.mk ha hb hc).hist n).1,.int .i64 (ackH (HiD.mk ha hb hc).hist n).2]) := fun h=>by
  rw [h]; exact ret_hiI (s := []) (ws := []) (es := []) stands_nils stands_nils stands_nils rfl rfl
 have n7 : ¬((checkH (HiD.mk ha hb hc).hist).1 ≠ 0) → (n < 0 ∨ n ≥ ((hb.to Wt).length : Int)) → ackH (HiD.mk ha hb hc).hist n = (zHist,7) := fun h1 h2=>ackH_e7 h1 h2
 refine ⟨hR,fun h=>ni ?_,fun h=>⟨fun h2=>ni (n7 (by simpa using h) (.inl (of_decide_eq_true h2))),fun h2=>⟨fun h3=>ni (n7 (by simpa using h) (.inr (by have := of_decide_eq_true h3; omega))),fun h3 hs=>?_⟩⟩⟩
 ·exact ackH_e1 (by simpa using h)
 have h1 : ¬((checkH (HiD.mk ha hb hc).hist).1 ≠ 0) := by simpa using h
 have h2' := of_decide_eq_false h2
 have h3' := of_decide_eq_false h3
 have hn : ¬(n < 0 ∨ n ≥ ((hb.to Wt).length : Int)) := by omega
 refine ⟨⟨rc,lc⟩,fun h4=>ni ?_,fun h4 hs=>?_⟩
 ·exact ackH_e8 h1 hn (of_decide_eq_true h4)
 ·rw [ackH_ok h1 hn (of_decide_eq_false h4)]
  obtain ⟨u1,u2,u3,u4⟩ := sub3_all rc
  obtain ⟨k1,k2⟩ := is_of (h := D.hd (hs 12 0)) (s := 2) rfl (rows_app (rows_of u2) (ev_one 1 n))
  rw [u3] at k2
  refine ⟨⟨by omega,by omega,by omega,rfl,rc.fits⟩,⟨u1,u2.fits,.inr rfl,by simp only [len_slc,List.length_cons,List.length_nil]; omega,by rw [u4]; simp only [len_slc,List.length_cons,List.length_nil]; omega,by rw [u4]; simp only [len_slc,List.length_cons,List.length_nil]; omega⟩,?_,fun hs2=>?_⟩
  ·have k2' : D.to Ev (D.slc (D.hd (hs 12 0)) 2 (List.append (D.rows (hc.sub3 0 (Int.toNat (hc.len : Int)))) (D.rows (D.slc (D.hd (hs 11 0)) 2 [[D.int IntKind.i64 1,D.int IntKind.i64 n]])))) = hc.to Ev ++ [⟨1,n⟩] := k2
   refine ⟨ra,rb,k1,la,lb,?_,rd⟩
   simp only
   rw [D.Is.length (α := Ev),k2']; simp only [List.length_append,List.length_cons,List.length_nil]; omega
  ·exact ret_hiI stands_like stands_like stands_like (congrArg (Hist.mk (ha.to Int) (hb.to Wt)) k2.symm) rfl

theorem lawSameH : Law Try.prog 51 ((rdHi.two rdHi).sp spSameH) := by
 refine law_in _ (by kernel_rfl) fun H w ⟨⟨ha,hb,hc⟩,⟨ga,gb,gc⟩⟩ hok hp=>?_
 obtain ⟨⟨ra,rb,rc,la,lb,lc,rd⟩,sa,sb,sc⟩ := hp _ (List.mem_singleton.2 rfl)
 simp only at ra rb rc la lb lc rd sa sb sc
 have cs : Ctrs.Ok Try.prog ((52,ctrOf ((rdD.two rdD).sp spInts)) :: (88,ctrOf ((rdD.two rdD).sp spWts)) :: (89,ctrOf ((rdD.two rdD).sp spEvs)) :: []) := by
  intro x hx
  simp only [List.mem_cons,List.not_mem_nil,or_false] at hx
  rcases hx with rfl | rfl | rfl
  ·exact ctrOf_ok lawInts
  ·exact ctrOf_ok lawWts
  ·exact ctrOf_ok lawEvs
 have ed : decide ((HiD.mk ha hb hc).hist = (HiD.mk ga gb gc).hist) = (decide (ha.to Int = ga.to Int) && (decide (hb.to Wt = gb.to Wt) && decide (hc.to Ev = gc.to Ev))) := by
  rw [Bool.eq_iff_iff]
  simp only [HiD.hist,Hist.mk.injEq,Bool.and_eq_true,decide_eq_true_eq]
 apply exec_sound cs 300
 rw [show (rdHi.two rdHi).canon (⟨ha,hb,hc⟩,⟨ga,gb,gc⟩) = [.agg [.dat ha,.dat hb,.dat hc],.agg [.dat ga,.dat gb,.dat gc]] from rfl,sm_in]
 refine ⟨⟨ra,sa,la⟩,fun h1=>⟨⟨rb,sb,lb,rd⟩,fun h2=>⟨⟨rc,sc,lc⟩,ret_bool ?_⟩,fun h2=>ret_lb ?_⟩,fun h1=>ret_lb ?_⟩
 ·rw [ed,h1,h2]; simp
 ·rw [ed,h1,h2]; simp
 ·rw [ed,h1]; simp
end Go.Proofs.Ytodhhmjilnfecaa
end
section
open Go Go.Proofs Sx
namespace Go.Proofs.Ytodhhmjilnfecaa
set_option maxRecDepth 100000
set_option maxHeartbeats 0
noncomputable def ctO : Ctrs := [(76,ctrOf (rdHi.one.sp spCkI)),(78,oCtr (spClone Int 3)),(81,oCtr (spClone Sec 81)),(79,oCtr (spClone Ev 108)),(80,oCtr (spClone Wt 31))]
section
variable (n j k w : Int) (ha hb hc wt hd : D) (fz : Bool)

theorem as_in : exec Try.prog [] 300 (entry Try.prog 104 [.dat wt]) =
 Tree.leaf
 (Conf.mk
 (SFrm.mk 104 none none
 [Item.inLoop (cAt Try.prog 104 [1,0,1,0,0]),Item.inBlock 0,Item.code (cAt Try.prog 104 [1,1])]
 (mkJ 0 [(0,.dat wt),(3,.int .i64 1)] 0 20))
 [] []) := by kernel_rfl

end
end Go.Proofs.Ytodhhmjilnfecaa
end
section
namespace Sx
open Go RowKit

mutual
theorem SV.ren_id : ∀ x : SV,x.ren id = x
 | .vec _=>rfl
 | .ptr ..=>rfl
 | .velt ..=>rfl
 | .view ..=>rfl
 | .mapp _=>rfl
 | .agg l=>by simp only [SV.ren,SV.renL_id l]
 | .tup l=>by simp only [SV.ren,SV.renL_id l]
 | .fn f a c=>by simp only [SV.ren,SV.renL_id a,SV.renL_id c]
 | .int ..=>rfl
 | .bool _=>rfl
 | .lb _=>rfl
 | .str _=>rfl
 | .nils=>rfl
 | .dat _=>rfl
 | .elt ..=>rfl
 | .nilp=>rfl
 | .nilf=>rfl
 | .undef=>rfl
 | .junk _=>rfl
 | .raw _=>rfl
theorem SV.renL_id : ∀ l : List SV,SV.renL id l = l
 | []=>rfl
 | x :: r=>by simp only [SV.renL,SV.ren_id x,SV.renL_id r]
end
theorem OBlk.ren_id : ∀ o : OBlk,o.ren id = o
 | .cells t cs=>by simp only [OBlk.ren,SV.renL_id]
 | .arr ..=>rfl
 | .pub _=>rfl
 | .map es=>by
  simp only [OBlk.ren,SV.ren_id]
  congr 1
  conv=>rhs; rw [← List.map_id es]
  rfl

theorem named_key {m : Mem} {k : Nat} {o : OBlk} (h : (k,o) ∈ m) : k ∈ m.named := List.mem_flatMap.2 ⟨_,h,List.mem_cons_self⟩
theorem named_in {m : Mem} {k j : Nat} {o : OBlk} (h : (k,o) ∈ m) (hj : j ∈ o.keys) : j ∈ m.named := List.mem_flatMap.2 ⟨_,h,List.mem_cons_of_mem _ hj⟩

theorem Good.envTo {C : Ctx} {m : Mem} {E E' : Env} {H : HV} {w : World} (g : Good C m E H w) (hj : E'.j = E.j) (h : ∀ k,k ∈ m.named → E'.b k = E.b k ∧ E'.v k = E.v k) (hp : ∀ f,C.x.pn = some f → ∀ k,PIN ≤ k → E'.b k = E.b k) : Good C m E' H w := by
 refine ⟨g.below,g.ext,g.fresh,g.cell,fun k o hko=>?_,g.keys,fun x y hx hy hne hlx hly=>?_,⟨g.fix.fx,g.fix.mark,g.fix.nodup,fun f hf k hk=>(hp f hf k hk).trans (g.fix.pin f hf k hk)⟩⟩
 ·have := OOk.ren (ρ := id) hj (g.own k o hko) (h k (named_key hko)) (fun j hj=>h j (named_in hko hj)) (fun es _ hk=>keysOk_ren hk)
  rw [OBlk.ren_id] at this
  exact this
 ·rw [(h x.1 (named_key (o := x.2) hx)).1,(h y.1 (named_key (o := y.2) hy)).1]
  exact g.apart x y hx hy hne hlx hly
theorem denL_envTo {E E' : Env} (hj : E'.j = E.j) {l : List SV} (h : ∀ k,k ∈ SV.keysL l → E'.b k = E.b k ∧ E'.v k = E.v k) : SV.denL E' l = SV.denL E l := by
 have := SV.denL_ren (ρ := id) hj l h
 rwa [SV.renL_id] at this
def shM (m : Mem) : Mem := m.map fun e=>(e.1 + 500,e.2.ren (· + 500))
def RetM (w : World) (H : HV) (Φ : SV → Mem → Prop) : Value → World → Prop :=
 fun u w'=>∃ v m E1 H',Φ v m ∧ u = v.den E1 ∧ Good ⟨w,H⟩ m E1 H' w' ∧ v.Ok H' ∧ v.jk 0 = false ∧ (∀ x,x ∈ m → x.2.jk 0 = false)

theorem OOk.ctx {C C' : Ctx} {E : Env} {H : HV} {w : World} {k : Nat} {o : OBlk} (h : OOk C E H w k o) (hs : C'.w0.heap.size ≤ C.w0.heap.size) : OOk C' E H w k o := by
 cases o with
 | cells t cs=>exact ⟨Nat.le_trans hs h.1,h.2⟩
 | pub d=>exact h
 | map es=>exact ⟨Nat.le_trans hs h.1,h.2⟩
 | arr e d =>
  obtain ⟨hd,sz,rows,h1,h2,h3,h4⟩ := h
  exact ⟨hd,sz,rows,h1,h2,ownsRow_mono h3 hs,h4⟩

theorem OBlk.lies_ren (ρ : Nat → Nat) (o : OBlk) : (o.ren ρ).Lies ↔ o.Lies := by cases o <;> rfl

section
variable {P : Program} {C : Ctx} {R : Value → World → Prop}

theorem runs_frame {top g : SFrm} {rest : List SFrm} {mem : Mem} {Φ : SV → Mem → Prop}
  (hpure : ∀ k,k ∉ SV.keysL top.tmps) (hlow : ∀ k,k ∈ SV.keysL g.tmps ++ ((rest.flatMap fun f=>SV.keysL f.tmps) ++ mem.named) → k < 500)
  (h1 : ∀ (H : HV) (w : World),SV.OkL H top.tmps → Runs P ⟨w,H⟩ ⟨top,[],[]⟩ (RetM w H Φ))
  (h2 : ∀ v m,Φ v m → Runs P C ⟨{ g with tmps := putS g.tmps g.await (v.ren (· + 500)),await := none },rest,shM m ++ mem⟩ R) (hpn : C.x.pn = none := by rfl) :
  Runs P C ⟨top,g :: rest,mem⟩ R := by
 intro E H w gd ok
 have hcell := gd.cell
 have hr := h1 H w ok.1 E H w (good_start hcell E) ⟨ok.1,by simp⟩
 rw [stkRun_eq] at hr ⊢
 simp only [List.map_nil,restOf] at hr
 simp only [List.map_cons,restOf]
 refine CFrm.run_mono hr fun u w' ⟨v,m,E1,H',hΦ,hu,g1,hv,hvj,hmj⟩=>?_
 -- where all lies afterwards
 let E2 : Env := ⟨fun k=>if 500 ≤ k then E1.b (k - 500) else E.b k,fun k=>if 500 ≤ k then E1.v (k - 500) else E.v k,E.j⟩
 let E1' : Env := ⟨E1.b,E1.v,E.j⟩
 have hs1 : Same 0 E1 E1' := ⟨rfl,rfl,fun i hi=>absurd hi (Nat.not_lt_zero _)⟩
 have g1' : Good ⟨w,H⟩ m E1' H' w' := g1.same' hs1 hmj
 have hu' : u = v.den E1' := by rw [hu]; exact (den_same hs1 v hvj).symm
 have hren : ∀ k,Ren (· + 500) E1' E2 k := fun k=>by
  refine ⟨?_,?_⟩ <;> simp [E2,E1']
 have hold : ∀ k,k < 500 → E2.b k = E.b k ∧ E2.v k = E.v k := fun k hk=>by
  refine ⟨?_,?_⟩ <;> simp [E2] <;> omega
 have hden : v.den E1' = (v.ren (· + 500)).den E2 := (SV.den_ren (ρ := (· + 500)) (E := E1') (E' := E2) rfl v (fun k _=>hren k)).symm
 have hmemlow : ∀ k,k ∈ mem.named → k < 500 := fun k hk=>hlow k (List.mem_append_right _ (List.mem_append_right _ hk))
 have gm : Good C mem E H' w' := gd.call g1.below g1.ext g1.fresh g1.cell
 have gm2 : Good C mem E2 H' w' := gm.envTo rfl (fun k hk=>hold k (hmemlow k hk)) fun f hf=>by rw [hpn] at hf; cases hf
 have hlowm : ∀ k o,(k,o) ∈ m → w.heap.size ≤ E1.b k ∨ ¬o.Lies := fun k o hko=>by
  by_cases hl : o.Lies
  ·exact .inl ((g1.own k o hko).low hl)
  ·exact .inr hl
 have good2 : Good C (shM m ++ mem) E2 H' w' := by
  refine ⟨gm.below,gm.ext,gm.fresh,gm.cell,fun k o hko=>?_,?_,fun x y hx hy hne hlx hly=>?_,gm2.fix⟩
  ·rcases List.mem_append.1 hko with h | h
   ·obtain ⟨⟨k',o'⟩,hm,he⟩ := List.mem_map.1 h
    cases he
    exact (OOk.ren (ρ := (· + 500)) (E := E1') (E' := E2) rfl (g1'.own k' o' hm) (hren k') (fun j _=>hren j) (fun es _ hk=>keysOk_ren hk)).ctx gd.below.size
   ·exact gm2.own k o h
  ·rw [List.pairwise_append]
   refine ⟨?_,gm.keys,fun x hx y hy=>?_⟩
   ·rw [shM,List.pairwise_map]
    exact g1.keys.imp fun h=>by simpa using h
   ·obtain ⟨x',hx',rfl⟩ := List.mem_map.1 hx
    have := hmemlow y.1 (named_key (o := y.2) hy)
    simp only; omega
  ·have newb : ∀ z : Nat × OBlk,z ∈ shM m → z.2.Lies → w.heap.size ≤ E2.b z.1 ∧ ∃ z',z' ∈ m ∧ z.1 = z'.1 + 500 ∧ z'.2.Lies ∧ E2.b z.1 = E1.b z'.1 := fun z hz hl=>by
    obtain ⟨z',hz',rfl⟩ := List.mem_map.1 hz
    have hl' := (OBlk.lies_ren _ _).1 hl
    have hb : E2.b (z'.1 + 500) = E1.b z'.1 := (hren z'.1).1
    exact ⟨by rw [hb]; exact (g1.own z'.1 z'.2 hz').low hl',z',hz',rfl,hl',hb⟩
   have oldb : ∀ z : Nat × OBlk,z ∈ mem → z.2.Lies → E2.b z.1 < w.heap.size := fun z hz hl=>by
    rw [(hold z.1 (hmemlow z.1 (named_key (o := z.2) hz))).1]
    exact (gd.own z.1 z.2 hz).lt hl
   rcases List.mem_append.1 hx with hx | hx <;> rcases List.mem_append.1 hy with hy | hy
   ·obtain ⟨_,x',hx',ex,lx,bx⟩ := newb x hx hlx
    obtain ⟨_,y',hy',ey,ly,by'⟩ := newb y hy hly
    rw [bx,by']
    exact g1.apart x' y' hx' hy' (fun h=>hne (by rw [ex,ey,h])) lx ly
   ·have := (newb x hx hlx).1; have := oldb y hy hly; omega
   ·have := oldb x hx hlx; have := (newb y hy hly).1; omega
   ·exact gm2.apart x y hx hy hne hlx hly
 have hgt : SV.denL E2 g.tmps = SV.denL E g.tmps := denL_envTo (E := E) (E' := E2) rfl fun k hk=>hold k (hlow k (List.mem_append_left _ hk))
 have hrt : rest.map (SFrm.den E2) = rest.map (SFrm.den E) := by
  apply List.map_congr_left
  intro f hf
  simp only [SFrm.den]
  rw [denL_envTo (E := E) (E' := E2) rfl fun k hk=>hold k (hlow k (List.mem_append_right _ (List.mem_append_left _ (List.mem_flatMap.2 ⟨f,hf,hk⟩))))]
 have okg : SV.OkL H' g.tmps := SV.OkL.mono g1.ext _ (ok.2 g List.mem_cons_self)
 have fin := h2 v m hΦ E2 H' w' good2 ⟨okL_putS okg (SV.ok_ren v hv),fun f hf=>SV.OkL.mono g1.ext _ (ok.2 f (List.mem_cons_of_mem _ hf))⟩
 simp only [SFrm.den] at fin ⊢
 rw [← put_den,hgt,← hden,← hu'] at fin
 rw [hrt] at fin
 cases rest <;> exact fin
theorem retM {w : World} {H : HV} {Φ : SV → Mem → Prop} {fn : FuncId} {aw : Option Tmp} {k : List Item} {tmps : List SV} {mem : Mem} {f : Func} {l : List SV} (m' : Mem) (hfn : P.funcs[fn]? = some f) (hres : resS P mem tmps f.results.toList = some l)
  (hsub : m'.Sublist mem) (hj : (one? l).jk 0 = false) (hjm : m'.all (fun x=>!x.2.jk 0) = true) (h : Φ (one? l) m') : (Tree.leaf ⟨⟨fn,none,aw,.code .ret :: k,tmps⟩,[],mem⟩).holds P ⟨w,H⟩ (RetM w H Φ) := by
 refine runs_ret hfn hres fun E H' w' g hv=>⟨_,m',E,H',h,rfl,g.sub hsub,hv,hj,fun x hx=>?_⟩
 have := List.all_eq_true.1 hjm x hx
 simpa using this
def atRet (c : Conf) : Bool :=
 match c.rest with
 | []=>match c.top.ri with
  | none=>match c.top.todo with
   | .code .ret :: _=>true
   | _=>false
  | some _=>false
 | _ :: _=>false
noncomputable def execR (P : Program) (cs : Ctrs) (n : Nat) : Conf → Tree :=
 Nat.rec (motive := fun _=>Conf → Tree) (fun _=>.stuck) (fun _ ih c=>match atRet c with
  | true=>leafR c
  | false=>stepC P cs (fun _=>false) ih c) n
theorem execR_sound {cs : Ctrs} (hcs : cs.Ok P) : ∀ (n : Nat) (c : Conf),(execR P cs n c).holds P C R → Runs P C c R
 | 0,_,h=>h.elim
 | n + 1,c,h=>by
  have e : execR P cs (n + 1) c = match atRet c with
   | true=>leafR c
   | false=>stepC P cs (fun _=>false) (execR P cs n) c := rfl
  rw [e] at h
  cases hr : atRet c with
  | true=>rw [hr,leafR_eq] at h; exact h
  | false=>rw [hr] at h; exact step_sound (U := fun _=>false) (ih := execR P cs n) hcs (fun c h=>execR_sound hcs n c h) c h
end
end Sx
end
section
namespace Sx
open Go RowKit
section
variable {P : Program} {C : Ctx} {R : Value → World → Prop}
def spJoin (α : Type) [Codec α] (e : TypeId) : OSpec := fun args=>match args with
 | [x]=>match rdD.read x with
  | some (.slc a 1 [[c],[d]])=>some ([c.Is α ∧ d.Is α ∧ c.len ≤ 1048576 ∧ d.len ≤ 1048576],e,fun h=>.slc h.hd (Codec.sz α) (c.rows ++ d.rows))
  | _=>none
 | _=>none

theorem olaw_join {f : FuncId} {α : Type} [Codec α] {e : TypeId} (hb : Bodied P f = true)
  (h : ∀ (H : HV) (w : World) (a : Hd) (c d : D),(D.slc a 1 [[c],[d]]).Ok H → c.Is α → d.Is α → c.len ≤ 1048576 → d.len ≤ 1048576 → Runs P ⟨w,H⟩ (entry P f [.dat (.slc a 1 [[c],[d]])]) (OwnR w H e fun h=>.slc h.hd (Codec.sz α) (c.rows ++ d.rows))) : OLaw P f (spJoin α e) := by
 refine ⟨hb,fun H E args hargs=>?_⟩
 unfold spJoin
 split
 ·rename_i heq
  split at heq
  ·rename_i x
   split at heq
   ·rename_i a c d hd
    cases heq
    intro hp w hw
    obtain ⟨h1,h2⟩ := rdD.right H E x _ hd hargs.1
    obtain ⟨p1,p2,p3,p4⟩ := hp _ (List.mem_singleton.2 rfl)
    have := calls_of hb (args := [.dat (.slc a 1 [[c],[d]])]) ⟨h2,trivial⟩ E hw (h H w a c d h2.1 p1 p2 p3 p4)
    have e1 : SV.denL E [x] = SV.denL E [.dat (.slc a 1 [[c],[d]])] := by simp only [SV.denL]; rw [h1]; rfl
    rw [e1]
    exact this
   ·cases heq
  ·cases heq
 ·trivial
end
end Sx
end
section
open Go Go.Proofs Sx
namespace Go.Proofs.Ytodhhmjilnfecaa
set_option maxRecDepth 100000
set_option maxHeartbeats 0
noncomputable def asL (d : D) (j : Int) : Conf := Conf.mk (SFrm.mk 104 none none [Item.inLoop (cAt Try.prog 104 [1,0,1,0,0]),Item.inBlock 0,Item.code (cAt Try.prog 104 [1,1])] (mkJ 0 [(0,.dat d),(3,.int .i64 j)] 0 20)) [] []
noncomputable def ixbL (d : D) (b : Bool) (j : Int) : Conf := Conf.mk (SFrm.mk 90 none none [Item.inLoop (cAt Try.prog 90 [1,0,1,0,0]),Item.inBlock 0,Item.code (cAt Try.prog 90 [1,1])] (mkJ 0 [(0,.dat d),(1,.bool b),(7,.int .i64 d.len),(8,.int .i64 j)] 0 19)) [] []
noncomputable def ixwL (d : D) (n : Int) (j : Int) : Conf := Conf.mk (SFrm.mk 44 none none [Item.inLoop (cAt Try.prog 44 [1,0,1,0,0]),Item.inBlock 0,Item.code (cAt Try.prog 44 [1,1])] (mkJ 0 [(0,.dat d),(1,.int .i64 n),(7,.int .i64 d.len),(8,.int .i64 j)] 0 19)) [] []
noncomputable def ccA (d : D) (s j : Int) : Conf := Conf.mk (SFrm.mk 106 none none [Item.inLoop (cAt Try.prog 106 [1,1,0,1,0,0]),Item.inBlock 0,Item.code (cAt Try.prog 106 [1,1,1])] (mkJ 0 [(0,.dat d),(3,.int .i64 s),(9,.dat d),(10,.int .i64 d.len),(11,.int .i64 j)] 0 36)) [] []
noncomputable def ccB (d r : D) (j : Int) : Conf := Conf.mk (SFrm.mk 106 none none [Item.inLoop (cAt Try.prog 106 [1,1,1,1,0,1,0,0]),Item.inBlock 2,Item.code (cAt Try.prog 106 [1,1,1,1,1])] (mkJ 0 [(6,.vec 0),(25,.dat d),(26,.int .i64 d.len),(27,.int .i64 j)] 0 36)) [] [(0,.arr 3 r)]
section
variable (a : Hd) (n j k w : Int) (ha hb hc d wt hd : D) (fz : Bool) (b : Bool)
theorem as_go : exec Try.prog [] 300 (unroll (asL d j)) =
 Tree.br (decide (j < (↑(D.len d) : Int)))
 (.all fun hs =>
 .need (0 ≤ j ∧ j < (↑(D.len d) : Int) ∧ D.sz d = 1)
 (.need (D.HasCell d (Int.toNat j) 0 (FT.int .i64))
 (.need
 (0 ≤ IntKind.wrap .i64 (j - 1) ∧ IntKind.wrap .i64 (j - 1) < (↑(D.len d) : Int) ∧ D.sz d = 1)
 (.need (D.HasCell d (Int.toNat (IntKind.wrap .i64 (j - 1))) 0 (FT.int .i64))
 (.br (decide (D.getInt d (Int.toNat j) 0 ≤ D.getInt d (Int.toNat (IntKind.wrap .i64 (j - 1))) 0))
 (.ret (.lb false))
 (.leaf
 (Conf.mk
 (SFrm.mk 104 none none
 [Item.inLoop (cAt Try.prog 104 [1,0,1,0,0]),Item.inBlock 0,
 Item.code (cAt Try.prog 104 [1,1])]
 (mkJ 0 [(0,.dat d),(3,.int .i64 (IntKind.wrap .i64 (j + 1)))] 0 20))
 [] [])))))))
 (.ret (.lb true)) := by kernel_rfl


theorem clw_in : execT Try.prog [] (fun _=>false) 19 (entry Try.prog 80 [.dat d]) =
 Tree.br
 (nilOf
 (evS
 (putS [.dat d,SV.undef,.nils,SV.undef,SV.undef,SV.undef,SV.undef,SV.undef] (some 3)
 (evS [.dat d,SV.undef,.nils,SV.undef,SV.undef,SV.undef,SV.undef,SV.undef] (Operand.tmp 0)))
 (Operand.tmp 3))
 d)
 (.ret .nils)
 (.all fun hs =>
 .need
 (D.sz (D.slc (D.hd (hs 0 0)) 3 []) = 3 ∧
 D.Fits d 3 ∧
 (D.len (D.slc (D.hd (hs 0 0)) 3 []) + D.len d) * 40 ≤ 140737488355328 ∧
 D.len (D.slc (D.hd (hs 0 0)) 3 []) + D.len d ≤ 9223372036854775807)
 (.all fun hs_1 =>
 .leaf
 (Conf.mk
 (SFrm.mk 80 none none [Item.code (cAt Try.prog 80 [1,0,1,0,1])]
 (mkU
 [(0,.dat d),(2,.vec 1007),(3,.dat d),
 (4,
 .bool
 (nilOf
 (evS
 (putS [.dat d,SV.undef,.nils,SV.undef,SV.undef,SV.undef,SV.undef,SV.undef] (some 3)
 (evS [.dat d,SV.undef,.nils,SV.undef,SV.undef,SV.undef,SV.undef,SV.undef]
 (Operand.tmp 0)))
 (Operand.tmp 3))
 d)),
 (5,.vec 1005),(6,.dat d),(7,.vec 1007)]
 0 8))
 []
 [(1007,
 OBlk.arr 31
 (D.slc (D.hd (hs_1 0 0)) 3 (List.append (D.rows (D.slc (D.hd (hs 0 0)) 3 [])) (D.rows d))))]))) := by kernel_rfl

theorem ixb_in : exec Try.prog [] 300 (entry Try.prog 90 [.dat d,.bool b]) =
 Tree.leaf
 (Conf.mk
 (SFrm.mk 90 none none
 [Item.inLoop (cAt Try.prog 90 [1,0,1,0,0]),Item.inBlock 0,Item.code (cAt Try.prog 90 [1,1])]
 (mkJ 0 [(0,.dat d),(1,.bool b),(7,.int .i64 (↑(D.len d) : Int)),(8,.int .i64 0)] 0
 19))
 [] []) := by kernel_rfl

theorem ixw_in : exec Try.prog [] 300 (entry Try.prog 44 [.dat d,.int .i64 n]) =
 Tree.leaf
 (Conf.mk
 (SFrm.mk 44 none none
 [Item.inLoop (cAt Try.prog 44 [1,0,1,0,0]),Item.inBlock 0,Item.code (cAt Try.prog 44 [1,1])]
 (mkJ 0
 [(0,.dat d),(1,.int .i64 n),(7,.int .i64 (↑(D.len d) : Int)),
 (8,.int .i64 0)]
 0 19))
 [] []) := by kernel_rfl

theorem ctb_in : exec Try.prog [(90,ctrOf ((rdD.two rdBool).sp spIxB))] 300 (entry Try.prog 54 [.dat d,.bool b]) =
 Tree.need (D.Is Bool d ∧ D.len d ≤ 1048576)
 (.ret (.bool (decide ((idxG (D.to Bool d) fun y=>decide (b = y)) ≥ 0)))) := by kernel_rfl

theorem cc_in : exec Try.prog [] 300 (entry Try.prog 106 [.dat d]) =
 Tree.leaf
 (Conf.mk
 (SFrm.mk 106 none none
 [Item.inLoop (cAt Try.prog 106 [1,1,0,1,0,0]),Item.inBlock 0,Item.code (cAt Try.prog 106 [1,1,1])]
 (mkJ 0
 [(0,.dat d),(3,.int .i64 0),(9,.dat d),(10,.int .i64 (↑(D.len d) : Int)),
 (11,.int .i64 0)]
 0 36))
 [] []) := by kernel_rfl

theorem ccA_go : exec Try.prog [] 300 (unroll (ccA d k j)) =
 Tree.br (decide (j < (↑(D.len d) : Int)))
 (.need (0 ≤ j ∧ j < (↑(D.len d) : Int) ∧ D.sz d = 1)
 (.need (D.HasCell d (Int.toNat j) 0 FT.slc)
 (.br (decide (IntKind.wrap .i64 (k + (↑(D.len (D.cell d (Int.toNat j) 0)) : Int)) < 0)) Tree.stuck
 (.leaf
 (Conf.mk
 (SFrm.mk 106 none none
 [Item.inLoop (cAt Try.prog 106 [1,1,0,1,0,0]),Item.inBlock 0,
 Item.code (cAt Try.prog 106 [1,1,1])]
 (mkJ 0
 [(0,.dat d),
 (3,.int .i64 (IntKind.wrap .i64 (k + (↑(D.len (D.cell d (Int.toNat j) 0)) : Int)))),
 (9,.dat d),(10,.int .i64 (↑(D.len d) : Int)),
 (11,.int .i64 (IntKind.wrap .i64 (j + 1)))]
 0 36))
 [] [])))))
 (.br (decide (k < 0)) Tree.stuck
 (.br (decide (IntKind.wrap .i64 (k - IntKind.wrap .i64 (0 - (↑0 : Int))) > 0))
 (.need (0 ≤ (↑0 : Int) ∧ (↑0 : Int) ≤ 0 ∧ 0 ≤ (↑0 : Int) ∧ D.Fits (D.slc none 0 []) 1)
 (.need
 (D.hd (D.sub (D.slc none 0 []) 0 0) = none ∧
 0 < IntKind.wrap .i64 (k - IntKind.wrap .i64 (0 - (↑0 : Int))) ∧
 IntKind.wrap .i64 (k - IntKind.wrap .i64 (0 - (↑0 : Int))) * (↑8 : Int) ≤ 140737488355328 ∧
 IntKind.wrap .i64 (k - IntKind.wrap .i64 (0 - (↑0 : Int))) ≤ 9223372036854775807)
 (.all fun hs =>
 .need
 (0 ≤ (↑0 : Int) ∧
 (↑0 : Int) ≤
 (↑(D.len
 (D.slc (D.hd (hs 0 0)) 1
 (List.replicate
 (Int.toNat (IntKind.wrap .i64 (k - IntKind.wrap .i64 (0 - (↑0 : Int)))))
 [D.int .i64 0]))) :
 Int) ∧
 D.Fits
 (D.slc (D.hd (hs 0 0)) 1
 (List.replicate
 (Int.toNat (IntKind.wrap .i64 (k - IntKind.wrap .i64 (0 - (↑0 : Int)))))
 [D.int .i64 0]))
 1)
 (.leaf
 (Conf.mk
 (SFrm.mk 106 none none
 [Item.inLoop (cAt Try.prog 106 [1,1,1,1,0,1,0,0]),Item.inBlock 2,
 Item.code (cAt Try.prog 106 [1,1,1,1,1])]
 (mkJ 0
 [(6,.vec 0),(25,.dat d),(26,.int .i64 (↑(D.len d) : Int)),
 (27,.int .i64 0)]
 0 36))
 []
 [(0,
 OBlk.arr 3
 (D.slc
 (D.hd
 (D.slc (D.hd (hs 0 0)) 1
 (List.replicate
 (Int.toNat (IntKind.wrap .i64 (k - IntKind.wrap .i64 (0 - (↑0 : Int)))))
 [D.int .i64 0])))
 (D.sz
 (D.slc (D.hd (hs 0 0)) 1
 (List.replicate
 (Int.toNat (IntKind.wrap .i64 (k - IntKind.wrap .i64 (0 - (↑0 : Int)))))
 [D.int .i64 0])))
 (List.take 0
 (D.rows
 (D.slc (D.hd (hs 0 0)) 1
 (List.replicate
 (Int.toNat (IntKind.wrap .i64 (k - IntKind.wrap .i64 (0 - (↑0 : Int)))))
 [D.int .i64 0]))))))])))))
 (.leaf
 (Conf.mk
 (SFrm.mk 106 none none
 [Item.inLoop (cAt Try.prog 106 [1,1,1,1,0,1,0,0]),Item.inBlock 2,
 Item.code (cAt Try.prog 106 [1,1,1,1,1])]
 (mkJ 0
 [(6,.nils),(25,.dat d),(26,.int .i64 (↑(D.len d) : Int)),(27,.int .i64 0)] 0
 36))
 [] [])))) := by kernel_rfl

theorem ccB_go : execR Try.prog [] 300 (unroll (ccB d wt j)) =
 Tree.br (decide (j < (↑(D.len d) : Int)))
 (.need (0 ≤ j ∧ j < (↑(D.len d) : Int) ∧ D.sz d = 1)
 (.need (D.HasCell d (Int.toNat j) 0 FT.slc)
 (.need
 (D.sz wt = 1 ∧
 D.Fits (D.cell d (Int.toNat j) 0) 1 ∧
 (D.len wt + D.len (D.cell d (Int.toNat j) 0)) * 8 ≤ 140737488355328 ∧
 D.len wt + D.len (D.cell d (Int.toNat j) 0) ≤ 9223372036854775807)
 (.all fun hs =>
 .leaf
 (Conf.mk
 (SFrm.mk 106 none none
 [Item.inLoop (cAt Try.prog 106 [1,1,1,1,0,1,0,0]),Item.inBlock 2,
 Item.code (cAt Try.prog 106 [1,1,1,1,1])]
 (mkJ 0
 [(6,.vec 0),(25,.dat d),(26,.int .i64 (↑(D.len d) : Int)),
 (27,.int .i64 (IntKind.wrap .i64 (j + 1)))]
 0 36))
 []
 [(0,
 OBlk.arr 3
 (D.slc (D.hd (hs 0 0)) 1 (List.append (D.rows wt) (D.rows (D.cell d (Int.toNat j) 0)))))])))))
 (.leaf
 (Conf.mk
 (SFrm.mk 106 none none [Item.code (cAt Try.prog 106 [1,1,1,1,1,1])]
 (mkJ 0
 [(2,.vec 0),(6,.vec 0),(25,.dat d),(26,.int .i64 (↑(D.len d) : Int)),
 (27,.int .i64 j),(28,.bool (decide (j < (↑(D.len d) : Int)))),(35,.vec 0)]
 0 36))
 [] [(0,OBlk.arr 3 wt)])) := by kernel_rfl

theorem ixb_go : exec Try.prog [] 300 (unroll (ixbL d b j)) =
 Tree.br (decide (j < (↑(D.len d) : Int)))
 (.need (0 ≤ j ∧ j < (↑(D.len d) : Int) ∧ D.sz d = 1)
 (.need (D.HasCell d (Int.toNat j) 0 FT.bool)
 (.br (decide (b = D.getBool d (Int.toNat j) 0)) (.ret (.int .i64 j))
 (.leaf
 (Conf.mk
 (SFrm.mk 90 none none
 [Item.inLoop (cAt Try.prog 90 [1,0,1,0,0]),Item.inBlock 0,Item.code (cAt Try.prog 90 [1,1])]
 (mkJ 0
 [(0,.dat d),(1,.bool b),(7,.int .i64 (↑(D.len d) : Int)),
 (8,.int .i64 (IntKind.wrap .i64 (j + 1)))]
 0 19))
 [] [])))))
 (.ret (.int .i64 (Int.neg 1))) := by kernel_rfl

theorem ixw_go : exec Try.prog [] 300 (unroll (ixwL d n j)) =
 Tree.br (decide (j < (↑(D.len d) : Int)))
 (.need (0 ≤ j ∧ j < (↑(D.len d) : Int) ∧ D.sz d = 1)
 (.need (D.HasCell d (Int.toNat j) 0 (FT.int .i64))
 (.br (decide (n = D.getInt d (Int.toNat j) 0)) (.ret (.int .i64 j))
 (.leaf
 (Conf.mk
 (SFrm.mk 44 none none
 [Item.inLoop (cAt Try.prog 44 [1,0,1,0,0]),Item.inBlock 0,Item.code (cAt Try.prog 44 [1,1])]
 (mkJ 0
 [(0,.dat d),(1,.int .i64 n),(7,.int .i64 (↑(D.len d) : Int)),
 (8,.int .i64 (IntKind.wrap .i64 (j + 1)))]
 0 19))
 [] [])))))
 (.ret (.int .i64 (Int.neg 1))) := by kernel_rfl

end
end Go.Proofs.Ytodhhmjilnfecaa
end
