/- Groups: what a correct group is; the reference's results are the code's; what remains correct (no program in sight). -/
import Derived.Test.YtdiekahpofifeaaHT37toN41
import Derived.Laws.CopyOwn
import Derived.KernelRfl
import Derived.Test.YtdiekahpofifeaaOvtoHT7
set_option linter.all false
section
open Go
namespace Sx
theorem asc_of {l : List Int} (h : l.Pairwise (· < ·)) : asc l = true :=
  (asc_iff l).2 fun i hi => by rw [getD_lt (by omega), getD_lt hi]; exact (List.pairwise_iff_getElem.1 h) i (i + 1) (by omega) hi (by omega)
theorem openErr_iff (g : Gr) : openErr g = 0 ↔ (checkH g.hist).1 = 0 ∧ g.waiting.Pairwise (· < ·) ∧ (∀ w, w ∈ g.waiting ++ g.held → 0 ≤ w ∧ w < (g.hist.writes.length : Int)) ∧
    (∀ i : Nat, i < g.hist.writes.length → cntI g.waiting (i : Int) + cntI g.held (i : Int) + (if (⟨1, (i : Int)⟩ : Ev) ∈ g.hist.events then 1 else 0) = 1) ∧ (g.held ≠ [] → g.frozen = true) := by
  have key : (checkH g.hist).1 = 0 → ((∀ i : Nat, i < g.hist.writes.length → cntI (g.waiting ++ g.held) (i : Int) + (if (ackd g.hist.writes.length g.hist.events).getD i false = true then 1 else 0) = 1) ↔
      (∀ i : Nat, i < g.hist.writes.length → cntI g.waiting (i : Int) + cntI g.held (i : Int) + (if (⟨1, (i : Int)⟩ : Ev) ∈ g.hist.events then 1 else 0) = 1)) := fun hc =>
    forall_congr' fun i => forall_congr' fun hi => by
      have := ackd_mem (fun e he => (checkH_in hc e he).2.1) hi
      simp only [this, cntI_app]
  unfold openErr
  by_cases hc : (checkH g.hist).1 ≠ 0
  · rw [if_pos hc]
    exact ⟨fun h => absurd h hc, fun h => absurd h.1 hc⟩
  · rw [if_neg hc]
    have hc : (checkH g.hist).1 = 0 := by simpa using hc
    cases hd : divided g with
    | false =>
      rw [if_pos rfl]
      refine ⟨fun h => absurd h (by decide), fun ⟨_, h1, h2, h3, _⟩ => ?_⟩
      have := (divided_iff g).2 ⟨asc_of h1, h2, (key hc).2 h3⟩
      rw [hd] at this; cases this
    | true =>
      rw [if_neg (by simp)]
      obtain ⟨d1, d2, d3⟩ := (divided_iff g).1 hd
      by_cases hh : g.held.length > 0 ∧ g.frozen = false
      · rw [if_pos hh]
        refine ⟨fun h => absurd h (by decide), fun ⟨_, _, _, _, h⟩ => ?_⟩
        have := h (by intro e; rw [e] at hh; simp at hh)
        rw [hh.2] at this; cases this
      · rw [if_neg hh]
        refine ⟨fun _ => ⟨hc, asc_pair d1, d2, (key hc).1 d3, fun hne => ?_⟩, fun _ => rfl⟩
        cases hf : g.frozen with
        | true => rfl
        | false => exact absurd ⟨List.length_pos_iff.2 hne, hf⟩ hh

def withoutI (l : List Int) (n : Int) : List Int := l.filter fun x => !decide (x = n)
theorem ackH_go {h : Hist} {n : Int} (hc : (checkH h).1 = 0) (h1 : 0 ≤ n ∧ n < (h.writes.length : Int)) (h2 : (⟨1, n⟩ : Ev) ∉ h.events) : ackH h n = (⟨h.sizes, h.writes, h.events ++ [⟨1, n⟩]⟩, 0) := by
  unfold ackH
  rw [if_neg (by simp [hc]), if_neg (by omega), if_neg (by rw [atEv_mem]; exact h2)]
def ackAll (l : List Int) (h : Hist) : Hist := l.foldl (fun h n => (ackH h n).1) h
theorem ackAll_go : ∀ {l : List Int} {h : Hist}, (checkH h).1 = 0 → l.Nodup → (∀ n, n ∈ l → (0 ≤ n ∧ n < (h.writes.length : Int)) ∧ (⟨1, n⟩ : Ev) ∉ h.events) →
    ackAll l h = ⟨h.sizes, h.writes, h.events ++ l.map (Ev.mk 1)⟩ ∧ (checkH ⟨h.sizes, h.writes, h.events ++ l.map (Ev.mk 1)⟩).1 = 0
  | [], h, hc, _, _ => by simp [ackAll, hc]
  | x :: r, h, hc, hn, hx => by
    rw [List.nodup_cons] at hn
    obtain ⟨a, b⟩ := hx x List.mem_cons_self
    have e := ackH_go hc a b
    have hc2 := ackH_check (h := h) (n := x) (by rw [e])
    rw [e] at hc2
    have := ackAll_go (l := r) hc2 hn.2 fun n hnr => by
      obtain ⟨a', b'⟩ := hx n (List.mem_cons_of_mem _ hnr)
      refine ⟨a', ?_⟩
      simp only [List.mem_append, List.mem_singleton, not_or]
      refine ⟨b', fun e => ?_⟩
      injection e with _ e
      subst e; exact hn.1 hnr
    simp only [List.map_cons]
    have ap : h.events ++ ({ kind := 1, write := x } : Ev) :: r.map (Ev.mk 1) = h.events ++ [⟨1, x⟩] ++ r.map (Ev.mk 1) := by simp
    rw [ap]
    refine ⟨?_, this.2⟩
    rw [← this.1]
    show r.foldl (fun h n => (ackH h n).1) (ackH h x).1 = _
    rw [e]; rfl
theorem nodup_cnt : ∀ {l : List Int}, (∀ n, n ∈ l → cntI l n ≤ 1) → l.Nodup
  | [], _ => List.nodup_nil
  | x :: r, h => by
    rw [List.nodup_cons]
    constructor
    · intro hm
      have := h x List.mem_cons_self
      rw [cntI_cons, if_pos rfl] at this
      have := cntI_pos.2 hm
      omega
    · refine nodup_cnt fun n hn => ?_
      have := h n (List.mem_cons_of_mem _ hn)
      rw [cntI_cons] at this; omega

/-! Durable. -/
def durR (g : Gr) (n : Int) : Gr × List Int × Int :=
  if openErr g ≠ 0 then (zGr, [], openErr g)
  else if g.waiting.contains n = false then (zGr, [], 7)
  else if g.frozen = true then (⟨g.hist, withoutI g.waiting n, g.held ++ [n], true⟩, [], 0)
  else (⟨(ackH g.hist n).1, withoutI g.waiting n, g.held, false⟩, [n], 0)
theorem held_free {g : Gr} (h : openErr g = 0) : g.held.Nodup ∧ ∀ n, n ∈ g.held → (0 ≤ n ∧ n < (g.hist.writes.length : Int)) ∧ (⟨1, n⟩ : Ev) ∉ g.hist.events := by
  obtain ⟨hc, h1, h2, h3, h4⟩ := (openErr_iff g).1 h
  have key : ∀ n, n ∈ g.held → (0 ≤ n ∧ n < (g.hist.writes.length : Int)) ∧ (⟨1, n⟩ : Ev) ∉ g.hist.events ∧ cntI g.held n ≤ 1 := fun n hn => by
    have a := h2 n (List.mem_append_right _ hn)
    have b := h3 n.toNat (by omega)
    rw [Int.toNat_of_nonneg a.1] at b
    have c := cntI_pos.2 hn
    refine ⟨a, fun hm => ?_, ?_⟩
    · rw [if_pos hm] at b; omega
    · split at b <;> omega
  exact ⟨nodup_cnt fun n hn => (key n hn).2.2, fun n hn => ⟨(key n hn).1, (key n hn).2.1⟩⟩

/-! Freeze and Thaw. -/
def frzR (g : Gr) : Gr × Int × Int :=
  if openErr g ≠ 0 then (zGr, 0, openErr g) else if g.frozen then (zGr, 0, 26) else (⟨g.hist, g.waiting, [], true⟩, g.hist.writes.length, 0)
def thawR (g : Gr) : Gr × List Int × Int :=
  if openErr g ≠ 0 then (zGr, [], openErr g) else if g.frozen = false then (zGr, [], 12)
  else (⟨ackAll g.held g.hist, g.waiting, [], false⟩, g.held, 0)

/-! Issue. -/
end Sx
end
section
open Go
namespace Sx
def fewG (g : Gr) : Bool := fewH g.hist && (decide (g.waiting.length ≤ 50) && decide (g.held.length ≤ 50))
def spFewG (x : GrD) : SpecR := .scalar [x.h.s.Is Int ∧ x.h.w.Is Wt ∧ x.h.e.Is Ev ∧ x.wt.Is Int ∧ x.hd.Is Int] (.bool (fewG x.gr))
def spSameG (x : GrD × GrD) : SpecR := .scalar [x.1.Right ∧ x.2.h.s.Is Int ∧ x.2.h.w.Is Wt ∧ x.2.h.e.Is Ev ∧ x.2.wt.Is Int ∧ x.2.hd.Is Int] (.bool (decide (x.1.gr = x.2.gr)))
def needCp (x : D × D) : List Prop := [x.1.Is Int ∧ x.2.Is Int ∧ x.1.len ≤ 1048576 ∧ x.2.len ≤ 1048576]
noncomputable def spCpd (e : TypeId) : OSpec := spOwnI (rdD.two rdD) e needCp fun x => x.1.to Int ++ x.2.to Int
noncomputable def spWo (e : TypeId) : OSpec := spOwnI (rdD.two rdInt) e (fun x => [x.1.Is Int ∧ x.1.len ≤ 1048576]) fun x => withoutI (x.1.to Int) x.2
end Sx
end
section
open Go
namespace Sx
theorem firstN_len (p : Nat) : (firstN (p : Int)).length = p := by simp [firstN]
theorem firstN_get {p k : Nat} (hk : k < (firstN (p : Int)).length) : (firstN (p : Int))[k] = (k : Int) := by simp [firstN]
theorem firstN_set {p n : Nat} (h : p ≤ n) : setH (firstN (p : Int)) n = true := by rw [firstN_filt h]; exact filtN_set
theorem pickW_first {ws : List Wt} {p : Nat} (h : p ≤ ws.length) : pickW ws (firstN (p : Int)) = ws.take p := by
  apply List.ext_getElem
  · rw [pickW_len, firstN_len, List.length_take]; omega
  · intro i h1 h2
    rw [pickW_len, firstN_len] at h1
    simp only [pickW, List.getElem_map, firstN_get, Int.toNat_natCast, List.getElem_take]
    rw [List.getD_eq_getElem?_getD, List.getElem?_eq_getElem (by omega)]; rfl
def recHist (h : Hist) (p j : Nat) : Hist := ⟨h.sizes, h.writes.take p, h.events.filter (fun x => !decide (x.write ≥ (p : Int))) ++ (unackN (ackd h.writes.length h.events) j).map (Ev.mk 1)⟩
section
variable {h : Hist} (hc : (checkH h).1 = 0) {p : Nat} (hp : p ≤ h.writes.length)
include hc hp
end
end Sx
end
section
open Go
namespace Sx
noncomputable def spDurR (x : GrD × Int) : SpecR := .data [x.1.Right ∧ x.1.h.e.len ≤ 1000000] fun ds => .tup [grSV ds (durG x.1.gr x.2).1, .dat ((ds 5).like (durG x.1.gr x.2).2.1), .int .i64 (durG x.1.gr x.2).2.2]
noncomputable def spThawR (x : GrD) : SpecR := .data [x.Right ∧ x.h.e.len ≤ 500000 ∧ x.hd.len ≤ 500000] fun ds => .tup [grSV ds (thawG x.gr).1, .dat ((ds 5).like (thawG x.gr).2.1), .int .i64 (thawG x.gr).2.2]
noncomputable def spRecR (x : GrD × D) : SpecR := .data [x.1.Right ∧ x.1.h.e.len ≤ 500000 ∧ x.2.Is Int ∧ x.2.len ≤ 500000] fun ds => .tup [grSV ds (recoverG x.1.gr (x.2.to Int)).1, .dat ((ds 5).like (recoverG x.1.gr (x.2.to Int)).2.1), .int .i64 (recoverG x.1.gr (x.2.to Int)).2.2]
theorem thaw_go {g : Gr} (h : openErr g = 0) (j : Nat) : ackAll (g.held.take j) g.hist = ⟨g.hist.sizes, g.hist.writes, g.hist.events ++ (g.held.take j).map (Ev.mk 1)⟩ := by
  obtain ⟨a, b⟩ := held_free h
  exact (ackAll_go ((openErr_iff g).1 h).1 (a.sublist (List.take_sublist _ _)) fun n hn => b n (List.mem_of_mem_take hn)).1
end Sx
end
section
open Go
namespace Sx
def acksOf (l : List Ev) : List Int := (l.filter fun e => decide (e.kind = 1)).map Ev.write
theorem sizes_len {s : List Int} (h : sizesErr s = 0) : s.length ≤ 8 ∧ ∀ x, x ∈ s → 1 ≤ x ∧ x ≤ 4096 := by
  unfold sizesErr at h
  split at h
  · exact absurd h (by decide)
  · split at h
    · exact absurd h (by decide)
    · rename_i h1 h2
      refine ⟨by omega, fun x hx => ?_⟩
      have h2 : s.any badSize = false := by simpa using h2
      have := List.any_eq_false.1 h2 x hx
      simp only [badSize, Bool.or_eq_true, decide_eq_true_eq, not_or] at this
      omega
structure GrB (g : Gr) : Prop where
  s : g.hist.sizes.length ≤ 8192
  w : g.hist.writes.length ≤ 8192
  e : g.hist.events.length ≤ 8192
  wt : g.waiting.length ≤ 8192
  hd : g.held.length ≤ 8192
  d : ∀ w, w ∈ g.hist.writes → w.data.length ≤ 4096
/-! The acknowledgements. -/
/-! As data. -/
end Sx
end
section
open Go
namespace Sx
def putW (im : List Vol) (w : Wt) : List Vol :=
  im.set w.vol.toNat ⟨(im.getD w.vol.toNat ⟨[]⟩).l.take w.start.toNat ++ w.data ++ (im.getD w.vol.toNat ⟨[]⟩).l.drop (w.start.toNat + w.data.length)⟩
def applyV : Nat → List Wt → List Vol → List Vol × Int × Int
  | _, [], im => (im, 0, 0)
  | i, w :: r, im => if fitsErr (volSizes im) w ≠ 0 then ([], (i : Int), fitsErr (volSizes im) w) else applyV (i + 1) r (putW im w)
def applyI (im : List Vol) (l : List Wt) : List Vol × Int × Int := if sizesErr (volSizes im) ≠ 0 then ([], 0, sizesErr (volSizes im)) else applyV 0 l im
noncomputable def spApplyI (x : D × D) : SpecR := .data [x.1.Is Vol ∧ x.1.len ≤ 1048576 ∧ x.2.Is Wt ∧ x.2.len ≤ 1048576 ∧ ∀ w, w ∈ x.2.to Wt → w.data.length ≤ 1048576] fun ds => .tup [.dat ((ds 0).like (applyI (x.1.to Vol) (x.2.to Wt)).1), .int .i64 (applyI (x.1.to Vol) (x.2.to Wt)).2.1, .int .i64 (applyI (x.1.to Vol) (x.2.to Wt)).2.2]
theorem vs_len (im : List Vol) : (volSizes im).length = im.length := by simp [volSizes]
theorem vs_get (im : List Vol) {v : Nat} (h : v < im.length) : (volSizes im).getD v 0 = ((im.getD v ⟨[]⟩).l.length : Int) := by
  rw [List.getD_eq_getElem?_getD, List.getD_eq_getElem?_getD]
  simp [volSizes, h]
theorem fits_ok {im : List Vol} {w : Wt} (h : fitsErr (volSizes im) w = 0) : 0 ≤ w.vol ∧ w.vol.toNat < im.length ∧ w.data.length ≠ 0 ∧ 0 ≤ w.start ∧ w.start.toNat + w.data.length ≤ (im.getD w.vol.toNat ⟨[]⟩).l.length := by
  unfold fitsErr at h
  split at h
  · exact absurd h (by decide)
  · rename_i h1
    split at h
    · exact absurd h (by decide)
    · rename_i h2
      split at h
      · exact absurd h (by decide)
      · rename_i h3
        rw [vs_len] at h1
        have hv : w.vol.toNat < im.length := by omega
        rw [vs_get im hv] at h3
        exact ⟨by omega, hv, h2, by omega, by omega⟩
theorem putW_sizes {im : List Vol} {w : Wt} (h : fitsErr (volSizes im) w = 0) : volSizes (putW im w) = volSizes im := by
  obtain ⟨h1, h2, h3, h4, h5⟩ := fits_ok h
  unfold putW volSizes
  rw [List.map_set]
  have e : (((im.getD w.vol.toNat ⟨[]⟩).l.take w.start.toNat ++ w.data ++ (im.getD w.vol.toNat ⟨[]⟩).l.drop (w.start.toNat + w.data.length)).length : Int) = (im.map fun v => (v.l.length : Int))[w.vol.toNat]'(by simpa using h2) := by
    have hg : im.getD w.vol.toNat ⟨[]⟩ = im[w.vol.toNat] := by rw [List.getD_eq_getElem?_getD, List.getElem?_eq_getElem h2]; rfl
    rw [hg] at h5 ⊢
    simp only [List.length_append, List.length_take, List.length_drop, List.getElem_map]
    omega
  simp only [e, List.set_getElem_self]
end Sx
end
section
open Go Go.Proofs Sx
namespace Go.Proofs.Ytdiekahpofifeaa
set_option maxRecDepth 100000
set_option maxHeartbeats 0
theorem ctApOk : Ctrs.Ok Try.prog ctAp := by
  intro x hx
  rcases List.mem_cons.1 hx with rfl | hx
  · exact ctrOf_ok lawChkI
  · rw [List.mem_singleton.1 hx]; exact ctrOf_ok lawFits1
theorem cp_at : callAt (opsAt Try.prog 59 [1, 1, 1, 0, 1, 0, 0, 1, 1, 0, 0, 1, 1]) 10 = some (.copy, [.tmp 40, .tmp 42], [53, 53], some 43) := by kernel_rfl
theorem sec_ty : Try.prog.underlying 53 = some (.slice 105) := by kernel_rfl
theorem sec_sz : (Try.prog.info? 105).map (·.size) = some 8 := by kernel_rfl
def applyR (w0 : World) (H0 : HV) (r : List Vol × Int × Int) : Value → World → Prop := RetD w0 H0 fun ds => .tup [.dat ((ds 0).like r.1), .int .i64 r.2.1, .int .i64 r.2.2]
theorem ret_app {w0 w : World} {H0 H : HV} (a : After w0 H0 w H) {X : SV} {vs : List Vol} {k m : Int} (hx : Stands Vol X vs) : (Tree.ret (.tup [X, .int .i64 k, .int .i64 m])).holds Try.prog ⟨w, H⟩ (applyR w0 H0 (vs, k, m)) := by
  obtain ⟨d, k1, k2, k3, k4⟩ := hx
  refine ⟨rfl, fun E H' w' g hv => ⟨H', a.trans (after_good g), fun _ => d, fun E' => ?_, ?_⟩⟩
  · simp only [SV.den, SV.denL, k1, D.like_self k2 k3]
  · simp only [SV.Ok, SV.OkL] at hv ⊢
    rw [D.like_self k2 k3]
    exact ⟨⟨k4 _ hv.1, k2.slc⟩, trivial, trivial, trivial⟩
theorem ap_loop {w0 : World} {H0 : HV} (hin0 : InMem H0 w0) {l : D} (hl : l.Ok H0) (li : l.Is Wt) (ll : l.len ≤ 1048576) (ld : ∀ w, w ∈ l.to Wt → w.data.length ≤ 1048576) :
    ∀ (k j : Nat) (o : D) (H : HV) (w : World), j ≤ (l.to Wt).length → (l.to Wt).length - j = k → After w0 H0 w H → ImgW w0.heap.size H w o → sizesErr (volSizes (o.to Vol)) = 0 →
      At Try.prog (apL o l j) H w (applyR w0 H0 (applyV j ((l.to Wt).drop j) (o.to Vol))) := by
  intro k
  induction k with
  | zero =>
    intro j o H w hj hk a hI hz
    have wl := D.Is.length (α := Wt) l
    refine at_of_runs rfl (unroll_sound rfl (goM_sound ctApOk [] [(59, MidK.copy)] 300 _ ?_))
    rw [apl_go]
    refine ⟨fun hc => ?_, fun hc => ?_⟩
    · exfalso; have := of_decide_eq_true hc; omega
    · rw [List.drop_eq_nil_of_le (by omega)]
      exact ret_app a (stands_dat hI.is rfl)
  | succ k ih =>
    intro j o H w hj hk a hI hz
    have wl := D.Is.length (α := Wt) l
    have ol := D.Is.length (α := Vol) o
    have hjl : j < (l.to Wt).length := by omega
    have hsz := sizes_len hz
    rw [vs_len] at hsz
    refine at_of_runs rfl (unroll_sound rfl (goM_sound ctApOk [] [(59, MidK.copy)] 300 _ ?_))
    rw [apl_go]
    have hdrop : (l.to Wt).drop j = (l.to Wt)[j] :: (l.to Wt).drop (j + 1) := List.drop_eq_getElem_cons hjl
    rw [hdrop]
    obtain ⟨c1, c2, c3⟩ := wt_cell li hjl
    have c2 : (D.cell l (Int.toNat (j : Int)) 2).Is Sec := c2
    have hdl := ld _ (List.getElem_mem hjl)
    have e0 : (WtD.mk (D.getInt l (Int.toNat (j : Int)) 0) (D.getInt l (Int.toNat (j : Int)) 1) (D.cell l (Int.toNat (j : Int)) 2)).wt = (l.to Wt)[j] := c3.symm
    have hdd : (D.cell l (Int.toNat (j : Int)) 2).len ≤ 1048576 := by
      rw [D.Is.length (α := Sec)]
      have := congrArg (fun w => w.data.length) e0
      simp only [WtD.wt] at this
      rw [this]; exact hdl
    have hIm : ImgOk o := ⟨hI.is, by omega, fun v hv => by
      have hm : (v.l.length : Int) ∈ volSizes (o.to Vol) := List.mem_map.2 ⟨v, hv, rfl⟩
      have := hsz.2 _ hm; omega⟩
    rw [e0]
    refine ⟨fun hc => ⟨⟨by omega, by omega, li.size hjl⟩, c1, ⟨hIm, c2, hdd⟩, fun he => ?_, fun he hs0 => ?_⟩, fun hc => ?_⟩
    · have he : fitsErr (volSizes (o.to Vol)) (l.to Wt)[j] ≠ 0 := by simpa using he
      unfold applyV
      rw [if_pos he]
      exact ret_app a stands_nils
    · have he : fitsErr (volSizes (o.to Vol)) (l.to Wt)[j] = 0 := by simpa using he
      obtain ⟨f1, f2, f3, f4, f5⟩ := fits_ok he
      have ev : D.getInt l (Int.toNat (j : Int)) 0 = ((l.to Wt)[j]).vol := by rw [← e0]; rfl
      have es : D.getInt l (Int.toNat (j : Int)) 1 = ((l.to Wt)[j]).start := by rw [← e0]; rfl
      have ed : (D.cell l (Int.toNat (j : Int)) 2).to Sec = ((l.to Wt)[j]).data := by rw [← e0]; rfl
      have hap : applyV j ((l.to Wt)[j] :: (l.to Wt).drop (j + 1)) (o.to Vol) = applyV (j + 1) ((l.to Wt).drop (j + 1)) (putW (o.to Vol) (l.to Wt)[j]) := by
        conv => lhs; unfold applyV
        rw [if_neg (by simp [he])]
      rw [hap]
      have hps := putW_sizes he
      generalize hw : (l.to Wt)[j] = wr at *
      obtain ⟨V, hV⟩ := Int.eq_ofNat_of_zero_le f1
      obtain ⟨S, hS⟩ := Int.eq_ofNat_of_zero_le f4
      have hVl : V < o.len := by rw [hV] at f2; rw [ol]; simpa using f2
      obtain ⟨r1, r2, r3⟩ := vol_row hI.is hVl
      have hVg : (o.to Vol).getD V ⟨[]⟩ = ⟨(o.cell V 0).to Sec⟩ := by rw [List.getD_eq_getElem?_getD, r3]; rfl
      have il := D.Is.length (α := Sec) (o.cell V 0)
      have dl := D.Is.length (α := Sec) (D.cell l (Int.toNat (j : Int)) 2)
      rw [ed] at dl
      have f5 : S + wr.data.length ≤ (o.cell V 0).len := by
        rw [hV, hS] at f5
        simp only [Int.toNat_natCast] at f5
        rw [hVg] at f5
        rw [il]; exact f5
      rw [ev, es, hV, hS, Int.toNat_natCast V, Int.toNat_natCast S]
      obtain ⟨ci, hci⟩ := hI.hd V hVl
      refine ⟨⟨by omega, by omega, hI.sz⟩, ?_, ⟨by omega, by omega, by omega, r2.fits⟩, ?_⟩
      · obtain ⟨q1, q2, q3, q4, _⟩ := r2
        exact ⟨q1, q2, q3, by simp only [D.cellAt, r1, Option.bind_some, List.getElem?_cons_zero, ← q4]⟩
      · -- the copy
        generalize hwd : D.cell l (Int.toNat (j : Int)) 2 = wd at *
        intro E H1 w1 g1 ok1
        have a1 := after_good g1
        have hI1 := hI.mono a1
        have wdok : wd.Ok H1 := by rw [← hwd]; exact (cell_okd hl).mono (a.le.trans a1.le)
        obtain ⟨cur, t, hg⟩ := hI1.live V hVl
        have hrs := (rows_of c2).1
        have hsl : S + wd.rows.length ≤ (o.cell V 0).len := by
          have : wd.rows.length = wr.data.length := dl
          rw [this]; exact f5
        obtain ⟨H2, p1, p2, p3, p4, p5, p6⟩ := hI1.put hVl hrs hsl g1.cell hg rfl
        have h8 : ∀ r, r ∈ wd.rows → r.length = 8 := fun r hr => (sec_plain hI1 hVl hrs hsl (hrs r hr)).1
        have hlen8 : (flat wd.rows).length = wd.rows.length * 8 := flat_len h8
        have hbn := hI1.low V hVl
        have ao : After w0 H0 (w1.setRow (blk o V) (cur.toList.take (S * 8) ++ flat wd.rows ++ cur.toList.drop (S * 8 + (flat wd.rows).length)).toArray) H2 := by
          have a01 := a.trans a1
          refine ⟨below_setRow a01.below hbn _, p3 H0 a01.le fun x => ?_, fun b x u hb => ?_, p1⟩
          · cases hx : H0 (blk o V) x with
            | none => rfl
            | some u =>
              have := hin0 _ _ _ hx
              have : blk o V < w0.heap.size := by
                unfold World.cell? at this
                simp only at this
                cases hh : w0.heap[blk o V]? with
                | none => rw [hh] at this; cases this
                | some q => exact (Array.getElem?_eq_some_iff.1 hh).1
              omega
          · rcases p4 b x u hb with h | h
            · exact a01.fresh b x u h
            · exact .inr (by rw [h]; exact hbn)
        have hisz : (o.cell V 0).sz = 8 := r2.size (i := 0) (by rw [← il]; have : wd.rows.length = wr.data.length := dl; omega)
        have hcap : (o.cell V 0).len ≤ ci := by
          have hq : (o.cell V 0).Ok H := by
            have := cell_okd hI.ok (i := V) (j := 0)
            exact this
          revert hci
          generalize o.cell V 0 = q at hq
          intro hci
          cases hq with
          | slc a c sz rows hsp hc hlen hcell hk => simp only [D.hd, Option.some.injEq, Prod.mk.injEq] at hci; rw [← hci.2]; exact hc
          | nil sz => simp [D.hd] at hci
          | int _ _ => simp [D.hd] at hci
          | bool _ => simp [D.hd] at hci
          | str _ => simp [D.hd] at hci
        have hpos : 0 < wd.rows.length := by
          have : wd.rows.length = wr.data.length := dl
          omega
        have hsub : (D.sub (o.cell V 0) S (Int.toNat ((o.cell V 0).len : Int))).val = .slice (some ⟨blk o V, S * 8, none⟩) ((o.cell V 0).len - S) (ci - S) := by
          unfold D.sub
          rw [hci, hisz]
          simp only [D.val, Option.map_some, hval]
          have hne : ¬ci = S := by omega
          rw [if_neg hne, add_none rfl, Int.toNat_natCast, List.length_take, List.length_drop]
          have : (o.cell V 0).rows.length = (o.cell V 0).len := rfl
          rw [this, Nat.min_self, Nat.zero_add]
        obtain ⟨wh, wz, wrows, rfl, wz1, wz2⟩ := c2
        have hwne : wrows ≠ [] := fun e => by rw [e] at hpos; simp [D.rows] at hpos
        have wz1 : wz = 8 := wz1.resolve_left hwne
        subst wz1
        have hreads := reads_data g1.cell wdok
        obtain ⟨q1, q2⟩ := hreads
        rcases q2 with ⟨_, q2⟩ | ⟨wa, wc, q2, q3⟩
        · exact absurd q2 hwne
        have hmin : Nat.min wrows.length ((o.cell V 0).len - S) = wrows.length := Nat.min_eq_left (by
          have : (D.slc wh 8 wrows).rows.length = wrows.length := rfl
          omega)
        have e40 : ∀ E, (SV.dat (D.sub (o.cell V 0) S (Int.toNat ((o.cell V 0).len : Int)))).den E = .slice (some ⟨blk o V, S * 8, none⟩) ((o.cell V 0).len - S) (ci - S) := fun E => by simp only [SV.den]; exact hsub
        have e42 : ∀ E, (SV.dat (D.slc wh 8 wrows)).den E = .slice (some wa) wrows.length wc := fun E => by simp only [SV.den]; exact q2
        refine stk_builtin (u := goInt (Nat.min wrows.length ((o.cell V 0).len - S))) (w' := w1.setRow (blk o V) (cur.toList.take (S * 8) ++ flat wrows ++ cur.toList.drop (S * 8 + (flat wrows).length)).toArray) (E' := E) cp_at (fun ty => ?_) (fun _ _ _ => rfl) ?_
        · have hrun' := run_copy_sz (P := Try.prog) w1 53 53 ty 105 (blk o V) (S * 8) ((o.cell V 0).len - S) (ci - S) wa wrows.length wc 8 cur t (flat wrows) sec_ty sec_sz hg (by rw [hmin]; exact hlen8) q3 p5 (flat_one _)
          show (builtin .copy _ ty #[] #[(SV.dat (D.sub (o.cell V 0) S (Int.toNat ((o.cell V 0).len : Int)))).den E, (SV.dat (D.slc wh 8 wrows)).den E]).run _ _ = _
          rw [e40, e42]
          simp only [builtin, Sem.run_bind, Result.andThen_ok, Sem.run_pure]
          rw [hrun']
          rfl
        · have hpv : (o.putSec V S wrows).val = o.val := put_val hI1 hVl hrs hsl
          have hto : (o.putSec V S wrows).to Vol = (o.to Vol).set V ⟨((o.cell V 0).to Sec).take S ++ wrows.map Codec.dec ++ ((o.cell V 0).to Sec).drop (S + wrows.length)⟩ := put_to hI1 hVl hrs hsl
          have hput : (o.putSec V S wrows).to Vol = putW (o.to Vol) wr := by
            rw [hto]
            unfold putW
            rw [hV, hS, Int.toNat_natCast, Int.toNat_natCast, hVg, ← ed]
            simp only [D.to, D.rows, List.length_map]
          refine stk_to (E := E) (sl := [(8, .dat (o.putSec V S wrows)), (19, .dat l), (20, .int .i64 (l.len : Int)), (21, .int .i64 (j : Int))]) (n := 46) rfl (fun p hp => ?_) (fun p hp => ?_) p1 (at_of_runs rfl (goM_sound ctApOk [] [] 300 _ ?_))
          · simp only [List.mem_cons, List.not_mem_nil, or_false] at hp
            rcases hp with rfl | rfl | rfl | rfl
            · simp only [SV.den]; rw [hpv]; rfl
            · rfl
            · rfl
            · rfl
          · simp only [List.mem_cons, List.not_mem_nil, or_false] at hp
            rcases hp with rfl | rfl | rfl | rfl
            · exact ⟨p2.ok, p2.is.slc⟩
            · exact ⟨hl.mono ao.le, li.slc⟩
            · trivial
            · trivial
          · show (goM Try.prog ctAp [] [] 300 (apB (o.putSec V S wrows) l j)).holds _ _ _
            rw [apb_go, wrap_succ hjl (by omega)]
            intro E3 H3 w3 g3 ok3
            have a3 := after_good g3
            have := ih (j + 1) (o.putSec V S wrows) H3 w3 hjl (by omega) (ao.trans a3) (p2.mono a3) (by rw [hput, hps]; exact hz)
            rw [hput] at this
            exact this E3 ok3 g3.cell
    · exfalso; have := of_decide_eq_false hc; omega
end Go.Proofs.Ytdiekahpofifeaa
end
section
open Go Go.Proofs Sx
namespace Go.Proofs.Ytdiekahpofifeaa
set_option maxRecDepth 100000
set_option maxHeartbeats 0
theorem mc_at : callAt (opsAt Try.prog 86 [1, 1, 0, 1, 0, 0, 1, 1, 0, 0, 1]) 5 = some (.append, [.tmp 17, .tmp 21], [44, 44], some 22) := by kernel_rfl
theorem img_ty : Try.prog.underlying 44 = some (.slice 53) := by kernel_rfl
theorem sec_info : ∃ i z, Try.prog.info? 53 = some i ∧ i.zero = some z ∧ z.cells.size = i.size ∧ i.size = 1 ∧ i.bytes ≤ 1000 := by
  have h : ((Try.prog.info? 53).any fun i => (i.zero.any fun z => z.cells.size == i.size) && i.size == 1 && decide (i.bytes ≤ 1000)) = true := by kernel_rfl
  cases hi : Try.prog.info? 53 with
  | none => rw [hi] at h; cases h
  | some i =>
    rw [hi] at h
    simp only [Option.any_some, Bool.and_eq_true, beq_iff_eq, decide_eq_true_eq] at h
    obtain ⟨⟨h1, h2⟩, h3⟩ := h
    cases hz : i.zero with
    | none => rw [hz] at h1; cases h1
    | some z =>
      rw [hz] at h1
      simp only [Option.any_some, beq_iff_eq] at h1
      exact ⟨i, z, rfl, hz, h1, h2, h3⟩
theorem mc_loop {w0 : World} {H0 : HV} {im : D} (him : im.Is Vol) (hok : im.Ok H0) (hsz : ∀ v, v ∈ im.to Vol → 1 ≤ v.l.length ∧ v.l.length ≤ 1048576) (hlen : im.len ≤ 1048576) (hpos : 0 < im.len) :
    ∀ (k j : Nat) (ov : Value) (ds : List D) (H : HV) (w : World), j ≤ im.len → im.len - j = k → After w0 H0 w H → BuildI w0.heap.size H w 53 ov ds → ds.map (fun d => Vol.mk (d.to Sec)) = (im.to Vol).take j →
      At Try.prog (mcL im (.raw ov) j) H w (CpR w0 H0 (im.to Vol)) := by
  intro k
  induction k with
  | zero =>
    intro j ov ds H w hj hk a b hto
    have il := D.Is.length (α := Vol) im
    refine at_of_runs rfl (unroll_sound rfl (goM_sound (noCtr _) [] [(86, MidK.build)] 300 _ ?_))
    rw [mc_in]
    refine ⟨fun hc => ?_, fun hc => ?_⟩
    · exfalso; have := of_decide_eq_true hc; omega
    · rw [List.take_of_length_le (by omega)] at hto
      refine ret_img a b (fun e => ?_) hto
      have := congrArg List.length hto
      rw [e] at this
      simp only [List.map_nil, List.length_nil] at this
      omega
  | succ k ih =>
    intro j ov ds H w hj hk a b hto
    have il := D.Is.length (α := Vol) im
    have hjl : j < im.len := by omega
    obtain ⟨r1, r2, r3⟩ := vol_row him hjl
    have hv : Vol.mk ((im.cell j 0).to Sec) ∈ im.to Vol := List.mem_of_getElem? r3
    have hvl := hsz _ hv
    have cl := D.Is.length (α := Sec) (im.cell j 0)
    have hcl : 1 ≤ (im.cell j 0).len ∧ (im.cell j 0).len ≤ 1048576 := by rw [cl]; exact hvl
    refine at_of_runs rfl (unroll_sound rfl (goM_sound (noCtr _) [] [(86, MidK.build)] 300 _ ?_))
    rw [mc_in]
    refine ⟨fun hc => ⟨⟨by omega, by omega, him.size (i := j) (by rw [← il]; exact hjl)⟩, ?_, fun hn => ?_, fun hn => ?_⟩, fun hc => ?_⟩
    · obtain ⟨q1, q2, q3, q4, _⟩ := r2
      rw [Int.toNat_natCast]
      exact ⟨q1, q2, q3, by simp only [D.cellAt, r1, Option.bind_some, List.getElem?_cons_zero, ← q4]⟩
    · exfalso
      have hq : (im.cell j 0).Ok H0 := cell_okd hok
      have hn : (im.cell (Int.toNat (j : Int)) 0).isNil = true := hn
      rw [Int.toNat_natCast] at hn
      revert hcl hn
      generalize im.cell j 0 = q at hq
      intro hcl hn
      cases hq with
      | slc a c sz rows hsp hc hlen hcell hk => cases hn
      | nil sz => simp [D.len, D.rows] at hcl
      | int _ _ => simp [D.len, D.rows] at hcl
      | bool _ => simp [D.len, D.rows] at hcl
      | str _ => simp [D.len, D.rows] at hcl
    · intro hs
      rw [Int.toNat_natCast]
      refine ⟨⟨rfl, r2.fits, ?_, ?_⟩, fun hs1 => ?_⟩
      · show (0 + (im.cell j 0).len) * 8 ≤ _; omega
      · show 0 + (im.cell j 0).len ≤ _; omega
      · intro E1 H1 w1 g1 ok1
        obtain ⟨H2, a2, _, hin2, hden⟩ := pub_inner g1 (k := 2007) (d := D.slc (D.hd (hs1 0 0)) 8 (List.append (D.rows (D.slc (D.hd (hs 0 0)) 8 [])) (D.rows (D.cell im j 0)))) rfl (is_rows rfl fun r hr => (rows_of r2).1 r hr) (fun e => by
          have : (im.cell j 0).len = 0 := congrArg List.length (show (im.cell j 0).rows = [] from e)
          omega)
        generalize hd : D.slc (D.hd (hs1 0 0)) 8 (List.append (D.rows (D.slc (D.hd (hs 0 0)) 8 [])) (D.rows (D.cell im j 0))) = d at *
        have hdto : d.to Sec = (im.cell j 0).to Sec := by rw [← hd]; rfl
        have a02 := a.trans a2
        have b2 := b.mono a2
        have hin0 := hin2.low (n' := w0.heap.size) a.below.size
        refine stk_to (E := E1) (sl := [(1, .fn 67 [] []), (11, .dat im), (12, .int .i64 (im.len : Int)), (13, .int .i64 j), (17, .raw ov), (20, .dat d)]) (n := 25) rfl (fun p hp => ?_) (fun p hp => ?_) a2.cell (at_of_runs rfl (goM_sound (noCtr _) [] [(86, MidK.append)] 300 _ ?_))
        · simp only [List.mem_cons, List.not_mem_nil, or_false] at hp
          rcases hp with rfl | rfl | rfl | rfl | rfl | rfl
          · rfl
          · rfl
          · rfl
          · rfl
          · rfl
          · simp only [SV.den]; rw [← hden]; rfl
        · simp only [List.mem_cons, List.not_mem_nil, or_false] at hp
          rcases hp with rfl | rfl | rfl | rfl | rfl | rfl
          · exact ⟨trivial, trivial⟩
          · exact ⟨hok.mono a02.le, him.slc⟩
          · trivial
          · trivial
          · trivial
          · exact ⟨hin2.2.1, hin2.1.slc⟩
        · show (goM Try.prog [] [] [(86, MidK.append)] 300 (mcB im d (.raw ov) j)).holds _ _ _
          rw [mcb_go]
          intro hs2 E3 H3 w3 g3 ok3
          obtain ⟨i, z, q1, q2, q3, q4, q5⟩ := sec_info
          have hdl : ds.length = j := by
            have := congrArg List.length hto
            rw [List.length_map, List.length_take] at this
            omega
          obtain ⟨w4, ov', hrun, a4, b4⟩ := build_append (P := Try.prog) (ty := 44) (k := 1021) (hh := D.hd (hs2 0 0)) (d := d) img_ty q1 q2 q3 q4 q5 a02 b2 hin0 (innerOk.fresh hin2 b) g3 rfl (by omega) (key := 7777) rfl
          refine stk_builtin (u := ov') (w' := w4) (E' := E3) mc_at (fun ty => ?_) (fun _ _ _ => rfl) ?_
          · have := hrun
            show (builtin .append _ ty #[] #[(SV.raw ov).den E3, (SV.vec 1021).den E3]).run _ _ = _
            simp only [builtin, Sem.run_bind, Result.andThen_ok, Sem.run_pure]
            show Result.andThen (Sem.run Try.prog (Builtin.append_ #[44, 44] 44 #[ov, (SV.vec 1021).den E3]) w3) _ = _
            rw [this]
            rfl
          · refine stk_to (E := E3) (sl := [(1, .fn 67 [] []), (11, .dat im), (12, .int .i64 (im.len : Int)), (13, .int .i64 j), (22, .raw ov')]) (n := 25) rfl (fun p hp => ?_) (fun p hp => ?_) a4.cell (at_of_runs rfl (goM_sound (noCtr _) [] [] 300 _ ?_))
            · simp only [List.mem_cons, List.not_mem_nil, or_false] at hp
              rcases hp with rfl | rfl | rfl | rfl | rfl <;> rfl
            · simp only [List.mem_cons, List.not_mem_nil, or_false] at hp
              rcases hp with rfl | rfl | rfl | rfl | rfl
              · exact ⟨trivial, trivial⟩
              · exact ⟨hok.mono a4.le, him.slc⟩
              · trivial
              · trivial
              · trivial
            · show (goM Try.prog [] [] [] 300 (mcC im (.raw ov') j)).holds _ _ _
              rw [mcc_go, wrap_succ hjl (by omega)]
              intro E5 H5 w5 g5 ok5
              have a5 := after_good g5
              refine ih (j + 1) ov' (ds ++ [d]) H5 w5 hjl (by omega) (a4.trans a5) (b4.mono a5) ?_ E5 ok5 g5.cell
              rw [List.map_append, hto, List.take_add_one, r3]
              simp only [List.map_cons, List.map_nil, hdto, Option.toList_some]
    · exfalso; have := of_decide_eq_false hc; omega
theorem cp_all {H : HV} {w : World} {im : D} (hin : InMem H w) (him : im.Is Vol) (hok : im.Ok H) (hsz : ∀ v, v ∈ im.to Vol → 1 ≤ v.l.length ∧ v.l.length ≤ 1048576) (hlen : im.len ≤ 1048576) (hpos : 0 < im.len) :
    At Try.prog (cpA im) H w (CpR w H (im.to Vol)) := by
  refine at_of_runs rfl (goM_sound (noCtr _) [] [] 300 _ ?_)
  rw [cpa_go]
  refine ⟨⟨by omega, by omega, by omega, by omega⟩, fun hs => ?_⟩
  intro E1 H1 w1 g1 ok1
  have a1 := after_good g1
  have b1 : BuildI w.heap.size H1 w1 53 ((SV.vec 0).den E1) [] := buildI_own g1 (hh := D.hd (hs 0 0)) rfl
  generalize hov : (SV.vec 0).den E1 = ov at b1
  refine stk_call (E := E1) (sl := [(1, .fn 67 [] []), (5, .raw ov), (11, .dat im), (12, .int .i64 (im.len : Int)), (13, .int .i64 0)]) (n := 25) rfl (fun p hp => ?_) (fun p hp => ?_) a1.cell (R1 := CpR w H (im.to Vol)) ?_ ?_
  · simp only [List.mem_cons, List.not_mem_nil, or_false] at hp
    rcases hp with rfl | rfl | rfl | rfl | rfl
    · rfl
    · simp only [SV.den]; rw [← hov]; rfl
    · rfl
    · rfl
    · rfl
  · simp only [List.mem_cons, List.not_mem_nil, or_false] at hp
    rcases hp with rfl | rfl | rfl | rfl | rfl
    · exact ⟨trivial, trivial⟩
    · trivial
    · exact ⟨hok.mono a1.le, him.slc⟩
    · trivial
    · trivial
  · exact mc_loop him hok hsz hlen hpos im.len 0 ov [] H1 w1 (Nat.zero_le _) (by omega) a1 b1 rfl
  · intro u w2 ⟨H2, o, a2, hI, hu, hto⟩
    refine stk_aw (aw := none) (stk_to (E := E1) (sl := [(4, .raw o.val)]) (n := 5) rfl (fun p hp => ?_) (fun p hp => ?_) a2.cell (at_of_runs rfl (goM_sound (noCtr _) [] [] 300 _ ?_)))
    · rw [List.mem_singleton.1 hp, ← hu]; rfl
    · rw [List.mem_singleton.1 hp]; trivial
    · show (goM Try.prog [] [] [] 300 (cpB (.raw o.val))).holds _ _ _
      rw [cpb_go]
      exact ⟨rfl, fun E H' w' g hv => ⟨H', o, a2.trans (after_good g), hI.mono (after_good g), rfl, hto⟩⟩
theorem lawApply : Law Try.prog 59 ((rdD.two rdD).sp spApplyI) := by
  refine law_in _ (by kernel_rfl) fun H w b hok hp => ?_
  obtain ⟨im, l⟩ := b
  obtain ⟨p1, p2, p3, p4, p5⟩ := hp _ (List.mem_singleton.2 rfl)
  apply goM_sound ctApOk [(77, 0), (77, 1), (77, 2), (77, 3)] [] 300
  rw [show (rdD.two rdD).canon (im, l) = [.dat im, .dat l] from rfl, apc_in]
  have p2 : im.len ≤ 1048576 := p2
  have il := D.Is.length (α := Vol) im
  refine ⟨⟨p1, p2⟩, fun hc => ?_, fun hc => ?_⟩
  · have hc : sizesErr (volSizes (im.to Vol)) ≠ 0 := by simpa using hc
    obtain ⟨d, k1, k2, k3, k4⟩ := stands_nils (α := Vol)
    refine ⟨rfl, fun E H' w' g hv => ⟨H', after_good g, fun _ => d, fun E' => ?_, ?_⟩⟩
    · simp only [applyI, if_pos hc, SV.den, SV.denL, D.like_self k2 k3]
      rw [← k1 E]; rfl
    · simp only [SV.Ok, SV.OkL] at hv ⊢
      simp only [applyI, if_pos hc]
      rw [D.like_self k2 k3]
      exact ⟨⟨k4 _ hv.1, k2.slc⟩, trivial, trivial, trivial⟩
  · have hc : sizesErr (volSizes (im.to Vol)) = 0 := by simpa using hc
    have hsz := sizes_len hc
    rw [vs_len] at hsz
    have hpos : 0 < im.len := by
      rw [il]
      cases hl : im.to Vol with
      | nil => rw [hl] at hc; exact absurd hc (by decide)
      | cons x r => exact Nat.succ_pos _
    intro E1 H1 w1 g1 ok1
    have a1 := after_good g1
    have him : im.Ok H1 := hok.1.1.mono a1.le
    have hl : l.Ok H1 := hok.2.1.1.mono a1.le
    refine stk_call (E := E1) (sl := [(0, .dat im)]) (n := 5) rfl (fun p hp => ?_) (fun p hp => ?_) g1.cell (R1 := CpR w1 H1 (im.to Vol)) ?_ ?_
    · rw [List.mem_singleton.1 hp]; rfl
    · rw [List.mem_singleton.1 hp]; exact ⟨him, p1.slc⟩
    · exact cp_all g1.cell p1 him (fun v hv => by
        have hm : (v.l.length : Int) ∈ volSizes (im.to Vol) := List.mem_map.2 ⟨v, hv, rfl⟩
        have := hsz.2 _ hm; omega) p2 hpos
    · intro u w2 ⟨H2, o, a2, hI, hu, hto⟩
      have hE : At Try.prog (apE o l) H2 w2 (applyR w1 H1 (applyV 0 (l.to Wt) (im.to Vol))) := by
        refine at_of_runs rfl (goM_sound (noCtr _) [] [] 300 _ ?_)
        rw [ape_go]
        intro E4 H4 w4 g4 ok4
        have a4 := after_good g4
        have := ap_loop g1.cell hl p3 p4 p5 (l.to Wt).length 0 o H4 w4 (Nat.zero_le _) (by omega) (a2.trans a4) (hI.mono a4) (by rw [hto]; exact hc)
        rw [List.drop_zero, hto] at this
        exact stk_aw (this E4 ok4 g4.cell)
      refine StkRun.mono (R := applyR w1 H1 (applyV 0 (l.to Wt) (im.to Vol))) ?_ ?_
      · intro u' w3 ⟨H3, a3, ds, hu3, hok3⟩
        refine ⟨H3, a1.trans a3, ds, fun E => ?_, ?_⟩
        · unfold applyI
          rw [if_neg (by simp [hc])]
          exact hu3 E
        · unfold applyI
          rw [if_neg (by simp [hc])]
          exact hok3
      · refine stk_aw (aw := none) ?_
        refine stk_to (E := E1) (sl := [(1, .dat l), (18, .dat o)]) (n := 46) rfl (fun p hp => ?_) (fun p hp => ?_) a2.cell hE
        · simp only [List.mem_cons, List.not_mem_nil, or_false] at hp
          rcases hp with rfl | rfl
          · rfl
          · simp only [SV.den]; rw [← hu]; rfl
        · simp only [List.mem_cons, List.not_mem_nil, or_false] at hp
          rcases hp with rfl | rfl
          · exact ⟨hl.mono a2.le, p3.slc⟩
          · exact ⟨hI.ok, hI.is.slc⟩
end Go.Proofs.Ytdiekahpofifeaa
end
section
open Go Go.Proofs Sx
namespace Go.Proofs.Ytdiekahpofifeaa
set_option maxRecDepth 100000
set_option maxHeartbeats 0
noncomputable def ctIm : Ctrs := (50, ctrOf (rdD.one.sp spNewI)) :: (59, ctrOf ((rdD.two rdD).sp spApplyI)) :: ctN
section
variable (ha hb hc a : D)
theorem him_in : execQ Try.prog ctIm 400 (entry Try.prog 25 [.agg [.dat ha, .dat hb, .dat hc], .dat a]) =
 Tree.need (HiD.Right (HiD.mk ha hb hc))
 (.all fun hs =>
 .br (Prod.fst (checkH (HiD.hist (HiD.mk ha hb hc))) != 0)
 (.ret (SV.tup [.nils, .int .i64 (Prod.fst (checkH (HiD.hist (HiD.mk ha hb hc))))]))
 (.need (D.Is Int a ∧ D.len a ≤ 1048576 ∧ D.Is Wt (onOk (Prod.fst (checkH (HiD.hist (HiD.mk ha hb hc)))) hb))
 (.br
 (!setH (D.to Int a)
 (↑(List.length (D.to Wt (onOk (Prod.fst (checkH (HiD.hist (HiD.mk ha hb hc)))) hb))) : Int))
 (.ret (SV.tup [.nils, .int .i64 2]))
 (.need (D.Is Int ha ∧ D.len ha ≤ 1048576)
 (.all fun hs_1 =>
 .leaf
 (Conf.mk
 (SFrm.mk 25 none none
 [Item.code (cAt Try.prog 25 [1, 1, 1, 1, 1, 1, 0, 1, 0]), Item.inBlock 0,
 Item.code (cAt Try.prog 25 [1, 1, 1, 1, 1, 1, 1])]
 (mkU
 [(0, SV.junk 0), (1, SV.junk 1), (2, SV.junk 2), (3, SV.junk 3), (4, SV.junk 4), (5, SV.junk 5),
 (6, SV.junk 6), (7, SV.junk 7), (8, .dat (D.like (hs_1 0 0) (imgOf (D.to Int ha)))),
 (9, SV.junk 9), (10, .ptr 0 0), (11, SV.junk 11), (13, SV.junk 13), (14, SV.junk 14),
 (15, SV.junk 15), (16, SV.junk 16), (17, SV.junk 17), (18, SV.junk 18), (19, SV.junk 19),
 (20, SV.junk 20), (21, SV.junk 21), (22, SV.junk 22), (23, SV.junk 23), (24, SV.junk 24),
 (25, SV.junk 25), (26, SV.junk 26), (27, SV.junk 27), (28, SV.junk 28), (29, SV.junk 29),
 (30, SV.junk 30), (31, SV.junk 31), (32, SV.junk 32), (33, SV.junk 33), (34, SV.junk 34),
 (35, SV.fn 75 [] [.ptr 1 0, .ptr 2 0]), (36, SV.junk 36), (42, SV.junk 42),
 (43, SV.junk 43), (44, SV.junk 44), (45, SV.junk 45), (46, SV.junk 46), (47, SV.junk 47),
 (48, SV.junk 48), (49, SV.junk 49), (50, SV.junk 50)]
 0 51))
 []
 [(0, OBlk.cells 23 [.nils]), (1, OBlk.cells 22 [.dat a]),
 (2,
 OBlk.cells 81
 [.dat (onOk (Prod.fst (checkH (HiD.hist (HiD.mk ha hb hc)))) ha),
 .dat (onOk (Prod.fst (checkH (HiD.hist (HiD.mk ha hb hc)))) hb),
 .dat (onOk (Prod.fst (checkH (HiD.hist (HiD.mk ha hb hc)))) hc),
 .dat (D.like (hs 0 0) (Tl.issued (Prod.snd (checkH (HiD.hist (HiD.mk ha hb hc)))))),
 .dat (D.like (hs 0 1) (Tl.acked (Prod.snd (checkH (HiD.hist (HiD.mk ha hb hc))))))])])))))) := by kernel_rfl

end
end Go.Proofs.Ytdiekahpofifeaa
end
section
open Go Go.Proofs Sx
namespace Go.Proofs.Ytdiekahpofifeaa
set_option maxRecDepth 100000
set_option maxHeartbeats 0
noncomputable def hiK : List Item := [Item.inBlock 0, Item.code (cAt Try.prog 25 [1, 1, 1, 1, 1, 1, 1])]
noncomputable def hiT (a im : D) : List SV := mkU [(0, SV.junk 0), (1, SV.junk 1), (2, SV.junk 2), (3, SV.junk 3), (4, SV.junk 4), (5, SV.junk 5), (6, SV.junk 6), (7, SV.junk 7), (8, .dat im), (9, SV.junk 9), (10, .ptr 100002 0), (11, SV.junk 11), (13, SV.junk 13), (14, SV.junk 14), (15, SV.junk 15), (16, SV.junk 16), (17, SV.junk 17), (18, SV.junk 18), (19, SV.junk 19), (20, SV.junk 20), (21, SV.junk 21), (22, SV.junk 22), (23, SV.junk 23), (24, SV.junk 24), (25, SV.junk 25), (26, SV.junk 26), (27, SV.junk 27), (28, SV.junk 28), (29, SV.junk 29), (30, SV.junk 30), (31, SV.junk 31), (32, SV.junk 32), (33, SV.junk 33), (34, SV.junk 34), (35, SV.fn 75 [] [.ptr 100003 0, .ptr 100004 0]), (36, SV.junk 36), (42, SV.junk 42), (43, SV.junk 43), (44, SV.junk 44), (45, SV.junk 45), (46, SV.junk 46), (47, SV.junk 47), (48, SV.junk 48), (49, SV.junk 49), (50, SV.junk 50)] 0 51
noncomputable def hiM (ha hb hc i o a q : D) : Mem := (100003, OBlk.cells 22 [.dat a]) :: (100004, OBlk.cells 81 [.dat ha, .dat hb, .dat hc, .dat i, .dat o]) :: [(100002, OBlk.cells 23 [.vec 9]), (9, OBlk.arr 55 q)]
noncomputable def hiN (ha hb hc i o a q : D) (z : Int) : Mem := (1012, OBlk.cells 55 [.int .i64 (hb.getInt (Int.toNat z) 0), .int .i64 (hb.getInt (Int.toNat z) 1), .dat (hb.cell (Int.toNat z) 2)]) :: hiM ha hb hc i o a q
noncomputable def hiR (hb a im : D) (z : Int) : List SV := ((hiT a im).set 36 (.int .i64 z)).set 37 (wvH hb z)
theorem hiF1 : cAt Try.prog 25 [1, 1, 1, 1, 1, 1, 0, 1, 0] = .rangeFunc (.tmp 35) #[36, 37] (cAt Try.prog 25 [1, 1, 1, 1, 1, 1, 0, 1, 0, 0]) (cAt Try.prog 25 [1, 1, 1, 1, 1, 1, 0, 1, 0, 1]) := by kernel_rfl
section
variable (ha hb hc i o a q im : D) (z : Int)
theorem hia_go : execP Try.prog [] 100 ⟨⟨25, none, none, [.code (cAt Try.prog 25 [1, 1, 1, 1, 1, 1, 0, 1, 0, 0])], hiR hb a im z⟩, [], hiM ha hb hc i o a q⟩ =
 Tree.leaf
 (Conf.mk
 (SFrm.mk 25 none none []
 (mkU
 [(0, SV.junk 0), (1, SV.junk 1), (2, SV.junk 2), (3, SV.junk 3), (4, SV.junk 4), (5, SV.junk 5), (6, SV.junk 6),
 (7, SV.junk 7), (8, .dat im), (9, SV.junk 9), (10, .ptr 100002 0), (11, SV.junk 11), (12, .ptr 1012 0),
 (13, SV.junk 13), (14, SV.junk 14), (15, SV.junk 15), (16, SV.junk 16), (17, SV.junk 17), (18, SV.junk 18),
 (19, SV.junk 19), (20, SV.junk 20), (21, SV.junk 21), (22, SV.junk 22), (23, SV.junk 23), (24, SV.junk 24),
 (25, SV.junk 25), (26, SV.junk 26), (27, SV.junk 27), (28, SV.junk 28), (29, SV.junk 29), (30, SV.junk 30),
 (31, SV.junk 31), (32, SV.junk 32), (33, SV.junk 33), (34, SV.junk 34),
 (35, SV.fn 75 [] [.ptr 100003 0, .ptr 100004 0]), (36, .int .i64 z),
 (37,
 .agg
 [.int .i64 (D.getInt hb (Int.toNat z) 0), .int .i64 (D.getInt hb (Int.toNat z) 1),
 .dat (D.cell hb (Int.toNat z) 2)]),
 (42, SV.junk 42), (43, SV.junk 43), (44, SV.junk 44), (45, SV.junk 45), (46, SV.junk 46), (47, SV.junk 47),
 (48, SV.junk 48), (49, SV.junk 49), (50, SV.junk 50)]
 0 51))
 []
 [(1012,
 OBlk.cells 55
 [.int .i64 (D.getInt hb (Int.toNat z) 0), .int .i64 (D.getInt hb (Int.toNat z) 1),
 .dat (D.cell hb (Int.toNat z) 2)]),
 (100003, OBlk.cells 22 [.dat a]), (100004, OBlk.cells 81 [.dat ha, .dat hb, .dat hc, .dat i, .dat o]),
 (100002, OBlk.cells 23 [.vec 9]), (9, OBlk.arr 55 q)]) := by kernel_rfl

theorem hib_go : execP Try.prog [] 100 ⟨⟨25, none, none, [.code (cAt Try.prog 25 [1, 1, 1, 1, 1, 1, 0, 1, 0, 1])], (hiR hb a im z).set 12 (.ptr 1012 0)⟩, [], hiN ha hb hc i o a q z⟩ =
 Tree.all fun hs =>
 .need
 (D.sz q = 3 ∧
 D.Fits
 (D.slc (D.hd (hs 0 0)) 3
 [[D.int .i64 (D.getInt hb (Int.toNat z) 0), D.int .i64 (D.getInt hb (Int.toNat z) 1),
 D.cell hb (Int.toNat z) 2]])
 3 ∧
 (D.len q +
 D.len
 (D.slc (D.hd (hs 0 0)) 3
 [[D.int .i64 (D.getInt hb (Int.toNat z) 0), D.int .i64 (D.getInt hb (Int.toNat z) 1),
 D.cell hb (Int.toNat z) 2]])) *
 40 ≤
 140737488355328 ∧
 D.len q +
 D.len
 (D.slc (D.hd (hs 0 0)) 3
 [[D.int .i64 (D.getInt hb (Int.toNat z) 0), D.int .i64 (D.getInt hb (Int.toNat z) 1),
 D.cell hb (Int.toNat z) 2]]) ≤
 9223372036854775807)
 (.all fun hs_1 =>
 .leaf
 (Conf.mk
 (SFrm.mk 25 none none []
 (mkJ 0
 [(8, .dat im), (10, .ptr 100002 0), (12, .ptr 1012 0),
 (35, SV.fn 75 [] [.ptr 100003 0, .ptr 100004 0]), (36, .int .i64 z),
 (37,
 .agg
 [.int .i64 (D.getInt hb (Int.toNat z) 0), .int .i64 (D.getInt hb (Int.toNat z) 1),
 .dat (D.cell hb (Int.toNat z) 2)]),
 (38, .vec 9),
 (39,
 .agg
 [.int .i64 (D.getInt hb (Int.toNat z) 0), .int .i64 (D.getInt hb (Int.toNat z) 1),
 .dat (D.cell hb (Int.toNat z) 2)]),
 (40, .vec 1040), (41, .vec 1041)]
 0 51))
 []
 [(1041,
 OBlk.arr 55
 (D.slc (D.hd (hs_1 0 0)) 3
 (List.append (D.rows q)
 (D.rows
 (D.slc (D.hd (hs 0 0)) 3
 [[D.int .i64 (D.getInt hb (Int.toNat z) 0),
 D.int .i64 (D.getInt hb (Int.toNat z) 1), D.cell hb (Int.toNat z) 2]]))))),
 (1040,
 OBlk.arr 55
 (D.slc (D.hd (hs 0 0)) 3
 [[D.int .i64 (D.getInt hb (Int.toNat z) 0), D.int .i64 (D.getInt hb (Int.toNat z) 1),
 D.cell hb (Int.toNat z) 2]])),
 (1012,
 OBlk.cells 55
 [.int .i64 (D.getInt hb (Int.toNat z) 0), .int .i64 (D.getInt hb (Int.toNat z) 1),
 .dat (D.cell hb (Int.toNat z) 2)]),
 (100003, OBlk.cells 22 [.dat a]),
 (100004, OBlk.cells 81 [.dat ha, .dat hb, .dat hc, .dat i, .dat o]),
 (100002, OBlk.cells 23 [.vec 1041])])) := by kernel_rfl

theorem hie_in : exec Try.prog ctIm 400 ⟨⟨25, none, none, hiK, hiT a im⟩, [], hiM ha hb hc i o a q⟩ =
 Tree.need
 (D.Is Vol im ∧
 D.len im ≤ 1048576 ∧
 D.Is Wt q ∧ D.len q ≤ 1048576 ∧ ∀ (w : Wt), List.Mem w (D.to Wt q) → List.length (Wt.data w) ≤ 1048576)
 (.all fun hs =>
 .ret
 (SV.tup
 [.dat (D.like (hs 0 0) (Prod.fst (applyI (D.to Vol im) (D.to Wt q)))),
 .int .i64 (Prod.snd (Prod.snd (applyI (D.to Vol im) (D.to Wt q))))])) := by kernel_rfl

end
end Go.Proofs.Ytdiekahpofifeaa
end
section
namespace Sx
open Go
theorem applyV_ok : ∀ (l : List Wt) (j : Nat) (im : List Vol), (∀ w, w ∈ l → fitsErr (volSizes im) w = 0) → applyV j l im = (l.foldl putW im, 0, 0)
  | [], _, _, _ => rfl
  | w :: r, j, im, h => by
    have h1 := h w List.mem_cons_self
    unfold applyV
    rw [if_neg (by simp [h1])]
    exact applyV_ok r (j + 1) (putW im w) fun x hx => by rw [putW_sizes h1]; exact h x (List.mem_cons_of_mem _ hx)
theorem volSizes_imgOf {l : List Int} (h : sizesErr l = 0) : volSizes (imgOf l) = l := by
  have hs := sizesErr_ok h
  unfold imgOf volSizes
  rw [if_neg (by simp [h]), List.map_map]
  conv => rhs; rw [← List.map_id l]
  apply List.map_congr_left
  intro n hn
  have := hs.2.2 n hn
  simp only [Function.comp_apply, volOf, List.length_replicate, id_eq]
  omega
def imageH (h : Hist) (set : List Int) : List Vol × Int :=
  if (checkH h).1 ≠ 0 then ([], (checkH h).1)
  else if setH set h.writes.length = false then ([], 2)
  else ((applyI (imgOf h.sizes) (pickW h.writes set)).1, (applyI (imgOf h.sizes) (pickW h.writes set)).2.2)
theorem imageH_e2 {h : Hist} {set : List Int} (h0 : (checkH h).1 = 0) (h2 : setH set h.writes.length = false) : imageH h set = ([], 2) := by
  unfold imageH; rw [if_neg (by simp [h0]), if_pos h2]
noncomputable def spImgH (x : HiD × D) : SpecR := .data [x.1.Right ∧ x.2.Is Int ∧ x.2.len ≤ 1048576] fun ds => .tup [.dat ((ds 0).like (imageH x.1.hist (x.2.to Int)).1), .int .i64 (imageH x.1.hist (x.2.to Int)).2]
theorem imageH_ok {h : Hist} {set : List Int} (h0 : (checkH h).1 = 0) (h2 : setH set h.writes.length = true) : imageH h set = ((pickW h.writes set).foldl putW (imgOf h.sizes), 0) := by
  obtain ⟨k1, k2, k3, k4, k5⟩ := checkH_iff.1 h0
  unfold imageH
  rw [if_neg (by simp [h0]), if_neg (by simp [h2])]
  have e := volSizes_imgOf k1
  unfold applyI
  rw [if_neg (by rw [e]; simp [k1]), applyV_ok _ 0 _ fun w hw => by rw [e]; exact k3 w (pickW_mem (setH_iff.1 h2).2 hw)]
def spSameI (x : D × D) : SpecR := .scalar [x.1.Is Vol ∧ x.2.Is Vol ∧ x.1.len ≤ 1048576 ∧ x.2.len ≤ 1048576 ∧ (∀ v, v ∈ x.1.to Vol → v.l.length ≤ 1048576) ∧ (∀ v, v ∈ x.2.to Vol → v.l.length ≤ 1048576)] (.bool (decide (x.1.to Vol = x.2.to Vol)))
def spSameV (x : D × D) : SpecR := .scalar [x.1.Is Sec ∧ x.2.Is Sec ∧ x.1.len ≤ 1048576 ∧ x.2.len ≤ 1048576] (.bool (decide (x.1.to Sec = x.2.to Sec)))
end Sx
end
section
open Go Go.Proofs Sx
namespace Go.Proofs.Ytdiekahpofifeaa
set_option maxRecDepth 100000
theorem ctImOk : Ctrs.Ok Try.prog ctIm := by
  intro x hx
  rcases List.mem_cons.1 hx with rfl | hx
  · exact ctrOf_ok lawNewI
  rcases List.mem_cons.1 hx with rfl | hx
  · exact ctrOf_ok lawApply
  · exact ctNOk x hx
theorem ret_imI {w : World} {H : HV} {X : SV} {vs : List Vol} {n : Int} {r : List Vol × Int} (hx : Stands Vol X vs) (e1 : r.1 = vs) (e2 : r.2 = n) : (Tree.ret (.tup [X, .int .i64 n])).holds Try.prog ⟨w, H⟩ (RetD w H fun ds => .tup [.dat ((ds 0).like r.1), .int .i64 r.2]) := by
  obtain ⟨d, k1, k2, k3, k4⟩ := hx
  subst e1
  subst e2
  refine ⟨rfl, fun E H' w' g hv => ⟨H', after_good g, fun _ => d, fun E' => ?_, ?_⟩⟩
  · simp only [SV.den, SV.denL, k1, D.like_self k2 k3]
  · simp only [SV.Ok, SV.OkL] at hv ⊢
    rw [D.like_self k2 k3]
    exact ⟨⟨k4 _ hv.1, k2.slc⟩, trivial, trivial⟩
section
variable {H : HV} {w : World} {ha hb hc a im : D} (hR : (HiD.mk ha hb hc).Right) (hra : a.Is Int) (hla : a.len ≤ 1048576)
  (h0 : (checkH (HiD.mk ha hb hc).hist).1 = 0) (h2 : setH (a.to Int) (hb.to Wt).length = true) (him : ImgOk im) (hit : im.to Vol = imgOf (ha.to Int))
include hR hra hla h0 h2 him hit
theorem him_loop {i o : D} {q0 : D} (hq0 : q0 = .slc none 3 []) :
    Runs Try.prog ⟨w, H⟩ ⟨⟨25, none, none, Item.code (cAt Try.prog 25 [1, 1, 1, 1, 1, 1, 0, 1, 0]) :: hiK, hiT a im⟩, [], hiM ha hb hc i o a q0⟩ (RetD w H fun ds => .tup [.dat ((ds 0).like (imageH (HiD.mk ha hb hc).hist (a.to Int)).1), .int .i64 (imageH (HiD.mk ha hb hc).hist (a.to Int)).2]) := by
  obtain ⟨ra, rb, rc, la, lb, lc, rd⟩ := id hR
  simp only at ra rb rc la lb lc rd
  have al := D.Is.length (α := Int) a
  have bl := D.Is.length (α := Wt) hb
  rw [hiF1]
  refine runs_range icode (mm := fun q : D => hiM ha hb hc i o a q) (Inv := fun j q => q.Is Wt ∧ q.sz = 3 ∧ q.len = j ∧ q.to Wt = pickW (hb.to Wt) ((a.to Int).take j)) (Stop := fun _ => False)
    (c1W (fun q : D => [(100002, OBlk.cells 23 [SV.vec 9]), (9, OBlk.arr 55 q)]) _ hra rb hla (fun j hj => by
      have hj' : j < (a.to Int).length := by omega
      have := setH_in h2 hj'
      rw [(int_at hra hj').2.2, bl]
      exact this))
    q0 ⟨by rw [hq0]; exact is_nil _ _, by rw [hq0]; rfl, by rw [hq0]; rfl, by rw [hq0]; rfl⟩ rfl rfl rfl rfl rfl rfl (fun _ => rfl) (fun j => (hiR hb a im (a.getInt (Int.toNat (j : Int)) 0)).set 12 (.ptr 1012 0)) (fun j q => hiN ha hb hc i o a q (a.getInt (Int.toNat (j : Int)) 0)) ?_ ?_ ?_ ?_
  · intro C1 q j hrd hj hi
    apply execP_sound (noCtr _) 100
    refine holds_of (hia_go ha hb hc i o a q im (a.getInt (Int.toNat (j : Int)) 0)) ?_
    exact end_here hrd ⟨rfl, rfl, rfl⟩
  · intro C1 q j hrd hj ⟨hq, hqs, hql, hqt⟩
    have hj' : j < (a.to Int).length := by omega
    have hz := (int_at hra hj').2.2
    have hzr := setH_in h2 hj'
    obtain ⟨z, hzz⟩ := Int.eq_ofNat_of_zero_le hzr.1
    have hzb : z < (hb.to Wt).length := by omega
    obtain ⟨c1, c2, c3⟩ := wt_cell rb hzb
    apply execP_sound (noCtr _) 100
    rw [hib_go, hz, hzz]
    simp only [Int.toNat_natCast]
    refine fun hs1 => ⟨⟨hqs, .inr rfl, by simp only [len_slc, List.length_cons, List.length_nil]; omega, by simp only [len_slc, List.length_cons, List.length_nil]; omega⟩, fun hs2 => ?_⟩
    have hr := rows_app (rows_of hq) (wt_one (hb.getInt z 0) (hb.getInt z 1) c2)
    obtain ⟨i1, i2⟩ := is_of (h := D.hd (hs2 0 0)) (s := 3) rfl hr
    refine end_here hrd ⟨fun _ => ⟨_, ?_, i1, rfl, ?_, i2.trans ?_⟩, fun h => by cases h⟩
    · refine (MemTo.sub (.cons₂ _ (.cons _ (.cons _ (.refl _))))).trans ((MemTo.move 1041 9 rfl).trans ?_)
      exact MemTo.perm (List.perm_append_comm (l₁ := [_, _, _]) (l₂ := [_]))
    · simp only [len_slc, append_list, List.length_append, rows_slc, List.length_cons, List.length_nil]
      have : q.rows.length = q.len := rfl
      omega
    · rw [hqt, pickW_snoc hj', hzz]
      congr 1
      have : (hb.to Wt).getD (Int.toNat (z : Int)) zWt = (hb.to Wt)[z] := by simp [hzb]
      rw [this, c3]
  · intro D2 q ⟨hq, hqs, hql, hqt⟩
    apply exec_sound ctImOk 400
    rw [hie_in]
    have hqt : q.to Wt = pickW (hb.to Wt) (a.to Int) := by rw [hqt, al, List.take_length]
    refine ⟨⟨him.1, him.2.1, hq, by omega, fun x hx => ?_⟩, fun hs => ?_⟩
    · have hx : x ∈ q.to Wt := hx
      rw [hqt] at hx
      exact rd x (pickW_mem (setH_iff.1 h2).2 hx)
    · refine ret_marked (ret_imI stands_like ?_ ?_)
      all_goals
        rw [hit, hqt]
        unfold imageH
        rw [if_neg (by simp [h0]), if_neg (by rw [show (HiD.mk ha hb hc).hist.writes = hb.to Wt from rfl, h2]; decide)]
        rfl
  · exact fun _ _ h => h.elim
end
theorem lawImgH : Law Try.prog 25 ((rdHi.two rdD).sp spImgH) := by
  refine law_in _ (by kernel_rfl) fun H w ⟨⟨ha, hb, hc⟩, a⟩ hok hp => ?_
  obtain ⟨hR, hra, hla⟩ := hp _ (List.mem_singleton.2 rfl)
  simp only at hR hra hla
  obtain ⟨ra, rb, rc, la, lb, lc, rd⟩ := id hR
  simp only at ra rb rc la lb lc rd
  apply execQ_sound ctImOk 400
  rw [show (rdHi.two rdD).canon (⟨ha, hb, hc⟩, a) = [.agg [.dat ha, .dat hb, .dat hc], .dat a] from rfl, him_in]
  refine ⟨hR, fun hs => ⟨fun h => ?_, fun h => ?_⟩⟩
  · have h : (checkH (HiD.mk ha hb hc).hist).1 ≠ 0 := by simpa using h
    refine ret_imI stands_nils ?_ ?_ <;> (unfold imageH; rw [if_pos h])
  have h0 : (checkH (HiD.mk ha hb hc).hist).1 = 0 := by simpa using h
  simp only [h0, onOk_ok]
  refine ⟨⟨hra, hla, rb⟩, fun h2 => ?_, fun h2 => ⟨⟨ra, la⟩, fun hs1 => ?_⟩⟩
  · have h2 : setH (a.to Int) (hb.to Wt).length = false := by simpa using h2
    have e := imageH_e2 (h := (HiD.mk ha hb hc).hist) (set := a.to Int) h0 h2
    exact ret_imI stands_nils (by rw [e]) (by rw [e])
  · have h2 : setH (a.to Int) (hb.to Wt).length = true := by simpa using h2
    have hz := (checkH_iff.1 h0).1
    have hz : sizesErr (ha.to Int) = 0 := hz
    have hio := img_ok hz (hs1 0 0)
    have hit := D.like_to (hs1 0 0) (imgOf (ha.to Int))
    generalize D.like (hs1 0 0) (imgOf (ha.to Int)) = im at hio hit
    generalize D.like (hs 0 0) (checkH (HiD.mk ha hb hc).hist).2.issued = i
    generalize D.like (hs 0 1) (checkH (HiD.mk ha hb hc).hist).2.acked = o
    refine pin_to 100002 ⟨⟨25, none, none, Item.code (cAt Try.prog 25 [1, 1, 1, 1, 1, 1, 0, 1, 0]) :: hiK, hiT a im⟩, [], [(100002, OBlk.cells 23 [SV.nils]), (100003, OBlk.cells 22 [SV.dat a]), (100004, OBlk.cells 81 [SV.dat ha, SV.dat hb, SV.dat hc, SV.dat i, SV.dat o])]⟩ (by kernel_rfl) ?_ rfl
    refine vecIn_sound (K := 9) (e := 55) (sz := 3) (blk := some 100002) (off := 0) (c' := ⟨⟨25, none, none, Item.code (cAt Try.prog 25 [1, 1, 1, 1, 1, 1, 0, 1, 0]) :: hiK, hiT a im⟩, [], (9, OBlk.arr 55 (.slc none 3 [])) :: [(100002, OBlk.cells 23 [SV.vec 9]), (100003, OBlk.cells 22 [SV.dat a]), (100004, OBlk.cells 81 [SV.dat ha, SV.dat hb, SV.dat hc, SV.dat i, SV.dat o])]⟩) (by kernel_rfl) ?_
    refine runs_perm (hiM ha hb hc i o a (.slc none 3 [])) ?_ (him_loop hR hra hla h0 h2 hio hit rfl)
    exact ((List.perm_append_comm (l₁ := [(100003, OBlk.cells 22 [SV.dat a]), (100004, OBlk.cells 81 [SV.dat ha, SV.dat hb, SV.dat hc, SV.dat i, SV.dat o])]) (l₂ := [(100002, OBlk.cells 23 [SV.vec 9])])).append_right [(9, OBlk.arr 55 (.slc none 3 []))]).trans List.perm_append_comm
end Go.Proofs.Ytdiekahpofifeaa
end
section
open Go Go.Proofs Sx
namespace Go.Proofs.Ytdiekahpofifeaa
set_option maxRecDepth 100000
set_option maxHeartbeats 0
noncomputable def smvL (a b : D) (j : Int) : Conf := Conf.mk (SFrm.mk 65 none none [Item.inLoop (cAt Try.prog 65 [1, 1, 0, 1, 0, 0]), Item.inBlock 0, Item.code (cAt Try.prog 65 [1, 1, 1])]
 (mkJ 0 [(0, .dat a), (1, .dat b), (5, .int .i64 j)] 0 26)) [] []
noncomputable def smiL (a b : D) (j : Int) : Conf := Conf.mk (SFrm.mk 29 none none [Item.inLoop (cAt Try.prog 29 [1, 1, 0, 1, 0, 0]), Item.inBlock 0, Item.code (cAt Try.prog 29 [1, 1, 1])]
 (mkJ 0 [(0, .dat a), (1, .dat b), (5, .int .i64 j)] 0 27)) [] []
noncomputable def ctSmV : Ctrs := [(65, ctrOf ((rdD.two rdD).sp spSameV))]
section
variable (a b : D) (j : Int)
theorem smv_in : exec Try.prog [] 300 (entry Try.prog 65 [.dat a, .dat b]) =
 Tree.br ((↑(D.len a) : Int) != (↑(D.len b) : Int)) (.ret (.lb false))
 (.leaf
 (Conf.mk
 (SFrm.mk 65 none none
 [Item.inLoop (cAt Try.prog 65 [1, 1, 0, 1, 0, 0]), Item.inBlock 0, Item.code (cAt Try.prog 65 [1, 1, 1])]
 (mkJ 0 [(0, .dat a), (1, .dat b), (5, .int .i64 0)] 0 26))
 [] [])) := by kernel_rfl

theorem smv_go : exec Try.prog [] 200 (unroll (smvL a b j)) =
 Tree.br (decide (j < (↑(D.len a) : Int)))
 (.all fun hs =>
 .need (0 ≤ j ∧ j < (↑(D.len a) : Int) ∧ D.sz a = 8)
 (.need
 (D.HasCells a (Int.toNat j) 0
 [FT.int .u8, FT.int .u8, FT.int .u8, FT.int .u8, FT.int .u8,
 FT.int .u8, FT.int .u8, FT.int .u8])
 (.need (0 ≤ j ∧ j < (↑(D.len b) : Int) ∧ D.sz b = 8)
 (.need
 (D.HasCells b (Int.toNat j) 0
 [FT.int .u8, FT.int .u8, FT.int .u8, FT.int .u8, FT.int .u8,
 FT.int .u8, FT.int .u8, FT.int .u8])
 (.br
 (!(decide (D.getInt a (Int.toNat j) 0 = D.getInt b (Int.toNat j) 0) &&
 (decide (D.getInt a (Int.toNat j) 1 = D.getInt b (Int.toNat j) 1) &&
 (decide (D.getInt a (Int.toNat j) 2 = D.getInt b (Int.toNat j) 2) &&
 (decide (D.getInt a (Int.toNat j) 3 = D.getInt b (Int.toNat j) 3) &&
 (decide (D.getInt a (Int.toNat j) 4 = D.getInt b (Int.toNat j) 4) &&
 (decide (D.getInt a (Int.toNat j) 5 = D.getInt b (Int.toNat j) 5) &&
 (decide (D.getInt a (Int.toNat j) 6 = D.getInt b (Int.toNat j) 6) &&
 (decide (D.getInt a (Int.toNat j) 7 = D.getInt b (Int.toNat j) 7) && true)))))))))
 (.ret (.lb false))
 (.leaf
 (Conf.mk
 (SFrm.mk 65 none none
 [Item.inLoop (cAt Try.prog 65 [1, 1, 0, 1, 0, 0]), Item.inBlock 0,
 Item.code (cAt Try.prog 65 [1, 1, 1])]
 (mkJ 0 [(0, .dat a), (1, .dat b), (5, .int .i64 (IntKind.wrap .i64 (j + 1)))] 0
 26))
 [] [])))))))
 (.ret (.lb true)) := by kernel_rfl

theorem smi_in : exec Try.prog ctSmV 300 (entry Try.prog 29 [.dat a, .dat b]) =
 Tree.br ((↑(D.len a) : Int) != (↑(D.len b) : Int)) (.ret (.lb false))
 (.leaf
 (Conf.mk
 (SFrm.mk 29 none none
 [Item.inLoop (cAt Try.prog 29 [1, 1, 0, 1, 0, 0]), Item.inBlock 0, Item.code (cAt Try.prog 29 [1, 1, 1])]
 (mkJ 0 [(0, .dat a), (1, .dat b), (5, .int .i64 0)] 0 27))
 [] [])) := by kernel_rfl

theorem smi_go : exec Try.prog ctSmV 200 (unroll (smiL a b j)) =
 Tree.br (decide (j < (↑(D.len a) : Int)))
 (.all fun hs =>
 .need (0 ≤ j ∧ j < (↑(D.len a) : Int) ∧ D.sz a = 1)
 (.need (D.HasCell a (Int.toNat j) 0 FT.slc)
 (.need (0 ≤ j ∧ j < (↑(D.len b) : Int) ∧ D.sz b = 1)
 (.need (D.HasCell b (Int.toNat j) 0 FT.slc)
 (.need
 (D.Is Sec (D.cell a (Int.toNat j) 0) ∧
 D.Is Sec (D.cell b (Int.toNat j) 0) ∧
 D.len (D.cell a (Int.toNat j) 0) ≤ 1048576 ∧ D.len (D.cell b (Int.toNat j) 0) ≤ 1048576)
 (.br (!decide (D.to Sec (D.cell a (Int.toNat j) 0) = D.to Sec (D.cell b (Int.toNat j) 0)))
 (.ret (.lb false))
 (.leaf
 (Conf.mk
 (SFrm.mk 29 none none
 [Item.inLoop (cAt Try.prog 29 [1, 1, 0, 1, 0, 0]), Item.inBlock 0,
 Item.code (cAt Try.prog 29 [1, 1, 1])]
 (mkJ 0 [(0, .dat a), (1, .dat b), (5, .int .i64 (IntKind.wrap .i64 (j + 1)))]
 0 27))
 [] []))))))))
 (.ret (.lb true)) := by kernel_rfl

end
end Go.Proofs.Ytdiekahpofifeaa
end
section
open Go Go.Proofs Sx
namespace Go.Proofs.Ytdiekahpofifeaa
set_option maxRecDepth 100000
theorem lawSmV : Law Try.prog 65 ((rdD.two rdD).sp spSameV) := by
  refine law_in _ (by kernel_rfl) fun H w ⟨a, b⟩ hok hp => ?_
  obtain ⟨ha, hb, hlen, _⟩ := hp _ (List.mem_singleton.2 rfl)
  simp only at ha hb hlen
  have hla := D.Is.length (α := Sec) a
  have hlb := D.Is.length (α := Sec) b
  apply exec_sound (noCtr _) 300
  rw [show (rdD.two rdD).canon (a, b) = [.dat a, .dat b] from rfl, smv_in]
  refine ⟨fun hc => ret_lb ?_, fun hc => ?_⟩
  · exact same_not fun he => by simp [hla, hlb, he] at hc
  have hc' : (a.to Sec).length = (b.to Sec).length := by simp [hla, hlb] at hc; omega
  refine runs_loop (fun j : Nat => smvL a b j) (fun j => j ≤ (a.to Sec).length ∧ (a.to Sec).take j = (b.to Sec).take j) (fun j => (a.to Sec).length - j) (fun _ => rfl) ?_ 0 ⟨Nat.zero_le _, rfl⟩
  intro j ⟨hj, hpre⟩ ih
  apply exec_sound (noCtr _) 200
  rw [smv_go]
  refine ⟨fun hc hs => ?_, fun hc => ret_lb ?_⟩
  · have hc : j < (a.to Sec).length := by have := of_decide_eq_true hc; omega
    obtain ⟨c1, c2⟩ := sec_cell ha hc
    obtain ⟨e1, e2⟩ := sec_cell hb (hc' ▸ hc)
    refine ⟨⟨by omega, by omega, ha.size hc⟩, c1, ⟨by omega, by omega, hb.size (hc' ▸ hc)⟩, e1, fun h => ret_lb ?_, fun h => ?_⟩
    · refine same_not fun he => ?_
      have he2 : (a.to Sec)[j] = (b.to Sec)[j]'(hc' ▸ hc) := by simp only [he]
      rw [c2, e2] at he2
      simp only [Sec.mk.injEq] at he2
      simp [he2] at h
    · have hx : (a.to Sec)[j] = (b.to Sec)[j]'(hc' ▸ hc) := by
        rw [c2, e2]
        simp only [Int.toNat_natCast, Bool.and_true, Bool.not_eq_false', Bool.and_eq_true, decide_eq_true_eq] at h
        rw [h.1, h.2.1, h.2.2.1, h.2.2.2.1, h.2.2.2.2.1, h.2.2.2.2.2.1, h.2.2.2.2.2.2.1, h.2.2.2.2.2.2.2]
      have := ih (j + 1) ⟨hc, take_succ_eq hc (hc' ▸ hc) hpre hx⟩ (by omega)
      rw [← wrap_succ hc (by omega)] at this
      exact this
  · have := of_decide_eq_false hc
    exact (decide_eq_true (list_eq_of hc' (by omega) hpre)).symm
theorem ctSmVOk : Ctrs.Ok Try.prog ctSmV := by intro x hx; rw [List.mem_singleton.1 hx]; exact ctrOf_ok lawSmV
theorem lawSameI : Law Try.prog 29 ((rdD.two rdD).sp spSameI) := by
  refine law_in _ (by kernel_rfl) fun H w ⟨a, b⟩ hok hp => ?_
  obtain ⟨ha, hb, hl1, hl2, hv1, hv2⟩ := hp _ (List.mem_singleton.2 rfl)
  simp only at ha hb hl1 hl2 hv1 hv2
  have hla := D.Is.length (α := Vol) a
  have hlb := D.Is.length (α := Vol) b
  apply exec_sound ctSmVOk 300
  rw [show (rdD.two rdD).canon (a, b) = [.dat a, .dat b] from rfl, smi_in]
  refine ⟨fun hc => ret_lb ?_, fun hc => ?_⟩
  · exact same_not fun he => by simp [hla, hlb, he] at hc
  have hc' : (a.to Vol).length = (b.to Vol).length := by simp [hla, hlb] at hc; omega
  refine runs_loop (fun j : Nat => smiL a b j) (fun j => j ≤ (a.to Vol).length ∧ (a.to Vol).take j = (b.to Vol).take j) (fun j => (a.to Vol).length - j) (fun _ => rfl) ?_ 0 ⟨Nat.zero_le _, rfl⟩
  intro j ⟨hj, hpre⟩ ih
  apply exec_sound ctSmVOk 200
  rw [smi_go]
  refine ⟨fun hc => ?_, fun hc => ret_lb ?_⟩
  · have hc : j < (a.to Vol).length := by have := of_decide_eq_true hc; omega
    have hcb : j < (b.to Vol).length := hc' ▸ hc
    obtain ⟨r1, r2, r3⟩ := vol_row ha (v := j) (by omega)
    obtain ⟨s1, s2, s3⟩ := vol_row hb (v := j) (by omega)
    rw [List.getElem?_eq_getElem hc] at r3
    rw [List.getElem?_eq_getElem hcb] at s3
    have r3 := Option.some.inj r3
    have s3 := Option.some.inj s3
    have la := hv1 _ (List.getElem_mem hc)
    have lb := hv2 _ (List.getElem_mem hcb)
    rw [r3] at la
    rw [s3] at lb
    have la2 := D.Is.length (α := Sec) (a.cell j 0)
    have lb2 := D.Is.length (α := Sec) (b.cell j 0)
    have c1 : a.HasCell j 0 .slc := by
      obtain ⟨q1, q2, q3, q4, _⟩ := r2
      exact ⟨q1, q2, q3, by simp only [D.cellAt, r1, Option.bind_some, List.getElem?_cons_zero, ← q4]⟩
    have c2 : b.HasCell j 0 .slc := by
      obtain ⟨q1, q2, q3, q4, _⟩ := s2
      exact ⟨q1, q2, q3, by simp only [D.cellAt, s1, Option.bind_some, List.getElem?_cons_zero, ← q4]⟩
    simp only [Int.toNat_natCast]
    refine fun hs => ⟨⟨by omega, by omega, ha.size hc⟩, c1, ⟨by omega, by omega, hb.size hcb⟩, c2, ⟨r2, s2, by rw [la2]; exact la, by rw [lb2]; exact lb⟩, fun h => ret_lb ?_, fun h => ?_⟩
    · refine same_not fun he => ?_
      have he2 : (a.to Vol)[j] = (b.to Vol)[j] := by simp only [he]
      rw [r3, s3] at he2
      simp only [Vol.mk.injEq] at he2
      simp [he2] at h
    · have hx : (a.to Vol)[j] = (b.to Vol)[j] := by
        rw [r3, s3]
        simp at h
        rw [h]
      have := ih (j + 1) ⟨hc, take_succ_eq hc hcb hpre hx⟩ (by omega)
      rw [← wrap_succ hc (by omega)] at this
      exact this
  · have := of_decide_eq_false hc
    exact (decide_eq_true (list_eq_of hc' (by omega) hpre)).symm
end Go.Proofs.Ytdiekahpofifeaa
end
section
open Go Go.Proofs Sx
namespace Go.Proofs.Ytdiekahpofifeaa
set_option maxRecDepth 100000
set_option maxHeartbeats 0
noncomputable def ctRe : Ctrs := (25, ctrOf ((rdHi.two rdD).sp spImgH)) :: (29, ctrOf ((rdD.two rdD).sp spSameI)) :: ctS
section
variable (ha hb hc a : D)
theorem res_in : 
 let z1 := (Hist.writes (Prod.fst (stepsH (HiD.hist (HiD.mk ha hb hc)))))
 let z2 := (Hist.events (Prod.fst (stepsH (HiD.hist (HiD.mk ha hb hc)))))
 let z3 := (Hist.sizes (Prod.fst (stepsH (HiD.hist (HiD.mk ha hb hc)))))
 exec Try.prog ctRe 600 (entry Try.prog 10 [.agg [.dat ha, .dat hb, .dat hc], .dat a]) =
 Tree.need (D.Is Int ha ∧ D.Is Wt hb ∧ D.Is Ev hc) (.all fun hs => .br (!Prod.snd (stepsH (HiD.hist (HiD.mk ha hb hc)))) (.ret (.lb true)) (.br (decide ((↑(D.len a) : Int) > 50)) (.ret (.lb true)) (.need
 (HiD.Right (HiD.mk (D.like (hs 0 0) z3) (D.like (hs 0 1) z1) (D.like (hs 0 2) z2)) ∧ D.Is Int a ∧ D.len a ≤ 1048576) (.all fun hs_1 => .need (HiD.Right (HiD.mk (D.like (hs 0 0) z3) (D.like (hs 0 1) z1)
 (D.like (hs 0 2) z2)) ∧ D.Is Int a ∧ D.len a ≤ 1048576) (.br (!decide (decide (Prod.snd (restrictH (HiD.hist (HiD.mk (D.like (hs 0 0) z3) (D.like (hs 0 1) z1) (D.like (hs 0 2) z2))) (D.to Int a)) = 0) = closedB
 (HiD.hist (HiD.mk (D.like (hs 0 0) z3) (D.like (hs 0 1) z1) (D.like (hs 0 2) z2))) (D.to Int a))) (.ret (.lb false)) (.br (Prod.snd (restrictH (HiD.hist (HiD.mk (D.like (hs 0 0) z3) (D.like (hs 0 1) z1)
 (D.like (hs 0 2) z2))) (D.to Int a)) != 0) (.br (decide ((↑(D.len (D.like (hs_1 0 0) (Hist.sizes (Prod.fst (restrictH (HiD.hist (HiD.mk (D.like (hs 0 0) z3) (D.like (hs 0 1) z1) (D.like (hs 0 2) z2)))
 (D.to Int a)))))) : Int) = 0)) (.ret (.lb true)) (.ret (.lb false))) (.need (HiD.Right (HiD.mk (D.like (hs_1 0 0) (Hist.sizes (Prod.fst (restrictH (HiD.hist (HiD.mk (D.like (hs 0 0) z3) (D.like (hs 0 1) z1)
 (D.like (hs 0 2) z2))) (D.to Int a))))) (D.like (hs_1 0 1) (Hist.writes (Prod.fst (restrictH (HiD.hist (HiD.mk (D.like (hs 0 0) z3) (D.like (hs 0 1) z1) (D.like (hs 0 2) z2))) (D.to Int a))))) (D.like
 (hs_1 0 2) (Hist.events (Prod.fst (restrictH (HiD.hist (HiD.mk (D.like (hs 0 0) z3) (D.like (hs 0 1) z1) (D.like (hs 0 2) z2))) (D.to Int a))))))) (.br (Prod.fst (checkH (HiD.hist (HiD.mk (D.like (hs_1 0 0)
 (Hist.sizes (Prod.fst (restrictH (HiD.hist (HiD.mk (D.like (hs 0 0) z3) (D.like (hs 0 1) z1) (D.like (hs 0 2) z2))) (D.to Int a))))) (D.like (hs_1 0 1) (Hist.writes (Prod.fst (restrictH (HiD.hist (HiD.mk
 (D.like (hs 0 0) z3) (D.like (hs 0 1) z1) (D.like (hs 0 2) z2))) (D.to Int a))))) (D.like (hs_1 0 2) (Hist.events (Prod.fst (restrictH (HiD.hist (HiD.mk (D.like (hs 0 0) z3) (D.like (hs 0 1) z1) (D.like
 (hs 0 2) z2))) (D.to Int a)))))))) != 0) (.ret (.lb false)) (.br ((↑(D.len (D.like (hs_1 0 1) (Hist.writes (Prod.fst (restrictH (HiD.hist (HiD.mk (D.like (hs 0 0) z3) (D.like (hs 0 1) z1) (D.like (hs 0 2) z2)))
 (D.to Int a)))))) : Int) != (↑(D.len a) : Int)) (.ret (.lb false)) (.leaf (Conf.mk (SFrm.mk 10 none none [Item.inLoop (cAt Try.prog 10 [1, 1, 1, 1, 1, 1, 1, 0, 1, 0, 0]), Item.inBlock 0, Item.code (cAt Try.prog 10 [1, 1, 1, 1, 1, 1, 1, 1])]
 (mkJ 0 [(1, .dat a), (5, .ptr 0 0), (7, .ptr 1 0), (61, .int .i64 (↑(D.len a) : Int)), (62, .int .i64 0)] 0 115)) [] [(0, OBlk.cells 26 [.dat (D.like (hs 0 0) z3), .dat (D.like (hs 0 1) z1), .dat (D.like
 (hs 0 2) z2)]), (1, OBlk.cells 26 [.dat (D.like (hs_1 0 0) (Hist.sizes (Prod.fst (restrictH (HiD.hist (HiD.mk (D.like (hs 0 0) z3) (D.like (hs 0 1) z1) (D.like (hs 0 2) z2))) (D.to Int a))))), .dat (D.like
 (hs_1 0 1) (Hist.writes (Prod.fst (restrictH (HiD.hist (HiD.mk (D.like (hs 0 0) z3) (D.like (hs 0 1) z1) (D.like (hs 0 2) z2))) (D.to Int a))))), .dat (D.like (hs_1 0 2) (Hist.events (Prod.fst (restrictH
 (HiD.hist (HiD.mk (D.like (hs 0 0) z3) (D.like (hs 0 1) z1) (D.like (hs 0 2) z2))) (D.to Int a)))))])]))))))))))) := by
 intros; kernel_rfl

end
end Go.Proofs.Ytdiekahpofifeaa
end
section
open Go Go.Proofs Sx
namespace Go.Proofs.Ytdiekahpofifeaa
set_option maxRecDepth 100000
set_option maxHeartbeats 0
noncomputable def re1L (ha hb hc ga gb gc a : D) (n z : Int) : Conf := Conf.mk (SFrm.mk 10 none none [Item.inLoop (cAt Try.prog 10 [1, 1, 1, 1, 1, 1, 1, 0, 1, 0, 0]), Item.inBlock 0, Item.code (cAt Try.prog 10 [1, 1, 1, 1, 1, 1, 1, 1])] (mkJ 0 [(1, .dat a), (5, .ptr 0 0), (7, .ptr 1 0), (61, .int .i64 n), (62, .int .i64 z)] 0 115)) [] [(0, OBlk.cells 26 [.dat ha, .dat hb, .dat hc]), (1, OBlk.cells 26 [.dat ga, .dat gb, .dat gc])]
section
variable (ha hb hc ga gb gc a : D) (n z : Int)
theorem re1_go : exec Try.prog ctRe 600 (unroll (re1L ha hb hc ga gb gc a n z)) =
 Tree.br (decide (z < n))
 (.leaf
 (Conf.mk
 (SFrm.mk 10 none none
 [Item.inLoop (cAt Try.prog 10 [1, 1, 1, 1, 1, 1, 1, 0, 1, 0, 0, 1, 1, 0, 0, 1, 1, 0, 0]), Item.inBlock 2,
 Item.inBlock 1, Item.code (cAt Try.prog 10 [1, 1, 1, 1, 1, 1, 1, 0, 1, 0, 0, 1, 1, 1]),
 Item.inLoop (cAt Try.prog 10 [1, 1, 1, 1, 1, 1, 1, 0, 1, 0, 0]), Item.inBlock 0,
 Item.code (cAt Try.prog 10 [1, 1, 1, 1, 1, 1, 1, 1])]
 (mkJ 0
 [(1, .dat a), (5, .ptr 0 0), (7, .ptr 1 0), (9, .int .i64 z), (61, .int .i64 n),
 (62, .int .i64 z), (66, .int .i64 (↑(D.len a) : Int)), (67, .int .i64 0)]
 0 115))
 [] [(0, OBlk.cells 26 [.dat ha, .dat hb, .dat hc]), (1, OBlk.cells 26 [.dat ga, .dat gb, .dat gc])]))
 (.need (HiD.Right (HiD.mk ha hb hc) ∧ D.Is Int a ∧ D.len a ≤ 1048576)
 (.all fun hs =>
 .all fun hs_1 =>
 .need ((↑(D.len a) : Int) ≤ 1000000)
 (.need
 (HiD.Right (HiD.mk ga gb gc) ∧
 D.Is Int (D.like (hs_1 3 0) (firstN (↑(D.len a) : Int))) ∧
 D.len (D.like (hs_1 3 0) (firstN (↑(D.len a) : Int))) ≤ 1048576)
 (.br (decide (Prod.snd (imageH (HiD.hist (HiD.mk ha hb hc)) (D.to Int a)) = 0))
 (.br
 (decide
 (Prod.snd
 (imageH (HiD.hist (HiD.mk ga gb gc)) (D.to Int (D.like (hs_1 3 0) (firstN (↑(D.len a) : Int))))) =
 0))
 (.need
 (D.Is Vol (D.like (hs 0 0) (Prod.fst (imageH (HiD.hist (HiD.mk ha hb hc)) (D.to Int a)))) ∧
 D.Is Vol
 (D.like (hs_1 4 0)
 (Prod.fst
 (imageH (HiD.hist (HiD.mk ga gb gc))
 (D.to Int (D.like (hs_1 3 0) (firstN (↑(D.len a) : Int))))))) ∧
 D.len (D.like (hs 0 0) (Prod.fst (imageH (HiD.hist (HiD.mk ha hb hc)) (D.to Int a)))) ≤ 1048576 ∧
 D.len
 (D.like (hs_1 4 0)
 (Prod.fst
 (imageH (HiD.hist (HiD.mk ga gb gc))
 (D.to Int (D.like (hs_1 3 0) (firstN (↑(D.len a) : Int))))))) ≤
 1048576 ∧
 (∀ (v : Vol),
 List.Mem v
 (D.to Vol
 (D.like (hs 0 0) (Prod.fst (imageH (HiD.hist (HiD.mk ha hb hc)) (D.to Int a))))) →
 List.length (Vol.l v) ≤ 1048576) ∧
 ∀ (v : Vol),
 List.Mem v
 (D.to Vol
 (D.like (hs_1 4 0)
 (Prod.fst
 (imageH (HiD.hist (HiD.mk ga gb gc))
 (D.to Int (D.like (hs_1 3 0) (firstN (↑(D.len a) : Int)))))))) →
 List.length (Vol.l v) ≤ 1048576)
 (.br
 (decide
 (D.to Vol (D.like (hs 0 0) (Prod.fst (imageH (HiD.hist (HiD.mk ha hb hc)) (D.to Int a)))) =
 D.to Vol
 (D.like (hs_1 4 0)
 (Prod.fst
 (imageH (HiD.hist (HiD.mk ga gb gc))
 (D.to Int (D.like (hs_1 3 0) (firstN (↑(D.len a) : Int)))))))))
 (.ret (.lb true)) (.ret (.lb false))))
 (.ret (.lb false)))
 (.ret (.lb false)))))) := by kernel_rfl

end
end Go.Proofs.Ytdiekahpofifeaa
end
section
open Go Go.Proofs Sx
namespace Go.Proofs.Ytdiekahpofifeaa
set_option maxRecDepth 100000
set_option maxHeartbeats 0
noncomputable def re2L (ha hb hc ga gb gc a : D) (n z m y : Int) : Conf := Conf.mk (SFrm.mk 10 none none [Item.inLoop (cAt Try.prog 10 [1, 1, 1, 1, 1, 1, 1, 0, 1, 0, 0, 1, 1, 0, 0, 1, 1, 0, 0]), Item.inBlock 2, Item.inBlock 1, Item.code (cAt Try.prog 10 [1, 1, 1, 1, 1, 1, 1, 0, 1, 0, 0, 1, 1, 1]), Item.inLoop (cAt Try.prog 10 [1, 1, 1, 1, 1, 1, 1, 0, 1, 0, 0]), Item.inBlock 0, Item.code (cAt Try.prog 10 [1, 1, 1, 1, 1, 1, 1, 1])] (mkJ 0 [(1, .dat a), (5, .ptr 0 0), (7, .ptr 1 0), (9, .int .i64 z), (61, .int .i64 n), (62, .int .i64 z), (66, .int .i64 m), (67, .int .i64 y)] 0 115)) [] [(0, OBlk.cells 26 [.dat ha, .dat hb, .dat hc]), (1, OBlk.cells 26 [.dat ga, .dat gb, .dat gc])]
section
variable (ha hb hc ga gb gc a : D) (n z m y : Int)
theorem re2_go : exec Try.prog ctRe 600 (unroll (re2L ha hb hc ga gb gc a n z m y)) =
 Tree.br (decide (y < m))
 (.all fun hs =>
 .need (HiD.Right (HiD.mk ga gb gc))
 (.need (0 ≤ z ∧ z < (↑(D.len a) : Int) ∧ D.sz a = 1)
 (.need (D.HasCell a (Int.toNat z) 0 (FT.int .i64))
 (.need (0 ≤ y ∧ y < (↑(D.len a) : Int) ∧ D.sz a = 1)
 (.need (D.HasCell a (Int.toNat y) 0 (FT.int .i64))
 (.need (HiD.Right (HiD.mk ha hb hc))
 (.br
 (!decide
 (beforeH (HiD.hist (HiD.mk ga gb gc)) z y =
 beforeH (HiD.hist (HiD.mk ha hb hc)) (D.getInt a (Int.toNat z) 0) (D.getInt a (Int.toNat y) 0)))
 (.ret (.lb false))
 (.leaf
 (Conf.mk
 (SFrm.mk 10 none none
 [Item.inLoop (cAt Try.prog 10 [1, 1, 1, 1, 1, 1, 1, 0, 1, 0, 0, 1, 1, 0, 0, 1, 1, 0, 0]),
 Item.inBlock 2, Item.inBlock 1,
 Item.code (cAt Try.prog 10 [1, 1, 1, 1, 1, 1, 1, 0, 1, 0, 0, 1, 1, 1]),
 Item.inLoop (cAt Try.prog 10 [1, 1, 1, 1, 1, 1, 1, 0, 1, 0, 0]), Item.inBlock 0,
 Item.code (cAt Try.prog 10 [1, 1, 1, 1, 1, 1, 1, 1])]
 (mkJ 0
 [(1, .dat a), (5, .ptr 0 0), (7, .ptr 1 0), (9, .int .i64 z),
 (61, .int .i64 n), (62, .int .i64 z), (66, .int .i64 m),
 (67, .int .i64 (IntKind.wrap .i64 (y + 1)))]
 0 115))
 []
 [(0, OBlk.cells 26 [.dat ha, .dat hb, .dat hc]),
 (1, OBlk.cells 26 [.dat ga, .dat gb, .dat gc])])))))))))
 (.leaf
 (Conf.mk
 (SFrm.mk 10 none none
 [Item.inLoop (cAt Try.prog 10 [1, 1, 1, 1, 1, 1, 1, 0, 1, 0, 0]), Item.inBlock 0,
 Item.code (cAt Try.prog 10 [1, 1, 1, 1, 1, 1, 1, 1])]
 (mkJ 0
 [(1, .dat a), (5, .ptr 0 0), (7, .ptr 1 0), (61, .int .i64 n),
 (62, .int .i64 (IntKind.wrap .i64 (z + 1)))]
 0 115))
 [] [(0, OBlk.cells 26 [.dat ha, .dat hb, .dat hc]), (1, OBlk.cells 26 [.dat ga, .dat gb, .dat gc])])) := by kernel_rfl

end
end Go.Proofs.Ytdiekahpofifeaa
end
section
namespace Sx
open Go
theorem bef_cons (e : Ev) (l : List Ev) (a b : Int) : beforeR (e :: l) a b = if e = ⟨1, a⟩ then decide (atEv l ⟨0, b⟩ ≥ 0) else if e = ⟨0, b⟩ then false else beforeR l a b := by
  have c1 := atEv_cases l ⟨1, a⟩
  have c2 := atEv_cases l ⟨0, b⟩
  unfold beforeR
  rw [atEv_cons, atEv_cons]
  by_cases h1 : e = ⟨1, a⟩
  · have h2 : ¬e = ⟨0, b⟩ := fun h => by rw [h1] at h; simp at h
    rw [if_pos h1, if_pos h1, if_neg h2]
    by_cases h3 : atEv l ⟨0, b⟩ < 0
    · rw [if_pos h3]; simp; omega
    · rw [if_neg h3]
      have : 0 < atEv l ⟨0, b⟩ + 1 := by omega
      simp [this]; omega
  · rw [if_neg h1, if_neg h1]
    by_cases h2 : e = ⟨0, b⟩
    · rw [if_pos h2, if_pos h2]
      by_cases h3 : atEv l ⟨1, a⟩ < 0
      · rw [if_pos h3]; rfl
      · rw [if_neg h3]
        rw [Bool.and_eq_false_iff]
        right
        apply decide_eq_false; omega
    · rw [if_neg h2, if_neg h2]
      by_cases h3 : atEv l ⟨1, a⟩ < 0
      · rw [if_pos h3]
        have : ¬atEv l ⟨1, a⟩ ≥ 0 := by omega
        simp [this]
      · rw [if_neg h3]
        by_cases h4 : atEv l ⟨0, b⟩ < 0
        · rw [if_pos h4]
          rw [decide_eq_false (by omega : ¬atEv l ⟨1, a⟩ + 1 < -1), decide_eq_false (by omega : ¬atEv l ⟨1, a⟩ < atEv l ⟨0, b⟩)]
          simp
        · rw [if_neg h4]
          congr 1
          · apply decide_eq_decide.2; omega
          · apply decide_eq_decide.2; omega
theorem rest_bef {s : List Int} {n : Int} (hs : setH s n = true) {i k : Nat} (hi : i < s.length) (hk : k < s.length) : ∀ l : List Ev, beforeR (restE s l) i k = beforeR l s[i] s[k]
  | [] => rfl
  | e :: l => by
    have ih := rest_bef hs hi hk l
    have e0 : restE s (e :: l) = evR s e ++ restE s l := by rw [← restE_one, ← restE_app]; rfl
    rw [e0, bef_cons]
    have hinj : ∀ {x y : Nat} (hx : x < s.length) (hy : y < s.length), s[x] = s[y] → x = y := fun hx hy e => setH_inj hs hx hy (by rw [getD_lt hx, getD_lt hy, e])
    have ha : decide (atEv (restE s l) ⟨0, (k : Int)⟩ ≥ 0) = decide (atEv l ⟨0, s[k]⟩ ≥ 0) := decide_eq_decide.2 (by rw [atEv_mem, atEv_mem, restE_mem hk])
    rcases evR_cases hs e with ⟨hm, he⟩ | ⟨j, hj, hsj, he⟩
    · rw [he, List.nil_append, ih, if_neg (fun h => hm (by rw [h]; exact List.getElem_mem hi)), if_neg (fun h => hm (by rw [h]; exact List.getElem_mem hk))]
    · rw [he, List.singleton_append, bef_cons, ha, ih]
      have q1 : ((⟨e.kind, (j : Int)⟩ : Ev) = ⟨1, (i : Int)⟩) ↔ e = ⟨1, s[i]⟩ := by
        obtain ⟨c, x⟩ := e
        simp only [Ev.mk.injEq] at hsj ⊢
        constructor
        · rintro ⟨h1, h2⟩
          have h2 : j = i := by omega
          subst h2
          exact ⟨h1, hsj.symm⟩
        · rintro ⟨h1, h2⟩
          exact ⟨h1, by rw [hinj hj hi (by rw [hsj, h2])]⟩
      have q2 : ((⟨e.kind, (j : Int)⟩ : Ev) = ⟨0, (k : Int)⟩) ↔ e = ⟨0, s[k]⟩ := by
        obtain ⟨c, x⟩ := e
        simp only [Ev.mk.injEq] at hsj ⊢
        constructor
        · rintro ⟨h1, h2⟩
          have h2 : j = k := by omega
          subst h2
          exact ⟨h1, hsj.symm⟩
        · rintro ⟨h1, h2⟩
          exact ⟨h1, by rw [hinj hj hk (by rw [hsj, h2])]⟩
      simp only [q1, q2]
end Sx
end
section
namespace Sx
open Go
theorem volSizes_fold : ∀ (l : List Wt) (im : List Vol), (∀ w, w ∈ l → fitsErr (volSizes im) w = 0) → volSizes (l.foldl putW im) = volSizes im
  | [], _, _ => rfl
  | w :: r, im, h => by
    have h1 := putW_sizes (h w List.mem_cons_self)
    show volSizes (r.foldl putW (putW im w)) = _
    rw [volSizes_fold r _ fun x hx => by rw [h1]; exact h x (List.mem_cons_of_mem _ hx), h1]
theorem imageH_sizes {h : Hist} {s : List Int} (h0 : (checkH h).1 = 0) (h2 : setH s h.writes.length = true) : volSizes (imageH h s).1 = h.sizes := by
  obtain ⟨k1, k2, k3, k4, k5⟩ := checkH_iff.1 h0
  rw [imageH_ok h0 h2]
  have e := volSizes_imgOf k1
  rw [volSizes_fold _ _ fun w hw => by rw [e]; exact k3 w (pickW_mem (setH_iff.1 h2).2 hw), e]
theorem imageH_small {h : Hist} {s : List Int} (h0 : (checkH h).1 = 0) (h2 : setH s h.writes.length = true) : (imageH h s).1.length ≤ 1048576 ∧ ∀ v, v ∈ (imageH h s).1 → v.l.length ≤ 1048576 := by
  have e := imageH_sizes h0 h2
  have hs := sizesErr_ok (checkH_iff.1 h0).1
  constructor
  · have := congrArg List.length e
    rw [vs_len] at this
    omega
  · intro v hv
    have hm : (v.l.length : Int) ∈ volSizes (imageH h s).1 := List.mem_map.2 ⟨v, hv, rfl⟩
    rw [e] at hm
    have := hs.2.2 _ hm
    omega
theorem img_need {h g : Hist} {s t : List Int} {a b : D} (h0 : (checkH h).1 = 0) (h2 : setH s h.writes.length = true) (g0 : (checkH g).1 = 0) (g2 : setH t g.writes.length = true) :
    (a.like (imageH h s).1).Is Vol ∧ (b.like (imageH g t).1).Is Vol ∧ (a.like (imageH h s).1).len ≤ 1048576 ∧ (b.like (imageH g t).1).len ≤ 1048576 ∧ (∀ v, v ∈ (a.like (imageH h s).1).to Vol → v.l.length ≤ 1048576) ∧ (∀ v, v ∈ (b.like (imageH g t).1).to Vol → v.l.length ≤ 1048576) := by
  have k1 := imageH_small h0 h2
  have k2 := imageH_small g0 g2
  refine ⟨D.like_is _ _, D.like_is _ _, by rw [llen]; exact k1.1, by rw [llen]; exact k2.1, ?_, ?_⟩
  · rw [D.like_to]; exact k1.2
  · rw [D.like_to]; exact k2.2
theorem rest_closed {h : Hist} {s : List Int} (h0 : (checkH h).1 = 0) : decide ((restrictH h s).2 = 0) = closedB h s := by
  unfold restrictH closedB
  rw [if_neg (by simp [h0]), h0]
  cases h2 : setH s h.writes.length with
  | false => simp
  | true =>
    cases h3 : closedS h.events h.writes.length s with
    | false => simp
    | true => simp
theorem rest_no {h : Hist} {s : List Int} (h1 : (restrictH h s).2 ≠ 0) : (restrictH h s).1.sizes = [] := by
  unfold restrictH at h1 ⊢
  split
  · rfl
  · split
    · rfl
    · split
      · rfl
      · rename_i a b c
        rw [if_neg a, if_neg b, if_neg c] at h1
        exact absurd rfl h1
theorem rest_yes {h : Hist} {s : List Int} (h0 : (checkH h).1 = 0) (h1 : (restrictH h s).2 = 0) : setH s h.writes.length = true ∧ restrictH h s = (⟨h.sizes, pickW h.writes s, restE s h.events⟩, 0) := by
  have hc := rest_closed (s := s) h0
  rw [h1] at hc
  unfold closedB at hc
  simp only [decide_true] at hc
  have hc := hc.symm
  simp only [Bool.and_eq_true] at hc
  exact ⟨hc.2.1, rest_ok h0 hc.2.1 hc.2.2⟩
theorem rest_histOk {h : Hist} {s : List Int} (hk : HistOk h) (hs : s.length ≤ 1000) : HistOk (restrictH h s).1 := by
  obtain ⟨k1, k2, k3, k4⟩ := hk
  unfold restrictH
  split
  · exact ⟨by simp [zHist], by simp [zHist], by simp [zHist], by simp [zHist]⟩
  · split
    · exact ⟨by simp [zHist], by simp [zHist], by simp [zHist], by simp [zHist]⟩
    · split
      · exact ⟨by simp [zHist], by simp [zHist], by simp [zHist], by simp [zHist]⟩
      · rename_i a b c
        have b : setH s h.writes.length = true := by simpa using b
        refine ⟨k1, by simp only [pickW_len]; omega, Nat.le_trans (restE_len b _) k3, fun w hw => k4 w (pickW_mem (setH_iff.1 b).2 hw)⟩
theorem rest_image {h : Hist} {s : List Int} (h0 : (checkH h).1 = 0) (h1 : (restrictH h s).2 = 0) :
    (imageH h s).2 = 0 ∧ imageH (restrictH h s).1 (firstN (s.length : Int)) = imageH h s := by
  obtain ⟨h2, e⟩ := rest_yes h0 h1
  have g0 := restrict_ok h0 h2
  rw [e, imageH_ok h0 h2]
  refine ⟨rfl, ?_⟩
  have g2 : setH (firstN (s.length : Int)) (pickW h.writes s).length = true := firstN_set (by rw [pickW_len]; exact Nat.le_refl _)
  rw [imageH_ok g0 g2]
  simp only
  rw [pickW_first (by rw [pickW_len]; exact Nat.le_refl _), List.take_of_length_le (by rw [pickW_len]; exact Nat.le_refl _)]
theorem rest_before {h : Hist} {s : List Int} (h0 : (checkH h).1 = 0) (h1 : (restrictH h s).2 = 0) {i k : Nat} (hi : i < s.length) (hk : k < s.length) : beforeH (restrictH h s).1 i k = beforeH h s[i] s[k] := by
  obtain ⟨h2, e⟩ := rest_yes h0 h1
  have g0 := restrict_ok h0 h2
  rw [e]
  unfold beforeH
  rw [g0, h0, rest_bef h2 hi hk]
end Sx
end
section
open Go Go.Proofs Sx
namespace Sx
def spRstr (x : HiD × D) : SpecR := .scalar [(x.1.s.Is Int ∧ x.1.w.Is Wt ∧ x.1.e.Is Ev) ∧ x.2.Is Int] (.lb true)
end Sx
namespace Go.Proofs.Ytdiekahpofifeaa
set_option maxRecDepth 100000
set_option maxHeartbeats 0
theorem ctReOk : Ctrs.Ok Try.prog ctRe := by
  intro x hx
  rcases List.mem_cons.1 hx with rfl | hx
  · exact ctrOf_ok lawImgH
  rcases List.mem_cons.1 hx with rfl | hx
  · exact ctrOf_ok lawSameI
  · exact ctSOk _ hx
section
variable {H : HV} {w : World} {G : Hist} {a d1 d2 d3 e1 e2 e3 : D} (hk : HistOk G) (h0 : (checkH G).1 = 0) (hia : a.Is Int) (hla : a.len ≤ 50) (hr : (restrictH G (a.to Int)).2 = 0)
include hk h0 hia hla hr
theorem restr_loop : Runs Try.prog ⟨w, H⟩ (re1L (d1.like G.sizes) (d2.like G.writes) (d3.like G.events) (e1.like (restrictH G (a.to Int)).1.sizes) (e2.like (restrictH G (a.to Int)).1.writes) (e3.like (restrictH G (a.to Int)).1.events) a (a.len : Int) 0) (RetS w H (.lb true)) := by
  have al := D.Is.length (α := Int) a
  have hk2 := rest_histOk (s := a.to Int) hk (by omega)
  have R1 : (HiD.mk (d1.like G.sizes) (d2.like G.writes) (d3.like G.events)).Right := like_right hk
  have R2 : (HiD.mk (e1.like (restrictH G (a.to Int)).1.sizes) (e2.like (restrictH G (a.to Int)).1.writes) (e3.like (restrictH G (a.to Int)).1.events)).Right := like_right hk2
  have q1 : (HiD.mk (d1.like G.sizes) (d2.like G.writes) (d3.like G.events)).hist = G := like_hist
  have q2 : (HiD.mk (e1.like (restrictH G (a.to Int)).1.sizes) (e2.like (restrictH G (a.to Int)).1.writes) (e3.like (restrictH G (a.to Int)).1.events)).hist = (restrictH G (a.to Int)).1 := like_hist
  generalize d1.like G.sizes = ha at *
  generalize d2.like G.writes = hb at *
  generalize d3.like G.events = hc at *
  generalize e1.like (restrictH G (a.to Int)).1.sizes = ga at *
  generalize e2.like (restrictH G (a.to Int)).1.writes = gb at *
  generalize e3.like (restrictH G (a.to Int)).1.events = gc at *
  refine runs_loop (fun j : Nat => re1L ha hb hc ga gb gc a (a.len : Int) j) (fun j => j ≤ (a.to Int).length) (fun j => (a.to Int).length - j) (fun _ => rfl) ?_ 0 (Nat.zero_le _)
  intro j hj ih
  apply exec_sound ctReOk 600
  rw [re1_go]
  refine ⟨fun hcj => ?_, fun hcj => ?_⟩
  · have hcj : j < (a.to Int).length := by have := of_decide_eq_true hcj; omega
    show Runs Try.prog ⟨w, H⟩ (re2L ha hb hc ga gb gc a (a.len : Int) j (a.len : Int) ((0 : Nat) : Int)) (RetS w H (.lb true))
    refine runs_loop (fun k : Nat => re2L ha hb hc ga gb gc a (a.len : Int) j (a.len : Int) k) (fun k => k ≤ (a.to Int).length) (fun k => (a.to Int).length - k) (fun _ => rfl) ?_ 0 (Nat.zero_le _)
    intro k hkk ihk
    apply exec_sound ctReOk 600
    rw [re2_go]
    refine ⟨fun hck hs => ?_, fun hck => ?_⟩
    · have hck : k < (a.to Int).length := by have := of_decide_eq_true hck; omega
      obtain ⟨x1, x2, x3⟩ := int_at hia hcj
      obtain ⟨y1, y2, y3⟩ := int_at hia hck
      refine ⟨R2, x1, x2, y1, y2, R1, fun hx => ?_, fun _ => ?_⟩
      · exfalso
        rw [x3, y3, q1, q2, rest_before h0 hr hcj hck] at hx
        simp at hx
      · have := ihk (k + 1) hck (by omega)
        rw [← wrap_succ hck (by omega)] at this
        exact this
    · have := ih (j + 1) hcj (by omega)
      rw [← wrap_succ hcj (by omega)] at this
      exact this
  · rw [q1, q2]
    obtain ⟨s2, se⟩ := rest_yes h0 hr
    have g0 : (checkH (restrictH G (a.to Int)).1).1 = 0 := by rw [se]; exact restrict_ok h0 s2
    have g2 : setH (firstN (a.len : Int)) (restrictH G (a.to Int)).1.writes.length = true := by rw [se]; exact firstN_set (by rw [pickW_len]; omega)
    obtain ⟨i1, i2⟩ := rest_image h0 hr
    rw [← al] at i2
    refine ⟨⟨R1, hia, by omega⟩, fun hs hs1 => ⟨by omega, ⟨R2, D.like_is _ _, by rw [llen, firstN_len]; omega⟩, fun _ => ⟨fun _ => ⟨?_, fun _ => ret_lbt, fun hx => ?_⟩, fun hx => ?_⟩, fun hx => ?_⟩⟩
    · rw [D.like_to]
      exact img_need h0 s2 g0 g2
    · exfalso
      simp only [D.like_to, i2] at hx
      simp at hx
    · exfalso
      rw [D.like_to, i2, i1] at hx
      cases hx
    · exfalso
      rw [i1] at hx
      cases hx
end
theorem lawRstr : Law Try.prog 10 ((rdHi.two rdD).sp spRstr) := by
  refine law_in _ (by kernel_rfl) fun H w ⟨⟨ha, hb, hc⟩, a⟩ hok hp => ?_
  obtain ⟨⟨h1, h2, h3⟩, h4⟩ := hp _ (List.mem_singleton.2 rfl)
  simp only at h1 h2 h3 h4
  apply exec_sound ctReOk 600
  rw [show (rdHi.two rdD).canon (⟨ha, hb, hc⟩, a) = [.agg [.dat ha, .dat hb, .dat hc], .dat a] from rfl, res_in]
  have hB := stepsH_hb (HiD.mk ha hb hc).hist
  have hk := hb_ok hB (by decide) (by decide)
  have hc0 := @stepsH_check (HiD.mk ha hb hc).hist
  generalize stepsH (HiD.mk ha hb hc).hist = S at hB hk hc0
  obtain ⟨G, ok⟩ := S
  simp only at hB hk hc0
  refine ⟨⟨h1, h2, h3⟩, fun hs => ⟨fun _ => ret_lbt, fun hx => ⟨fun _ => ret_lbt, fun la => ?_⟩⟩⟩
  have la := of_decide_eq_false la
  have hk1 : ok = true := by simpa using hx
  have h0 := hc0 hk1
  have al := D.Is.length (α := Int) a
  simp only [like_hist]
  refine ⟨⟨like_right hk, h4, by omega⟩, fun hs1 => ⟨⟨like_right hk, h4, by omega⟩, fun hx => ?_, fun _ => ⟨fun hx => ⟨fun _ => ret_lbt, fun hy => ?_⟩, fun hx => ?_⟩⟩⟩
  · exfalso
    rw [rest_closed h0] at hx
    simp at hx
  · exfalso
    have hx : (restrictH G (a.to Int)).2 ≠ 0 := by simpa using hx
    rw [llen, rest_no hx] at hy
    cases hy
  · have hr : (restrictH G (a.to Int)).2 = 0 := by simpa using hx
    obtain ⟨s2, se⟩ := rest_yes h0 hr
    have g0 : (checkH (restrictH G (a.to Int)).1).1 = 0 := by rw [se]; exact restrict_ok h0 s2
    refine ⟨like_right (rest_histOk hk (by omega)), fun hx => ?_, fun _ => ⟨fun hx => ?_, fun _ => ?_⟩⟩
    · exfalso
      rw [g0] at hx
      cases hx
    · exfalso
      rw [llen, se] at hx
      simp only [pickW_len, ← al] at hx
      simp at hx
    · exact restr_loop hk h0 h4 (by omega) hr
end Go.Proofs.Ytdiekahpofifeaa
end
