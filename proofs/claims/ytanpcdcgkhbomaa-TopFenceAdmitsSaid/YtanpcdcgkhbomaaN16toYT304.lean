/- Layer 15: the contracts of lists. -/
import Derived.Test.YtanpcdcgkhbomaaOttoN15
import Derived.KernelRfl
import Derived.Maps.RangeRun
import Derived.Test.YtanpcdcgkhbomaaProg
set_option linter.all false
section
open Go
namespace Sx
structure EvD where
  k : Int
  w : Int
def EvD.ev (x : EvD) : Ev := ⟨x.k, x.w⟩
def rdEv : Rd1 EvD where
  read x := match x with
    | .agg [.int .i64 k, .int .i64 w] => some ⟨k, w⟩
    | _ => none
  canon h := .agg [.int .i64 h.k, .int .i64 h.w]
  right H E x b h hok := by
    split at h
    · cases h; exact ⟨rfl, trivial, trivial, trivial⟩
    · cases h
def spAt (x : D × EvD) : SpecR := .scalar [x.1.Is Ev ∧ x.1.len ≤ 1048576] (.int .i64 (atEv (x.1.to Ev) x.2.ev))
def spIssE (n : Int) : SpecR := .data [] fun _ => .agg [.int .i64 0, .int .i64 n]
def spAckE (n : Int) : SpecR := .data [] fun _ => .agg [.int .i64 1, .int .i64 n]
def spInts (x : D × D) : SpecR := .scalar [x.1.Is Int ∧ x.2.Is Int ∧ x.1.len ≤ 1048576] (.bool (decide (x.1.to Int = x.2.to Int)))
def spEvs (x : D × D) : SpecR := .scalar [x.1.Is Ev ∧ x.2.Is Ev ∧ x.1.len ≤ 1048576] (.bool (decide (x.1.to Ev = x.2.to Ev)))
def spSecs (x : D × D) : SpecR := .scalar [x.1.Is Sec ∧ x.2.Is Sec ∧ x.1.len ≤ 1048576] (.bool (decide (x.1.to Sec = x.2.to Sec)))
def spWts (x : D × D) : SpecR := .scalar [x.1.Is Wt ∧ x.2.Is Wt ∧ x.1.len ≤ 1048576 ∧ ∀ w, w ∈ x.1.to Wt → w.data.length ≤ 1048576] (.bool (decide (x.1.to Wt = x.2.to Wt)))
def spHas (x : D × Int) : SpecR := .scalar [x.1.Is Int ∧ x.1.len ≤ 1048576] (.bool ((x.1.to Int).contains x.2))
def setUp (l : List Int) (n : Int) : Nat → Bool
  | 0 => true
  | i + 1 => setUp l n i && (decide (0 ≤ l.getD i 0) && (decide (l.getD i 0 < n) && (decide (i = 0) || decide (l.getD (i - 1) 0 < l.getD i 0))))
def setH (l : List Int) (n : Int) : Bool := setUp l n l.length
def spSet (x : D × Int) : SpecR := .scalar [x.1.Is Int ∧ x.1.len ≤ 1048576] (.bool (setH (x.1.to Int) x.2))
def spIsSet (x : CkD × D) : SpecR := .scalar [x.2.Is Int ∧ x.2.len ≤ 1048576 ∧ x.1.w.Is Wt] (.bool (setH (x.2.to Int) (x.1.w.to Wt).length))
def fewH (h : Hist) : Bool := decide (h.sizes.length ≤ 9) && (decide (h.writes.length ≤ 40) && (decide (h.events.length ≤ 90) && (h.sizes.all (fun n => decide (n ≤ 24)) && h.writes.all fun w => decide (w.data.length ≤ 30))))
def spFew (x : HiD) : SpecR := .scalar [x.s.Is Int ∧ x.w.Is Wt ∧ x.e.Is Ev] (.bool (fewH x.hist))
theorem same_not {α : Type} {a b : List α} (h : a ≠ b) [DecidableEq α] : false = decide (a = b) := by rw [decide_eq_false h]
theorem list_eq_of {α : Type} {a b : List α} {n : Nat} (h1 : a.length = b.length) (h2 : n = a.length) (h : a.take n = b.take n) : a = b := by
  subst h2; rwa [List.take_length, h1, List.take_length] at h
theorem take_succ_eq {α : Type} {a b : List α} {j : Nat} (h1 : j < a.length) (h2 : j < b.length) (h : a.take j = b.take j) (he : a[j] = b[j]) : a.take (j + 1) = b.take (j + 1) := by
  rw [List.take_succ_eq_append_getElem h1, List.take_succ_eq_append_getElem h2, h, he]
end Sx
end
section
open Go
namespace Sx
structure Cy where
  base : Int
  number : Int
  time : Int
  pos : List Int
  wr : List Wt
deriving DecidableEq
def cyBad (p : Option Wt) (w : Wt) : Bool := match p with
  | none => false
  | some x => decide (w.vol < x.vol) || (decide (w.vol = x.vol) && decide (w.start ≤ x.start + x.data.length))
def canonErr (sz : List Int) : Option Wt → List Wt → Int
  | _, [] => 0
  | p, w :: r => if fitsErr sz w ≠ 0 then fitsErr sz w else if cyBad p w = true then 3 else canonErr sz (some w) r
def coErr (l : List Wt) (sz : List Int) : Int := if sizesErr sz ≠ 0 then sizesErr sz else canonErr sz none l
def badTime (n : Int) : Bool := decide (n < 0) || decide (n > 1073741824)
def posErr (l : List Int) : Int := if l.length > 8 then 6 else if l.any badTime = true then 2 else 0
def cyErr (c : Cy) (sz : List Int) : Int :=
  if sizesErr sz ≠ 0 then sizesErr sz
  else if c.base < 0 ∨ c.number ≤ c.base ∨ c.number > 1073741824 then 2
  else if badTime c.time = true then 24
  else if posErr c.pos ≠ 0 then posErr c.pos
  else coErr c.wr sz
instance : Codec Cy where
  sz := 5
  ok r := ∃ b n t p w, r = [.int .i64 b, .int .i64 n, .int .i64 t, p, w] ∧ p.Is Int ∧ w.Is Wt
  dec r := match r with | [.int _ b, .int _ n, .int _ t, p, w] => ⟨b, n, t, p.to Int, w.to Wt⟩ | _ => ⟨0, 0, 0, [], []⟩
  enc c := [.int .i64 c.base, .int .i64 c.number, .int .i64 c.time, encD c.pos, encD c.wr]
  ok_enc c := ⟨_, _, _, _, _, rfl, encD_is _, encD_is _⟩
  dec_enc c := by simp only [encD_to]
  len r := by rintro ⟨_, _, _, _, _, rfl, _⟩; rfl
structure CyD where
  b : Int
  n : Int
  t : Int
  p : D
  w : D
def CyD.cy (x : CyD) : Cy := ⟨x.b, x.n, x.t, x.p.to Int, x.w.to Wt⟩
def CyD.Ok (x : CyD) : Prop := x.p.Is Int ∧ x.w.Is Wt ∧ x.p.len ≤ 1048576 ∧ x.w.len ≤ 1048576 ∧ ∀ w, w ∈ x.w.to Wt → w.data.length ≤ 1048576
def CyOk (c : Cy) : Prop := c.pos.length ≤ 1048576 ∧ c.wr.length ≤ 1048576 ∧ ∀ w, w ∈ c.wr → w.data.length ≤ 1048576
def rdCy : Rd1 CyD where
  read x := match x with
    | .agg [.int .i64 b, .int .i64 n, .int .i64 t, p, w] => match rdD.read p, rdD.read w with
      | some p, some w => some ⟨b, n, t, p, w⟩
      | _, _ => none
    | _ => none
  canon x := .agg [.int .i64 x.b, .int .i64 x.n, .int .i64 x.t, .dat x.p, .dat x.w]
  right H E x b h hok := by
    split at h
    · split at h
      · rename_i hp hw
        cases h
        obtain ⟨h1, h2⟩ := rdD.right H E _ _ hp hok.2.2.2.1
        obtain ⟨h3, h4⟩ := rdD.right H E _ _ hw hok.2.2.2.2.1
        exact ⟨by simp only [SV.den, SV.denL, h1, h3, rdD], trivial, trivial, trivial, h2, h4, trivial⟩
      · cases h
    · cases h
theorem cy_cell {d : D} (h : d.Is Cy) {i : Nat} (hi : i < (d.to Cy).length) :
    d.HasCells i 0 [.int .i64, .int .i64, .int .i64, .slc, .slc] ∧ (d.cell i 3).Is Int ∧ (d.cell i 4).Is Wt ∧
    (d.to Cy)[i] = (CyD.mk (d.getInt i 0) (d.getInt i 1) (d.getInt i 2) (d.cell i 3) (d.cell i 4)).cy := by
  obtain ⟨r, h1, ⟨b, n, t, p, w, rfl, hp, hw⟩, h3⟩ := h.row hi
  rw [h3]
  obtain ⟨p1, p2, p3, rfl, _⟩ := hp.slc
  obtain ⟨q1, q2, q3, rfl, _⟩ := hw.slc
  refine ⟨⟨⟨b, by simp [D.cellAt, h1]⟩, ⟨n, by simp [D.cellAt, h1]⟩, ⟨t, by simp [D.cellAt, h1]⟩, ⟨p1, p2, p3, by simp [D.cellAt, h1]⟩, ⟨q1, q2, q3, by simp [D.cellAt, h1]⟩, trivial⟩, ?_, ?_, ?_⟩
  · simpa [D.cell, D.cellAt, h1] using hp
  · simpa [D.cell, D.cellAt, h1] using hw
  · simp [CyD.cy, D.getInt, D.cell, D.cellAt, h1, Codec.dec]
def spCo (x : D × D) : SpecR := .scalar [x.1.Is Wt ∧ x.1.len ≤ 1048576 ∧ (∀ w, w ∈ x.1.to Wt → w.data.length ≤ 1048576) ∧ x.2.Is Int ∧ x.2.len ≤ 1048576] (.int .i64 (coErr (x.1.to Wt) (x.2.to Int)))
def posT (l : List Int) : Int := if l.any badTime = true then 2 else 0
def posL (l : List Int) (n : Int) : Int := if l.length < n ∨ l.length > 8 then 6 else if l.any badTime = true then 2 else 0
def spPos (x : D) : SpecR := .scalar [x.Is Int ∧ x.len ≤ 1048576] (.int .i64 (posT (x.to Int)))
def spPosL (x : D × Int) : SpecR := .scalar [x.1.Is Int ∧ x.1.len ≤ 1048576] (.int .i64 (posL (x.1.to Int) x.2))
def spCyCk (x : CyD × D) : SpecR := .scalar [x.1.Ok ∧ x.2.Is Int ∧ x.2.len ≤ 1048576] (.int .i64 (cyErr x.1.cy (x.2.to Int)))
def spCySame (x : CyD × CyD) : SpecR := .scalar [x.1.Ok ∧ x.2.Ok] (.bool (decide (x.1.cy = x.2.cy)))
def fewW (l : List Wt) : Bool := !((l.take 60).any fun w => decide (w.data.length > 24)) && decide (l.length ≤ 40)
def spFewW (x : D) : SpecR := .scalar [x.Is Wt] (.bool (fewW (x.to Wt)))
def fewC (c : Cy) : Bool := decide (c.pos.length ≤ 40) && fewW c.wr
def spFewC (x : CyD) : SpecR := .scalar [x.p.Is Int ∧ x.w.Is Wt] (.bool (fewC x.cy))
def most : List Int := List.replicate 8 4096
noncomputable def spMost (_ : Unit) : SpecR := .data [] fun ds => .dat ((ds 0).like most)
structure Rl where
  near : Tgt
  far : Tgt
  src : Src
  kept : List Cy
deriving DecidableEq
def zRl : Rl := ⟨zTgt, zTgt, zSrc, []⟩
def leadsI : List Cy → Int → Int × Bool
  | [], a => (a, true)
  | c :: r, a => if c.base > a then (c.number, false) else leadsI r c.number
def formedR (r : Rl) : Bool :=
  !(decide (r.near.site = r.far.site) || decide (r.src.site ≠ r.far.site) || decide (r.near.epoch ≠ r.far.epoch) || decide (r.near.epoch ≠ r.src.epoch)) &&
  !(decide (r.near.stored ≠ r.near.applied) || decide (r.far.stored ≠ r.src.stored) || decide (r.far.applied ≠ r.src.applied)) &&
  (r.kept.all fun c => decide (cyErr c most = 0)) && decide (r.kept.map Cy.number = r.src.offered) && (leadsI r.kept r.src.applied).2 && decide ((leadsI r.kept r.src.applied).1 ≤ r.near.applied)
def ckRl (r : Rl) : Int :=
  if checkTarget r.near ≠ 0 then checkTarget r.near else if checkTarget r.far ≠ 0 then checkTarget r.far else if checkSource r.src ≠ 0 then checkSource r.src
  else if formedR r = false then 3 else 0
def newRl (e n f a : Int) : Rl × Int :=
  if (newTarget e n a).2 ≠ 0 then (zRl, (newTarget e n a).2) else if (newTarget e f a).2 ≠ 0 then (zRl, (newTarget e f a).2)
  else if n = f then (zRl, 1) else (⟨(newTarget e n a).1, (newTarget e f a).1, (newSource e f a).1, []⟩, 0)
def lagRl (r : Rl) : Int := if ckRl r ≠ 0 then 0 else r.near.applied - r.far.applied
def frontRl (r : Rl) : Int := (r.kept.map Cy.number).getLastD r.src.applied
def applyRl (r : Rl) (c : Cy) : Rl × List Msg × Int :=
  if ckRl r ≠ 0 then (zRl, [], ckRl r) else if cyErr c most ≠ 0 then (zRl, [], cyErr c most)
  else if c.number ≤ r.near.applied then (zRl, [], 8) else if c.base > r.near.applied then (zRl, [], 15)
  else if c.base > frontRl r then ({ r with near := { r.near with stored := c.number, applied := c.number } }, [], 0)
  else if (offer r.src c.number).2.2 ≠ 0 then (zRl, [], (offer r.src c.number).2.2)
  else (⟨{ r.near with stored := c.number, applied := c.number }, r.far, (offer r.src c.number).1, r.kept ++ [c]⟩, (offer r.src c.number).2.1, 0)
def behindL (l : List Cy) (n : Int) : List Cy := l.filter fun c => decide (c.number > n)
def zCy : Cy := ⟨0, 0, 0, [], []⟩
def nextRl (r : Rl) : Cy × Bool := if ckRl r ≠ 0 then (zCy, false) else match behindL r.kept r.src.stored with
  | [] => (zCy, false)
  | c :: _ => (c, true)
def learnRl (r : Rl) (m : Msg) : Rl × List Msg :=
  if ckRl r ≠ 0 then (r, [])
  else
    let s := (learn r.src m).1
    if s.epoch > r.src.epoch then (⟨{ r.near with epoch := s.epoch }, { r.far with epoch := s.epoch, stored := s.stored, applied := s.applied }, s, []⟩, (learn r.src m).2)
    else (⟨r.near, { r.far with stored := s.stored, applied := s.applied }, s, behindL r.kept s.applied⟩, (learn r.src m).2)
noncomputable def spOff (x : D) : SpecR := .data [x.Is Cy ∧ x.len ≤ 1048576] fun ds => .dat ((ds 0).like ((x.to Cy).map Cy.number))
end Sx
end
section
open Go
namespace Sx
def onOk (e : Int) (d : D) : D := if e = 0 then d else .slc none 0 []
noncomputable def ckSV (x : HiD) (ds : Nat → D) : SV := .tup [.agg [.dat (onOk (checkH x.hist).1 x.s), .dat (onOk (checkH x.hist).1 x.w), .dat (onOk (checkH x.hist).1 x.e), .dat ((ds 0).like (checkH x.hist).2.issued), .dat ((ds 1).like (checkH x.hist).2.acked)], .int .i64 (checkH x.hist).1]
noncomputable def spCk (x : HiD) : SpecR := .data [x.Right] (ckSV x)
def spCkI (x : HiD) : SpecR := .scalar [x.Right] (.int .i64 (checkH x.hist).1)

section
variable {P : Program} {w : World} {H : HV}
end
end Sx
end
section
open Go
namespace Sx
noncomputable def hiSV (ds : Nat → D) (h : Hist) : SV := .agg [.dat ((ds 0).like h.sizes), .dat ((ds 1).like h.writes), .dat ((ds 2).like h.events)]
noncomputable def spCopy (x : HiD) : SpecR := .data [x.Right] fun ds => hiSV ds x.hist
theorem slc_same {α : Type} [Codec α] {d : D} (h : d.Is α) (hd : Hd) {s : Nat} (hs : s = Codec.sz α) : (D.slc hd s d.rows).Is α ∧ (D.slc hd s d.rows).to α = d.to α := is_of hs (rows_of h)
section
variable {P : Program} {w : World} {H : HV}
end
def zHist : Hist := ⟨[], [], []⟩
def newH (s : List Int) : Hist × Int := if sizesErr s ≠ 0 then (zHist, sizesErr s) else (⟨s, [], []⟩, 0)
noncomputable def spNewH (x : D) : SpecR := .data [x.Is Int ∧ x.len ≤ 1048576] fun ds => .tup [hiSV ds (newH (x.to Int)).1, .int .i64 (newH (x.to Int)).2]
def issueH (h : Hist) (w : Wt) : Hist × Int × Int :=
  if (checkH h).1 ≠ 0 then (zHist, 0, (checkH h).1) else if h.writes.length ≥ 4096 then (zHist, 0, 6)
  else if fitsErr h.sizes w ≠ 0 then (zHist, 0, fitsErr h.sizes w) else (⟨h.sizes, h.writes ++ [w], h.events ++ [⟨0, h.writes.length⟩]⟩, h.writes.length, 0)
noncomputable def spIssueH (x : HiD × WtD) : SpecR := .data [x.1.Right ∧ x.1.e.len ≤ 1000000 ∧ x.2.Ok] fun ds => .tup [hiSV ds (issueH x.1.hist x.2.wt).1, .int .i64 (issueH x.1.hist x.2.wt).2.1, .int .i64 (issueH x.1.hist x.2.wt).2.2]
def ackH (h : Hist) (n : Int) : Hist × Int :=
  if (checkH h).1 ≠ 0 then (zHist, (checkH h).1) else if n < 0 ∨ n ≥ h.writes.length then (zHist, 7)
  else if atEv h.events ⟨1, n⟩ ≥ 0 then (zHist, 8) else (⟨h.sizes, h.writes, h.events ++ [⟨1, n⟩]⟩, 0)
noncomputable def spAckH (x : HiD × Int) : SpecR := .data [x.1.Right ∧ x.1.e.len ≤ 1000000] fun ds => .tup [hiSV ds (ackH x.1.hist x.2).1, .int .i64 (ackH x.1.hist x.2).2]
theorem img_ok {l : List Int} (h1 : sizesErr l = 0) (d : D) : ImgOk (d.like (imgOf l)) := by
  refine ⟨D.like_is _ _, ?_, fun v hv => ?_⟩
  · rw [D.Is.length (α := Vol), D.like_to]
    unfold imgOf
    rw [if_neg (by simp [h1])]
    have := sizesErr_ok h1
    simp only [List.length_map]; omega
  · rw [D.like_to] at hv
    unfold imgOf at hv
    rw [if_neg (by simp [h1])] at hv
    obtain ⟨n, hn, rfl⟩ := List.mem_map.1 hv
    have := (sizesErr_ok h1).2.2 n hn
    simp only [volOf, List.length_replicate]; omega
def spSameH (x : HiD × HiD) : SpecR := .scalar [x.1.Right ∧ x.2.s.Is Int ∧ x.2.w.Is Wt ∧ x.2.e.Is Ev] (.bool (decide (x.1.hist = x.2.hist)))
end Sx
end
section
open Go
namespace Sx
def idxG {α : Type} (l : List α) (p : α → Bool) : Int := match l.findIdx? p with
  | some i => i
  | none => -1
theorem idxG_any {α : Type} (xs : List α) (p : α → Bool) : decide (idxG xs p ≥ 0) = xs.any p := by
  unfold idxG
  cases h : xs.findIdx? p with
  | none =>
    rw [List.findIdx?_eq_none_iff] at h
    rw [show xs.any p = false from by rw [List.any_eq_false]; exact fun x hx => by simp [h x hx]]
    rfl
  | some i =>
    rw [List.findIdx?_eq_some_iff_getElem] at h
    obtain ⟨h1, h2, _⟩ := h
    rw [show xs.any p = true from List.any_eq_true.2 ⟨_, List.getElem_mem h1, h2⟩]
    simp only [decide_eq_true_eq]
    omega
theorem idxG_hit {α : Type} {l : List α} {p : α → Bool} {j : Nat} (hj : j < l.length) (hpre : (l.take j).findIdx? p = none) (hb : p l[j] = true) : idxG l p = j := by
  have : l.findIdx? p = some j := by
    rw [List.findIdx?_eq_some_iff_getElem]
    refine ⟨hj, hb, fun i hi => ?_⟩
    rw [List.findIdx?_eq_none_iff] at hpre
    have := hpre l[i] (List.mem_take_iff_getElem.2 ⟨i, by omega, rfl⟩)
    simp [this]
  unfold idxG; rw [this]
theorem idxG_miss {α : Type} {l : List α} {p : α → Bool} {j : Nat} (hj : j < l.length) (hpre : (l.take j).findIdx? p = none) (hb : p l[j] = false) : (l.take (j + 1)).findIdx? p = none := by
  rw [List.take_succ_eq_append_getElem hj, List.findIdx?_append, hpre]
  simp [hb]
theorem idxG_none {α : Type} {l : List α} {p : α → Bool} (hpre : (l.take l.length).findIdx? p = none) : idxG l p = -1 := by
  rw [List.take_length] at hpre
  unfold idxG; rw [hpre]
def asc (l : List Int) : Bool := (List.range (l.length - 1)).all fun i => decide (l.getD i 0 < l.getD (i + 1) 0)

def spAsc (d : D) : SpecR := .scalar [d.Is Int ∧ d.len ≤ 1048576] (.bool (asc (d.to Int)))
def spIxI (x : D × Int) : SpecR := .scalar [x.1.Is Int ∧ x.1.len ≤ 1048576] (.int .i64 (idxG (x.1.to Int) fun y => decide (x.2 = y)))
def spIxB (x : D × Bool) : SpecR := .scalar [x.1.Is Bool ∧ x.1.len ≤ 1048576] (.int .i64 (idxG (x.1.to Bool) fun y => decide (x.2 = y)))
def spHasB (x : D × Bool) : SpecR := .scalar [x.1.Is Bool ∧ x.1.len ≤ 1048576] (.bool ((x.1.to Bool).any fun y => decide (x.2 = y)))
end Sx
end
section
open Go
namespace Sx
theorem leads_snoc : ∀ (l : List Cy) (a : Int) (c : Cy), leadsI (l ++ [c]) a = if (leadsI l a).2 = true then (c.number, !decide (c.base > (leadsI l a).1)) else leadsI l a
  | [], a, c => by
    show (if c.base > a then (c.number, false) else (c.number, true)) = _
    by_cases h : c.base > a
    · rw [if_pos h]; simp [leadsI, h]
    · rw [if_neg h]; simp [leadsI, h]
  | x :: r, a, c => by
    show (if x.base > a then (x.number, false) else leadsI (r ++ [c]) x.number) = _
    by_cases h : x.base > a
    · rw [if_pos h]
      have e : leadsI (x :: r) a = (x.number, false) := by show (if x.base > a then _ else _) = _; rw [if_pos h]
      rw [e]; simp
    · rw [if_neg h]
      have e : leadsI (x :: r) a = leadsI r x.number := by show (if x.base > a then _ else _) = _; rw [if_neg h]
      rw [e]
      exact leads_snoc r x.number c
theorem leads_bad : ∀ (l r : List Cy) (a : Int), (leadsI l a).2 = false → leadsI (l ++ r) a = leadsI l a
  | [], _, _, h => by cases h
  | x :: l, r, a, h => by
    by_cases hb : x.base > a
    · show (if x.base > a then _ else _) = (if x.base > a then _ else _); rw [if_pos hb, if_pos hb]
    · have e : leadsI (x :: l) a = leadsI l x.number := by show (if x.base > a then _ else _) = _; rw [if_neg hb]
      rw [e] at h ⊢
      show (if x.base > a then _ else leadsI (l ++ r) x.number) = _
      rw [if_neg hb]
      exact leads_bad l r x.number h
theorem leads_cut {l : List Cy} {a : Int} {j : Nat} (h : (leadsI (l.take j) a).2 = false) : leadsI l a = leadsI (l.take j) a := by
  conv => lhs; rw [← List.take_append_drop j l]
  exact leads_bad _ _ _ h
def lastW : Option Wt → List Wt → Option Wt
  | p, [] => p
  | _, x :: l => lastW (some x) l
theorem lastW_snoc : ∀ (l : List Wt) (p : Option Wt) (x : Wt), lastW p (l ++ [x]) = some x
  | [], _, _ => rfl
  | _ :: l, _, x => lastW_snoc l _ x
theorem canon_snoc (sz : List Int) : ∀ (l : List Wt) (p : Option Wt) (w : Wt), canonErr sz p (l ++ [w]) = if canonErr sz p l ≠ 0 then canonErr sz p l else if fitsErr sz w ≠ 0 then fitsErr sz w else if cyBad (lastW p l) w = true then 3 else 0
  | [], p, w => by
    show (if fitsErr sz w ≠ 0 then fitsErr sz w else if cyBad p w = true then 3 else 0) = if (0 : Int) ≠ 0 then (0 : Int) else _
    rw [if_neg (show ¬(0 : Int) ≠ 0 by simp)]; rfl
  | x :: l, p, w => by
    have e1 : canonErr sz p (x :: l) = if fitsErr sz x ≠ 0 then fitsErr sz x else if cyBad p x = true then 3 else canonErr sz (some x) l := rfl
    have e2 : canonErr sz p (x :: l ++ [w]) = if fitsErr sz x ≠ 0 then fitsErr sz x else if cyBad p x = true then 3 else canonErr sz (some x) (l ++ [w]) := rfl
    rw [e2, e1]
    by_cases h1 : fitsErr sz x ≠ 0
    · rw [if_pos h1, if_pos h1, if_pos h1]
    · rw [if_neg h1, if_neg h1]
      by_cases h2 : cyBad p x = true
      · rw [if_pos h2, if_pos h2, if_pos (by decide)]
      · rw [if_neg h2, if_neg h2]
        exact canon_snoc sz l (some x) w
theorem canon_cut (sz : List Int) : ∀ (l r : List Wt) (p : Option Wt), canonErr sz p l ≠ 0 → canonErr sz p (l ++ r) = canonErr sz p l
  | [], _, _, h => absurd rfl h
  | x :: l, r, p, h => by
    have e1 : canonErr sz p (x :: l) = if fitsErr sz x ≠ 0 then fitsErr sz x else if cyBad p x = true then 3 else canonErr sz (some x) l := rfl
    have e2 : canonErr sz p (x :: l ++ r) = if fitsErr sz x ≠ 0 then fitsErr sz x else if cyBad p x = true then 3 else canonErr sz (some x) (l ++ r) := rfl
    rw [e1] at h
    rw [e2, e1]
    by_cases h1 : fitsErr sz x ≠ 0
    · rw [if_pos h1, if_pos h1]
    · rw [if_neg h1] at h ⊢
      rw [if_neg h1]
      by_cases h2 : cyBad p x = true
      · rw [if_pos h2, if_pos h2]
      · rw [if_neg h2] at h ⊢
        rw [if_neg h2]
        exact canon_cut sz l r (some x) h
theorem canon_take {sz : List Int} {l : List Wt} {j : Nat} (h : canonErr sz none (l.take j) ≠ 0) : canonErr sz none l = canonErr sz none (l.take j) := by
  conv => lhs; rw [← List.take_append_drop j l]
  exact canon_cut sz _ _ _ h
theorem lastW_take {l : List Wt} {j : Nat} (hj : j < l.length) : lastW none (l.take (j + 1)) = some l[j] := by
  rw [List.take_succ_eq_append_getElem hj]; exact lastW_snoc _ _ _
def spIxT (x : D × Unit) : SpecR := .scalar [x.1.Is Int ∧ x.1.len ≤ 1048576] (.int .i64 (idxG (x.1.to Int) badTime))
end Sx
end
section
open Go
namespace Sx
def restartRl (r : Rl) (epoch applied : Int) : Rl × Int :=
  if ckRl r ≠ 0 then (zRl, ckRl r) else if epoch < r.near.epoch then (zRl, 13)
  else if epoch > 1073741824 ∨ applied < 0 ∨ applied > r.near.applied then (zRl, 2)
  else if (leadsI (behindL r.kept applied) applied).2 = false ∨ (leadsI (behindL r.kept applied) applied).1 ≠ r.near.applied then (zRl, 15)
  else (⟨{ r.near with epoch := epoch }, { r.far with epoch := epoch, stored := applied, applied := applied }, ⟨epoch, r.src.site, (behindL r.kept applied).map Cy.number, applied, applied⟩, behindL r.kept applied⟩, 0)
end Sx
end
section
open Go
namespace Sx
/-! Values that are alike. -/
def SE (X Y : SV) : Prop := (∀ E E', X.den E = Y.den E') ∧ ∀ H, X.Ok H → Y.Ok H
inductive SEL : List SV → List SV → Prop
  | nil : SEL [] []
  | cons {x y : SV} {r s : List SV} : SE x y → SEL r s → SEL (x :: r) (y :: s)
theorem SEL.den {r s : List SV} (h : SEL r s) (E E' : Env) : SV.denL E r = SV.denL E' s := by
  induction h with
  | nil => rfl
  | cons h _ ih => simp only [SV.denL, h.1 E E', ih]
theorem SEL.ok {r s : List SV} (h : SEL r s) (H : HV) : SV.OkL H r → SV.OkL H s := by
  induction h with
  | nil => exact id
  | cons h _ ih => exact fun k => ⟨h.2 H k.1, ih k.2⟩
theorem se_int {k : IntKind} {a b : Int} (h : a = b) : SE (.int k a) (.int k b) := by subst h; exact ⟨fun _ _ => rfl, fun _ h => h⟩
theorem se_lb {a b : Bool} (h : a = b) : SE (.lb a) (.bool b) := by subst h; exact ⟨fun _ _ => by simp [SV.den], fun _ _ => trivial⟩
theorem se_agg {r s : List SV} (h : SEL r s) : SE (.agg r) (.agg s) := ⟨fun E E' => by simp only [SV.den, h.den E E'], fun H k => by simp only [SV.Ok] at k ⊢; exact h.ok H k⟩
theorem se_tup {r s : List SV} (h : SEL r s) : SE (.tup r) (.tup s) := ⟨fun E E' => by simp only [SV.den, h.den E E'], fun H k => by simp only [SV.Ok] at k ⊢; exact h.ok H k⟩
theorem SEL.app {a b c d : List SV} (h : SEL a b) (k : SEL c d) : SEL (a ++ c) (b ++ d) := by
  induction h with
  | nil => exact k
  | cons h _ ih => exact .cons h ih
section
variable {α : Type} [Codec α]
theorem Stands.se {X : SV} {xs : List α} (h : Stands α X xs) : ∃ d : D, SE X (.dat (d.like xs)) := by
  obtain ⟨d, h1, h2, h3, h4⟩ := h
  refine ⟨d, fun E E' => ?_, fun H k => ?_⟩
  · simp only [SV.den, D.like_self h2 h3, h1]
  · simp only [SV.Ok, D.like_self h2 h3]; exact ⟨h4 _ k, h2.slc⟩
end
theorem ret_se {P : Program} {w : World} {H : HV} {v : SV} {g : (Nat → D) → SV} (ds : Nat → D) (h : SE v (g ds)) : (Tree.ret v).holds P ⟨w, H⟩ (RetD w H g) := ret_D ds h.1 h.2
/-! Cycles. -/
noncomputable def cyL (p w : D) (c : Cy) : List SV := [.int .i64 c.base, .int .i64 c.number, .int .i64 c.time, .dat (p.like c.pos), .dat (w.like c.wr)]
noncomputable def spCpC (x : CyD) : SpecR := .data [x.Ok] fun ds => .agg (cyL (ds 0) (ds 1) x.cy)
noncomputable def spCpW (x : D) : SpecR := .data [x.Is Wt ∧ x.len ≤ 1048576 ∧ ∀ w, w ∈ x.to Wt → w.data.length ≤ 1048576] fun ds => .dat ((ds 0).like (x.to Wt))
theorem cyL_sel {b n t : Int} {X Y : SV} {ps : List Int} {ws : List Wt} {c : Cy} (hx : Stands Int X ps) (hy : Stands Wt Y ws) (hc : c = ⟨b, n, t, ps, ws⟩) : ∃ p w : D, SEL [.int .i64 b, .int .i64 n, .int .i64 t, X, Y] (cyL p w c) := by
  subst hc
  obtain ⟨p, h1⟩ := hx.se
  obtain ⟨w, h2⟩ := hy.se
  exact ⟨p, w, .cons (se_int rfl) (.cons (se_int rfl) (.cons (se_int rfl) (.cons h1 (.cons h2 .nil))))⟩
theorem ret_cy {P : Program} {w : World} {H : HV} {b n t : Int} {X Y : SV} {ps : List Int} {ws : List Wt} {c : Cy} (hx : Stands Int X ps) (hy : Stands Wt Y ws) (hc : c = ⟨b, n, t, ps, ws⟩) :
    (Tree.ret (.agg [.int .i64 b, .int .i64 n, .int .i64 t, X, Y])).holds P ⟨w, H⟩ (RetD w H fun ds => .agg (cyL (ds 0) (ds 1) c)) := by
  obtain ⟨p, q, h⟩ := cyL_sel hx hy hc
  exact ret_se (fun i => match i with | 0 => p | _ => q) (se_agg h)
theorem cy_one {b n t : Int} {p w : D} {ps : List Int} {ws : List Wt} (hp : p.Is Int) (hp' : p.to Int = ps) (hw : w.Is Wt) (hw' : w.to Wt = ws) : SRows Cy [[.int .i64 b, .int .i64 n, .int .i64 t, p, w]] [⟨b, n, t, ps, ws⟩] := by
  subst hp'; subst hw'
  exact rows_one ⟨_, _, _, _, _, rfl, hp, hw⟩ rfl
/-! Relays. -/
structure RlD where
  near : Tgt
  far : Tgt
  src : SrcD
  k : D
def RlD.rl (x : RlD) : Rl := ⟨x.near, x.far, x.src.src, x.k.to Cy⟩
def RlD.Ok (x : RlD) : Prop := x.src.d.Is Int ∧ x.k.Is Cy ∧ x.src.d.len ≤ 1048576 ∧ x.k.len ≤ 1048576 ∧ ∀ c, c ∈ x.k.to Cy → CyOk c
def rlRd (l : List SV) : Option RlD := match l with
  | [.int .i64 a, .int .i64 b, .int .i64 c, .int .i64 d, .int .i64 e, .int .i64 f, .int .i64 g, .int .i64 h, .int .i64 i, .int .i64 j, o, .int .i64 k, .int .i64 l, q] => match rdD.read o, rdD.read q with
    | some o, some q => some ⟨⟨a, b, c, d⟩, ⟨e, f, g, h⟩, ⟨i, j, o, k, l⟩, q⟩
    | _, _ => none
  | _ => none
def rlCs (x : RlD) : List SV := [.int .i64 x.near.epoch, .int .i64 x.near.site, .int .i64 x.near.stored, .int .i64 x.near.applied, .int .i64 x.far.epoch, .int .i64 x.far.site, .int .i64 x.far.stored, .int .i64 x.far.applied,
  .int .i64 x.src.e, .int .i64 x.src.s, .dat x.src.d, .int .i64 x.src.st, .int .i64 x.src.ap, .dat x.k]
def rdRl : Rd1 RlD where
  read x := match x with
    | .agg l => rlRd l
    | _ => none
  canon x := .agg (rlCs x)
  right H E x b h hok := by
    split at h
    · rename_i l
      unfold rlRd at h
      split at h
      · split at h
        · rename_i hp hw
          cases h
          obtain ⟨h1, h2⟩ := rdD.right H E _ _ hp hok.2.2.2.2.2.2.2.2.2.2.1
          obtain ⟨h3, h4⟩ := rdD.right H E _ _ hw hok.2.2.2.2.2.2.2.2.2.2.2.2.2.1
          exact ⟨by simp only [SV.den, SV.denL, h1, h3, rdD, rlCs], trivial, trivial, trivial, trivial, trivial, trivial, trivial, trivial, trivial, trivial, h2, trivial, trivial, h4, trivial⟩
        · cases h
      · cases h
    · cases h
noncomputable def rlL (o k : D) (r : Rl) : List SV := [.int .i64 r.near.epoch, .int .i64 r.near.site, .int .i64 r.near.stored, .int .i64 r.near.applied, .int .i64 r.far.epoch, .int .i64 r.far.site, .int .i64 r.far.stored, .int .i64 r.far.applied,
  .int .i64 r.src.epoch, .int .i64 r.src.site, .dat (o.like r.src.offered), .int .i64 r.src.stored, .int .i64 r.src.applied, .dat (k.like r.kept)]
theorem rlL_sel {a b c d e f g h i j k l : Int} {X Y : SV} {os : List Int} {ks : List Cy} {r : Rl} (hx : Stands Int X os) (hy : Stands Cy Y ks) (hr : r = ⟨⟨a, b, c, d⟩, ⟨e, f, g, h⟩, ⟨i, j, os, k, l⟩, ks⟩) :
    ∃ p q : D, SEL [.int .i64 a, .int .i64 b, .int .i64 c, .int .i64 d, .int .i64 e, .int .i64 f, .int .i64 g, .int .i64 h, .int .i64 i, .int .i64 j, X, .int .i64 k, .int .i64 l, Y] (rlL p q r) := by
  subst hr
  obtain ⟨p, h1⟩ := hx.se
  obtain ⟨q, h2⟩ := hy.se
  exact ⟨p, q, .cons (se_int rfl) (.cons (se_int rfl) (.cons (se_int rfl) (.cons (se_int rfl) (.cons (se_int rfl) (.cons (se_int rfl) (.cons (se_int rfl) (.cons (se_int rfl) (.cons (se_int rfl) (.cons (se_int rfl) (.cons h1 (.cons (se_int rfl) (.cons (se_int rfl) (.cons h2 .nil)))))))))))))⟩
def rdQuad : Rd (Int × Int × Int × Int) := rdInt.four rdInt rdInt rdInt
noncomputable def spNewRl (x : Int × Int × Int × Int) : SpecR := .data [] fun ds => .tup [.agg (rlL (ds 0) (ds 1) (newRl x.1 x.2.1 x.2.2.1 x.2.2.2).1), .int .i64 (newRl x.1 x.2.1 x.2.2.1 x.2.2.2).2]
def spCkRl (x : RlD) : SpecR := .scalar [x.Ok] (.int .i64 (ckRl x.rl))
def spLagRl (x : RlD) : SpecR := .scalar [x.Ok] (.int .i64 (lagRl x.rl))
noncomputable def spApplyRl (x : RlD × CyD) : SpecR := .data [x.1.Ok ∧ x.2.Ok] fun ds => .tup [.agg (rlL (ds 0) (ds 1) (applyRl x.1.rl x.2.cy).1), .dat ((ds 2).like (applyRl x.1.rl x.2.cy).2.1), .int .i64 (applyRl x.1.rl x.2.cy).2.2]
noncomputable def spNextRl (x : RlD) : SpecR := .data [x.Ok] fun ds => .tup [.agg (cyL (ds 0) (ds 1) (nextRl x.rl).1), .bool (nextRl x.rl).2]
noncomputable def spLearnRl (x : RlD × MsgD) : SpecR := .data [x.1.Ok] fun ds => .tup [.agg (rlL (ds 0) (ds 1) (learnRl x.1.rl x.2.msg).1), .dat ((ds 2).like (learnRl x.1.rl x.2.msg).2)]
noncomputable def spRestartRl (x : RlD × Int × Int) : SpecR := .data [x.1.Ok] fun ds => .tup [.agg (rlL (ds 0) (ds 1) (restartRl x.1.rl x.2.1 x.2.2).1), .int .i64 (restartRl x.1.rl x.2.1 x.2.2).2]
def spSameRl (x : RlD × RlD) : SpecR := .scalar [x.1.Ok ∧ x.2.Ok] (.bool (decide (x.1.rl = x.2.rl)))
def spFewRl (x : RlD) : SpecR := .scalar [x.src.d.Is Int ∧ x.k.Is Cy] (.bool (decide (x.src.d.len ≤ 40) && decide (x.k.len ≤ 40) && (x.k.to Cy).all fewC))
end Sx
end
section
open Go
namespace Sx
abbrev tsTgt : List TS := [tsJ, tsJ, tsJ, tsJ]
abbrev tsSrc : List TS := [tsJ, tsJ, .slc tsJ, tsJ, tsJ]
abbrev tsCy : List TS := [tsJ, tsJ, tsJ, .slc tsJ, .slc (.st tsWt)]
abbrev tsRl : List TS := [.st tsTgt, .st tsTgt, .st tsSrc, .slc (.st tsCy)]
abbrev tsMsg : List TS := [tsJ, tsJ, tsJ, tsJ, tsJ, tsJ, .slc tsJ, .slc (.int .u8)]
end Sx
end
section
namespace Sx
open Go RowKit
def Rd1.five {α β γ δ ε : Type} (a : Rd1 α) (b : Rd1 β) (c : Rd1 γ) (d : Rd1 δ) (e : Rd1 ε) : Rd (α × β × γ × δ × ε) where
  read l := match l with
    | [x, y, z, u, v] => match a.read x, b.read y, c.read z, d.read u, e.read v with
      | some p, some q, some r, some s, some t => some (p, q, r, s, t)
      | _, _, _, _, _ => none
    | _ => none
  canon x := [a.canon x.1, b.canon x.2.1, c.canon x.2.2.1, d.canon x.2.2.2.1, e.canon x.2.2.2.2]
  right H E args x h hok := by
    split at h
    · split at h
      · rename_i h1 h2 h3 h4 h5
        cases h
        obtain ⟨i1, i2⟩ := a.right H E _ _ h1 hok.1
        obtain ⟨j1, j2⟩ := b.right H E _ _ h2 hok.2.1
        obtain ⟨k1, k2⟩ := c.right H E _ _ h3 hok.2.2.1
        obtain ⟨l1, l2⟩ := d.right H E _ _ h4 hok.2.2.2.1
        obtain ⟨m1, m2⟩ := e.right H E _ _ h5 hok.2.2.2.2.1
        exact ⟨by simp only [SV.denL, i1, j1, k1, l1, m1], i2, j2, k2, l2, m2, trivial⟩
      · cases h
    · cases h
abbrev T3 := Int × Int × Int
def rdT3 : Rd1 T3 where
  read x := match x with | .agg [.int .i64 a, .int .i64 b, .int .i64 c] => some (a, b, c) | _ => none
  canon x := .agg [.int .i64 x.1, .int .i64 x.2.1, .int .i64 x.2.2]
  right H E x b h hok := by
    split at h
    · cases h; exact ⟨rfl, trivial, trivial, trivial, trivial⟩
    · cases h
abbrev Fe := Int × Int × Bool
def rdFe : Rd1 Fe where
  read x := match x with
    | .agg [.int .i64 a, .int .i64 b, c] => match rdBool.read c with
      | some c => some (a, b, c)
      | none => none
    | _ => none
  canon x := .agg [.int .i64 x.1, .int .i64 x.2.1, .bool x.2.2]
  right H E x b h hok := by
    split at h
    · split at h
      · rename_i hc
        cases h
        obtain ⟨h1, h2⟩ := rdBool.right H E _ _ hc hok.2.2.1
        exact ⟨by simp only [SV.den, SV.denL, h1, rdBool], trivial, trivial, h2, trivial⟩
      · cases h
    · cases h
def TimeP (n : Int) : Prop := 0 ≤ n ∧ n ≤ 1073741824
instance (n : Int) : Decidable (TimeP n) := inferInstanceAs (Decidable (_ ∧ _))
def SiteP (n : Int) : Prop := 0 ≤ n ∧ n ≤ 3
instance (n : Int) : Decidable (SiteP n) := inferInstanceAs (Decidable (_ ∧ _))
def FormedP (l : T3) : Prop := SiteP l.1 ∧ TimeP l.2.1 ∧ TimeP l.2.2
instance (l : T3) : Decidable (FormedP l) := inferInstanceAs (Decidable (_ ∧ _))
def WitP (l : T3) : Prop := TimeP l.1 ∧ TimeP l.2.2 ∧ (l.2.1 = -1 ∨ SiteP l.2.1)
instance (l : T3) : Decidable (WitP l) := inferInstanceAs (Decidable (_ ∧ _))
def FenP (f : Fe) : Prop := TimeP f.1 ∧ SiteP f.2.1
instance (f : Fe) : Decidable (FenP f) := inferInstanceAs (Decidable (_ ∧ _))
def admitI (f : Fe) (e s : Int) : Int := if ¬ FenP f then 2 else if e < f.1 then 13 else if e ≠ f.1 then 1 else if f.2.2 = true ∨ s ≠ f.2.1 then 14 else 0
def newFI (e s : Int) : Int := if FenP (e, s, false) then 0 else 2
def raiseI (f : Fe) (e s : Int) : Int := if ¬ FenP f then 2 else if ¬ FenP (e, s, false) then 2 else if ¬ f.1 < e then 13 else 0
def askI (l : T3) (e : Int) : Int := if ¬ FormedP l then 3 else if ¬ (1 ≤ e ∧ e ≤ 1073741824) then 2 else if e < l.2.1 then 13 else 0
def renewI (l : T3) : Int := if ¬ FormedP l then 3 else if l.2.2 = 0 then 12 else 0
def giveL (l : T3) : T3 := if FormedP l then (l.1, min (l.2.1 + 1) 1073741824, 0) else l
def msgC (k f t n v e : Int) : SV := .agg [.int .i64 k, .int .i64 f, .int .i64 t, .int .i64 n, .int .i64 v, .int .i64 e, .nils, .nils]
def spBtw (x : T3) : SpecR := .scalar [] (.bool (decide (x.2.1 ≤ x.1 ∧ x.1 ≤ x.2.2)))
def spSite (x : Int) : SpecR := .scalar [] (.bool (decide (SiteP x)))
def spTime (x : Int) : SpecR := .scalar [] (.bool (decide (TimeP x)))
def spFormed (x : T3) : SpecR := .scalar [] (.bool (decide (FormedP x)))
def wckI (x : T3) : Int := if WitP x then 0 else 3
def spWCk (x : T3) : SpecR := .scalar [] (.int .i64 (wckI x))
def spHolds (x : T3 × Int) : SpecR := .scalar [] (.bool (decide (FormedP x.1 ∧ x.2 < x.1.2.2)))
def spAdmit (x : Fe × Int × Int) : SpecR := .scalar [] (.int .i64 (admitI x.1 x.2.1 x.2.2))
def zi (c : Prop) [Decidable c] (n : Int) : Int := if c then n else 0
def feC (a b : Int) : SV := .agg [.int .i64 a, .int .i64 b, .lb false]
def spNewF (x : Int × Int) : SpecR := .data [] fun _ => (.tup [feC (zi (newFI x.1 x.2 = 0) x.1) (zi (newFI x.1 x.2 = 0) x.2), .int .i64 (newFI x.1 x.2)])
def spRaise (x : Fe × Int × Int) : SpecR := .data [] fun _ => (.tup [feC (zi (raiseI x.1 x.2.1 x.2.2 = 0) x.2.1) (zi (raiseI x.1 x.2.1 x.2.2 = 0) x.2.2), .int .i64 (raiseI x.1 x.2.1 x.2.2)])
def spAsk (x : T3 × Int) : SpecR := .data [] fun _ => (.tup [msgC (zi (askI x.1 x.2 = 0) 15) (zi (askI x.1 x.2 = 0) x.1.1) (zi (askI x.1 x.2 = 0) 4) 0 0 (zi (askI x.1 x.2 = 0) x.2), .int .i64 (askI x.1 x.2)])
def spRenew (x : T3) : SpecR := .data [] fun _ => (.tup [msgC (zi (renewI x = 0) 17) (zi (renewI x = 0) x.1) (zi (renewI x = 0) 4) 0 0 (zi (renewI x = 0) x.2.1), .int .i64 (renewI x)])
def t3C (x : T3) : SV := .agg [.int .i64 x.1, .int .i64 x.2.1, .int .i64 x.2.2]
def spGive (x : T3) : SpecR := .data [] fun _ => (.tup [t3C (giveL x), msgC (zi (FormedP x) 18) (zi (FormedP x) x.1) (zi (FormedP x) 4) 0 0 (zi (FormedP x) x.2.1)])
def untilG (s g r : Int) : Int :=
  if r > 0 then (if 1073741824 < (if 0 > s + r - g then 0 else s + r - g) then 1073741824 else (if 0 > s + r - g then 0 else s + r - g))
  else if r > -1073741824 then (if 0 > s + r - g then 0 else s + r - g) else 0
def untilI (s t g v : Int) : Int := untilG s g (if v < t then v else t)
def learnL (l : T3) (s t g : Int) (k to v e : Int) : T3 :=
  if ¬ FormedP l ∨ ¬ TimeP s ∨ ¬ TimeP t ∨ ¬ TimeP g ∨ to ≠ l.1 ∨ ¬ TimeP e then l
  else if k = 16 ∧ e > l.2.1 then (l.1, e, untilI s t g v)
  else if k = 16 ∧ e = l.2.1 then (l.1, l.2.1, if untilI s t g v > l.2.2 then untilI s t g v else l.2.2)
  else if k = 12 ∧ e > l.2.1 then (l.1, l.2.1, 0)
  else l
def HeldP (w : T3) (n : Int) : Prop := w.2.1 ≠ -1 ∧ n < w.2.2
instance (w : T3) (n : Int) : Decidable (HeldP w n) := inferInstanceAs (Decidable (_ ∧ _))
def renewW (w : T3) (n t f num e : Int) : T3 × List Msg :=
  if e = w.1 ∧ w.2.1 = f ∧ HeldP w n then ((w.1, w.2.1, if n + t > w.2.2 then n + t else w.2.2), [⟨16, 4, f, num, t, w.1, [], []⟩]) else (w, [⟨12, 4, f, num, 0, w.1, [], []⟩])
def handleW (w : T3) (n t : Int) (k f num e : Int) : T3 × List Msg :=
  if ¬ WitP w ∨ ¬ TimeP n ∨ ¬ (1 ≤ t ∧ t ≤ 1073741824 - n) ∨ ¬ SiteP f ∨ ¬ TimeP e then (w, [])
  else if k = 15 then (if e > w.1 ∧ (¬ HeldP w n ∨ w.2.1 = f) then ((e, f, n + t), [⟨16, 4, f, num, t, e, [], []⟩]) else renewW w n t f num e)
  else if k = 17 then renewW w n t f num e
  else if k = 18 then (if e = w.1 ∧ f = w.2.1 then ((w.1, -1, 0), []) else (w, []))
  else (w, [])
def spLearnW (x : T3 × Int × Int × Int × MsgD) : SpecR := .data [] fun _ => (t3C (learnL x.1 x.2.1 x.2.2.1 x.2.2.2.1 x.2.2.2.2.a x.2.2.2.2.c x.2.2.2.2.e x.2.2.2.2.f))
noncomputable def spHandle (x : T3 × Int × Int × MsgD) : SpecR := .data [] fun ds => .tup [t3C (handleW x.1 x.2.1 x.2.2.1 x.2.2.2.a x.2.2.2.b x.2.2.2.d x.2.2.2.f).1, .dat ((ds 0).like (handleW x.1 x.2.1 x.2.2.1 x.2.2.2.a x.2.2.2.b x.2.2.2.d x.2.2.2.f).2)]
theorem ret_DS {P : Program} {w : World} {H : HV} {v v' : SV} (hok : ∀ H, v'.Ok H) (h : ∀ E E', v.den E = v'.den E') : (Tree.ret v).holds P ⟨w, H⟩ (RetD w H fun _ => v') :=
  ret_D (fun _ => .slc none 0 []) h fun H _ => hok H
end Sx
end
section
namespace Sx
open Go RowKit
structure I3 where
  a : Int
  b : Int
  c : Int
structure Rq where
  sent : Int
  m : Msg
structure Lz where
  now : Int
  term : Int
  margin : Int
  we : Int
  wh : Int
  wu : Int
  fe : Int
  fo : Int
  ls : List I3
  rq : List Rq
  an : List Msg
def GrantOk (s : Lz) (S : Int) (m : Msg) : Prop :=
  ∀ r, s.rq[m.number.toNat]? = some r → ∀ l, s.ls[m.to.toNat]? = some l → r.sent + s.term ≤ s.now ∨ m.epoch < l.b ∨ (s.wh = m.to ∧ S ≤ m.epoch ∧ m.epoch ≤ s.we ∧ r.sent + s.term ≤ s.wu)
structure FInv (s : Lz) (S : Int) (t : Nat) : Prop where
  small : t ≤ 61
  now : 0 ≤ s.now ∧ s.now ≤ 6 * t
  term : 1 ≤ s.term ∧ s.term ≤ 12
  margin : 0 ≤ s.margin ∧ s.margin ≤ 3
  len : s.ls.length = 3
  rql : s.rq.length ≤ t
  anl : s.an.length ≤ t
  site : ∀ (i : Nat) l, s.ls[i]? = some l → l.a = i ∧ 0 ≤ l.b ∧ l.b ≤ 3 * t ∧ 0 ≤ l.c ∧ l.c ≤ s.now + 12
  we : 0 ≤ s.we ∧ s.we ≤ 3 * t
  wu : 0 ≤ s.wu ∧ s.wu ≤ s.now + s.term
  wh : s.wh = -1 ∨ (0 ≤ s.wh ∧ s.wh ≤ 2)
  fen : 0 ≤ s.fe ∧ s.fe ≤ s.we ∧ 0 ≤ s.fo ∧ s.fo ≤ 2
  rq : ∀ (n : Nat) r, s.rq[n]? = some r → r.m.number = n ∧ 0 ≤ r.sent ∧ r.sent ≤ s.now ∧ 0 ≤ r.m.frm ∧ r.m.frm ≤ 2 ∧ 0 ≤ r.m.epoch ∧ r.m.epoch ≤ 3 * t ∧ (r.m.kind = 18 → ∀ l, s.ls[r.m.frm.toNat]? = some l → r.m.epoch < l.b)
  an : ∀ m, m ∈ s.an → 0 ≤ m.number ∧ m.number.toNat < s.rq.length ∧ 0 ≤ m.to ∧ m.to ≤ 2 ∧ 0 ≤ m.epoch ∧ m.epoch ≤ s.we ∧ (m.kind = 16 → GrantOk s S m)
  ls : ∀ (i : Nat) l, s.ls[i]? = some l → l.c ≤ s.now ∨ (s.wh = i ∧ S ≤ l.b ∧ l.b ≤ s.we ∧ l.c ≤ s.wu)
  gho : S ≤ s.we + 1 ∧ (s.wh ≠ -1 → S ≤ s.we)
  fence : s.fe < S ∨ (s.fo = s.wh ∧ ∀ l, s.ls[s.fo.toNat]? = some l → s.fe ≤ l.b)

theorem FInv.wk {s : Lz} {S : Int} {t : Nat} (h : FInv s S t) (ht : t ≤ 60) : FInv s S (t + 1) := by
  have e : (((t + 1 : Nat)) : Int) = (t : Int) + 1 := by omega
  refine ⟨by omega, ⟨h.now.1, by have := h.now.2; omega⟩, h.term, h.margin, h.len, by have := h.rql; omega, by have := h.anl; omega, fun i l hl => ?_, ⟨h.we.1, by have := h.we.2; omega⟩, h.wu, h.wh, h.fen, fun n r hr => ?_, h.an, h.ls, h.gho, h.fence⟩
  · obtain ⟨a, b, c, d, f⟩ := h.site i l hl
    exact ⟨a, b, by omega, d, f⟩
  · obtain ⟨a, b, c, d, f, g, i, j⟩ := h.rq n r hr
    exact ⟨a, b, c, d, f, g, by omega, j⟩
theorem FInv.send {s : Lz} {S : Int} {t : Nat} (h : FInv s S t) (hl : s.rq.length + 1 ≤ t) {m : Msg} (hn : m.number = s.rq.length) (hf : 0 ≤ m.frm ∧ m.frm ≤ 2) (he : 0 ≤ m.epoch ∧ m.epoch ≤ 3 * t) (hk : m.kind = 18 → ∀ l, s.ls[m.frm.toNat]? = some l → m.epoch < l.b) :
    FInv { s with rq := s.rq ++ [⟨s.now, m⟩] } S t := by
  refine ⟨h.small, h.now, h.term, h.margin, h.len, by simp only [List.length_append, List.length_singleton]; exact hl, h.anl, h.site, h.we, h.wu, h.wh, h.fen, fun n r hr => ?_, fun m' hm' => ?_, h.ls, h.gho, h.fence⟩
  · by_cases hlt : n < s.rq.length
    · simp only [List.getElem?_append_left hlt] at hr
      exact h.rq n r hr
    · simp only [List.getElem?_append_right (Nat.le_of_not_lt hlt)] at hr
      cases hd : n - s.rq.length with
      | succ k => rw [hd] at hr; simp at hr
      | zero =>
        rw [hd] at hr
        simp at hr
        subst hr
        have : n = s.rq.length := by omega
        exact ⟨by rw [hn, this], h.now.1, Int.le_refl _, hf.1, hf.2, he.1, he.2, hk⟩
  · obtain ⟨a, b, c, d, e, f, g⟩ := h.an m' hm'
    refine ⟨a, by simp only [List.length_append]; omega, c, d, e, f, fun hk r hr l hl => ?_⟩
    simp only [List.getElem?_append_left b] at hr
    exact g hk r hr l hl
theorem FInv.give {s : Lz} {S : Int} {t : Nat} (h : FInv s S t) {i : Nat} {l : I3} (hl : s.ls[i]? = some l) (hb : l.b + 1 ≤ 3 * t) :
    FInv { s with ls := s.ls.set i ⟨l.a, l.b + 1, 0⟩ } S t := by
  have hlt : i < s.ls.length := (List.getElem?_eq_some_iff.1 hl).1
  have grow : ∀ (j : Nat) l', (s.ls.set i ⟨l.a, l.b + 1, 0⟩)[j]? = some l' → ∃ l0, s.ls[j]? = some l0 ∧ l0.b ≤ l'.b ∧ (l' = l0 ∨ (l'.c = 0 ∧ l'.a = l0.a ∧ l'.b = l0.b + 1 ∧ l0 = l)) := fun j l' hj => by
    by_cases hij : i = j
    · subst hij
      rw [List.getElem?_set_self hlt] at hj
      cases hj
      exact ⟨l, hl, by simp only; omega, .inr ⟨rfl, rfl, rfl, rfl⟩⟩
    · rw [List.getElem?_set_ne hij] at hj
      exact ⟨l', hj, Int.le_refl _, .inl rfl⟩
  refine ⟨h.small, h.now, h.term, h.margin, by simp only [List.length_set]; exact h.len, h.rql, h.anl, fun j l' hj => ?_, h.we, h.wu, h.wh, h.fen, fun n r hr => ?_, fun m hm => ?_, fun j l' hj => ?_, h.gho, ?_⟩
  · obtain ⟨l0, h0, _, e⟩ := grow j l' hj
    obtain ⟨a, b, c, d, f⟩ := h.site j l0 h0
    rcases e with rfl | ⟨e1, e2, e3, e4⟩
    · exact ⟨a, b, c, d, f⟩
    · subst e4
      refine ⟨by rw [e2, a], by omega, by omega, by omega, ?_⟩
      have := h.now.1
      simp only; omega
  · obtain ⟨a, b, c, d, f, g, i', j⟩ := h.rq n r hr
    refine ⟨a, b, c, d, f, g, i', fun hk l' hl' => ?_⟩
    obtain ⟨l0, h0, hle, _⟩ := grow _ l' hl'
    have := j hk l0 h0
    omega
  · obtain ⟨a, b, c, d, e, f, g⟩ := h.an m hm
    refine ⟨a, b, c, d, e, f, fun hk r hr l' hl' => ?_⟩
    obtain ⟨l0, h0, hle, _⟩ := grow _ l' hl'
    rcases g hk r hr l0 h0 with h1 | h1 | h1
    · exact .inl h1
    · exact .inr (.inl (by omega))
    · exact .inr (.inr h1)
  · obtain ⟨l0, h0, _, e⟩ := grow j l' hj
    rcases e with rfl | ⟨e1, _⟩
    · exact h.ls j l' h0
    · left; have := h.now.1; simp only; omega
  · rcases h.fence with h1 | ⟨h1, h2⟩
    · exact .inl h1
    · refine .inr ⟨h1, fun l' hl' => ?_⟩
      obtain ⟨l0, h0, hle, _⟩ := grow _ l' hl'
      have := h2 l0 h0
      simp only at this ⊢
      omega
theorem FInv.pass {s : Lz} {S : Int} {t : Nat} (h : FInv s S t) {q : Int} (h0 : 0 ≤ q) (hq : s.now + q ≤ 6 * t) : FInv { s with now := s.now + q } S t := by
  refine ⟨h.small, ⟨by have := h.now.1; simp only; omega, hq⟩, h.term, h.margin, h.len, h.rql, h.anl, fun i l hl => ?_, h.we, ⟨h.wu.1, by have := h.wu.2; simp only; omega⟩, h.wh, h.fen, fun n r hr => ?_, fun m hm => ?_, fun i l hl => ?_, h.gho, h.fence⟩
  · obtain ⟨a, b, c, d, f⟩ := h.site i l hl
    exact ⟨a, b, c, d, by simp only; omega⟩
  · obtain ⟨a, b, c, d, f, g, i, j⟩ := h.rq n r hr
    exact ⟨a, b, by simp only; omega, d, f, g, i, j⟩
  · obtain ⟨a, b, c, d, e, f, g⟩ := h.an m hm
    refine ⟨a, b, c, d, e, f, fun hk r hr l hl => ?_⟩
    rcases g hk r hr l hl with h1 | h1 | h1
    · left; simp only; omega
    · exact .inr (.inl h1)
    · exact .inr (.inr h1)
  · rcases h.ls i l hl with h1 | h1
    · left; simp only; omega
    · exact .inr h1

theorem until_le {s t g v : Int} (h1 : 0 ≤ s) (h2 : 1 ≤ t) (h3 : 0 ≤ g) : 0 ≤ untilI s t g v ∧ untilI s t g v ≤ s + t := by
  unfold untilI untilG
  have hr : (if v < t then v else t) ≤ t := by split <;> omega
  generalize (if v < t then v else t) = r at hr
  repeat' split
  all_goals omega
theorem FInv.learn {s : Lz} {S : Int} {t : Nat} (h : FInv s S t) {m : Msg} (hm : m ∈ s.an) {r : Rq} (hr : s.rq[m.number.toNat]? = some r) {l : I3} (hl : s.ls[m.to.toNat]? = some l) {p : T3}
    (hp : p = learnL (l.a, l.b, l.c) r.sent s.term s.margin m.kind m.to m.value m.epoch) : FInv { s with ls := s.ls.set m.to.toNat ⟨p.1, p.2.1, p.2.2⟩ } S t := by
  obtain ⟨a, b, c, d, e, f, g⟩ := h.an m hm
  obtain ⟨s1, s2, s3, s4, s5⟩ := h.site _ l hl
  obtain ⟨_, r2, r3, _⟩ := h.rq _ r hr
  obtain ⟨u1, u2⟩ := until_le (v := m.value) r2 h.term.1 h.margin.1
  have hlt : m.to.toNat < s.ls.length := (List.getElem?_eq_some_iff.1 hl).1
  have hwe := h.we.2
  have hto : ((m.to.toNat : Nat) : Int) = m.to := Int.toNat_of_nonneg c
  have htm := h.term.2
  have hno := h.now.1
  -- what has become of the lease
  have key : p.1 = l.a ∧ l.b ≤ p.2.1 ∧ p.2.1 ≤ 3 * t ∧ 0 ≤ p.2.2 ∧ p.2.2 ≤ s.now + 12 ∧ (p.2.2 ≤ s.now ∨ (s.wh = m.to ∧ S ≤ p.2.1 ∧ p.2.1 ≤ s.we ∧ p.2.2 ≤ s.wu)) := by
    have same : l.a = l.a ∧ l.b ≤ l.b ∧ l.b ≤ 3 * t ∧ 0 ≤ l.c ∧ l.c ≤ s.now + 12 ∧ (l.c ≤ s.now ∨ (s.wh = m.to ∧ S ≤ l.b ∧ l.b ≤ s.we ∧ l.c ≤ s.wu)) :=
      ⟨rfl, Int.le_refl _, s3, s4, s5, by rw [← hto]; exact h.ls _ l hl⟩
    rw [hp]
    unfold learnL
    split
    · exact same
    split
    · rename_i hc
      refine ⟨rfl, by have := hc.2; simp only at this ⊢; omega, by simp only; omega, u1, by simp only; omega, ?_⟩
      rcases g hc.1 r hr l hl with h1 | h1 | ⟨h1, h2, h3, h4⟩
      · left; simp only; omega
      · have := hc.2; simp only at this; omega
      · exact .inr ⟨h1, h2, h3, by simp only; omega⟩
    split
    · rename_i hc
      obtain ⟨hk, he⟩ := hc
      simp only at he
      have hg : untilI r.sent s.term s.margin m.value ≤ s.now ∨ (s.wh = m.to ∧ S ≤ l.b ∧ l.b ≤ s.we ∧ untilI r.sent s.term s.margin m.value ≤ s.wu) := by
        rcases g hk r hr l hl with h1 | h1 | ⟨h1, h2, h3, h4⟩
        · left; omega
        · omega
        · exact .inr ⟨h1, by omega, by omega, by omega⟩
      have hs := same.2.2.2.2.2
      refine ⟨rfl, Int.le_refl _, s3, ?_, ?_, ?_⟩ <;> (simp only; split)
      · omega
      · exact s4
      · omega
      · exact s5
      · exact hg
      · exact hs
    split
    · exact ⟨rfl, Int.le_refl _, s3, Int.le_refl _, by simp only; omega, .inl (by simp only; omega)⟩
    · exact same
  obtain ⟨k1, k2, k3, k4, k5, k6⟩ := key
  have grow : ∀ (j : Nat) l', (s.ls.set m.to.toNat ⟨p.1, p.2.1, p.2.2⟩)[j]? = some l' → ∃ l0, s.ls[j]? = some l0 ∧ l0.b ≤ l'.b ∧ (l' = l0 ∨ (j = m.to.toNat ∧ l' = ⟨p.1, p.2.1, p.2.2⟩)) := fun j l' hj => by
    by_cases hij : m.to.toNat = j
    · subst hij
      rw [List.getElem?_set_self hlt] at hj
      cases hj
      exact ⟨l, hl, k2, .inr ⟨rfl, rfl⟩⟩
    · rw [List.getElem?_set_ne hij] at hj
      exact ⟨l', hj, Int.le_refl _, .inl rfl⟩
  refine ⟨h.small, h.now, h.term, h.margin, by simp only [List.length_set]; exact h.len, h.rql, h.anl, fun j l' hj => ?_, h.we, h.wu, h.wh, h.fen, fun n r hr => ?_, fun m hm => ?_, fun j l' hj => ?_, h.gho, ?_⟩
  · obtain ⟨l0, h0, _, e⟩ := grow j l' hj
    rcases e with rfl | ⟨e1, rfl⟩
    · exact h.site j l' h0
    · exact ⟨by rw [e1]; simp only; rw [k1]; exact s1, by simp only; omega, k3, k4, k5⟩
  · obtain ⟨a, b, c, d, f, g, i', j⟩ := h.rq n r hr
    refine ⟨a, b, c, d, f, g, i', fun hk l' hl' => ?_⟩
    obtain ⟨l0, h0, hle, _⟩ := grow _ l' hl'
    have := j hk l0 h0
    omega
  · obtain ⟨a, b, c, d, e, f, g⟩ := h.an m hm
    refine ⟨a, b, c, d, e, f, fun hk r hr l' hl' => ?_⟩
    obtain ⟨l0, h0, hle, _⟩ := grow _ l' hl'
    rcases g hk r hr l0 h0 with h1 | h1 | h1
    · exact .inl h1
    · exact .inr (.inl (by omega))
    · exact .inr (.inr h1)
  · obtain ⟨l0, h0, _, e⟩ := grow j l' hj
    rcases e with rfl | ⟨e1, rfl⟩
    · exact h.ls j l' h0
    · rw [e1, hto]; exact k6
  · rcases h.fence with h1 | ⟨h1, h2⟩
    · exact .inl h1
    · refine .inr ⟨h1, fun l' hl' => ?_⟩
      obtain ⟨l0, h0, hle, _⟩ := grow _ l' hl'
      have := h2 l0 h0
      simp only at this ⊢
      omega
end Sx
end
section
namespace Sx
open Go RowKit
theorem FInv.handle {s : Lz} {S : Int} {t : Nat} (h : FInv s S t) (ha : s.an.length + 1 ≤ t) {n : Nat} {r : Rq} (hr : s.rq[n]? = some r) {p : T3 × List Msg}
    (hp : p = handleW (s.we, s.wh, s.wu) s.now s.term r.m.kind r.m.frm r.m.number r.m.epoch) : ∃ S', FInv { s with we := p.1.1, wh := p.1.2.1, wu := p.1.2.2, an := s.an ++ p.2 } S' t := by
  obtain ⟨r1, r2, r3, r4, r5, r6, r7, r8⟩ := h.rq n r hr
  have hnum : r.m.number.toNat = n := by omega
  have hno := h.now.1
  have hte := h.term
  have hwe := h.we
  have hwu := h.wu
  have hlt : n < s.rq.length := (List.getElem?_eq_some_iff.1 hr).1
  -- nothing happens
  have same : FInv { s with an := s.an ++ [] } S t := by rw [List.append_nil]; exact h
  -- an answer that is no grant
  have refuse : FInv { s with an := s.an ++ [⟨12, 4, r.m.frm, r.m.number, 0, s.we, [], []⟩] } S t := by
    refine ⟨h.small, h.now, h.term, h.margin, h.len, h.rql, by simp only [List.length_append, List.length_singleton]; exact ha, h.site, h.we, h.wu, h.wh, h.fen, h.rq, fun m hm => ?_, h.ls, h.gho, h.fence⟩
    rcases List.mem_append.1 hm with hm | hm
    · exact h.an m hm
    · rw [List.mem_singleton] at hm; subst hm
      exact ⟨by simp only; omega, by simp only; omega, r4, r5, h.we.1, Int.le_refl _, fun hk => absurd hk (by simp)⟩
  -- to renew
  have renew : ∀ p, p = renewW (s.we, s.wh, s.wu) s.now s.term r.m.frm r.m.number r.m.epoch → FInv { s with we := p.1.1, wh := p.1.2.1, wu := p.1.2.2, an := s.an ++ p.2 } S t := fun p hp => by
    unfold renewW at hp
    split at hp
    · rename_i hc
      obtain ⟨c1, c2, c3, c4⟩ := hc
      simp only at c1 c2 c3 c4
      subst hp
      have hS := h.gho.2 c3
      have hu : s.wu ≤ (if s.now + s.term > s.wu then s.now + s.term else s.wu) ∧ s.now + s.term ≤ (if s.now + s.term > s.wu then s.now + s.term else s.wu) ∧ (if s.now + s.term > s.wu then s.now + s.term else s.wu) ≤ s.now + s.term := by split <;> omega
      simp only
      generalize (if s.now + s.term > s.wu then s.now + s.term else s.wu) = u at hu
      refine ⟨h.small, h.now, h.term, h.margin, h.len, h.rql, by simp only [List.length_append, List.length_singleton]; exact ha, h.site, h.we, ⟨by simp only; omega, hu.2.2⟩, h.wh, h.fen, h.rq, fun m hm => ?_, fun i l hl => ?_, h.gho, h.fence⟩
      · rcases List.mem_append.1 hm with hm | hm
        · obtain ⟨a, b, c, d, e, f, g⟩ := h.an m hm
          refine ⟨a, b, c, d, e, f, fun hk r hr l hl => ?_⟩
          rcases g hk r hr l hl with h1 | h1 | ⟨h1, h2, h3, h4⟩
          · exact .inl h1
          · exact .inr (.inl h1)
          · exact .inr (.inr ⟨h1, h2, h3, by simp only; omega⟩)
        · rw [List.mem_singleton] at hm; subst hm
          refine ⟨by simp only; omega, by simp only; omega, r4, r5, h.we.1, Int.le_refl _, fun _ r' hr' l hl => ?_⟩
          simp only [hnum, hr] at hr'
          cases hr'
          exact .inr (.inr ⟨c2, hS, Int.le_refl _, by simp only; omega⟩)
      · rcases h.ls i l hl with h1 | ⟨h1, h2, h3, h4⟩
        · exact .inl h1
        · exact .inr ⟨h1, h2, h3, by simp only; omega⟩
    · subst hp; exact refuse
  unfold handleW at hp
  split at hp
  · subst hp; exact ⟨S, same⟩
  split at hp
  · split at hp
    · rename_i hc
      obtain ⟨c1, c2⟩ := hc
      simp only at c1 c2
      subst hp
      simp only
      by_cases hw : s.wh = r.m.frm
      · -- the same holder
        have hS := h.gho.2 (by omega)
        refine ⟨S, h.small, h.now, h.term, h.margin, h.len, h.rql, by simp only [List.length_append, List.length_singleton]; exact ha, h.site, ⟨by simp only; omega, r7⟩, ⟨by simp only; omega, Int.le_refl _⟩, .inr ⟨r4, r5⟩, ⟨h.fen.1, by have := h.fen.2.1; simp only; omega, h.fen.2.2⟩, h.rq, fun m hm => ?_, fun i l hl => ?_, ⟨by simp only; omega, fun _ => by simp only; omega⟩, ?_⟩
        · rcases List.mem_append.1 hm with hm | hm
          · obtain ⟨a, b, c, d, e, f, g⟩ := h.an m hm
            refine ⟨a, b, c, d, e, by simp only; omega, fun hk r hr l hl => ?_⟩
            rcases g hk r hr l hl with h1 | h1 | ⟨h1, h2, h3, h4⟩
            · exact .inl h1
            · exact .inr (.inl h1)
            · exact .inr (.inr ⟨by simp only; omega, h2, by simp only; omega, by simp only; omega⟩)
          · rw [List.mem_singleton] at hm; subst hm
            refine ⟨by simp only; omega, by simp only; omega, r4, r5, r6, Int.le_refl _, fun _ r' hr' l hl => ?_⟩
            simp only [hnum, hr] at hr'
            cases hr'
            exact .inr (.inr ⟨rfl, by simp only; omega, Int.le_refl _, by simp only; omega⟩)
        · rcases h.ls i l hl with h1 | ⟨h1, h2, h3, h4⟩
          · exact .inl h1
          · exact .inr ⟨by simp only; omega, h2, by simp only; omega, by simp only; omega⟩
        · rcases h.fence with h1 | ⟨h1, h2⟩
          · exact .inl h1
          · exact .inr ⟨by simp only; omega, h2⟩
      · -- another one
        have hfree : s.wh = -1 ∨ s.wu ≤ s.now := by
          rcases c2 with c2 | c2
          · by_cases hm1 : s.wh = -1
            · exact .inl hm1
            · right
              have : ¬ s.now < s.wu := fun hh => c2 ⟨hm1, hh⟩
              omega
          · exact absurd c2 hw
        refine ⟨r.m.epoch, h.small, h.now, h.term, h.margin, h.len, h.rql, by simp only [List.length_append, List.length_singleton]; exact ha, h.site, ⟨r6, r7⟩, ⟨by simp only; omega, Int.le_refl _⟩, .inr ⟨r4, r5⟩, ⟨h.fen.1, by have := h.fen.2.1; simp only; omega, h.fen.2.2⟩, h.rq, fun m hm => ?_, fun i l hl => ?_, ⟨by simp only; omega, fun _ => Int.le_refl _⟩, .inl (by have := h.fen.2.1; simp only; omega)⟩
        · rcases List.mem_append.1 hm with hm | hm
          · obtain ⟨a, b, c, d, e, f, g⟩ := h.an m hm
            refine ⟨a, b, c, d, e, by simp only; omega, fun hk r hr l hl => ?_⟩
            rcases g hk r hr l hl with h1 | h1 | ⟨h1, h2, h3, h4⟩
            · exact .inl h1
            · exact .inr (.inl h1)
            · left
              simp only
              rcases hfree with hf | hf <;> omega
          · rw [List.mem_singleton] at hm; subst hm
            refine ⟨by simp only; omega, by simp only; omega, r4, r5, r6, Int.le_refl _, fun _ r' hr' l hl => ?_⟩
            simp only [hnum, hr] at hr'
            cases hr'
            exact .inr (.inr ⟨rfl, Int.le_refl _, Int.le_refl _, by simp only; omega⟩)
        · left
          rcases h.ls i l hl with h1 | ⟨h1, h2, h3, h4⟩
          · exact h1
          · simp only
            rcases hfree with hf | hf <;> omega
    · exact ⟨S, renew p hp⟩
  split at hp
  · exact ⟨S, renew p hp⟩
  split at hp
  · rename_i hk
    split at hp
    · rename_i hc
      obtain ⟨c1, c2⟩ := hc
      simp only at c1 c2
      subst hp
      simp only
      have h18 := r8 hk
      refine ⟨s.we + 1, h.small, h.now, h.term, h.margin, h.len, h.rql, by simp only [List.append_nil]; omega, h.site, h.we, ⟨Int.le_refl _, by simp only; omega⟩, .inl rfl, h.fen, h.rq, fun m hm => ?_, fun i l hl => ?_, ⟨Int.le_refl _, fun hh => absurd rfl hh⟩, .inl (by have := h.fen.2.1; simp only; omega)⟩
      · rw [List.append_nil] at hm
        obtain ⟨a, b, c, d, e, f, g⟩ := h.an m hm
        refine ⟨a, b, c, d, e, f, fun hk r' hr' l hl => ?_⟩
        rcases g hk r' hr' l hl with h1 | h1 | ⟨h1, h2, h3, h4⟩
        · exact .inl h1
        · exact .inr (.inl h1)
        · have := h18 l (by rw [show r.m.frm.toNat = m.to.toNat by omega]; exact hl)
          exact .inr (.inl (by omega))
      · rcases h.ls i l hl with h1 | ⟨h1, h2, h3, h4⟩
        · exact .inl h1
        · have := h18 l (by rw [show r.m.frm.toNat = i by omega]; exact hl)
          omega
    · subst hp; exact ⟨S, same⟩
  · subst hp; exact ⟨S, same⟩

theorem FInv.formed {s : Lz} {S : Int} {t : Nat} (h : FInv s S t) {i : Nat} {l : I3} (hl : s.ls[i]? = some l) : FormedP (l.a, l.b, l.c) := by
  obtain ⟨a, b, c, d, e⟩ := h.site i l hl
  have hlt : i < s.ls.length := (List.getElem?_eq_some_iff.1 hl).1
  have := h.len
  have := h.now.2
  have := h.small
  exact ⟨⟨by simp only; omega, by simp only; omega⟩, ⟨b, by simp only; omega⟩, ⟨d, by simp only; omega⟩⟩
theorem FInv.raise {s : Lz} {S : Int} {t : Nat} (h : FInv s S t) {i : Nat} {l : I3} (hl : s.ls[i]? = some l) (hh : s.now < l.c) (hz : raiseI (s.fe, s.fo, false) l.b i = 0) :
    FInv { s with fe := l.b, fo := i } S t ∧ admitI (l.b, i, false) l.b i = 0 ∧ s.fe < l.b := by
  obtain ⟨a, b, c, d, e⟩ := h.site i l hl
  have hlt : i < s.ls.length := (List.getElem?_eq_some_iff.1 hl).1
  have hlen := h.len
  have hsm := h.small
  obtain ⟨h1, h2, h3, h4⟩ : s.wh = i ∧ S ≤ l.b ∧ l.b ≤ s.we ∧ l.c ≤ s.wu := by
    rcases h.ls i l hl with h1 | h1
    · omega
    · exact h1
  have hF : FenP (l.b, (i : Int), false) := ⟨⟨b, by simp only; omega⟩, by simp only; omega, by simp only; omega⟩
  have hgt : s.fe < l.b := by
    unfold raiseI at hz
    split at hz
    · cases hz
    split at hz
    · cases hz
    · rename_i hg; simpa using hg
  refine ⟨⟨h.small, h.now, h.term, h.margin, h.len, h.rql, h.anl, h.site, h.we, h.wu, h.wh, ⟨b, h3, by simp only; omega, by simp only; omega⟩, h.rq, h.an, h.ls, h.gho, .inr ⟨h1.symm, fun l' hl' => ?_⟩⟩, ?_, hgt⟩
  · simp only [Int.toNat_natCast, hl] at hl'
    cases hl'
    exact Int.le_refl _
  · unfold admitI
    rw [if_neg (by simp [hF]), if_neg (by simp), if_neg (by simp), if_neg (by simp)]
theorem FInv.noraise {s : Lz} {S : Int} {t : Nat} (h : FInv s S t) {i : Nat} {l : I3} (hl : s.ls[i]? = some l) (hh : s.now < l.c) (hz : ¬ raiseI (s.fe, s.fo, false) l.b i = 0) :
    admitI (s.fe, s.fo, false) l.b i = 0 ∧ s.fe = l.b ∧ s.fo = i := by
  obtain ⟨a, b, c, d, e⟩ := h.site i l hl
  have hlt : i < s.ls.length := (List.getElem?_eq_some_iff.1 hl).1
  have hlen := h.len
  have hsm := h.small
  have hwe := h.we
  obtain ⟨f1, f2, f3, f4⟩ := h.fen
  obtain ⟨h1, h2, h3, h4⟩ : s.wh = i ∧ S ≤ l.b ∧ l.b ≤ s.we ∧ l.c ≤ s.wu := by
    rcases h.ls i l hl with h1 | h1
    · omega
    · exact h1
  have hF : FenP (l.b, (i : Int), false) := ⟨⟨b, by simp only; omega⟩, by simp only; omega, by simp only; omega⟩
  have hF0 : FenP (s.fe, s.fo, false) := ⟨⟨f1, by simp only; omega⟩, f3, by simp only; omega⟩
  have hle : ¬ s.fe < l.b := by
    intro hlt'
    apply hz
    unfold raiseI
    rw [if_neg (by simp [hF0]), if_neg (by simp [hF]), if_neg (by simpa using hlt')]
  have heq : s.fe = l.b ∧ s.fo = i := by
    rcases h.fence with g1 | ⟨g1, g2⟩
    · omega
    · have hfi : s.fo = i := by omega
      have := g2 l (by rw [hfi]; simpa using hl)
      exact ⟨by omega, hfi⟩
  refine ⟨?_, heq⟩
  unfold admitI
  rw [if_neg (by simp [hF0]), if_neg (by simp only; omega), if_neg (by simp only; omega), if_neg (by simp [heq.2])]
theorem admit_zero {f : Fe} {e i : Int} (h : admitI f e i = 0) : f.1 = e ∧ f.2.1 = i := by
  unfold admitI at h
  split at h
  · cases h
  split at h
  · cases h
  split at h
  · cases h
  split at h
  · cases h
  · rename_i h1 h2 h3 h4
    simp only [not_or, ne_eq, Classical.not_not] at h3 h4
    exact ⟨h3.symm, h4.2.symm⟩
theorem FInv.alone {s : Lz} {S : Int} {t : Nat} (h : FInv s S t) {i j : Nat} {l l' : I3} (hl : s.ls[i]? = some l) (hl' : s.ls[j]? = some l') (h1 : s.now < l.c) (h2 : s.now < l'.c) : i = j := by
  rcases h.ls i l hl with a | ⟨a, _⟩
  · omega
  rcases h.ls j l' hl' with b | ⟨b, _⟩
  · omega
  omega
end Sx
end
section
namespace Sx
open Go RowKit
instance : Codec I3 where
  sz := 3
  ok r := ∃ a b c, r = [.int .i64 a, .int .i64 b, .int .i64 c]
  dec r := match r with | [.int _ a, .int _ b, .int _ c] => ⟨a, b, c⟩ | _ => ⟨0, 0, 0⟩
  enc c := [.int .i64 c.a, .int .i64 c.b, .int .i64 c.c]
  ok_enc c := ⟨_, _, _, rfl⟩
  dec_enc c := rfl
  len r := by rintro ⟨_, _, _, rfl⟩; rfl
theorem i3_cell {d : D} (h : d.Is I3) {i : Nat} (hi : i < (d.to I3).length) : d.HasCells i 0 [.int .i64, .int .i64, .int .i64] ∧ d.getInt i 0 = ((d.to I3)[i]).a ∧ d.getInt i 1 = ((d.to I3)[i]).b ∧ d.getInt i 2 = ((d.to I3)[i]).c := by
  obtain ⟨r, h1, ⟨a, b, c, rfl⟩, h3⟩ := h.row hi
  rw [h3]
  have e : ∀ j, d.cellAt i j = ([.int .i64 a, .int .i64 b, .int .i64 c] : List D)[j]? := fun j => by simp [D.cellAt, h1]
  simp only [D.HasCells, D.HasCell, D.getInt, e]
  exact ⟨⟨⟨_, rfl⟩, ⟨_, rfl⟩, ⟨_, rfl⟩, trivial⟩, rfl, rfl, rfl⟩
noncomputable instance : Codec Rq where
  sz := 9
  ok r := ∃ s t, r = .int .i64 s :: t ∧ Codec.ok Msg t
  dec r := match r with | .int _ s :: t => ⟨s, Codec.dec t⟩ | _ => ⟨0, Codec.dec []⟩
  enc c := .int .i64 c.sent :: Codec.enc c.m
  ok_enc c := ⟨_, _, rfl, Codec.ok_enc _⟩
  dec_enc c := by simp only [Codec.dec_enc]
  len r := by rintro ⟨s, t, rfl, h⟩; simp only [List.length_cons, Codec.len t h]; rfl
theorem rq_cell {d : D} (h : d.Is Rq) {i : Nat} (hi : i < (d.to Rq).length) :
    d.HasCells i 0 [.int .i64, .int .i64, .int .i64, .int .i64, .int .i64, .int .i64, .int .i64, .slc, .slc] ∧ d.getInt i 0 = ((d.to Rq)[i]).sent ∧
    d.getInt i 1 = ((d.to Rq)[i]).m.kind ∧ d.getInt i 2 = ((d.to Rq)[i]).m.frm ∧ d.getInt i 4 = ((d.to Rq)[i]).m.number ∧ d.getInt i 6 = ((d.to Rq)[i]).m.epoch := by
  obtain ⟨r, h1, ⟨s, t, rfl, a, b, c, d', e, f, v, w, rfl, hv, hw⟩, h3⟩ := h.row hi
  rw [h3]
  obtain ⟨p1, p2, p3, rfl⟩ := hv.slc
  obtain ⟨q1, q2, q3, rfl⟩ := hw.slc
  have e : ∀ j, d.cellAt i j = ([.int .i64 s, .int .i64 a, .int .i64 b, .int .i64 c, .int .i64 d', .int .i64 e, .int .i64 f, .slc p1 p2 p3, .slc q1 q2 q3] : List D)[j]? := fun j => by simp [D.cellAt, h1]
  simp only [D.HasCells, D.HasCell, D.getInt, e]
  exact ⟨⟨⟨_, rfl⟩, ⟨_, rfl⟩, ⟨_, rfl⟩, ⟨_, rfl⟩, ⟨_, rfl⟩, ⟨_, rfl⟩, ⟨_, rfl⟩, ⟨_, _, _, rfl⟩, ⟨_, _, _, rfl⟩, trivial⟩, rfl, rfl, rfl, rfl, rfl⟩
theorem rq_row {s a b c d e f : Int} {r : Rq} (hr : r = ⟨s, a, b, c, d, e, f, [], []⟩) :
    SRows Rq [[.int .i64 s, .int .i64 a, .int .i64 b, .int .i64 c, .int .i64 d, .int .i64 e, .int .i64 f, .slc none 0 [], .slc none 0 []]] [r] := by
  subst hr
  exact rows_one ⟨_, _, rfl, ok_msg ..⟩ rfl
structure LzW (dl dr da : D) (s : Lz) : Prop where
  l : dl.Is I3 ∧ dl.sz = 3 ∧ dl.to I3 = s.ls
  r : dr.Is Rq ∧ dr.sz = 9 ∧ dr.to Rq = s.rq
  a : da.Is Msg ∧ da.sz = 8 ∧ da.to Msg = s.an
end Sx
end
section
open Go
namespace Sx
abbrev tsLz : List TS := [tsJ, tsJ, tsJ]
theorem shLz {d : D} (h : TS.Sh (.slc (.st tsLz)) [d]) : d.Is I3 ∧ d.IsSlc ∧ d.len ≤ maxLen := shSl rfl (fun r hr => by
  simp only [TS.Sh, tsLz, TS.ShL] at hr
  obtain ⟨_, _, rfl, h1, _, _, rfl, h2, _, _, rfl, h3, rfl⟩ := hr
  obtain ⟨a, rfl⟩ := shJ h1
  obtain ⟨b, rfl⟩ := shJ h2
  obtain ⟨c, rfl⟩ := shJ h3
  exact ⟨_, _, _, rfl⟩) h
end Sx
end
section
namespace Sx
open Go
def atDst (c : Conf) : Option (FuncId × Nat) :=
  match c.top.ri with
  | some _ => none
  | none => match c.top.todo with
    | .code (.region _ ops _) :: _ => match ops[0]? with
      | some o => match o.dst with
        | some d => some (c.top.fn, d)
        | none => none
      | none => none
    | _ => none

def restsAt (l : List (FuncId × Nat)) (c : Conf) : Bool :=
  match atDst c with
  | some (f, d) => l.any fun x => x.1 == f && x.2 == d
  | none => false
def liveW (P : Program) (g : SFrm) : List Nat :=
  let out := (liveI (retN P g.fn) g.todo).1
  let live := match g.ri with
    | some (ops, l) => liveOps ops (l.filterMap fun i => ops[i]?) out
    | none => out
  match g.await with
  | some t => live.filter (· != t)
  | none => live
def fgtR (P : Program) (c : Conf) : Conf :=
  match c.rest with
  | [] => c
  | g :: r =>
    let n := 1000 * r.length
    let live := liveW P g
    if keptOk n live 0 g.tmps && c.mem.all (fun e => !e.2.jk n) && r.all (fun f => !SV.jkL n f.tmps) && !SV.jkL n c.top.tmps then
      { c with rest := { g with tmps := maskT n live 0 g.tmps } :: r }
    else c

theorem fgtR_sound {P : Program} {C : Ctx} {R : Value → World → Prop} {c : Conf} (h : Runs P C (fgtR P c) R) : Runs P C c R := by
  obtain ⟨top, rest, mem⟩ := c
  unfold fgtR at h
  simp only at h
  cases rest with
  | nil => exact h
  | cons g r =>
    simp only at h
    split at h
    · rename_i hc
      simp only [Bool.and_eq_true, Bool.not_eq_true'] at hc
      obtain ⟨⟨⟨h1, h2⟩, h3⟩, h4⟩ := hc
      intro E H w gd ok
      let n := 1000 * r.length
      let E' : Env := ⟨E.b, E.v, fun i => if i < n then E.j i else ((SV.denL E g.tmps)[i - n]?).getD Go.undef⟩
      have hs : Same n E E' := ⟨rfl, rfl, fun i hi => by simp [E', hi]⟩
      have hg := gd.same' hs (fun x hx => by have := List.all_eq_true.1 h2 x hx; simpa using this)
      have hr := h E' H w hg ⟨ok.1, fun f hf => by
        rcases List.mem_cons.1 hf with rfl | hf
        · exact maskT_ok _ _ _ (ok.2 g (by simp))
        · exact ok.2 f (by simp [hf])⟩
      have e1 : SV.denL E' (maskT n (liveW P g) 0 g.tmps) = SV.denL E g.tmps := by
        refine maskT_den hs _ _ 0 h1 (fun i v hv => ?_)
        simp only [E', Nat.zero_add]
        rw [if_neg (by omega), show n + i - n = i from by omega, SV.denL_eq, List.getElem?_map, hv]
        rfl
      have e2 : r.map (SFrm.den E') = r.map (SFrm.den E) := by
        apply List.map_congr_left
        intro f hf
        have := List.all_eq_true.1 h3 f hf
        simp only [Bool.not_eq_true'] at this
        simp [SFrm.den, denL_same hs _ this]
      have e3 : SFrm.den E' top = top.den E := by simp [SFrm.den, denL_same hs _ h4]
      have e4 : SFrm.den E' { g with tmps := maskT n (liveW P g) 0 g.tmps } = g.den E := by
        simp only [SFrm.den]; rw [e1]
      simp only [List.map_cons] at hr ⊢
      rw [e2, e3] at hr
      rw [show SFrm.den E' { g with tmps := maskT (1000 * r.length) (liveW P g) 0 g.tmps } = g.den E from e4] at hr
      exact hr
    · exact h
noncomputable def restC (P : Program) (c : Conf) : Tree := headC P (fgtR P c) leafR
noncomputable def execS (P : Program) (cs : Ctrs) (U : FuncId → Bool) (S : List (FuncId × Nat)) (n : Nat) : Conf → Tree :=
  Nat.rec (motive := fun _ => Conf → Tree) (fun _ => .stuck) (fun _ ih c => match restsAt S c with
    | true => restC P c
    | false => stepC P cs U ih c) n
noncomputable def goS (P : Program) (cs : Ctrs) (U : FuncId → Bool) (S : List (FuncId × Nat)) (n : Nat) (c : Conf) : Tree := stepC P cs U (execS P cs U S n) c

section
variable {P : Program} {C : Ctx} {R : Value → World → Prop} {cs : Ctrs}
theorem execS_sound (hcs : cs.Ok P) (U : FuncId → Bool) (S : List (FuncId × Nat)) : ∀ (n : Nat) (c : Conf), (execS P cs U S n c).holds P C R → Runs P C c R
  | 0, _, h => h.elim
  | n + 1, c, h => by
    have e : execS P cs U S (n + 1) c = match restsAt S c with
      | true => restC P c
      | false => stepC P cs U (execS P cs U S n) c := rfl
    rw [e] at h
    cases hr : restsAt S c with
    | true => rw [hr] at h; exact fgtR_sound (headR_sound h)
    | false => rw [hr] at h; exact step_sound (U := U) hcs (fun c h => execS_sound hcs U S n c h) c h
theorem goS_sound (hcs : cs.Ok P) (U : FuncId → Bool) (S : List (FuncId × Nat)) (n : Nat) (c : Conf) (h : (goS P cs U S n c).holds P C R) : Runs P C c R :=
  step_sound (U := U) hcs (fun c h => execS_sound hcs U S n c h) c h
end

/-! A cell that is known to be true. -/
def lbIn (b off : Nat) (c : Conf) : Option Conf :=
  match c.mem.get b with
  | some (.cells t cs) => match cs[off]? with
    | some (.bool true) => some ⟨c.top, c.rest, c.mem.set b (.cells t (cs.set off (.lb true)))⟩
    | _ => none
  | _ => none


end Sx
end
section
namespace Sx
open Go RowKit

mutual
theorem SV.ren_id : ∀ x : SV, x.ren id = x
  | .vec _ => rfl
  | .ptr .. => rfl
  | .velt .. => rfl
  | .view .. => rfl
  | .mapp _ => rfl
  | .sl _ _ => rfl
  | .agg l => by simp only [SV.ren, SV.renL_id l]
  | .tup l => by simp only [SV.ren, SV.renL_id l]
  | .fn f a c => by simp only [SV.ren, SV.renL_id a, SV.renL_id c]
  | .int .. => rfl
  | .bool _ => rfl
  | .lb _ => rfl
  | .str _ => rfl
  | .nils => rfl
  | .dat _ => rfl
  | .elt .. => rfl
  | .nilp => rfl
  | .nilf => rfl
  | .undef => rfl
  | .junk _ => rfl
  | .raw _ => rfl
theorem SV.renL_id : ∀ l : List SV, SV.renL id l = l
  | [] => rfl
  | x :: r => by simp only [SV.renL, SV.ren_id x, SV.renL_id r]
end
theorem OBlk.ren_id : ∀ o : OBlk, o.ren id = o
  | .cells t cs => by simp only [OBlk.ren, SV.renL_id]
  | .arr .. => rfl
  | .pub _ => rfl
  | .mapD .. => rfl
  | .map es => by
    simp only [OBlk.ren, SV.ren_id]
    congr 1
    conv => rhs; rw [← List.map_id es]
    rfl

theorem named_key {m : Mem} {k : Nat} {o : OBlk} (h : (k, o) ∈ m) : k ∈ m.named := List.mem_flatMap.2 ⟨_, h, List.mem_cons_self⟩
theorem named_in {m : Mem} {k j : Nat} {o : OBlk} (h : (k, o) ∈ m) (hj : j ∈ o.keys) : j ∈ m.named := List.mem_flatMap.2 ⟨_, h, List.mem_cons_of_mem _ hj⟩

theorem Good.envTo {C : Ctx} {m : Mem} {E E' : Env} {H : HV} {w : World} (g : Good C m E H w) (hj : E'.j = E.j) (h : ∀ k, k ∈ m.named → E'.b k = E.b k ∧ E'.v k = E.v k) (hp : ∀ f, C.x.pn = some f → ∀ k, PIN ≤ k → E'.b k = E.b k) : Good C m E' H w := by
  refine ⟨g.below, g.ext, g.fresh, g.cell, fun k o hko => ?_, g.keys, fun x y hx hy hne hlx hly => ?_, ⟨g.fix.fx, g.fix.mark, g.fix.nodup, fun f hf k hk => (hp f hf k hk).trans (g.fix.pin f hf k hk)⟩⟩
  · have := OOk.ren (ρ := id) hj (g.own k o hko) (h k (named_key hko)) (fun j hj => h j (named_in hko hj)) (fun es _ hk => keysOk_ren hk)
    rw [OBlk.ren_id] at this
    exact this
  · rw [(h x.1 (named_key (o := x.2) hx)).1, (h y.1 (named_key (o := y.2) hy)).1]
    exact g.apart x y hx hy hne hlx hly
theorem denL_envTo {E E' : Env} (hj : E'.j = E.j) {l : List SV} (h : ∀ k, k ∈ SV.keysL l → E'.b k = E.b k ∧ E'.v k = E.v k) : SV.denL E' l = SV.denL E l := by
  have := SV.denL_ren (ρ := id) hj l h
  rwa [SV.renL_id] at this
def shM (m : Mem) : Mem := m.map fun e => (e.1 + 500, e.2.ren (· + 500))
def RetM (w : World) (H : HV) (Φ : SV → Mem → Prop) : Value → World → Prop :=
  fun u w' => ∃ v m E1 H', Φ v m ∧ u = v.den E1 ∧ Good ⟨w, H⟩ m E1 H' w' ∧ v.Ok H' ∧ v.jk 0 = false ∧ (∀ x, x ∈ m → x.2.jk 0 = false)

theorem OOk.ctx {C C' : Ctx} {E : Env} {H : HV} {w : World} {k : Nat} {o : OBlk} (h : OOk C E H w k o) (hs : C'.w0.heap.size ≤ C.w0.heap.size) : OOk C' E H w k o := by
  cases o with
  | cells t cs => exact ⟨Nat.le_trans hs h.1, h.2⟩
  | pub d => exact h
  | map es => exact ⟨Nat.le_trans hs h.1, h.2⟩
  | mapD kk ag ts d => exact ⟨Nat.le_trans hs h.1, h.2⟩
  | arr e d =>
    obtain ⟨hd, sz, rows, h1, h2, h3, h4⟩ := h
    exact ⟨hd, sz, rows, h1, h2, ownsRow_mono h3 hs, h4⟩

theorem OBlk.lies_ren (ρ : Nat → Nat) (o : OBlk) : (o.ren ρ).Lies ↔ o.Lies := by cases o <;> rfl

section
variable {P : Program} {C : Ctx} {R : Value → World → Prop}

theorem runs_frame {top g : SFrm} {rest : List SFrm} {mem : Mem} {Φ : SV → Mem → Prop}
    (hpure : ∀ k, k ∉ SV.keysL top.tmps) (hlow : ∀ k, k ∈ SV.keysL g.tmps ++ ((rest.flatMap fun f => SV.keysL f.tmps) ++ mem.named) → k < 500)
    (h1 : ∀ (H : HV) (w : World), SV.OkL H top.tmps → Runs P ⟨w, H⟩ ⟨top, [], []⟩ (RetM w H Φ))
    (h2 : ∀ v m, Φ v m → Runs P C ⟨{ g with tmps := putS g.tmps g.await (v.ren (· + 500)), await := none }, rest, shM m ++ mem⟩ R) (hpn : C.x.pn = none := by rfl) :
    Runs P C ⟨top, g :: rest, mem⟩ R := by
  intro E H w gd ok
  have hcell := gd.cell
  have hr := h1 H w ok.1 E H w (good_start hcell E) ⟨ok.1, by simp⟩
  rw [stkRun_eq] at hr ⊢
  simp only [List.map_nil, restOf] at hr
  simp only [List.map_cons, restOf]
  refine CFrm.run_mono hr fun u w' ⟨v, m, E1, H', hΦ, hu, g1, hv, hvj, hmj⟩ => ?_
  -- where all lies afterwards
  let E2 : Env := ⟨fun k => if 500 ≤ k then E1.b (k - 500) else E.b k, fun k => if 500 ≤ k then E1.v (k - 500) else E.v k, E.j⟩
  let E1' : Env := ⟨E1.b, E1.v, E.j⟩
  have hs1 : Same 0 E1 E1' := ⟨rfl, rfl, fun i hi => absurd hi (Nat.not_lt_zero _)⟩
  have g1' : Good ⟨w, H⟩ m E1' H' w' := g1.same' hs1 hmj
  have hu' : u = v.den E1' := by rw [hu]; exact (den_same hs1 v hvj).symm
  have hren : ∀ k, Ren (· + 500) E1' E2 k := fun k => by
    refine ⟨?_, ?_⟩ <;> simp [E2, E1']
  have hold : ∀ k, k < 500 → E2.b k = E.b k ∧ E2.v k = E.v k := fun k hk => by
    refine ⟨?_, ?_⟩ <;> simp [E2] <;> omega
  have hden : v.den E1' = (v.ren (· + 500)).den E2 := (SV.den_ren (ρ := (· + 500)) (E := E1') (E' := E2) rfl v (fun k _ => hren k)).symm
  have hmemlow : ∀ k, k ∈ mem.named → k < 500 := fun k hk => hlow k (List.mem_append_right _ (List.mem_append_right _ hk))
  have gm : Good C mem E H' w' := gd.call g1.below g1.ext g1.fresh g1.cell
  have gm2 : Good C mem E2 H' w' := gm.envTo rfl (fun k hk => hold k (hmemlow k hk)) fun f hf => by rw [hpn] at hf; cases hf
  have hlowm : ∀ k o, (k, o) ∈ m → w.heap.size ≤ E1.b k ∨ ¬o.Lies := fun k o hko => by
    by_cases hl : o.Lies
    · exact .inl ((g1.own k o hko).low hl)
    · exact .inr hl
  have good2 : Good C (shM m ++ mem) E2 H' w' := by
    refine ⟨gm.below, gm.ext, gm.fresh, gm.cell, fun k o hko => ?_, ?_, fun x y hx hy hne hlx hly => ?_, gm2.fix⟩
    · rcases List.mem_append.1 hko with h | h
      · obtain ⟨⟨k', o'⟩, hm, he⟩ := List.mem_map.1 h
        cases he
        exact (OOk.ren (ρ := (· + 500)) (E := E1') (E' := E2) rfl (g1'.own k' o' hm) (hren k') (fun j _ => hren j) (fun es _ hk => keysOk_ren hk)).ctx gd.below.size
      · exact gm2.own k o h
    · rw [List.pairwise_append]
      refine ⟨?_, gm.keys, fun x hx y hy => ?_⟩
      · rw [shM, List.pairwise_map]
        exact g1.keys.imp fun h => by simpa using h
      · obtain ⟨x', hx', rfl⟩ := List.mem_map.1 hx
        have := hmemlow y.1 (named_key (o := y.2) hy)
        simp only; omega
    · have newb : ∀ z : Nat × OBlk, z ∈ shM m → z.2.Lies → w.heap.size ≤ E2.b z.1 ∧ ∃ z', z' ∈ m ∧ z.1 = z'.1 + 500 ∧ z'.2.Lies ∧ E2.b z.1 = E1.b z'.1 := fun z hz hl => by
        obtain ⟨z', hz', rfl⟩ := List.mem_map.1 hz
        have hl' := (OBlk.lies_ren _ _).1 hl
        have hb : E2.b (z'.1 + 500) = E1.b z'.1 := (hren z'.1).1
        exact ⟨by rw [hb]; exact (g1.own z'.1 z'.2 hz').low hl', z', hz', rfl, hl', hb⟩
      have oldb : ∀ z : Nat × OBlk, z ∈ mem → z.2.Lies → E2.b z.1 < w.heap.size := fun z hz hl => by
        rw [(hold z.1 (hmemlow z.1 (named_key (o := z.2) hz))).1]
        exact (gd.own z.1 z.2 hz).lt hl
      rcases List.mem_append.1 hx with hx | hx <;> rcases List.mem_append.1 hy with hy | hy
      · obtain ⟨_, x', hx', ex, lx, bx⟩ := newb x hx hlx
        obtain ⟨_, y', hy', ey, ly, by'⟩ := newb y hy hly
        rw [bx, by']
        exact g1.apart x' y' hx' hy' (fun h => hne (by rw [ex, ey, h])) lx ly
      · have := (newb x hx hlx).1; have := oldb y hy hly; omega
      · have := oldb x hx hlx; have := (newb y hy hly).1; omega
      · exact gm2.apart x y hx hy hne hlx hly
  have hgt : SV.denL E2 g.tmps = SV.denL E g.tmps := denL_envTo (E := E) (E' := E2) rfl fun k hk => hold k (hlow k (List.mem_append_left _ hk))
  have hrt : rest.map (SFrm.den E2) = rest.map (SFrm.den E) := by
    apply List.map_congr_left
    intro f hf
    simp only [SFrm.den]
    rw [denL_envTo (E := E) (E' := E2) rfl fun k hk => hold k (hlow k (List.mem_append_right _ (List.mem_append_left _ (List.mem_flatMap.2 ⟨f, hf, hk⟩))))]
  have okg : SV.OkL H' g.tmps := SV.OkL.mono g1.ext _ (ok.2 g List.mem_cons_self)
  have fin := h2 v m hΦ E2 H' w' good2 ⟨okL_putS okg (SV.ok_ren v hv), fun f hf => SV.OkL.mono g1.ext _ (ok.2 f (List.mem_cons_of_mem _ hf))⟩
  simp only [SFrm.den] at fin ⊢
  rw [← put_den, hgt, ← hden, ← hu'] at fin
  rw [hrt] at fin
  cases rest <;> exact fin
theorem retM {w : World} {H : HV} {Φ : SV → Mem → Prop} {fn : FuncId} {aw : Option Tmp} {k : List Item} {tmps : List SV} {mem : Mem} {f : Func} {l : List SV} (m' : Mem) (hfn : P.funcs[fn]? = some f) (hres : resS P mem tmps f.results.toList = some l)
    (hsub : m'.Sublist mem) (hj : (one? l).jk 0 = false) (hjm : m'.all (fun x => !x.2.jk 0) = true) (h : Φ (one? l) m') : (Tree.leaf ⟨⟨fn, none, aw, .code .ret :: k, tmps⟩, [], mem⟩).holds P ⟨w, H⟩ (RetM w H Φ) := by
  refine runs_ret hfn hres fun E H' w' g hv => ⟨_, m', E, H', h, rfl, g.sub hsub, hv, hj, fun x hx => ?_⟩
  have := List.all_eq_true.1 hjm x hx
  simpa using this
def atRet (c : Conf) : Bool :=
  match c.rest with
  | [] => match c.top.ri with
    | none => match c.top.todo with
      | .code .ret :: _ => true
      | _ => false
    | some _ => false
  | _ :: _ => false
noncomputable def execR (P : Program) (cs : Ctrs) (n : Nat) : Conf → Tree :=
  Nat.rec (motive := fun _ => Conf → Tree) (fun _ => .stuck) (fun _ ih c => match atRet c with
    | true => leafR c
    | false => stepC P cs (fun _ => false) ih c) n
theorem execR_sound {cs : Ctrs} (hcs : cs.Ok P) : ∀ (n : Nat) (c : Conf), (execR P cs n c).holds P C R → Runs P C c R
  | 0, _, h => h.elim
  | n + 1, c, h => by
    have e : execR P cs (n + 1) c = match atRet c with
      | true => leafR c
      | false => stepC P cs (fun _ => false) (execR P cs n) c := rfl
    rw [e] at h
    cases hr : atRet c with
    | true => rw [hr, leafR_eq] at h; exact h
    | false => rw [hr] at h; exact step_sound (U := fun _ => false) (ih := execR P cs n) hcs (fun c h => execR_sound hcs n c h) c h
end
end Sx
end
section
namespace Sx
open Go RowKit
def atEnd (c : Conf) : Bool :=
  match c.rest with
  | [] => match c.top.ri with
    | none => match c.top.todo with
      | [] => true
      | .code .ret :: _ => true
      | _ => false
    | some _ => false
  | _ :: _ => false
noncomputable def execP (P : Program) (cs : Ctrs) (n : Nat) : Conf → Tree :=
  Nat.rec (motive := fun _ => Conf → Tree) (fun _ => .stuck) (fun _ ih c => match atEnd c with
    | true => leafR c
    | false => stepC P cs (fun _ => false) ih c) n
def EndR (C : Ctx) (Φ : Bool → List SV → Mem → Prop) (v : Value) (w : World) : Prop :=
  ∃ e tmps mem E H, Φ e tmps mem ∧ v = rv e (SV.denL E tmps).toArray ∧ Good C mem E H w ∧ SV.OkL H tmps

section
variable {P : Program} {C : Ctx} {Φ : Bool → List SV → Mem → Prop}






end
def SV.plainK : SV → Bool
  | .int .. => true
  | .bool _ => true
  | .lb _ => true
  | .str _ => true
  | .nils => true
  | .dat _ => true
  | _ => false
def SV.kept : SV → Bool
  | .vec _ => false
  | .ptr k _ => Nat.ble PIN k
  | .velt .. => false
  | .view .. => false
  | .mapp _ => false
  | .sl _ _ => false
  | .agg l => l.all SV.plainK
  | .tup _ => false
  | .fn _ a c => a.isEmpty && c.all fun x => match x with
    | .ptr k _ => Nat.ble PIN k
    | _ => false
  | _ => true

theorem kept_den {E E' : Env} (hj : E'.j = E.j) (hb : ∀ k, PIN ≤ k → E'.b k = E.b k) (x : SV) (h : x.kept = true) : x.den E' = x.den E := by
  cases x <;> simp only [SV.kept] at h <;> try (first | rfl | (cases h; done))
  case ptr k o => simp only [SV.den, hb k (Nat.le_of_ble_eq_true h)]
  case agg l =>
    have : SV.denL E' l = SV.denL E l := by
      rw [SV.denL_eq, SV.denL_eq]
      apply List.map_congr_left
      intro y hy
      have := List.all_eq_true.1 h y hy
      cases y <;> first | rfl | (cases this; done)
    simp only [SV.den, this]
  case fn f a c =>
    simp only [Bool.and_eq_true, List.isEmpty_iff, List.all_eq_true] at h
    obtain ⟨rfl, h⟩ := h
    have : SV.denL E' c = SV.denL E c := by
      rw [SV.denL_eq, SV.denL_eq]
      apply List.map_congr_left
      intro y hy
      have := h y hy
      cases y <;> simp only [SV.den] <;> try (cases this; done)
      rw [hb _ (Nat.le_of_ble_eq_true this)]
    simp only [SV.den, this, SV.denL]
  case junk i => simp only [SV.den, hj]
theorem kept_denL {E E' : Env} (hj : E'.j = E.j) (hb : ∀ k, PIN ≤ k → E'.b k = E.b k) {l : List SV} (h : l.all SV.kept = true) : SV.denL E' l = SV.denL E l := by
  rw [SV.denL_eq, SV.denL_eq]
  exact List.map_congr_left fun x hx => kept_den hj hb x (List.all_eq_true.1 h x hx)
theorem Good.ctx {C C' : Ctx} {m : Mem} {E : Env} {H : HV} {w : World} (g : Good C m E H w) (h0 : C'.w0 = C.w0) (hle : HLe C'.H0 H) (hf : ∀ b o v, H b o = some v → C'.H0 b o = some v ∨ C.w0.heap.size ≤ b) (hx : FixOk C'.x C.w0.heap.size E w) : Good C' m E H w := by
  obtain ⟨w0, H0⟩ := C'
  simp only at h0
  subst h0
  refine ⟨g.below, hle, hf, g.cell, fun k o hk => ?_, g.keys, g.apart, hx⟩
  have := g.own k o hk
  cases o <;> exact this
theorem Good.still {C : Ctx} {m : Mem} {E : Env} {H : HV} {w w' : World} (g : Good C m E H w) (hos : w'.os = w.os) (ht : w'.tape = w.tape) (hu : w'.output = w.output) (hs : w.heap.size ≤ w'.heap.size)
    (hb : ∀ j o, w.heap[j]? = some o → w'.heap[j]? = some o ∨ (stillO o = true ∧ C.w0.heap.size ≤ j ∧ C.x.fx j = none)) : Good C m E H w' := by
  have hq : ∀ j o, w.heap[j]? = some o → stillO o = false → w'.heap[j]? = w.heap[j]? := fun j o hj ho => by
    rcases hb j o hj with h | ⟨h, _⟩
    · rw [h, hj]
    · rw [ho] at h; cases h
  have hc : ∀ b o v, H b o = some v → w'.heap[b]? = w.heap[b]? := fun b o v h => by
    have h1 := g.cell b o v h
    cases hj : w.heap[b]? with
    | none => simp [World.cell?, hj] at h1
    | some q =>
      rw [← hj]
      refine hq b q hj ?_
      simp only [World.cell?, hj, Option.isSome_none, Bool.false_eq_true, if_false] at h1
      cases q <;> first | rfl | (simp at h1)
  refine ⟨⟨hos.trans g.below.os, ht.trans g.below.tape, hu.trans g.below.output, Nat.le_trans g.below.size hs, fun j hj => ?_⟩, g.ext, g.fresh, fun b o v h => ?_, fun k o h => ?_, g.keys, g.apart, ?_⟩
  · rw [← g.below.block j hj]
    have hlt : j < w.heap.size := Nat.lt_of_lt_of_le hj g.below.size
    have hget : w.heap[j]? = some w.heap[j] := by simp [hlt]
    rcases hb j _ hget with h | ⟨_, h, _⟩
    · rw [h, hget]
    · omega
  · rw [cell_of_heap (w := w) (hc b o v h)]; exact g.cell b o v h
  · refine (g.own k o h).keep fun hl => ?_
    have hlt := (g.own k o h).lt hl
    have hget : w.heap[E.b k]? = some w.heap[E.b k] := by simp [hlt]
    exact hq _ _ hget ((g.own k o h).moves hl hget)
  · refine ⟨fun b o h => ⟨?_, (g.fix.fx b o h).2⟩, g.fix.mark, g.fix.nodup, g.fix.pin⟩
    rcases hb b o (g.fix.fx b o h).1 with h1 | ⟨_, _, h1⟩
    · exact h1
    · rw [h1] at h; cases h
theorem Good.junk {C : Ctx} {m : Mem} {E : Env} {H : HV} {w : World} (g : Good C m E H w) (j : Nat → Value) (hm : m.all (fun x => !x.2.jk 0) = true) : Good C m ⟨E.b, E.v, j⟩ H w :=
  g.same' (n := 0) ⟨rfl, rfl, fun i hi => absurd hi (Nat.not_lt_zero _)⟩ fun x hx => by simpa using List.all_eq_true.1 hm x hx
end Sx
end
section
namespace Sx
open Go RowKit
structure IterCode (P : Program) (it : FuncId) where
  fn : Func
  hfn : P.funcs[it]? = some fn
  name : (fn.name == "runtime.NumGoroutine") = false
  ntmps : fn.ntmps = 23
  results : fn.results = #[]
  i0 : Nat
  i1 : Nat
  i2 : Nat
  i3 : Nat
  i4 : Nat
  ops0 : Array Oper
  ops1 : Array Oper
  ops2 : Array Oper
  ops3 : Array Oper
  ops4 : Array Oper
  body : fn.body = some (.seq (.region i0 ops0 false) (.block 0 (.loop (.seq (.region i1 ops1 false) (.seq (.cond (.tmp 9) .skip (.exit 0))
    (.seq (.block 1 (.seq (.region i2 ops2 false) (.seq (.region i3 ops3 false) (.cond (.tmp 21) .ret .skip)))) (.region i4 ops4 false)))))))
  calm3 : calmOps ops3 = true
  size3 : ops3.size = 10
  o8 : Oper
  at8 : ops3[8]? = some o8
  tys : Array TypeId
  op8 : o8.op = .call { callee := .value (.tmp 12), args := #[.tmp 13, .tmp 19], argTypes := tys }
  dst8 : o8.dst = some 20
  guard8 : o8.guard = none

def IterCode.loopC {P : Program} {it : FuncId} (I : IterCode P it) : Code := .seq (.region I.i1 I.ops1 false) (.seq (.cond (.tmp 9) .skip (.exit 0))
    (.seq (.block 1 (.seq (.region I.i2 I.ops2 false) (.seq (.region I.i3 I.ops3 false) (.cond (.tmp 21) .ret .skip)))) (.region I.i4 I.ops4 false)))
def liveIt : List Nat := [0, 1, 2, 6, 7, 8]
def MemTo (m m' : Mem) : Prop := ∀ (C : Ctx) (E : Env) (H : HV) (w : World), Good C m E H w → ∃ E', E'.j = E.j ∧ (∀ k, PIN ≤ k → E'.b k = E.b k) ∧ Good C m' E' H w

theorem MemTo.sub {m m' : Mem} (h : m'.Sublist m) : MemTo m m' := fun _ E _ _ g => ⟨E, rfl, fun _ _ => rfl, g.sub h⟩
theorem MemTo.refl (m : Mem) : MemTo m m := fun _ E _ _ g => ⟨E, rfl, fun _ _ => rfl, g⟩
theorem MemTo.ren {m : Mem} (ρ : Nat → Nat) (hpin : ∀ k, PIN ≤ k → ρ k = k) (hlow : ∀ k, k ∈ m.named → k < PIN → ρ k < PIN)
    (hinj : ∀ k j, k ∈ m.named → j ∈ m.named → ρ k = ρ j → k = j) : MemTo m (m.map fun e => (ρ e.1, e.2.ren ρ)) := by
  intro C E H w g
  let inv : Nat → Nat := fun i => if PIN ≤ i then i else ((m.named.find? fun k => ρ k == i).getD i)
  let E' : Env := ⟨fun i => E.b (inv i), fun i => E.v (inv i), E.j⟩
  have hinv : ∀ k, k ∈ m.named → inv (ρ k) = k := fun k hk => by
    rcases Nat.lt_or_ge k PIN with h | h
    · have hl := hlow k hk h
      simp only [inv, if_neg (Nat.not_le.2 hl)]
      cases hf : m.named.find? fun j => ρ j == ρ k with
      | none =>
        have := List.find?_eq_none.1 hf k hk
        simp at this
      | some j =>
        have h1 := List.find?_some hf
        have h2 := List.mem_of_find?_eq_some hf
        simp only [beq_iff_eq] at h1
        simp only [Option.getD_some]
        exact hinj j k h2 hk h1
    · rw [hpin k h]; simp only [inv, if_pos h]
  have ren : ∀ k, k ∈ m.named → Ren ρ E E' k := fun k hk => by
    simp only [Ren, E', hinv k hk, and_self]
  refine ⟨E', rfl, fun k hk => by simp only [E', inv, if_pos hk], ?_⟩
  refine ⟨g.below, g.ext, g.fresh, g.cell, fun k o hko => ?_, ?_, fun x y hx hy hne hlx hly => ?_, g.fix.keep (fun k hk => by simp only [E', inv, if_pos hk]) fun _ _ h _ => h⟩
  · obtain ⟨e, he, h1⟩ := List.mem_map.1 hko
    simp only [Prod.mk.injEq] at h1
    obtain ⟨rfl, rfl⟩ := h1
    exact (g.own e.1 e.2 he).ren (E' := E') (show E'.j = E.j from rfl) (ren _ (named_key (o := e.2) he)) (fun j hj => ren j (named_in he hj)) (fun es _ hk => keysOk_ren hk)
  · rw [List.pairwise_map]
    refine g.keys.imp_of_mem ?_
    intro a b ha hb hne e
    exact hne (hinj _ _ (named_key (o := a.2) ha) (named_key (o := b.2) hb) e)
  · obtain ⟨a, ha, h1⟩ := List.mem_map.1 hx
    obtain ⟨b, hb, h2⟩ := List.mem_map.1 hy
    subst h1; subst h2
    simp only at hne hlx hly ⊢
    rw [(ren a.1 (named_key (o := a.2) ha)).1, (ren b.1 (named_key (o := b.2) hb)).1]
    exact g.apart a b ha hb (fun e => hne (by rw [e])) ((OBlk.lies_ren _ _).1 hlx) ((OBlk.lies_ren _ _).1 hly)
def Ctx.marked (C : Ctx) (D : Nat) : Ctx := @Ctx.mk C.w0 C.H0 ⟨fun b => if b = D then some (.deferred (some [])) else C.x.fx b, D :: C.x.df, C.x.rd, C.x.pn⟩
def Ctx.loopX (C : Ctx) (Hb : HV) (pb : Nat → Nat) (D l : Nat) (r : Loop) : Ctx :=
  @Ctx.mk C.w0 Hb ⟨fun b => if b = D then some (.deferred (some [])) else if b = l then some (.loop r) else C.x.fx b, [], true, some pb⟩

def yieldV (l : Nat) : Value := .func (.yield l) #[] #[]

section
variable {P : Program} {it : FuncId}
structure IterWalk (I : IterCode P it) {σ : Type} (mm : σ → Mem) (n : Nat) (z : Nat → Int) (wv : Nat → SV) (Inv : Nat → σ → Prop) (caps : List SV) where
  itL : Nat → Nat → List SV
  TA : Nat → List SV
  T1 : Nat → Nat → List SV
  T2 : Nat → Nat → List SV
  T3 : Nat → Nat → List SV
  TC : Bool → Nat → Nat → List SV
  TD : Nat → Nat → List SV
  kept : ∀ l j, (itL l j).all SV.kept = true
  okL : ∀ (C : Ctx) (E : Env) (H : HV) (w : World) (s : σ), Good C (mm s) E H w → ∀ l j, SV.OkL H (itL l j)
  okw : ∀ (C : Ctx) (E : Env) (H : HV) (w : World) (s : σ), Good C (mm s) E H w → ∀ j, j < n → (wv j).Ok H
  A : ∀ (C : Ctx) (s : σ) (l : Nat), C.x.rd = true → Inv 0 s → Runs P C ⟨⟨it, none, none, [.code (.region I.i0 I.ops0 false)], SV.raw (yieldV l) :: caps ++ List.replicate 20 .undef⟩, [], mm s⟩ (EndR C fun e T m => e = true ∧ T = TA l ∧ m = mm s)
  mA : ∀ l, maskT 0 liveIt 0 (TA l) = itL l 0 ∧ keptOk 0 liveIt 0 (TA l) = true
  B1 : ∀ (C : Ctx) (s : σ) (l j : Nat), C.x.rd = true → j ≤ n → Inv j s → Runs P C ⟨⟨it, none, none, [.code (.region I.i1 I.ops1 false)], itL l j⟩, [], mm s⟩ (EndR C fun e T m => e = true ∧ T = T1 l j ∧ m = mm s)
  c1 : ∀ l j, (T1 l j)[9]? = some (.bool (decide ((j : Int) < n)))
  B2 : ∀ (C : Ctx) (s : σ) (l j : Nat), C.x.rd = true → j < n → Inv j s → Runs P C ⟨⟨it, none, none, [.code (.region I.i2 I.ops2 false)], T1 l j⟩, [], mm s⟩ (EndR C fun e T m => e = true ∧ T = T2 l j ∧ m = mm s)
  B3 : ∀ (C : Ctx) (s : σ) (l j : Nat), C.x.rd = true → j < n → Inv j s → Runs P C ⟨⟨it, some (I.ops3, [0, 1, 2, 3, 4, 5, 6, 7]), none, [], T2 l j⟩, [], mm s⟩ (EndR C fun e T m => e = true ∧ T = T3 l j ∧ m = mm s)
  c3 : ∀ l j, (T3 l j)[12]? = some (.raw (yieldV l)) ∧ (T3 l j)[13]? = some (.int .i64 (z j)) ∧ (T3 l j)[19]? = some (wv j)
  m3 : ∀ l j, maskT 0 liveIt 0 (T3 l j) = itL l j ∧ keptOk 0 liveIt 0 (T3 l j) = true
  Cc : ∀ (C : Ctx) (s : σ) (m : Mem) (e : Bool) (l j : Nat), C.x.rd = true → Runs P C ⟨⟨it, some (I.ops3, [9]), none, [], (itL l j).set 20 (.lb e)⟩, [], m⟩ (EndR C fun e' T m' => e' = true ∧ T = TC e l j ∧ m' = m)
  cC : ∀ e l j, (TC e l j)[21]? = some (.lb (!e))
  Dd : ∀ (C : Ctx) (s : σ) (l j : Nat), C.x.rd = true → j < n → Runs P C ⟨⟨it, none, none, [.code (.region I.i4 I.ops4 false)], TC true l j⟩, [], mm s⟩ (EndR C fun e T m => e = true ∧ T = TD l j ∧ m = mm s)
  mD : ∀ l j, j < n → maskT 0 liveIt 0 (TD l j) = itL l (j + 1) ∧ keptOk 0 liveIt 0 (TD l j) = true
  indep : ∀ (j : Nat) (E E' : Env), (wv j).den E' = (wv j).den E
end




section
variable {P : Program} {it : FuncId}
def roundF (fn : FuncId) (l : Nat) : Frame := { (default : Frame) with fn := fn, kind := .normal, roundOf := some l }

end

section
variable {P : Program} {it : FuncId}


theorem loopX_at {C : Ctx} {Hb : HV} {pb : Nat → Nat} {D l : Nat} {r : Loop} (hne : l ≠ D) : (C.loopX Hb pb D l r).x.fx l = some (.loop r) := by
  show (if l = D then some (Obj.deferred (some [])) else if l = l then some (.loop r) else C.x.fx l) = _
  rw [if_neg hne, if_pos rfl]
theorem Good.record {C : Ctx} {Hb : HV} {pb : Nat → Nat} {D l : Nat} {r r' : Loop} {m : Mem} {E : Env} {H : HV} {w : World} (g : Good (C.loopX Hb pb D l r) m E H w) (hlow : C.w0.heap.size ≤ l) (hne : l ≠ D) (hfx : C.x.fx l = none) :
    Good (C.loopX Hb pb D l r') m E H (w.putObj l (.loop r')) := by
  have hl := (g.fix.fx l (.loop r) (loopX_at hne)).1
  have hlt := (Array.getElem?_eq_some_iff.1 hl).1
  have g1 : Good (@Ctx.mk C.w0 Hb ⟨fun b => if b = D then some (.deferred (some [])) else C.x.fx b, [], true, some pb⟩) m E H w := by
    refine g.ctx rfl g.ext (fun b o v h => g.fresh b o v h) ⟨fun b o h => ?_, (fun _ h => by cases h), List.nodup_nil, g.fix.pin⟩
    refine g.fix.fx b o ?_
    show (if b = D then some (Obj.deferred (some [])) else if b = l then some (.loop r) else C.x.fx b) = some o
    have h : (if b = D then some (Obj.deferred (some [])) else C.x.fx b) = some o := h
    split at h
    · rename_i e; rw [if_pos e]; exact h
    · rename_i e
      rw [if_neg e]
      by_cases e2 : b = l
      · rw [e2, hfx] at h; cases h
      · rw [if_neg e2]; exact h
  have g2 := g1.still (w' := w.putObj l (.loop r')) rfl rfl rfl (by simp) fun j o hj => by
    by_cases e : j = l
    · subst e; rw [hl] at hj; cases hj
      exact .inr ⟨rfl, hlow, by show (if j = D then some (Obj.deferred (some [])) else C.x.fx j) = none; rw [if_neg hne, hfx]⟩
    · exact .inl (by rw [heap_putObj _ _ _ _ e]; exact hj)
  refine g2.ctx rfl g2.ext (fun b o v h => g2.fresh b o v h) ⟨fun b o h => ?_, (fun _ h => by cases h), List.nodup_nil, g2.fix.pin⟩
  have h : (if b = D then some (Obj.deferred (some [])) else if b = l then some (.loop r') else C.x.fx b) = some o := h
  split at h
  · rename_i e
    exact g2.fix.fx b o (by show (if b = D then some (Obj.deferred (some [])) else C.x.fx b) = some o; rw [if_pos e]; exact h)
  · rename_i e
    split at h
    · rename_i e2; cases h; rw [e2]
      exact ⟨World.putObj_heap_same hlt, rfl⟩
    · exact g2.fix.fx b o (by show (if b = D then some (Obj.deferred (some [])) else C.x.fx b) = some o; rw [if_neg e]; exact h)
theorem Good.behind {C : Ctx} {Hb : HV} {pb : Nat → Nat} {D l : Nat} {r : Loop} {m : Mem} {E : Env} {H : HV} {w : World} (g : Good (C.loopX Hb pb D l r) m E H w) (hle : HLe C.H0 Hb) (hfr : ∀ b o v, Hb b o = some v → C.H0 b o = some v ∨ C.w0.heap.size ≤ b)
    (hpn : C.x.pn = none) (hlowD : C.w0.heap.size ≤ D) (hlow : C.w0.heap.size ≤ l) (hne : l ≠ D) (hfl : C.x.fx l = none) (hnd : D ∉ C.x.df) (hm : ∀ b, b ∈ C.x.df → C.w0.heap.size ≤ b ∧ b ≠ D ∧ C.x.fx b = some (.deferred (some []))) (hn : C.x.df.Nodup) (r' : Loop) :
    Good (C.marked D) m E H (w.putObj l (.loop r')) := by
  have g1 := g.record (r' := r') hlow hne hfl
  refine g1.ctx rfl (hle.trans g1.ext) (fun b o v h => ?_) ⟨fun b o h => ?_, fun b h => ?_, ?_, fun f h => ?_⟩
  · rcases g1.fresh b o v h with h1 | h1
    · exact hfr b o v h1
    · exact .inr h1
  · refine g1.fix.fx b o ?_
    show (if b = D then some (Obj.deferred (some [])) else if b = l then some (.loop r') else C.x.fx b) = some o
    have h : (if b = D then some (Obj.deferred (some [])) else C.x.fx b) = some o := h
    split at h
    · rename_i e; rw [if_pos e]; exact h
    · rename_i e
      rw [if_neg e]
      by_cases e2 : b = l
      · rw [e2, hfl] at h; cases h
      · rw [if_neg e2]; exact h
  · have h : b ∈ D :: C.x.df := h
    rcases List.mem_cons.1 h with rfl | h
    · exact ⟨hlowD, by show (if b = b then some (Obj.deferred (some [])) else C.x.fx b) = _; rw [if_pos rfl]⟩
    · obtain ⟨h1, h2, h3⟩ := hm b h
      exact ⟨h1, by show (if b = D then some (Obj.deferred (some [])) else C.x.fx b) = _; rw [if_neg h2]; exact h3⟩
  · exact List.nodup_cons.2 ⟨hnd, hn⟩
  · have h : C.x.pn = some f := h
    rw [hpn] at h; cases h

end
end Sx
end
section
namespace Sx
open Go RowKit
def usesC : Code → List Nat
  | .seq a b => usesC a ++ usesC b
  | .cond x a b => (match x with | .tmp t => [t] | _ => []) ++ (usesC a ++ usesC b)
  | .block _ b => usesC b
  | .loop b => usesC b
  | .scope b => usesC b
  | .region _ ops _ => ops.toList.flatMap (usesOp ops)
  | .rangeFunc g _ a b => (match g with | .tmp t => [t] | _ => []) ++ (usesC a ++ usesC b)
  | _ => []

def atRange (c : Conf) : Bool :=
  match c.rest with
  | [] => match c.top.ri with
    | none => match c.top.todo with
      | .code (.rangeFunc ..) :: _ => true
      | _ => false
    | some _ => false
  | _ :: _ => false
def fgtQ (P : Program) (c : Conf) : Conf :=
  match c.top.todo with
  | .code (.rangeFunc g ps a b) :: k =>
    match forgetC (addNs (usesC (.rangeFunc g ps a b)) (liveI (retN P c.top.fn) k).1) c with
    | some c' => c'
    | none => c
  | _ => c

noncomputable def restQ (P : Program) (c : Conf) : Tree := nz (renC (fgtQ P c)) fun c => nz (sortC c) leafR

noncomputable def execQ (P : Program) (cs : Ctrs) (n : Nat) : Conf → Tree :=
  Nat.rec (motive := fun _ => Conf → Tree) (fun _ => .stuck) (fun _ ih c => match atRange c with
    | true => restQ P c
    | false => stepC P cs (fun _ => false) ih c) n

section
variable {P : Program} {C : Ctx} {R : Value → World → Prop}
def pinK (B k : Nat) : Nat :=
  match Nat.ble PIN k with
  | true => k
  | false => k + B

def pinC (B : Nat) (c : Conf) : Option Conf :=
  match Nat.ble PIN B && c.allKeys.all (fun k => Nat.blt k B) with
  | true => some (renWith (pinK B) c)
  | false => none

theorem pin_to (B : Nat) {c : Conf} (c' : Conf) (hc : pinC B c = some c') (h : Runs P C c' R) (hpn : C.x.pn = none := by rfl) : Runs P C c R := by
  unfold pinC at hc
  split at hc
  · rename_i hchk
    cases hc
    simp only [Bool.and_eq_true, List.all_eq_true] at hchk
    obtain ⟨hB, hall⟩ := hchk
    have hB : PIN ≤ B := Nat.le_of_ble_eq_true hB
    have hall : ∀ k, k ∈ c.allKeys → k < B := fun k hk => by simpa [Nat.blt_eq] using hall k hk
    intro E H w g ok
    have all : ∀ k, k ∈ SV.keysL c.top.tmps ∨ (∃ f, f ∈ c.rest ∧ k ∈ SV.keysL f.tmps) ∨ k ∈ Mem.named c.mem → k ∈ c.allKeys := fun k hk => by
      rcases hk with hk | ⟨f, hf, hk⟩ | hk
      · exact meet_mem (.inl (walkK_mem (meet_mem (.inr (List.mem_append_left _ hk)))))
      · exact meet_mem (.inl (walkK_mem (meet_mem (.inr (List.mem_append_right _ (List.mem_flatMap.2 ⟨f, hf, hk⟩))))))
      · exact meet_mem (.inr hk)
    let E' : Env := ⟨fun i => if B ≤ i then E.b (i - B) else E.b i, fun i => if B ≤ i then E.v (i - B) else E.v i, E.j⟩
    have cas : ∀ k, k ∈ c.allKeys → (PIN ≤ k ∧ pinK B k = k ∧ k < B) ∨ (k < PIN ∧ pinK B k = k + B) := fun k hk => by
      rcases Nat.lt_or_ge k PIN with hl | hl
      · right
        refine ⟨hl, ?_⟩
        have : Nat.ble PIN k = false := by
          cases hb : Nat.ble PIN k with
          | false => rfl
          | true => have := Nat.le_of_ble_eq_true hb; omega
        simp only [pinK, this]
      · left
        refine ⟨hl, ?_, hall k hk⟩
        simp only [pinK, Nat.ble_eq_true_of_le hl]
    have ren : ∀ k, k ∈ c.allKeys → Ren (pinK B) E E' k := fun k hk => by
      rcases cas k hk with ⟨h1, h2, h3⟩ | ⟨h1, h2⟩
      · simp only [Ren, E', h2, if_neg (Nat.not_le.2 h3), and_self]
      · simp only [Ren, E', h2, if_pos (Nat.le_add_left B k), Nat.add_sub_cancel, and_self]
    have inj : ∀ k j, k ∈ c.allKeys → j ∈ c.allKeys → pinK B k = pinK B j → k = j := fun k j hk hj e => by
      rcases cas k hk with ⟨h1, h2, h3⟩ | ⟨h1, h2⟩ <;> rcases cas j hj with ⟨g1, g2, g3⟩ | ⟨g1, g2⟩ <;> omega
    have named : ∀ k o, (k, o) ∈ c.mem → k ∈ c.allKeys ∧ ∀ j, j ∈ o.keys → j ∈ c.allKeys := fun k o hm => by
      refine ⟨all k (.inr (.inr ?_)), fun j hj => all j (.inr (.inr ?_))⟩
      · simp only [Mem.named, List.mem_flatMap]; exact ⟨_, hm, List.mem_cons_self⟩
      · simp only [Mem.named, List.mem_flatMap]; exact ⟨_, hm, List.mem_cons_of_mem _ hj⟩
    have gd : Good C (c.mem.map fun e => (pinK B e.1, e.2.ren (pinK B))) E' H w := by
      refine ⟨g.below, g.ext, g.fresh, g.cell, fun k o hko => ?_, ?_, fun x y hx hy hne hlx hly => ?_, ⟨g.fix.fx, g.fix.mark, g.fix.nodup, fun f hf => by rw [hpn] at hf; cases hf⟩⟩
      · obtain ⟨e, he, h1⟩ := List.mem_map.1 hko
        simp only [Prod.mk.injEq] at h1
        obtain ⟨rfl, rfl⟩ := h1
        obtain ⟨n1, n2⟩ := named e.1 e.2 he
        exact (g.own e.1 e.2 he).ren (E' := E') (show E'.j = E.j from rfl) (ren _ n1) (fun j hj => ren j (n2 j hj)) (fun es _ hk => keysOk_ren hk)
      · rw [List.pairwise_map]
        refine g.keys.imp_of_mem ?_
        intro a b ha hb hne e
        exact hne (inj _ _ (named a.1 a.2 ha).1 (named b.1 b.2 hb).1 e)
      · obtain ⟨a, ha, h1⟩ := List.mem_map.1 hx
        obtain ⟨b, hb, h2⟩ := List.mem_map.1 hy
        subst h1; subst h2
        simp only at hne hlx hly ⊢
        rw [(ren a.1 (named a.1 a.2 ha).1).1, (ren b.1 (named b.1 b.2 hb).1).1]
        exact g.apart a b ha hb (fun e => hne (by rw [e])) ((OBlk.lies_ren _ _).1 hlx) ((OBlk.lies_ren _ _).1 hly)
    have hr := h E' H w gd ⟨SV.okL_ren _ ok.1, fun f hf => by
      obtain ⟨f', hf', rfl⟩ := List.mem_map.1 hf
      exact SV.okL_ren _ (ok.2 f' hf')⟩
    have e1 : (renWith (pinK B) c).top.den E' = c.top.den E := by
      simp only [renWith, SFrm.den]
      rw [SV.denL_ren (E := E) (E' := E') rfl _ fun k hk => ren k (all k (.inl hk))]
    have e2 : (renWith (pinK B) c).rest.map (SFrm.den E') = c.rest.map (SFrm.den E) := by
      simp only [renWith, List.map_map]
      apply List.map_congr_left
      intro f hf
      simp only [Function.comp, SFrm.den]
      rw [SV.denL_ren (E := E) (E' := E') rfl _ fun k hk => ren k (all k (.inr (.inl ⟨f, hf, hk⟩)))]
    rw [e1, e2] at hr
    exact hr
  · cases hc


theorem runs_sub {top : SFrm} {rest : List SFrm} {m : Mem} (m' : Mem) (hp : m'.Sublist m) (h : Runs P C ⟨top, rest, m'⟩ R) : Runs P C ⟨top, rest, m⟩ R := fun E H w g ok => h E H w (g.sub hp) ok
theorem MemTo.perm {m m' : Mem} (hp : m'.Perm m) : MemTo m m' := fun _ E _ _ g => ⟨E, rfl, fun _ _ => rfl, g.perm hp⟩
theorem MemTo.trans {a b c : Mem} (h : MemTo a b) (k : MemTo b c) : MemTo a c := fun C E H w g => by
  obtain ⟨E1, h1, h2, h3⟩ := h C E H w g
  obtain ⟨E2, k1, k2, k3⟩ := k C E1 H w h3
  exact ⟨E2, k1.trans h1, fun q hq => (k2 q hq).trans (h2 q hq), k3⟩
def moveK (a b k : Nat) : Nat :=
  match Nat.beq k a with
  | true => b
  | false => k
theorem MemTo.move {m : Mem} (a b : Nat) (hab : (Nat.blt a PIN && Nat.blt b PIN && !(m.named.contains b)) = true) : MemTo m (m.map fun e => (moveK a b e.1, e.2.ren (moveK a b))) := by
  simp only [Bool.and_eq_true, Bool.not_eq_true', Nat.blt_eq] at hab
  obtain ⟨⟨ha, hb⟩, hno⟩ := hab
  have hno : b ∉ m.named := fun h => by
    have := List.contains_iff_mem.2 h
    rw [hno] at this; cases this
  have e1 : ∀ k, k ≠ a → moveK a b k = k := fun k h => by
    have : Nat.beq k a = false := by
      cases hb : Nat.beq k a with
      | false => rfl
      | true => exact absurd (Nat.eq_of_beq_eq_true hb) h
    simp only [moveK, this]
  have e2 : moveK a b a = b := by simp only [moveK, Nat.beq_refl]
  refine MemTo.ren _ (fun k hk => e1 k (by omega)) (fun k _ hk => ?_) fun k j hk hj e => ?_
  · by_cases h : k = a
    · subst h; rw [e2]; exact hb
    · rw [e1 k h]; exact hk
  · by_cases h : k = a <;> by_cases h' : j = a
    · rw [h, h']
    · subst h; rw [e2, e1 j h'] at e; exact absurd (e ▸ hj) hno
    · subst h'; rw [e2, e1 k h] at e; exact absurd (e ▸ hk) hno
    · rw [e1 k h, e1 j h'] at e; exact e

end
end Sx
end
section
namespace Sx
open Go RowKit
def SV.pinned : SV → Bool
  | .ptr k _ => Nat.ble PIN k
  | .mapp k => Nat.ble PIN k
  | .sl k _ => Nat.ble PIN k
  | .int .. => true
  | .bool _ => true
  | .lb _ => true
  | .str _ => true
  | .nils => true
  | .dat _ => true
  | .elt .. => true
  | .nilp => true
  | .nilf => true
  | .undef => true
  | .junk _ => true
  | .raw _ => true
  | _ => false
theorem den_pinned {E E' : Env} (hj : E'.j = E.j) (hb : ∀ k, PIN ≤ k → E'.b k = E.b k) : ∀ x : SV, x.pinned = true → x.den E' = x.den E
  | .ptr k _, h => by simp only [SV.den, hb k (Nat.le_of_ble_eq_true h)]
  | .mapp k, h => by simp only [SV.den, hb k (Nat.le_of_ble_eq_true h)]
  | .sl k _, h => by simp only [SV.den, hb k (Nat.le_of_ble_eq_true h)]
  | .int .., _ => by simp [SV.den]
  | .bool _, _ => by simp [SV.den]
  | .lb _, _ => by simp [SV.den]
  | .str _, _ => by simp [SV.den]
  | .nils, _ => by simp [SV.den]
  | .dat _, _ => by simp [SV.den]
  | .elt .., _ => by simp [SV.den]
  | .nilp, _ => by simp [SV.den]
  | .nilf, _ => by simp [SV.den]
  | .undef, _ => by simp [SV.den]
  | .junk _, _ => by simp [SV.den, hj]
  | .raw _, _ => by simp [SV.den]
theorem denL_pinned {E E' : Env} (hj : E'.j = E.j) (hb : ∀ k, PIN ≤ k → E'.b k = E.b k) : ∀ l : List SV, l.all SV.pinned = true → SV.denL E' l = SV.denL E l
  | [], _ => rfl
  | x :: r, h => by
    simp only [List.all_cons, Bool.and_eq_true] at h
    simp only [SV.denL, den_pinned hj hb x h.1, denL_pinned hj hb r h.2]
abbrev pinX (f : Nat → Nat) : CtxX := ⟨fun _ => none, [], false, some f⟩
def RetP (w0 : World) (H : HV) (f : Nat → Nat) (Φ : SV → Mem → Prop) : Value → World → Prop :=
  fun u w' => ∃ v m E1 H', Φ v m ∧ u = v.den E1 ∧ Good ⟨w0, H⟩ m E1 H' w' ∧ (∀ k, PIN ≤ k → E1.b k = f k) ∧ v.Ok H' ∧ v.jk 0 = false ∧ (∀ x, x ∈ m → x.2.jk 0 = false)
section
variable {P : Program} {R : Value → World → Prop}
theorem runs_meth {w0 : World} {H0 : HV} {top g : SFrm} {rest : List SFrm} {mem : Mem} {Φ : SV → Mem → Prop}
    (hgp : (g.tmps.all SV.pinned && rest.all fun f => f.tmps.all SV.pinned) = true)
    (h1 : ∀ (H : HV) (f : Nat → Nat), SV.OkL H top.tmps → Runs P (@Ctx.mk w0 H (pinX f)) ⟨top, [], mem⟩ (RetP w0 H f Φ))
    (h2 : ∀ v m, Φ v m → Runs P ⟨w0, H0⟩ ⟨{ g with tmps := putS g.tmps g.await v, await := none }, rest, m⟩ R) :
    Runs P ⟨w0, H0⟩ ⟨top, g :: rest, mem⟩ R := by
  intro E H w gd ok
  simp only [Bool.and_eq_true, List.all_eq_true] at hgp
  have gd1 : Good (@Ctx.mk w0 H (pinX E.b)) mem E H w :=
    ⟨gd.below, HLe.refl _, fun _ _ _ h => .inl h, gd.cell, fun k o h => by have := gd.own k o h; cases o <;> exact this, gd.keys, gd.apart, ⟨(fun _ _ h => nomatch h), (fun _ h => nomatch h), List.nodup_nil, fun f hf k _ => by cases hf; rfl⟩⟩
  have hr := h1 H E.b ok.1 E H w gd1 ⟨ok.1, by simp⟩
  rw [stkRun_eq] at hr ⊢
  simp only [List.map_nil, restOf] at hr
  simp only [List.map_cons, restOf]
  refine CFrm.run_mono hr fun u w' ⟨v, m, E1, H', hΦ, hu, g1, hpin, hv, hvj, hmj⟩ => ?_
  let E2 : Env := ⟨E1.b, E1.v, E.j⟩
  have hs1 : Same 0 E1 E2 := ⟨rfl, rfl, fun i hi => absurd hi (Nat.not_lt_zero _)⟩
  have g2 : Good ⟨w0, H⟩ m E2 H' w' := g1.same' hs1 hmj
  have hu' : u = v.den E2 := by rw [hu]; exact (den_same hs1 v hvj).symm
  have g3 : Good ⟨w0, H0⟩ m E2 H' w' :=
    ⟨g2.below, gd.ext.trans g2.ext, fun b o x h => by
      rcases g2.fresh b o x h with h | h
      · exact gd.fresh b o x h
      · exact .inr h, g2.cell, fun k o h => by have := g2.own k o h; cases o <;> exact this, g2.keys, g2.apart, fixOk_plain _ _ _⟩
  have hb : ∀ k, PIN ≤ k → E2.b k = E.b k := hpin
  have hgt : SV.denL E2 g.tmps = SV.denL E g.tmps := denL_pinned (E := E) (E' := E2) rfl hb _ (List.all_eq_true.2 hgp.1)
  have hrt : rest.map (SFrm.den E2) = rest.map (SFrm.den E) := by
    apply List.map_congr_left
    intro f hf
    simp only [SFrm.den]
    rw [denL_pinned (E := E) (E' := E2) rfl hb _ (List.all_eq_true.2 (hgp.2 f hf))]
  have okg : SV.OkL H' g.tmps := SV.OkL.mono g2.ext _ (ok.2 g List.mem_cons_self)
  have fin := h2 v m hΦ E2 H' w' g3 ⟨okL_putS okg hv, fun f hf => SV.OkL.mono g2.ext _ (ok.2 f (List.mem_cons_of_mem _ hf))⟩
  simp only [SFrm.den] at fin ⊢
  rw [← put_den, hgt, ← hu'] at fin
  rw [hrt] at fin
  cases rest <;> exact fin

theorem retP {w0 : World} {H : HV} {f : Nat → Nat} {Φ : SV → Mem → Prop} {fn : FuncId} {aw : Option Tmp} {k : List Item} {tmps : List SV} {mem : Mem} {fd : Func} {l : List SV} (m' : Mem) (hfn : P.funcs[fn]? = some fd) (hres : resS P mem tmps fd.results.toList = some l)
    (hm : MemTo mem m') (hj : (one? l).jk 0 = false) (hv : (one? l).pinned = true) (hjm : m'.all (fun x => !x.2.jk 0) = true) (h : Φ (one? l) m') : (Tree.leaf ⟨⟨fn, none, aw, .code .ret :: k, tmps⟩, [], mem⟩).holds P (@Ctx.mk w0 H (pinX f)) (RetP w0 H f Φ) := by
  intro E Hx w g ok
  have hpin := g.fix.pin f rfl
  obtain ⟨h1, h2⟩ := run_results (P := P) g.take ok.1 hres
  refine Go1.ret hfn rfl g.fix.nodup (fun D hD => (g.fix.fx D _ (g.fix.mark D hD).2).1) h1 ?_
  obtain ⟨E', e1, e2, g'⟩ := hm _ E Hx _ g.take
  exact ⟨_, m', E', Hx, h, (den_pinned e1 e2 _ hv).symm, g', fun q hq => (e2 q hq).trans (hpin q hq), h2, hj, fun x hx => by
    have := List.all_eq_true.1 hjm x hx
    simpa using this⟩
end
def pickK (ks : List Nat) (m : Mem) : Mem := ks.filterMap fun k => (Mem.get m k).map fun o => (k, o)
theorem MemTo.pickK {m : Mem} (ks : List Nat) (hn : ks.Nodup) : MemTo m (pickK ks m) := fun C E H w g => by
  have hmem : ∀ x, x ∈ Sx.pickK ks m → x ∈ m := fun x hx => by
    obtain ⟨k, _, hk⟩ := List.mem_filterMap.1 hx
    obtain ⟨o, ho, rfl⟩ := Option.map_eq_some_iff.1 hk
    exact Mem.get_mem ho
  refine ⟨E, rfl, fun _ _ => rfl, ⟨g.below, g.ext, g.fresh, g.cell, fun k o h => g.own k o (hmem _ h), ?_, fun x y hx hy => g.apart x y (hmem x hx) (hmem y hy), g.fix⟩⟩
  unfold Sx.pickK
  rw [List.pairwise_filterMap]
  refine hn.imp fun {a b} hab x hx y hy => ?_
  obtain ⟨_, _, rfl⟩ := Option.map_eq_some_iff.1 hx
  obtain ⟨_, _, rfl⟩ := Option.map_eq_some_iff.1 hy
  exact hab
def moveM (m : Mem) : List (Nat × Nat) → Option Mem
  | [] => some m
  | (a, b) :: r => match Nat.blt a PIN && Nat.blt b PIN && !(m.named.contains b) with
    | true => moveM (m.map fun e => (moveK a b e.1, e.2.ren (moveK a b))) r
    | false => none
theorem MemTo.moves : ∀ (l : List (Nat × Nat)) {m m' : Mem}, moveM m l = some m' → MemTo m m'
  | [], m, m', h => by simp only [moveM, Option.some.injEq] at h; subst h; exact MemTo.refl _
  | (a, b) :: r, m, m', h => by
    simp only [moveM] at h
    split at h
    · rename_i hc; exact (MemTo.move a b hc).trans (MemTo.moves r h)
    · cases h
theorem MemTo.to {m : Mem} (l : List (Nat × Nat)) (ks : List Nat) {m' : Mem} (h : (moveM m l).map (Sx.pickK ks) = some m') (hn : ks.Nodup := by decide) : MemTo m m' := by
  obtain ⟨m1, h1, rfl⟩ := Option.map_eq_some_iff.1 h
  exact (MemTo.moves l h1).trans (MemTo.pickK ks hn)
section
variable {P : Program}
theorem ret_true {w0 : World} {H : HV} {f : Nat → Nat} {Ψ : Mem → Prop} {fn : FuncId} {aw : Option Tmp} {k : List Item} {tmps : List SV} {mem : Mem} {fd : Func} {l : List SV} (m' : Mem) (mv : List (Nat × Nat)) (ks : List Nat)
    (hfn : P.funcs[fn]? = some fd) (hres : resS P mem tmps fd.results.toList = some l) (ht : ∀ E, (one? l).den E = .bool true) (hm : (moveM mem mv).map (pickK ks) = some m') (hn : ks.Nodup)
    (hjm : m'.all (fun x => !x.2.jk 0) = true) (h : Ψ m') : (Tree.leaf ⟨⟨fn, none, aw, .code .ret :: k, tmps⟩, [], mem⟩).holds P (@Ctx.mk w0 H (pinX f)) (RetP w0 H f fun v m => v = .lb true ∧ Ψ m) := by
  intro E Hx w g ok
  have hpin := g.fix.pin f rfl
  obtain ⟨h1, h2⟩ := run_results (P := P) g.take ok.1 hres
  refine Go1.ret hfn rfl g.fix.nodup (fun D hD => (g.fix.fx D _ (g.fix.mark D hD).2).1) h1 ?_
  obtain ⟨E', e1, e2, g'⟩ := MemTo.to mv ks hm hn _ E Hx _ g.take
  exact ⟨.lb true, m', E', Hx, ⟨rfl, h⟩, (ht E).trans (by simp [SV.den]), g', fun q hq => (e2 q hq).trans (hpin q hq), by simp [SV.Ok], rfl, fun x hx => by
    have := List.all_eq_true.1 hjm x hx
    simpa using this⟩
end
def keyOf : SV → Option Nat
  | .vec k => some k
  | .view k _ _ _ => some k
  | _ => none
def mvAt (cs : List SV) : List Nat → Nat → List (Nat × Nat) × List (Nat × Nat)
  | [], _ => ([], [])
  | o :: r, i => match (cs[o]?).bind keyOf, mvAt cs r (i + 1) with
    | some k, (a, b) => ((k, 5000 + i) :: a, (5000 + i, i) :: b)
    | none, (a, b) => (a, b)
def mvOf (K : Nat) (offs : List Nat) (m : Mem) : List (Nat × Nat) :=
  match m.get K with
  | some (.cells _ cs) => (mvAt cs offs 0).1 ++ (mvAt cs offs 0).2
  | _ => []
section
variable {P : Program}
theorem ret_sys (K : Nat) (offs : List Nat) {w0 : World} {H : HV} {f : Nat → Nat} {Ψ : Mem → Prop} {fn : FuncId} {aw : Option Tmp} {k : List Item} {tmps : List SV} {mem : Mem} {fd : Func} {l : List SV} (m' : Mem) (ks : List Nat)
    (hfn : P.funcs[fn]? = some fd) (hres : resS P mem tmps fd.results.toList = some l) (ht : ∀ E, (one? l).den E = .bool true) (hm : (moveM mem (mvOf K offs mem)).map (pickK ks) = some m') (hn : ks.Nodup)
    (hjm : m'.all (fun x => !x.2.jk 0) = true) (h : Ψ m') : (Tree.leaf ⟨⟨fn, none, aw, .code .ret :: k, tmps⟩, [], mem⟩).holds P (@Ctx.mk w0 H (pinX f)) (RetP w0 H f fun v m => v = .lb true ∧ Ψ m) :=
  ret_true m' (mvOf K offs mem) ks hfn hres ht hm hn hjm h
end
def viewIn (b off s : Nat) (c : Conf) : Option Conf :=
  match c.mem.get b with
  | some (.cells t cs) => match cs[off]? with
    | some (.vec k) => match c.mem.get k with
      | some (.arr _ d) => some ⟨c.top, c.rest, c.mem.set b (.cells t (cs.set off (.view k s 0 d.len)))⟩
      | _ => none
    | _ => none
  | _ => none
theorem viewIn_to {P : Program} {C : Ctx} {R : Value → World → Prop} (b off s : Nat) {c : Conf} (c' : Conf) (hc : viewIn b off s c = some c') (h : Runs P C c' R) : Runs P C c R := by
  intro E H w g ok
  unfold viewIn at hc
  split at hc
  · rename_i t cs hg2
    split at hc
    · rename_i k hn
      split at hc
      · rename_i e d hg
        cases hc
        obtain ⟨hd, sz, rows, rfl, hv, _⟩ := g.own k _ (Mem.get_mem hg)
        have hden1 : (SV.view k s 0 (D.slc hd sz rows).len).den E = (SV.vec k).den E := by
          simp only [SV.den, hv, D.len, D.rows]
          cases hd with
          | none => rfl
          | some ac =>
            obtain ⟨a, c⟩ := ac
            simp only [viewHd, Option.map_some, Nat.zero_mul, Nat.sub_zero, show a.add 0 = a from by simp [Addr.add], ite_self]
        have hmem := Mem.get_mem hg2
        have hden : SV.denL E (cs.set off (.view k s 0 (D.slc hd sz rows).len)) = SV.denL E cs := by
          rw [denL_set, SV.denL_eq]
          apply List.ext_getElem?
          intro i
          by_cases hi : i = off
          · subst hi
            rw [List.getElem?_set_self (by have := (List.getElem?_eq_some_iff.1 hn).1; simpa using this)]
            simp only [List.getElem?_map, hn, Option.map_some, hden1]
          · rw [List.getElem?_set_ne (Ne.symm hi)]
        have hspec := Mem.set_spec (o' := .cells t (cs.set off (.view k s 0 (D.slc hd sz rows).len))) g.keys hg2
        have g2 : Good C (c.mem.set b (.cells t (cs.set off (.view k s 0 (D.slc hd sz rows).len)))) E H w := by
          have hlies : ∀ z : Nat × OBlk, z ∈ c.mem.set b (.cells t (cs.set off (.view k s 0 (D.slc hd sz rows).len))) → z.2.Lies → ∃ o, (z.1, o) ∈ c.mem ∧ o.Lies := fun z hz hl => by
            rcases hspec z.1 z.2 hz with ⟨h1, h2⟩ | ⟨_, h1⟩
            · exact ⟨.cells t cs, by rw [h1]; exact hmem, trivial⟩
            · exact ⟨_, h1, hl⟩
          refine ⟨g.below, g.ext, g.fresh, g.cell, fun q o hko => ?_, ?_, fun x y hx hy hne hlx hly => ?_, g.fix⟩
          · rcases hspec q o hko with ⟨rfl, rfl⟩ | ⟨hne, hm⟩
            · obtain ⟨a1, a2, a3, a4⟩ := g.own q _ hmem
              exact ⟨a1, by rw [hden]; exact a2, a3, okL_putS (dst := some off) a4 (by simp [SV.Ok])⟩
            · exact g.own q o hm
          · have := g.keys
            rw [pairwise_keys] at this ⊢
            simpa [Mem.set_keys] using this
          · obtain ⟨o1, h1, l1⟩ := hlies x hx hlx
            obtain ⟨o2, h2, l2⟩ := hlies y hy hly
            exact g.apart (x.1, o1) (y.1, o2) h1 h2 hne l1 l2
        exact h E H w g2 ok
      · cases hc
    · cases hc
  · cases hc
theorem Good.swap {C : Ctx} {m : Mem} {E : Env} {H : HV} {w : World} {k : Nat} {o o' : OBlk} (g : Good C m E H w) (hg : m.get k = some o) (ho : OOk C E H w k o → OOk C E H w k o') (hl : o'.Lies → o.Lies) : Good C (m.set k o') E H w := by
  have hmem := Mem.get_mem hg
  have hspec := Mem.set_spec (o' := o') g.keys hg
  have hlies : ∀ z : Nat × OBlk, z ∈ m.set k o' → z.2.Lies → ∃ o, (z.1, o) ∈ m ∧ o.Lies := fun z hz hz2 => by
    rcases hspec z.1 z.2 hz with ⟨h1, h2⟩ | ⟨_, h1⟩
    · exact ⟨o, by rw [h1]; exact hmem, hl (by rw [← h2]; exact hz2)⟩
    · exact ⟨_, h1, hz2⟩
  refine ⟨g.below, g.ext, g.fresh, g.cell, fun q p hko => ?_, ?_, fun x y hx hy hne hlx hly => ?_, g.fix⟩
  · rcases hspec q p hko with ⟨rfl, rfl⟩ | ⟨hne, hm⟩
    · exact ho (g.own q _ hmem)
    · exact g.own q p hm
  · have := g.keys
    rw [pairwise_keys] at this ⊢
    simpa [Mem.set_keys] using this
  · obtain ⟨o1, h1, l1⟩ := hlies x hx hlx
    obtain ⟨o2, h2, l2⟩ := hlies y hy hly
    exact g.apart (x.1, o1) (y.1, o2) h1 h2 hne l1 l2
def mapIn (k : Nat) (kk : IntKind) (ag : Bool) (ts : List FT) (c : Conf) : Option Conf :=
  match c.mem.get k with
  | some (.map []) => some ⟨c.top, c.rest, c.mem.set k (.mapD kk ag ts (.slc none 0 []))⟩
  | some (.map [(.int k1 n, .dat v)]) => match ag, ts with
    | false, [.slc] => if k1 = kk then some ⟨c.top, c.rest, c.mem.set k (.mapD kk false [.slc] (.slc none 0 [[.int kk n, v]]))⟩ else none
    | _, _ => none
  | _ => none
theorem mapIn_to {P : Program} {C : Ctx} {R : Value → World → Prop} (k : Nat) (kk : IntKind) (ag : Bool) (ts : List FT) {c : Conf} (c' : Conf) (hc : mapIn k kk ag ts c = some c') (h : Runs P C c' R) : Runs P C c R := by
  intro E H w g ok
  unfold mapIn at hc
  split at hc
  · rename_i hg
    cases hc
    exact h E H w (g.swap hg (fun h => h) (fun _ => trivial)) ok
  · rename_i k1 n v hg
    split at hc
    · split at hc
      · rename_i hk
        subst hk
        cases hc
        exact h E H w (g.swap hg (fun h => h) (fun _ => trivial)) ok
      · cases hc
    · cases hc
  · cases hc
theorem viewIn_top {b off s : Nat} {c c' : Conf} (h : viewIn b off s c = some c') : c' = ⟨c.top, c.rest, c'.mem⟩ := by
  unfold viewIn at h
  split at h
  · split at h
    · split at h
      · cases h; rfl
      · cases h
    · cases h
  · cases h
theorem ret_sysV {P : Program} (K : Nat) (offs : List Nat) (b off s : Nat) {w0 : World} {H : HV} {f : Nat → Nat} {Ψ : Mem → Prop} {fn : FuncId} {aw : Option Tmp} {k : List Item} {tmps : List SV} {mem : Mem} {fd : Func} {l : List SV} (m' : Mem) (ks : List Nat)
    (hfn : P.funcs[fn]? = some fd) (hres : ∀ mem, resS P mem tmps fd.results.toList = some l) (ht : ∀ E, (one? l).den E = .bool true)
    (hm : ((viewIn b off s ⟨⟨fn, none, aw, .code .ret :: k, tmps⟩, [], mem⟩).bind fun c => (moveM c.mem (mvOf K offs c.mem)).map (pickK ks)) = some m') (hn : ks.Nodup)
    (hjm : m'.all (fun x => !x.2.jk 0) = true) (h : Ψ m') : (Tree.leaf ⟨⟨fn, none, aw, .code .ret :: k, tmps⟩, [], mem⟩).holds P (@Ctx.mk w0 H (pinX f)) (RetP w0 H f fun v m => v = .lb true ∧ Ψ m) := by
  cases hv : viewIn b off s ⟨⟨fn, none, aw, .code .ret :: k, tmps⟩, [], mem⟩ with
  | none => rw [hv] at hm; cases hm
  | some c =>
    rw [hv] at hm
    refine viewIn_to b off s c hv ?_
    rw [viewIn_top hv]
    exact ret_sys K offs m' ks hfn (hres _) ht hm hn hjm h
theorem holds_br_t {P : Program} {C : Ctx} {R : Value → World → Prop} {a b : Tree} : (Tree.br true a b).holds P C R ↔ a.holds P C R := ⟨fun h => h.1 rfl, fun h => ⟨fun _ => h, fun h => nomatch h⟩⟩
theorem holds_br_f {P : Program} {C : Ctx} {R : Value → World → Prop} {a b : Tree} : (Tree.br false a b).holds P C R ↔ b.holds P C R := ⟨fun h => h.2 rfl, fun h => ⟨(fun h => nomatch h), fun _ => h⟩⟩
theorem holds_need_i {P : Program} {C : Ctx} {R : Value → World → Prop} {p : Prop} {a : Tree} : (Tree.need p a).holds P C R ↔ p ∧ a.holds P C R := Iff.rfl
theorem holds_all_i {P : Program} {C : Ctx} {R : Value → World → Prop} {f : (Nat → Nat → D) → Tree} : (Tree.all f).holds P C R ↔ ∀ hs, (f hs).holds P C R := Iff.rfl
noncomputable def execRS (P : Program) (cs : Ctrs) (S : List (FuncId × Nat)) (n : Nat) : Conf → Tree :=
  Nat.rec (motive := fun _ => Conf → Tree) (fun _ => .stuck) (fun _ ih c => match atRet c with
    | true => restC P c
    | false => match restsAt S c with
      | true => restC P c
      | false => stepC P cs (fun _ => false) ih c) n
def atIn (F : List FuncId) (c : Conf) : Bool :=
  match c.rest with
  | [] => false
  | _ :: _ => match c.top.ri with
    | some _ => false
    | none => match c.top.todo with
      | [.code _] => F.contains c.top.fn
      | _ => false
noncomputable def execRE (P : Program) (cs : Ctrs) (F : List FuncId) (n : Nat) : Conf → Tree :=
  Nat.rec (motive := fun _ => Conf → Tree) (fun _ => .stuck) (fun _ ih c => match atRet c with
    | true => restC P c
    | false => match atIn F c with
      | true => restC P c
      | false => stepC P cs (fun _ => false) ih c) n
theorem execRE_sound {P : Program} {C : Ctx} {R : Value → World → Prop} {cs : Ctrs} (hcs : cs.Ok P) (F : List FuncId) : ∀ (n : Nat) (c : Conf), (execRE P cs F n c).holds P C R → Runs P C c R
  | 0, _, h => h.elim
  | n + 1, c, h => by
    have e : execRE P cs F (n + 1) c = match atRet c with
      | true => restC P c
      | false => match atIn F c with
        | true => restC P c
        | false => stepC P cs (fun _ => false) (execRE P cs F n) c := rfl
    rw [e] at h
    cases hr : atRet c with
    | true => rw [hr] at h; exact fgtR_sound (headR_sound h)
    | false =>
      rw [hr] at h
      simp only at h
      cases hs : atIn F c with
      | true => rw [hs] at h; exact fgtR_sound (headR_sound h)
      | false => rw [hs] at h; exact step_sound (U := fun _ => false) (ih := execRE P cs F n) hcs (fun c h => execRE_sound hcs F n c h) c h
noncomputable def goRS (P : Program) (cs : Ctrs) (S : List (FuncId × Nat)) (n : Nat) (c : Conf) : Tree := stepC P cs (fun _ => false) (execRS P cs S n) c
section
variable {P : Program} {C : Ctx} {R : Value → World → Prop} {cs : Ctrs}
theorem execRS_sound (hcs : cs.Ok P) (S : List (FuncId × Nat)) : ∀ (n : Nat) (c : Conf), (execRS P cs S n c).holds P C R → Runs P C c R
  | 0, _, h => h.elim
  | n + 1, c, h => by
    have e : execRS P cs S (n + 1) c = match atRet c with
      | true => restC P c
      | false => match restsAt S c with
        | true => restC P c
        | false => stepC P cs (fun _ => false) (execRS P cs S n) c := rfl
    rw [e] at h
    cases hr : atRet c with
    | true => rw [hr] at h; exact fgtR_sound (headR_sound h)
    | false =>
      rw [hr] at h
      simp only at h
      cases hs : restsAt S c with
      | true => rw [hs] at h; exact fgtR_sound (headR_sound h)
      | false => rw [hs] at h; exact step_sound (U := fun _ => false) (ih := execRS P cs S n) hcs (fun c h => execRS_sound hcs S n c h) c h
theorem goRS_sound (hcs : cs.Ok P) (S : List (FuncId × Nat)) (n : Nat) (c : Conf) (h : (goRS P cs S n c).holds P C R) : Runs P C c R :=
  step_sound (U := fun _ => false) (ih := execRS P cs S n) hcs (fun c h => execRS_sound hcs S n c h) c h
end
end Sx
end
section
namespace Sx
open Go RowKit
mutual
def SV.fixed : SV → Bool
  | .ptr k _ => Nat.ble PIN k
  | .mapp k => Nat.ble PIN k
  | .sl k _ => Nat.ble PIN k
  | .vec _ => false
  | .velt .. => false
  | .view .. => false
  | .agg l => SV.fixedL l
  | .tup l => SV.fixedL l
  | .fn .. => false
  | _ => true
def SV.fixedL : List SV → Bool
  | [] => true
  | x :: r => SV.fixed x && SV.fixedL r
end
mutual
theorem den_fixed {E E' : Env} (hj : E'.j = E.j) (hb : ∀ k, PIN ≤ k → E'.b k = E.b k) : ∀ x : SV, x.fixed = true → x.den E' = x.den E
  | .ptr k _, h => by simp only [SV.fixed] at h; simp only [SV.den, hb k (Nat.le_of_ble_eq_true h)]
  | .mapp k, h => by simp only [SV.fixed] at h; simp only [SV.den, hb k (Nat.le_of_ble_eq_true h)]
  | .sl k _, h => by simp only [SV.fixed] at h; simp only [SV.den, hb k (Nat.le_of_ble_eq_true h)]
  | .agg l, h => by simp only [SV.fixed] at h; simp only [SV.den, denL_fixed hj hb l h]
  | .tup l, h => by simp only [SV.fixed] at h; simp only [SV.den, denL_fixed hj hb l h]
  | .vec _, h => by simp [SV.fixed] at h
  | .velt .., h => by simp [SV.fixed] at h
  | .view .., h => by simp [SV.fixed] at h
  | .fn .., h => by simp [SV.fixed] at h
  | .int .., _ => by simp [SV.den]
  | .bool _, _ => by simp [SV.den]
  | .lb _, _ => by simp [SV.den]
  | .str _, _ => by simp [SV.den]
  | .nils, _ => by simp [SV.den]
  | .dat _, _ => by simp [SV.den]
  | .elt .., _ => by simp [SV.den]
  | .nilp, _ => by simp [SV.den]
  | .nilf, _ => by simp [SV.den]
  | .undef, _ => by simp [SV.den]
  | .junk _, _ => by simp [SV.den, hj]
  | .raw _, _ => by simp [SV.den]
theorem denL_fixed {E E' : Env} (hj : E'.j = E.j) (hb : ∀ k, PIN ≤ k → E'.b k = E.b k) : ∀ l : List SV, SV.fixedL l = true → SV.denL E' l = SV.denL E l
  | [], _ => by simp [SV.denL]
  | x :: r, h => by
    simp only [SV.fixedL, Bool.and_eq_true] at h
    simp only [SV.denL, den_fixed hj hb x h.1, denL_fixed hj hb r h.2]
end
section
variable {P : Program} {R : Value → World → Prop}
theorem runs_to {C : Ctx} {top : SFrm} {rest : List SFrm} {m m' : Mem} (hm : MemTo m m') (hp : (SV.fixedL top.tmps && rest.all fun f => SV.fixedL f.tmps) = true) (h : Runs P C ⟨top, rest, m'⟩ R) : Runs P C ⟨top, rest, m⟩ R := by
  intro E H w g ok
  simp only [Bool.and_eq_true, List.all_eq_true] at hp
  obtain ⟨E', e1, e2, g'⟩ := hm C E H w g
  have hr := h E' H w g' ok
  have ht : top.den E' = top.den E := by simp only [SFrm.den, denL_fixed e1 e2 _ hp.1]
  have hrt : rest.map (SFrm.den E') = rest.map (SFrm.den E) := by
    apply List.map_congr_left
    intro f hf
    simp only [SFrm.den, denL_fixed e1 e2 _ (hp.2 f hf)]
  simp only [ht, hrt] at hr
  exact hr
theorem runs_methP {w0 : World} {H0 : HV} {f0 : Nat → Nat} {top g : SFrm} {rest : List SFrm} {mem : Mem} {Φ : SV → Mem → Prop}
    (hgp : (g.tmps.all SV.pinned && rest.all fun f => f.tmps.all SV.pinned) = true)
    (h1 : ∀ (H : HV) (f : Nat → Nat), SV.OkL H top.tmps → Runs P (@Ctx.mk w0 H (pinX f)) ⟨top, [], mem⟩ (RetP w0 H f Φ))
    (h2 : ∀ v m, Φ v m → Runs P (@Ctx.mk w0 H0 (pinX f0)) ⟨{ g with tmps := putS g.tmps g.await v, await := none }, rest, m⟩ R) :
    Runs P (@Ctx.mk w0 H0 (pinX f0)) ⟨top, g :: rest, mem⟩ R := by
  intro E H w gd ok
  simp only [Bool.and_eq_true, List.all_eq_true] at hgp
  have gd1 : Good (@Ctx.mk w0 H (pinX E.b)) mem E H w :=
    ⟨gd.below, HLe.refl _, fun _ _ _ h => .inl h, gd.cell, fun k o h => by have := gd.own k o h; cases o <;> exact this, gd.keys, gd.apart, ⟨(fun _ _ h => nomatch h), (fun _ h => nomatch h), List.nodup_nil, fun f hf k _ => by cases hf; rfl⟩⟩
  have hr := h1 H E.b ok.1 E H w gd1 ⟨ok.1, by simp⟩
  rw [stkRun_eq] at hr ⊢
  simp only [List.map_nil, restOf] at hr
  simp only [List.map_cons, restOf]
  refine CFrm.run_mono hr fun u w' ⟨v, m, E1, H', hΦ, hu, g1, hpin, hv, hvj, hmj⟩ => ?_
  let E2 : Env := ⟨E1.b, E1.v, E.j⟩
  have hs1 : Same 0 E1 E2 := ⟨rfl, rfl, fun i hi => absurd hi (Nat.not_lt_zero _)⟩
  have g2 : Good ⟨w0, H⟩ m E2 H' w' := g1.same' hs1 hmj
  have hu' : u = v.den E2 := by rw [hu]; exact (den_same hs1 v hvj).symm
  have hb : ∀ k, PIN ≤ k → E2.b k = E.b k := hpin
  have g3 : Good (@Ctx.mk w0 H0 (pinX f0)) m E2 H' w' :=
    ⟨g2.below, gd.ext.trans g2.ext, fun b o x h => by
      rcases g2.fresh b o x h with h | h
      · exact gd.fresh b o x h
      · exact .inr h, g2.cell, fun k o h => by have := g2.own k o h; cases o <;> exact this, g2.keys, g2.apart, ⟨(fun _ _ h => nomatch h), (fun _ h => nomatch h), List.nodup_nil, fun f hf k hk => (hb k hk).trans (gd.fix.pin f hf k hk)⟩⟩
  have hgt : SV.denL E2 g.tmps = SV.denL E g.tmps := denL_pinned (E := E) (E' := E2) rfl hb _ (List.all_eq_true.2 hgp.1)
  have hrt : rest.map (SFrm.den E2) = rest.map (SFrm.den E) := by
    apply List.map_congr_left
    intro f hf
    simp only [SFrm.den]
    rw [denL_pinned (E := E) (E' := E2) rfl hb _ (List.all_eq_true.2 (hgp.2 f hf))]
  have okg : SV.OkL H' g.tmps := SV.OkL.mono g2.ext _ (ok.2 g List.mem_cons_self)
  have fin := h2 v m hΦ E2 H' w' g3 ⟨okL_putS okg hv, fun f hf => SV.OkL.mono g2.ext _ (ok.2 f (List.mem_cons_of_mem _ hf))⟩
  simp only [SFrm.den] at fin ⊢
  rw [← put_den, hgt, ← hu'] at fin
  rw [hrt] at fin
  cases rest <;> exact fin
theorem retS {w0 : World} {H : HV} {f : Nat → Nat} {Ψ : Mem → Prop} {fn : FuncId} {aw : Option Tmp} {k : List Item} {tmps : List SV} {mem : Mem} {fd : Func} {l : List SV} (m' : Mem) (ks : List Nat) (h : Ψ m')
    (hfn : P.funcs[fn]? = some fd := by kernel_rfl) (hres : resS P mem tmps fd.results.toList = some l := by kernel_rfl) (ht : ∀ E, (one? l).den E = .bool true := by intro _; rfl) (hm : (moveM mem (mvOf 100000 [21, 22, 23] mem)).map (pickK ks) = some m' := by kernel_rfl) (hn : ks.Nodup := by decide)
    (hjm : m'.all (fun x => !x.2.jk 0) = true := by kernel_rfl) : (Tree.leaf ⟨⟨fn, none, aw, .code .ret :: k, tmps⟩, [], mem⟩).holds P (@Ctx.mk w0 H (pinX f)) (RetP w0 H f fun v m => v = .lb true ∧ Ψ m) :=
  ret_sys 100000 [21, 22, 23] m' ks hfn hres ht hm hn hjm h
end
end Sx
end
section
namespace Sx
open Go RowKit
section
variable {P : Program} {R : Value → World → Prop}
theorem leaf_ret {C : Ctx} {fn : FuncId} {aw : Option Tmp} {k : List Item} {tmps : List SV} {mem : Mem} {f : Func} {l : List SV} (hfn : P.funcs[fn]? = some f) (hres : resS P mem tmps f.results.toList = some l) (h : (Tree.ret (one? l)).holds P C R) :
    (Tree.leaf ⟨⟨fn, none, aw, .code .ret :: k, tmps⟩, [], mem⟩).holds P C R :=
  runs_ret hfn hres (fun E H w g hv => h.2 E H w (g.sub (List.nil_sublist _)) hv) h.1
def beginC (e1 e2 : TypeId) (s1 s2 : Nat) (o1 o2 o3 : Nat) (c : Conf) : Option Conf :=
  (((((mapIn 1 .i64 false [.slc] c).bind (pinC 100000)).bind (vecIn 0 e1 s1 (some 100000) o1)).bind (vecIn 1 e2 s2 (some 100000) o2)).bind (vecIn 2 e2 s2 (some 100000) o3)).bind (viewIn 100000 o1 s1)
theorem begin_to {C : Ctx} (e1 e2 : TypeId) (s1 s2 o1 o2 o3 : Nat) {c : Conf} (c' : Conf) (hc : beginC e1 e2 s1 s2 o1 o2 o3 c = some c') (h : Runs P C c' R) (hpn : C.x.pn = none := by rfl) : Runs P C c R := by
  unfold beginC at hc
  simp only [Option.bind_eq_some_iff] at hc
  obtain ⟨c5, ⟨c4, ⟨c3, ⟨c2, ⟨c1, h1, h2⟩, h3⟩, h4⟩, h5⟩, h6⟩ := hc
  exact mapIn_to 1 .i64 false [.slc] c1 h1 (pin_to 100000 c2 h2 (vecIn_sound h3 (vecIn_sound h4 (vecIn_sound h5 (viewIn_to 100000 o1 s1 c' h6 h)))) hpn)
end
end Sx
end
section
namespace Sx
open Go RowKit
noncomputable def execRX (P : Program) (cs : Ctrs) (F : List FuncId) (S : List (FuncId × Nat)) (n : Nat) : Conf → Tree :=
  Nat.rec (motive := fun _ => Conf → Tree) (fun _ => .stuck) (fun _ ih c => match atRet c || atIn F c || restsAt S c with
    | true => restC P c
    | false => stepC P cs (fun _ => false) ih c) n
noncomputable def goRX (P : Program) (cs : Ctrs) (F : List FuncId) (S : List (FuncId × Nat)) (n : Nat) (c : Conf) : Tree := stepC P cs (fun _ => false) (execRX P cs F S n) c
section
variable {P : Program} {C : Ctx} {R : Value → World → Prop} {cs : Ctrs}
theorem execRX_sound (hcs : cs.Ok P) (F : List FuncId) (S : List (FuncId × Nat)) : ∀ (n : Nat) (c : Conf), (execRX P cs F S n c).holds P C R → Runs P C c R
  | 0, _, h => h.elim
  | n + 1, c, h => by
    have e : execRX P cs F S (n + 1) c = match atRet c || atIn F c || restsAt S c with
      | true => restC P c
      | false => stepC P cs (fun _ => false) (execRX P cs F S n) c := rfl
    rw [e] at h
    cases hs : atRet c || atIn F c || restsAt S c with
    | true => rw [hs] at h; exact fgtR_sound (headR_sound h)
    | false => rw [hs] at h; exact step_sound (U := fun _ => false) (ih := execRX P cs F S n) hcs (fun c h => execRX_sound hcs F S n c h) c h
end
section
variable {P : Program} {R : Value → World → Prop}
theorem denL_set_pinned {E E' : Env} (hj : E'.j = E.j) (hb : ∀ k, PIN ≤ k → E'.b k = E.b k) {T : List SV} (hT : T.all SV.pinned = true) (p : Nat) {x y : SV} (hx : y.den E' = x.den E) : SV.denL E' (T.set p y) = SV.denL E (T.set p x) := by
  have h0 := denL_pinned hj hb T hT
  rw [SV.denL_eq, SV.denL_eq] at h0
  rw [SV.denL_eq, SV.denL_eq, List.map_set, List.map_set, h0, hx]
theorem vec_den {C C' : Ctx} {m m' : Mem} {E E' : Env} {H H' : HV} {w w' : World} (g : Good C m E H w) (g' : Good C' m' E' H' w') {a b : Nat} {e e' : TypeId} {d : D} (ha : m.get a = some (.arr e d)) (hb : m'.get b = some (.arr e' d)) : (SV.vec b).den E' = (SV.vec a).den E := by
  obtain ⟨hd, sz, rows, rfl, _⟩ := g.own a _ (Mem.get_mem ha)
  obtain ⟨h1, _⟩ := arr_facts g ha
  obtain ⟨h2, _⟩ := arr_facts g' hb
  simp only [SV.den, h1, h2]
theorem okL_set {H : HV} {T : List SV} {p a b : Nat} (h : SV.OkL H (T.set p (.vec a))) : SV.OkL H (T.set p (.vec b)) := by
  rw [SV.OkL_iff] at h ⊢
  intro x hx
  obtain ⟨i, hi, rfl⟩ := List.mem_iff_getElem.1 hx
  by_cases hip : p = i
  · subst hip; simp [SV.Ok]
  · rw [List.getElem_set_ne hip]
    exact h _ (List.mem_iff_getElem.2 ⟨i, by simpa using hi, by rw [List.getElem_set_ne hip]⟩)
theorem runs_toV {C : Ctx} {top : SFrm} {m m' : Mem} (p a b : Nat) {e e' : TypeId} {d : D} (hm : MemTo m m') (hT : top.tmps.all SV.pinned = true) (ha : m.get a = some (.arr e d)) (hb : m'.get b = some (.arr e' d))
    (h : Runs P C ⟨{ top with tmps := top.tmps.set p (.vec b) }, [], m'⟩ R) : Runs P C ⟨{ top with tmps := top.tmps.set p (.vec a) }, [], m⟩ R := by
  intro E H w g ok
  obtain ⟨E', e1, e2, g'⟩ := hm C E H w g
  have hv := vec_den g g' ha hb
  have hd := denL_set_pinned e1 e2 hT p hv
  have okT := okL_set (b := b) (a := a) (p := p) ok.1
  have hr := h E' H w g' ⟨okT, by simp⟩
  simp only [SFrm.den, hd] at hr
  exact hr
theorem runs_methV {w0 : World} {H0 : HV} {top g : SFrm} {mem m1 : Mem} {Φ : SV → Mem → Prop} (p a b : Nat) {e : TypeId} {d : D} (hT : g.tmps.all SV.pinned = true) (htop : SV.fixedL top.tmps = true) (hm : MemTo mem m1) (ha : mem.get a = some (.arr e d))
    (h1 : ∀ (H : HV) (f : Nat → Nat), SV.OkL H top.tmps → Runs P (@Ctx.mk w0 H (pinX f)) ⟨top, [], m1⟩ (RetP w0 H f Φ)) (hΦ : ∀ v m, Φ v m → m.get b = some (.arr e d))
    (h2 : ∀ v m, Φ v m → Runs P ⟨w0, H0⟩ ⟨{ g with tmps := putS (g.tmps.set p (.vec b)) g.await v, await := none }, [], m⟩ R) :
    Runs P ⟨w0, H0⟩ ⟨top, [{ g with tmps := g.tmps.set p (.vec a) }], mem⟩ R := by
  intro E0 H w gd0 ok
  obtain ⟨E, ej, eb, gd⟩ := hm _ E0 H w gd0
  have htd : SV.denL E top.tmps = SV.denL E0 top.tmps := denL_fixed ej eb _ htop
  have gd1 : Good (@Ctx.mk w0 H (pinX E.b)) m1 E H w :=
    ⟨gd.below, HLe.refl _, fun _ _ _ h => .inl h, gd.cell, fun k o h => by have := gd.own k o h; cases o <;> exact this, gd.keys, gd.apart, ⟨(fun _ _ h => nomatch h), (fun _ h => nomatch h), List.nodup_nil, fun f hf k _ => by cases hf; rfl⟩⟩
  have hr := h1 H E.b ok.1 E H w gd1 ⟨ok.1, by simp⟩
  rw [stkRun_eq] at hr ⊢
  simp only [List.map_nil, restOf] at hr
  simp only [List.map_cons, List.map_nil, restOf]
  have htop2 : top.dn [] none E = top.dn [] none E0 := by simp only [SFrm.dn, htd]
  have hr : (top.dn [] none E0).run P w (RetP w0 H E.b Φ) := by rw [← htop2]; exact hr
  refine CFrm.run_mono hr fun u w' ⟨v, m, E1, H', hΦv, hu, g1, hpin, hv, hvj, hmj⟩ => ?_
  let E2 : Env := ⟨E1.b, E1.v, E.j⟩
  have hs1 : Same 0 E1 E2 := ⟨rfl, rfl, fun i hi => absurd hi (Nat.not_lt_zero _)⟩
  have g2 : Good ⟨w0, H⟩ m E2 H' w' := g1.same' hs1 hmj
  have hu' : u = v.den E2 := by rw [hu]; exact (den_same hs1 v hvj).symm
  have g3 : Good ⟨w0, H0⟩ m E2 H' w' :=
    ⟨g2.below, gd.ext.trans g2.ext, fun b o x h => by
      rcases g2.fresh b o x h with h | h
      · exact gd.fresh b o x h
      · exact .inr h, g2.cell, fun k o h => by have := g2.own k o h; cases o <;> exact this, g2.keys, g2.apart, fixOk_plain _ _ _⟩
  have hb : ∀ k, PIN ≤ k → E2.b k = E0.b k := fun k hk => (hpin k hk).trans (eb k hk)
  have hvd := vec_den gd0 g2 ha (hΦ v m hΦv)
  have hgt : SV.denL E2 (g.tmps.set p (.vec b)) = SV.denL E0 (g.tmps.set p (.vec a)) := denL_set_pinned (E := E0) (E' := E2) ej hb hT p hvd
  have okg : SV.OkL H' (g.tmps.set p (.vec b)) := SV.OkL.mono g2.ext _ (okL_set (ok.2 _ List.mem_cons_self))
  have fin := h2 v m hΦv E2 H' w' g3 ⟨okL_putS okg hv, by simp⟩
  simp only [SFrm.den] at fin ⊢
  rw [← put_den, hgt, ← hu'] at fin
  exact fin
end
end Sx
end
section
namespace Sx
open Go RowKit
noncomputable def Tree.cut (t : Tree) : List Bool → Tree := Tree.rec (motive := fun _ => List Bool → Tree) (fun c _ => .leaf c) (fun v _ => .ret v)
  (fun b _ _ ht hf bs => match bs with
    | [] => .stuck
    | true :: r => .need (b = true) (ht r)
    | false :: r => .need (b = false) (hf r)) (fun p _ ih bs => .need p (ih bs)) (fun _ ih bs => .all fun hs => ih hs bs) (fun _ => .stuck) t
theorem cut_sound {P : Program} {C : Ctx} {R : Value → World → Prop} : ∀ {t : Tree} {bs : List Bool}, (t.cut bs).holds P C R → t.holds P C R
  | .leaf _, _, h => h
  | .ret _, _, h => h
  | .br _ _ _, [], h => h.elim
  | .br _ _ _, true :: _, ⟨h1, h2⟩ => ⟨fun _ => cut_sound h2, fun h => (nomatch h1.symm.trans h)⟩
  | .br _ _ _, false :: _, ⟨h1, h2⟩ => ⟨fun h => (nomatch h1.symm.trans h), fun _ => cut_sound h2⟩
  | .need _ _, _, ⟨h1, h2⟩ => ⟨h1, cut_sound h2⟩
  | .all _, _, h => fun hs => cut_sound (h hs)
  | .stuck, _, h => h.elim
end Sx
end
section
namespace Sx
open Go RowKit
def itC (w0 : World) (H0 : HV) (pb : Nat → Nat) (r b n : Nat) (seen : Array Nat) : Ctx :=
  @Ctx.mk w0 H0 ⟨fun q => if q = r then some (.mapIter (some b) n seen n) else none, [], false, some pb⟩
def itV (r : Nat) : Value := .pointer (some ⟨r, 0, none⟩)

inductive MapO where
  | range (t : TypeId) (x : Operand)
  | next (x : Operand)
  | entry (x : Operand)
def mapO : Op → Option MapO
  | .range t x => some (.range t x)
  | .next x false => some (.next x)
  | .entry x => some (.entry x)
  | _ => none
def mapAt (ops : Array Oper) (i : Nat) : Option (MapO × Option Tmp) :=
  match ops[i]? with
  | some ⟨dst, op, _, _, _, none⟩ => (mapO op).map fun m => (m, dst)
  | _ => none
def restsMap (L : List FuncId) (c : Conf) : Bool :=
  match c.top.ri with
  | some (ops, i :: _) => match c.rest with
    | [] => L.contains c.top.fn && (mapAt ops i).isSome
    | _ => false
  | _ => false
noncomputable def execMR (P : Program) (cs : Ctrs) (L F : List FuncId) (S : List (FuncId × Nat)) (n : Nat) : Conf → Tree :=
  Nat.rec (motive := fun _ => Conf → Tree) (fun _ => .stuck) (fun _ ih c => match restsMap L c with
    | true => leafR c
    | false => match atRet c || atIn F c || restsAt S c with
      | true => restC P c
      | false => stepC P cs (fun _ => false) ih c) n
noncomputable def goMR (P : Program) (cs : Ctrs) (L F : List FuncId) (S : List (FuncId × Nat)) (n : Nat) (c : Conf) : Tree := stepC P cs (fun _ => false) (execMR P cs L F S n) c
section
variable {P : Program} {C : Ctx} {R : Value → World → Prop} {cs : Ctrs}
theorem execMR_sound (hcs : cs.Ok P) (L F : List FuncId) (S : List (FuncId × Nat)) : ∀ (n : Nat) (c : Conf), (execMR P cs L F S n c).holds P C R → Runs P C c R
  | 0, _, h => h.elim
  | n + 1, c, h => by
    have e : execMR P cs L F S (n + 1) c = match restsMap L c with
      | true => leafR c
      | false => match atRet c || atIn F c || restsAt S c with
        | true => restC P c
        | false => stepC P cs (fun _ => false) (execMR P cs L F S n) c := rfl
    rw [e] at h
    cases hr : restsMap L c with
    | true => rw [hr, leafR_eq] at h; exact h
    | false =>
      rw [hr] at h
      simp only at h
      cases hs : atRet c || atIn F c || restsAt S c with
      | true => rw [hs] at h; exact fgtR_sound (headR_sound h)
      | false => rw [hs] at h; exact step_sound (U := fun _ => false) (ih := execMR P cs L F S n) hcs (fun c h => execMR_sound hcs L F S n c h) c h
theorem goMR_sound (hcs : cs.Ok P) (L F : List FuncId) (S : List (FuncId × Nat)) (n : Nat) (c : Conf) (h : (goMR P cs L F S n c).holds P C R) : Runs P C c R :=
  step_sound (U := fun _ => false) (ih := execMR P cs L F S n) hcs (fun c h => execMR_sound hcs L F S n c h) c h
end
section
variable {P : Program} {w0 : World} {H0 : HV} {R : Value → World → Prop}
theorem stk_op {X : CtxX} (hd : X.df = []) (hrd : X.rd = false) {f : FuncId} {ops : Array Oper} {i : Nat} {l : List Nat} {aw : Option Tmp} {k : List Item} {tmps : List SV} {E : Env} {w w' : World} {o : Oper} {v : SV}
    (ho : ops[i]? = some o) (hg : o.guard = none) (hro : RunsTo P ⟨(SV.denL E tmps).toArray, []⟩ o w (v.den E) w')
    (h : StkRun P X (SFrm.den E ⟨f, some (ops, l), aw, k, putS tmps o.dst v⟩) [] w' R) : StkRun P X (SFrm.den E ⟨f, some (ops, i :: l), aw, k, tmps⟩) [] w R := by
  obtain ⟨fx, df, rd, pn⟩ := X
  simp only at hd hrd
  subst hd; subst hrd
  refine frm_op (a := ⟨(SV.denL E tmps).toArray, []⟩) (ro := none) ho (wanted_none' hg _) hro ?_
  rw [put_den]
  exact h
where wanted_none' {o : Oper} (h : o.guard = none) (y : Nat → Option Bool) : Region.wanted o y = true := by unfold Region.wanted; rw [h]
theorem mapD_at {C : Ctx} {m : Mem} {E : Env} {H : HV} {w : World} (g : Good C m E H w) {K : Nat} {kk : IntKind} {ag : Bool} {ts : List FT} {d : D} (hm : m.get K = some (.mapD kk ag ts d)) :
    ∃ ents : Array MapEntry, w.heap[E.b K]? = some (.map ents d.len) ∧ ents.size = d.len ∧ ents.toList.map (·.born) = List.range d.len ∧
      (∀ e, e ∈ ents.toList → ∃ j, j < d.len ∧ e.key = .int kk (d.getInt j 0) ∧ e.val = (mapSV ag ts d j).den E) ∧ (∀ j, j < d.len → (mapSV ag ts d j).Ok H) := by
  obtain ⟨_, _, ⟨ents, clock, hb, hp, hc, hbn⟩, hok, _⟩ := g.own K _ (Mem.get_mem hm)
  have hs : ents.size = d.len := by
    have := hp.length_eq
    simpa [mapEs] using this
  subst hc
  rw [hs] at hb hbn
  refine ⟨ents, hb, hs, hbn, fun e he => ?_, fun j hj => (hok _ (mem_mapEs.2 ⟨j, hj, rfl⟩)).2⟩
  obtain ⟨x, hx, h1, h2⟩ := (ents_of hp).1 e he
  obtain ⟨j, hj, rfl⟩ := mem_mapEs.1 hx
  exact ⟨j, hj, by rw [h1]; rfl, h2⟩

theorem fixIt {pb : Nat → Nat} {r b n : Nat} {seen : Array Nat} {k : Nat} {E : Env} {w : World} (h1 : w.heap[r]? = some (.mapIter (some b) n seen n)) (h2 : ∀ q, PIN ≤ q → E.b q = pb q) :
    FixOk ⟨fun q => if q = r then some (.mapIter (some b) n seen n) else none, [], false, some pb⟩ k E w := by
  refine ⟨fun q o h => ?_, (fun _ h => nomatch h), List.nodup_nil, fun f hf q hq => ?_⟩
  · simp only at h
    split at h
    · rename_i e; cases h; rw [e]; exact ⟨h1, rfl⟩
    · cases h
  · cases hf; exact h2 q hq
theorem runs_mapRange {f : FuncId} {ops : Array Oper} {i : Nat} {l : List Nat} {aw : Option Tmp} {k : List Item} {tmps : List SV} {mem : Mem} {t : TypeId} {x : Operand} {dst : Option Tmp} {kt et : TypeId} {K : Nat} {kk : IntKind} {ag : Bool} {ts : List FT} {d : D}
    (ho : mapAt ops i = some (.range t x, dst)) (ht : P.underlying t = some (.map kt et)) (hx : evS tmps x = .mapp K) (hm : Mem.get mem K = some (.mapD kk ag ts d)) 
    (h : ∀ pb r, w0.heap.size ≤ r → Runs P (itC w0 H0 pb r (pb K) d.len #[]) ⟨⟨f, some (ops, l), aw, k, putS tmps dst (.raw (itV r))⟩, [], mem⟩ R) :
    Runs P ⟨w0, H0⟩ ⟨⟨f, some (ops, i :: l), aw, k, tmps⟩, [], mem⟩ R := by
  intro E H w g ok
  obtain ⟨ents, hb, hs, hbn, he, hv⟩ := mapD_at g hm
  unfold mapAt at ho
  split at ho
  · rename_i dst' op ty pos after hops
    cases hop : mapO op with
    | none => rw [hop] at ho; cases ho
    | some mo =>
      rw [hop] at ho; cases ho
      have hop : op = .range t x := by
        unfold mapO at hop
        split at hop <;> first | (cases hop; rfl) | cases hop
      subst hop
      have hrun : RunsTo P ⟨(SV.denL E tmps).toArray, []⟩ ⟨dst, .range t x, ty, pos, after, none⟩ w ((SV.raw (itV w.heap.size)).den E) (w.alloc (.mapIter (some (E.b K)) d.len #[] d.len)) := by
        left
        have e1 := den_evS E tmps [] x
        rw [hx] at e1
        simp only [execOp, e1, SV.den, Instr.range, Sem.run_bind, run_underlying ht, Result.andThen_ok, MapKept.run_getObj_map hb, Sem.run_pure, run_newObj_alloc]
        rfl
      refine stk_op rfl rfl hops rfl hrun ?_
      have g1 : Good ⟨w0, H0⟩ mem E H (w.alloc (.mapIter (some (E.b K)) d.len #[] d.len)) :=
        g.still rfl rfl rfl (by simp) fun j o hj => .inl (by rw [heap_alloc_old w _ (lt_of_some hj)]; exact hj)
      have g2 : Good (itC w0 H0 E.b w.heap.size (E.b K) d.len #[]) mem E H (w.alloc (.mapIter (some (E.b K)) d.len #[] d.len)) :=
        g1.ctx rfl g1.ext (fun b o v h => g1.fresh b o v h) (fixIt (heap_alloc_new w _) fun _ _ => rfl)
      exact h E.b w.heap.size g.below.size E H _ g2 ⟨okL_putS ok.1 (by simp [SV.Ok]), by simp⟩
  · cases ho

theorem it_at {pb : Nat → Nat} {r b n : Nat} {seen : Array Nat} {m : Mem} {E : Env} {H : HV} {w : World} (g : Good (itC w0 H0 pb r b n seen) m E H w) : w.heap[r]? = some (.mapIter (some b) n seen n) :=
  (g.fix.fx r _ (by show (if r = r then _ else _) = _; rw [if_pos rfl])).1
theorem Good.offIt {pb : Nat → Nat} {r b n : Nat} {seen : Array Nat} {m : Mem} {E : Env} {H : HV} {w : World} (g : Good (itC w0 H0 pb r b n seen) m E H w) : Good ⟨w0, H0⟩ m E H w :=
  g.ctx rfl g.ext (fun b o v h => g.fresh b o v h) (fixOk_plain _ _ _)
theorem runs_mapNext {pb : Nat → Nat} {r : Nat} {seen : Array Nat} {f : FuncId} {ops : Array Oper} {i : Nat} {l : List Nat} {aw : Option Tmp} {k : List Item} {tmps : List SV} {mem : Mem} {x : Operand} {dst : Option Tmp} {K : Nat} {kk : IntKind} {ag : Bool} {ts : List FT} {d : D}
    (ho : mapAt ops i = some (.next x, dst)) (hx : evS tmps x = .raw (itV r)) (hm : Mem.get mem K = some (.mapD kk ag ts d)) (hK : PIN ≤ K) (hlow : w0.heap.size ≤ r)
    (h0 : Runs P (itC w0 H0 pb r (pb K) d.len seen) ⟨⟨f, some (ops, l), aw, k, putS tmps dst (.tup [.lb false])⟩, [], mem⟩ R)
    (h1 : ∀ s j, s < d.len → s ∉ seen → j < d.len → Runs P (itC w0 H0 pb r (pb K) d.len (seen.push s)) ⟨⟨f, some (ops, l), aw, k, putS tmps dst (.tup [.lb true, .int kk (d.getInt j 0), mapSV ag ts d j])⟩, [], mem⟩ R) :
    Runs P (itC w0 H0 pb r (pb K) d.len seen) ⟨⟨f, some (ops, i :: l), aw, k, tmps⟩, [], mem⟩ R := by
  intro E H w g ok
  obtain ⟨ents, hb, hs, hbn, he, hv⟩ := mapD_at g hm
  have hit := it_at g
  have hpin : ∀ q, PIN ≤ q → E.b q = pb q := fun q hq => g.fix.pin pb rfl q hq
  rw [hpin K hK] at hb
  have hold : ∀ y, y ∈ ents.toList → y.born < d.len := fun y hy => by
    have : y.born ∈ ents.toList.map (·.born) := List.mem_map.2 ⟨y, hy, rfl⟩
    rw [hbn] at this; exact List.mem_range.1 this
  unfold mapAt at ho
  split at ho
  · rename_i dst' op ty pos after hops
    cases hop : mapO op with
    | none => rw [hop] at ho; cases ho
    | some mo =>
      rw [hop] at ho; cases ho
      have hop : op = .next x false := by
        unfold mapO at hop
        split at hop <;> first | (cases hop; rfl) | cases hop
      subst hop
      have e1 := den_evS E tmps [] x
      rw [hx] at e1
      rcases run_next_at (P := P) w ty r (pb K) d.len d.len seen ents d.len hit hb hold (Nat.le_refl _) with ⟨_, hrun⟩ | ⟨e, hel, w1, hw1, hrun⟩
      · have hro : RunsTo P ⟨(SV.denL E tmps).toArray, []⟩ ⟨dst, .next x false, ty, pos, after, none⟩ w ((SV.tup [.lb false]).den E) w := by
          left
          simp only [execOp, e1, Sem.run_bind]
          rw [show (SV.raw (itV r)).den E = Value.pointer (some ⟨r, 0, none⟩) by simp [SV.den, itV], hrun]
          simp [SV.den, SV.denL]
        exact stk_op rfl rfl hops rfl hro (h0 E H w g ⟨okL_putS ok.1 (by simp [SV.Ok, SV.OkL]), by simp⟩)
      · obtain ⟨hee, hns⟩ := mem_left hel
        obtain ⟨j, hj, hk, hval⟩ := he e hee
        have hro : RunsTo P ⟨(SV.denL E tmps).toArray, []⟩ ⟨dst, .next x false, ty, pos, after, none⟩ w ((SV.tup [.lb true, .int kk (d.getInt j 0), mapSV ag ts d j]).den E) (ChangeMaps.setBlock w1 r (.mapIter (some (pb K)) d.len (seen.push e.born) d.len)) := by
          left
          simp only [execOp, e1, Sem.run_bind]
          rw [show (SV.raw (itV r)).den E = Value.pointer (some ⟨r, 0, none⟩) by simp [SV.den, itV], hrun]
          simp [SV.den, SV.denL, hk, hval]
        refine stk_op rfl rfl hops rfl hro ?_
        have g0 : Good ⟨w0, H0⟩ mem E H w1 := by
          rcases hw1 with rfl | rfl
          · exact g.offIt
          · exact g.offIt.drew
        have hit1 : w1.heap[r]? = some (.mapIter (some (pb K)) d.len seen d.len) := by rcases hw1 with rfl | rfl <;> exact hit
        have hlt := (Array.getElem?_eq_some_iff.1 hit1).1
        have g1 : Good ⟨w0, H0⟩ mem E H (ChangeMaps.setBlock w1 r (.mapIter (some (pb K)) d.len (seen.push e.born) d.len)) := by
          refine g0.still rfl rfl rfl (by simp [ChangeMaps.setBlock]) fun q o hq => ?_
          by_cases e : q = r
          · subst e; rw [hit1] at hq; cases hq; exact .inr ⟨rfl, hlow, rfl⟩
          · refine .inl ?_
            simp only [ChangeMaps.setBlock]
            rw [Array.getElem?_setIfInBounds_ne (Ne.symm e)]; exact hq
        have g2 : Good (itC w0 H0 pb r (pb K) d.len (seen.push e.born)) mem E H (ChangeMaps.setBlock w1 r (.mapIter (some (pb K)) d.len (seen.push e.born) d.len)) :=
          g1.ctx rfl g1.ext (fun b o v h => g1.fresh b o v h) (fixIt (by simp [ChangeMaps.setBlock, hlt]) hpin)
        refine h1 e.born j (hold e hee) ?_ hj E H _ g2 ⟨okL_putS ok.1 (by simp [SV.Ok, SV.OkL, hv j hj]), by simp⟩
        intro hc
        rw [Array.contains_iff.2 hc] at hns; cases hns
  · cases ho
theorem runs_mapEntry {pb : Nat → Nat} {r s : Nat} {seen : Array Nat} {f : FuncId} {ops : Array Oper} {i : Nat} {l : List Nat} {aw : Option Tmp} {k : List Item} {tmps : List SV} {mem : Mem} {x : Operand} {dst : Option Tmp} {K : Nat} {kk : IntKind} {ag : Bool} {ts : List FT} {d : D}
    (ho : mapAt ops i = some (.entry x, dst)) (hx : evS tmps x = .raw (itV r)) (hm : Mem.get mem K = some (.mapD kk ag ts d)) (hK : PIN ≤ K) (hsd : s < d.len)
    (h1 : ∀ j, j < d.len → Runs P (itC w0 H0 pb r (pb K) d.len (seen.push s)) ⟨⟨f, some (ops, l), aw, k, putS tmps dst (.tup [.int kk (d.getInt j 0), mapSV ag ts d j])⟩, [], mem⟩ R) :
    Runs P (itC w0 H0 pb r (pb K) d.len (seen.push s)) ⟨⟨f, some (ops, i :: l), aw, k, tmps⟩, [], mem⟩ R := by
  intro E H w g ok
  obtain ⟨ents, hb, hs, hbn, he, hv⟩ := mapD_at g hm
  have hit := it_at g
  have hpin : ∀ q, PIN ≤ q → E.b q = pb q := fun q hq => g.fix.pin pb rfl q hq
  rw [hpin K hK] at hb
  have hmem : s ∈ ents.toList.map (·.born) := by rw [hbn]; exact List.mem_range.2 hsd
  obtain ⟨e, hee, hes⟩ := List.mem_map.1 hmem
  subst hes
  obtain ⟨j, hj, hk, hval⟩ := he e hee
  unfold mapAt at ho
  split at ho
  · rename_i dst' op ty pos after hops
    cases hop : mapO op with
    | none => rw [hop] at ho; cases ho
    | some mo =>
      rw [hop] at ho; cases ho
      have hop : op = .entry x := by
        unfold mapO at hop
        split at hop <;> first | (cases hop; rfl) | cases hop
      subst hop
      have e1 := den_evS E tmps [] x
      rw [hx] at e1
      have hrun := run_entry_at (P := P) w r (pb K) d.len seen ents d.len e hit hb hee (by rw [hbn]; exact List.nodup_range)
      have hro : RunsTo P ⟨(SV.denL E tmps).toArray, []⟩ ⟨dst, .entry x, ty, pos, after, none⟩ w ((SV.tup [.int kk (d.getInt j 0), mapSV ag ts d j]).den E) w := by
        left
        simp only [execOp, e1, Sem.run_bind]
        rw [show (SV.raw (itV r)).den E = Value.pointer (some ⟨r, 0, none⟩) by simp [SV.den, itV], hrun]
        simp [SV.den, SV.denL, hk, hval]
      exact stk_op rfl rfl hops rfl hro (h1 j hj E H w g ⟨okL_putS ok.1 (by simp [SV.Ok, SV.OkL, hv j hj]), by simp⟩)
  · cases ho
theorem runs_offIt {pb : Nat → Nat} {r b n : Nat} {seen : Array Nat} {top : SFrm} {mem : Mem} (h : Runs P ⟨w0, H0⟩ ⟨top, [], mem⟩ R) : Runs P (itC w0 H0 pb r b n seen) ⟨top, [], mem⟩ R :=
  fun E H w g ok => h E H w g.offIt ok
def leftN (n : Nat) (seen : Array Nat) : Nat := ((List.range n).filter fun s => !decide (s ∈ seen)).length
theorem filter_lt {α : Type} {p q : α → Bool} {a : α} : ∀ {l : List α}, (∀ x, q x = true → p x = true) → a ∈ l → p a = true → q a = false → (l.filter q).length < (l.filter p).length
  | [], _, h, _, _ => nomatch h
  | x :: l, hpq, h, hp, hq => by
    have hle : (l.filter q).length ≤ (l.filter p).length := by
      have e : l.filter q = (l.filter p).filter q := by
        rw [List.filter_filter]
        apply List.filter_congr
        intro y _
        cases hy : q y with
        | true => simp [hpq y hy]
        | false => simp
      rw [e]; exact List.length_filter_le _ _
    rcases List.mem_cons.1 h with rfl | h
    · rw [List.filter_cons_of_pos hp, List.filter_cons_of_neg (by simp [hq])]
      simp only [List.length_cons]; omega
    · have ih := filter_lt hpq h hp hq
      cases hx : q x with
      | true => rw [List.filter_cons_of_pos hx, List.filter_cons_of_pos (hpq x hx)]; simp only [List.length_cons]; omega
      | false =>
        rw [List.filter_cons_of_neg (by simp [hx])]
        cases hpx : p x with
        | true => rw [List.filter_cons_of_pos hpx]; simp only [List.length_cons]; omega
        | false => rw [List.filter_cons_of_neg (by simp [hpx])]; exact ih
theorem leftN_push {n s : Nat} {seen : Array Nat} (h1 : s < n) (h2 : s ∉ seen) : leftN n (seen.push s) < leftN n seen :=
  filter_lt (a := s) (fun x hx => by simp only [Array.mem_push, Bool.not_eq_true', decide_eq_false_iff_not, not_or] at hx ⊢; exact hx.1) (List.mem_range.2 h1) (by simp [h2]) (by simp)
end
end Sx
end
section
open Go Go.Proofs Sx
namespace Go.Proofs.Ytanpcdcgkhbomaa
set_option maxRecDepth 100000
set_option maxHeartbeats 0
section
variable (a b u n e s z : Int) (c : Bool)
theorem ein_in : exec Try.prog [] 200 (entry Try.prog 34 [.int .i64 a, .int .i64 b]) =
 Tree.br (decide (a ≥ b)) (.ret (.bool (decide (a ≤ 1073741824)))) (.ret (.lb false)) := by kernel_rfl

theorem est_in : exec Try.prog [] 200 (entry Try.prog 35 [.int .i64 a]) =
 Tree.br (decide (a ≥ 0)) (.ret (.bool (decide (a < 4)))) (.ret (.lb false)) := by kernel_rfl

theorem btw_in : exec Try.prog [] 200 (entry Try.prog 24 [.int .i64 a, .int .i64 b, .int .i64 n]) =
 Tree.br (decide (a ≥ b)) (.ret (.bool (decide (a ≤ n)))) (.ret (.lb false)) := by kernel_rfl

theorem hld_in : exec Try.prog [] 200 (entry Try.prog 16 [.agg [.int .i64 a, .int .i64 b, .int .i64 u], .int .i64 n]) =
 Tree.br (decide (a ≥ 0))
 (.br (decide (a ≤ 3))
 (.br (decide (b ≥ 0))
 (.br (decide (b ≤ 1073741824))
 (.br (decide (u ≥ 0))
 (.br (decide (u ≤ 1073741824)) (.ret (.bool (decide (n < u)))) (.ret (.lb false)))
 (.ret (.lb false)))
 (.ret (.lb false)))
 (.ret (.lb false)))
 (.ret (.lb false)))
 (.ret (.lb false)) := by kernel_rfl

theorem wst_in : exec Try.prog [] 200 (entry Try.prog 27 [.int .i64 a]) =
 Tree.br (decide (a ≥ 0)) (.ret (.bool (decide (a ≤ 3)))) (.ret (.lb false)) := by kernel_rfl

theorem wtm_in : exec Try.prog [] 200 (entry Try.prog 26 [.int .i64 a]) =
 Tree.br (decide (a ≥ 0)) (.ret (.bool (decide (a ≤ 1073741824)))) (.ret (.lb false)) := by kernel_rfl

theorem wfm_in : exec Try.prog [] 200 (entry Try.prog 23 [.agg [.int .i64 a, .int .i64 b, .int .i64 u]]) =
 Tree.br (decide (a ≥ 0))
 (.br (decide (a ≤ 3))
 (.br (decide (b ≥ 0))
 (.br (decide (b ≤ 1073741824))
 (.br (decide (u ≥ 0)) (.ret (.bool (decide (u ≤ 1073741824)))) (.ret (.lb false)))
 (.ret (.lb false)))
 (.ret (.lb false)))
 (.ret (.lb false)))
 (.ret (.lb false)) := by kernel_rfl

theorem wck_in : exec Try.prog [] 200 (entry Try.prog 25 [.agg [.int .i64 a, .int .i64 b, .int .i64 u]]) =
 Tree.br (decide (a ≥ 0))
 (.br (!decide (a ≤ 1073741824)) (.ret (.int .i64 3))
 (.br (decide (u ≥ 0))
 (.br (!decide (u ≤ 1073741824)) (.ret (.int .i64 3))
 (.br (b != Int.neg 1)
 (.br (decide (b ≥ 0))
 (.br (!decide (b ≤ 3)) (.ret (.int .i64 3)) (.ret (.int .i64 0)))
 (.ret (.int .i64 3)))
 (.ret (.int .i64 0))))
 (.ret (.int .i64 3))))
 (.ret (.int .i64 3)) := by kernel_rfl

theorem adm_in : execU Try.prog [] (fun f => f == 17) 900 (entry Try.prog 7 [.agg [.int .i64 a, .int .i64 b, .bool c], .int .i64 e, .int .i64 s]) =
 Tree.br true
 (.need ((0 : Int) ≤ 0 ∧ 0 < (↑4 : Int))
 (.br (decide (a ≥ 0))
 (.br (decide (a ≤ 1073741824))
 (.br (decide (b ≥ 0))
 (.br (!decide (b < 4)) (.ret (.int .i64 2))
 (.br true
 (.need (0 ≤ IntKind.wrap .i64 (0 + 1) ∧ IntKind.wrap .i64 (0 + 1) < (↑4 : Int))
 (.br (!decide (e ≥ a)) (.ret (.int .i64 13))
 (.br true
 (.need
 (0 ≤ IntKind.wrap .i64 (IntKind.wrap .i64 (0 + 1) + 1) ∧
 IntKind.wrap .i64 (IntKind.wrap .i64 (0 + 1) + 1) < (↑4 : Int))
 (.br (!decide (e = a)) (.ret (.int .i64 1))
 (.br true
 (.need
 (0 ≤
 IntKind.wrap .i64
 (IntKind.wrap .i64 (IntKind.wrap .i64 (0 + 1) + 1) + 1) ∧
 IntKind.wrap .i64
 (IntKind.wrap .i64 (IntKind.wrap .i64 (0 + 1) + 1) + 1) <
 (↑4 : Int))
 (.br (!c)
 (.br (!decide (s = b)) (.ret (.int .i64 14))
 (.br false
 (.need
 (0 ≤
 IntKind.wrap .i64
 (IntKind.wrap .i64
 (IntKind.wrap .i64 (IntKind.wrap .i64 (0 + 1) + 1) + 1) +
 1) ∧
 IntKind.wrap .i64
 (IntKind.wrap .i64
 (IntKind.wrap .i64 (IntKind.wrap .i64 (0 + 1) + 1) + 1) +
 1) <
 (↑4 : Int))
 Tree.stuck)
 (.ret (.int .i64 0))))
 (.ret (.int .i64 14))))
 (.ret (.int .i64 0)))))
 (.ret (.int .i64 0)))))
 (.ret (.int .i64 0))))
 (.ret (.int .i64 2)))
 (.ret (.int .i64 2)))
 (.ret (.int .i64 2))))
 (.ret (.int .i64 0)) := by kernel_rfl

end
end Go.Proofs.Ytanpcdcgkhbomaa
end
section
open Go Go.Proofs Sx
namespace Go.Proofs.Ytanpcdcgkhbomaa
set_option maxRecDepth 100000
set_option maxHeartbeats 0
section
variable (a b u n e s z t g mk mf mt mn mv me : Int) (c : Bool) (vs bd : D)
theorem enw_in : execU Try.prog [] (fun f => f == 17) 900 (entry Try.prog 8 [.int .i64 a, .int .i64 b]) =
 Tree.br true
 (.need ((0 : Int) ≤ 0 ∧ 0 < (↑1 : Int))
 (.br (decide (a ≥ 0))
 (.br (decide (a ≤ 1073741824))
 (.br (decide (b ≥ 0))
 (.br (!decide (b < 4))
 (.br true
 (.ret
 (SV.tup [.agg [.int .i64 0, .int .i64 0, .lb false], .int .i64 2]))
 (.ret
 (SV.tup [.agg [.int .i64 a, .int .i64 b, .lb false], .int .i64 0])))
 (.br false
 (.need (0 ≤ IntKind.wrap .i64 (0 + 1) ∧ IntKind.wrap .i64 (0 + 1) < (↑1 : Int))
 Tree.stuck)
 (.br false
 (.ret
 (SV.tup [.agg [.int .i64 0, .int .i64 0, .lb false], .int .i64 0]))
 (.ret
 (SV.tup [.agg [.int .i64 a, .int .i64 b, .lb false], .int .i64 0])))))
 (.br true
 (.ret (SV.tup [.agg [.int .i64 0, .int .i64 0, .lb false], .int .i64 2]))
 (.ret
 (SV.tup [.agg [.int .i64 a, .int .i64 b, .lb false], .int .i64 0]))))
 (.br true
 (.ret (SV.tup [.agg [.int .i64 0, .int .i64 0, .lb false], .int .i64 2]))
 (.ret (SV.tup [.agg [.int .i64 a, .int .i64 b, .lb false], .int .i64 0]))))
 (.br true
 (.ret (SV.tup [.agg [.int .i64 0, .int .i64 0, .lb false], .int .i64 2]))
 (.ret (SV.tup [.agg [.int .i64 a, .int .i64 b, .lb false], .int .i64 0])))))
 (.br false
 (.ret (SV.tup [.agg [.int .i64 0, .int .i64 0, .lb false], .int .i64 0]))
 (.ret (SV.tup [.agg [.int .i64 a, .int .i64 b, .lb false], .int .i64 0]))) := by kernel_rfl

theorem rse_in : 
 let z3 : Tree := (.ret (SV.tup [.agg [.int .i64 e, .int .i64 s, .lb false], .int .i64 0]))
 let z4 : List SV := [.int .i64 0, .int .i64 0, .lb false]
 let z1 : Tree := (.br true (.ret (SV.tup [.agg z4, .int .i64 2])) z3)
 let z2 : Tree := (.br false (.ret (SV.tup [.agg z4, .int .i64 0])) z3)
 execU Try.prog [] (fun f => f == 17) 900 (entry Try.prog 32 [.agg [.int .i64 a, .int .i64 b, .bool c], .int .i64 e, .int .i64 s]) =
 Tree.br true (.need ((0 : Int) ≤ 0 ∧ 0 < (↑3 : Int)) (.br (decide (a ≥ 0)) (.br (decide (a ≤ 1073741824)) (.br (decide (b ≥ 0)) (.br (!decide (b < 4)) z1 (.br true (.need (0 ≤ IntKind.wrap .i64 (0 + 1) ∧ IntKind.wrap .i64
 (0 + 1) < (↑3 : Int)) (.br (decide (e ≥ 0)) (.br (decide (e ≤ 1073741824)) (.br (decide (s ≥ 0)) (.br (!decide (s < 4)) z1 (.br true (.need (0 ≤ IntKind.wrap .i64 (IntKind.wrap .i64 (0 + 1) + 1) ∧ IntKind.wrap .i64
 (IntKind.wrap .i64 (0 + 1) + 1) < (↑3 : Int)) (.br (!decide (e > a)) (.br true (.ret (SV.tup [.agg z4, .int .i64 13])) z3) (.br false (.need (0 ≤ IntKind.wrap .i64 (IntKind.wrap .i64 (IntKind.wrap .i64
 (0 + 1) + 1) + 1) ∧ IntKind.wrap .i64 (IntKind.wrap .i64 (IntKind.wrap .i64 (0 + 1) + 1) + 1) < (↑3 : Int)) Tree.stuck) z2))) z2)) z1) z1) z1)) z2)) z1) z1) z1)) z2 := by
 intros; kernel_rfl

theorem ask_in : exec Try.prog [] 400 (entry Try.prog 9 [.agg [.int .i64 a, .int .i64 b, .int .i64 u], .int .i64 e]) =
 Tree.br (decide (a ≥ 0))
 (.br (decide (a ≤ 3))
 (.br (decide (b ≥ 0))
 (.br (decide (b ≤ 1073741824))
 (.br (decide (u ≥ 0))
 (.br (!decide (u ≤ 1073741824))
 (.ret
 (SV.tup
 [.agg
 [.int .i64 0, .int .i64 0, .int .i64 0, .int .i64 0,
 .int .i64 0, .int .i64 0, .nils, .nils],
 .int .i64 3]))
 (.br (decide (e ≥ 1))
 (.br (!decide (e ≤ 1073741824))
 (.ret
 (SV.tup
 [.agg
 [.int .i64 0, .int .i64 0, .int .i64 0, .int .i64 0,
 .int .i64 0, .int .i64 0, .nils, .nils],
 .int .i64 2]))
 (.br (decide (e < b))
 (.ret
 (SV.tup
 [.agg
 [.int .i64 0, .int .i64 0, .int .i64 0, .int .i64 0,
 .int .i64 0, .int .i64 0, .nils, .nils],
 .int .i64 13]))
 (.ret
 (SV.tup
 [.agg
 [.int .i64 15, .int .i64 a, .int .i64 4, .int .i64 0,
 .int .i64 0, .int .i64 e, .nils, .nils],
 .int .i64 0]))))
 (.ret
 (SV.tup
 [.agg
 [.int .i64 0, .int .i64 0, .int .i64 0, .int .i64 0,
 .int .i64 0, .int .i64 0, .nils, .nils],
 .int .i64 2]))))
 (.ret
 (SV.tup
 [.agg
 [.int .i64 0, .int .i64 0, .int .i64 0, .int .i64 0,
 .int .i64 0, .int .i64 0, .nils, .nils],
 .int .i64 3])))
 (.ret
 (SV.tup
 [.agg
 [.int .i64 0, .int .i64 0, .int .i64 0, .int .i64 0,
 .int .i64 0, .int .i64 0, .nils, .nils],
 .int .i64 3])))
 (.ret
 (SV.tup
 [.agg
 [.int .i64 0, .int .i64 0, .int .i64 0, .int .i64 0,
 .int .i64 0, .int .i64 0, .nils, .nils],
 .int .i64 3])))
 (.ret
 (SV.tup
 [.agg
 [.int .i64 0, .int .i64 0, .int .i64 0, .int .i64 0,
 .int .i64 0, .int .i64 0, .nils, .nils],
 .int .i64 3])))
 (.ret
 (SV.tup
 [.agg
 [.int .i64 0, .int .i64 0, .int .i64 0, .int .i64 0, .int .i64 0,
 .int .i64 0, .nils, .nils],
 .int .i64 3])) := by kernel_rfl

theorem rnw_in : exec Try.prog [] 400 (entry Try.prog 11 [.agg [.int .i64 a, .int .i64 b, .int .i64 u]]) =
 Tree.br (decide (a ≥ 0))
 (.br (decide (a ≤ 3))
 (.br (decide (b ≥ 0))
 (.br (decide (b ≤ 1073741824))
 (.br (decide (u ≥ 0))
 (.br (!decide (u ≤ 1073741824))
 (.ret
 (SV.tup
 [.agg
 [.int .i64 0, .int .i64 0, .int .i64 0, .int .i64 0,
 .int .i64 0, .int .i64 0, .nils, .nils],
 .int .i64 3]))
 (.br (decide (u = 0))
 (.ret
 (SV.tup
 [.agg
 [.int .i64 0, .int .i64 0, .int .i64 0, .int .i64 0,
 .int .i64 0, .int .i64 0, .nils, .nils],
 .int .i64 12]))
 (.ret
 (SV.tup
 [.agg
 [.int .i64 17, .int .i64 a, .int .i64 4, .int .i64 0,
 .int .i64 0, .int .i64 b, .nils, .nils],
 .int .i64 0]))))
 (.ret
 (SV.tup
 [.agg
 [.int .i64 0, .int .i64 0, .int .i64 0, .int .i64 0,
 .int .i64 0, .int .i64 0, .nils, .nils],
 .int .i64 3])))
 (.ret
 (SV.tup
 [.agg
 [.int .i64 0, .int .i64 0, .int .i64 0, .int .i64 0,
 .int .i64 0, .int .i64 0, .nils, .nils],
 .int .i64 3])))
 (.ret
 (SV.tup
 [.agg
 [.int .i64 0, .int .i64 0, .int .i64 0, .int .i64 0,
 .int .i64 0, .int .i64 0, .nils, .nils],
 .int .i64 3])))
 (.ret
 (SV.tup
 [.agg
 [.int .i64 0, .int .i64 0, .int .i64 0, .int .i64 0,
 .int .i64 0, .int .i64 0, .nils, .nils],
 .int .i64 3])))
 (.ret
 (SV.tup
 [.agg
 [.int .i64 0, .int .i64 0, .int .i64 0, .int .i64 0, .int .i64 0,
 .int .i64 0, .nils, .nils],
 .int .i64 3])) := by kernel_rfl

theorem gup_in : exec Try.prog [] 400 (entry Try.prog 12 [.agg [.int .i64 a, .int .i64 b, .int .i64 u]]) =
 Tree.br (decide (a ≥ 0))
 (.br (decide (a ≤ 3))
 (.br (decide (b ≥ 0))
 (.br (decide (b ≤ 1073741824))
 (.br (decide (u ≥ 0))
 (.br (!decide (u ≤ 1073741824))
 (.ret
 (SV.tup
 [.agg [.int .i64 a, .int .i64 b, .int .i64 u],
 .agg
 [.int .i64 0, .int .i64 0, .int .i64 0, .int .i64 0,
 .int .i64 0, .int .i64 0, .nils, .nils]]))
 (.all fun hs =>
 .ret
 (SV.tup
 [.agg
 [.int .i64 a,
 .int .i64
 (if 1073741824 < IntKind.wrap .i64 (b + 1) then 1073741824
 else IntKind.wrap .i64 (b + 1)),
 .int .i64 0],
 .agg
 [.int .i64 18, .int .i64 a, .int .i64 4, .int .i64 0,
 .int .i64 0, .int .i64 b, .nils, .nils]])))
 (.ret
 (SV.tup
 [.agg [.int .i64 a, .int .i64 b, .int .i64 u],
 .agg
 [.int .i64 0, .int .i64 0, .int .i64 0, .int .i64 0,
 .int .i64 0, .int .i64 0, .nils, .nils]])))
 (.ret
 (SV.tup
 [.agg [.int .i64 a, .int .i64 b, .int .i64 u],
 .agg
 [.int .i64 0, .int .i64 0, .int .i64 0, .int .i64 0,
 .int .i64 0, .int .i64 0, .nils, .nils]])))
 (.ret
 (SV.tup
 [.agg [.int .i64 a, .int .i64 b, .int .i64 u],
 .agg
 [.int .i64 0, .int .i64 0, .int .i64 0, .int .i64 0,
 .int .i64 0, .int .i64 0, .nils, .nils]])))
 (.ret
 (SV.tup
 [.agg [.int .i64 a, .int .i64 b, .int .i64 u],
 .agg
 [.int .i64 0, .int .i64 0, .int .i64 0, .int .i64 0,
 .int .i64 0, .int .i64 0, .nils, .nils]])))
 (.ret
 (SV.tup
 [.agg [.int .i64 a, .int .i64 b, .int .i64 u],
 .agg
 [.int .i64 0, .int .i64 0, .int .i64 0, .int .i64 0, .int .i64 0,
 .int .i64 0, .nils, .nils]])) := by kernel_rfl

end
end Go.Proofs.Ytanpcdcgkhbomaa
end
section
open Go Go.Proofs Sx
namespace Go.Proofs.Ytanpcdcgkhbomaa
set_option maxRecDepth 100000
theorem lawBtw : Law Try.prog 24 ((rdInt.three rdInt rdInt).sp spBtw) := by
  refine law_in _ (by kernel_rfl) fun H w ⟨a, b, n⟩ hok hp => ?_
  clear hp hok
  apply exec_sound (noCtr _) 200
  rw [show (rdInt.three rdInt rdInt).canon (a, b, n) = [.int .i64 a, .int .i64 b, .int .i64 n] from rfl, btw_in]
  repeat' first
    | refine ⟨fun hc => ?_, fun hc => ?_⟩
    | refine ret_S fun _ _ => ?_
  all_goals (simp [SV.den, SV.denL, true_and, show Int.neg 1 = -1 from rfl] at *)
  all_goals (try first | omega | exact decide_eq_decide.2 (by omega) | exact decide_eq_false (by omega) | (split <;> omega))
theorem lawWst : Law Try.prog 27 ((rdInt.one).sp spSite) := by
  refine law_in _ (by kernel_rfl) fun H w a hok hp => ?_
  clear hp hok
  apply exec_sound (noCtr _) 200
  rw [show (rdInt.one).canon a = [.int .i64 a] from rfl, wst_in]
  repeat' first
    | refine ⟨fun hc => ?_, fun hc => ?_⟩
    | refine ret_S fun _ _ => ?_
  all_goals (simp [SV.den, SV.denL, SiteP, show Int.neg 1 = -1 from rfl] at *)
  all_goals (try first | omega | exact decide_eq_decide.2 (by omega) | exact decide_eq_false (by omega) | (split <;> omega))
theorem lawWtm : Law Try.prog 26 ((rdInt.one).sp spTime) := by
  refine law_in _ (by kernel_rfl) fun H w a hok hp => ?_
  clear hp hok
  apply exec_sound (noCtr _) 200
  rw [show (rdInt.one).canon a = [.int .i64 a] from rfl, wtm_in]
  repeat' first
    | refine ⟨fun hc => ?_, fun hc => ?_⟩
    | refine ret_S fun _ _ => ?_
  all_goals (simp [SV.den, SV.denL, TimeP, show Int.neg 1 = -1 from rfl] at *)
  all_goals (try first | omega | exact decide_eq_decide.2 (by omega) | exact decide_eq_false (by omega) | (split <;> omega))
theorem lawWfm : Law Try.prog 23 ((rdT3.one).sp spFormed) := by
  refine law_in _ (by kernel_rfl) fun H w ⟨a, b, u⟩ hok hp => ?_
  clear hp hok
  apply exec_sound (noCtr _) 200
  rw [show (rdT3.one).canon (a, b, u) = [.agg [.int .i64 a, .int .i64 b, .int .i64 u]] from rfl, wfm_in]
  repeat' first
    | refine ⟨fun hc => ?_, fun hc => ?_⟩
    | refine ret_S fun _ _ => ?_
  all_goals (simp [SV.den, SV.denL, FormedP, TimeP, SiteP, show Int.neg 1 = -1 from rfl] at *)
  all_goals (try first | omega | exact decide_eq_decide.2 (by omega) | exact decide_eq_false (by omega) | (split <;> omega))
theorem lawWck : Law Try.prog 25 ((rdT3.one).sp spWCk) := by
  refine law_in _ (by kernel_rfl) fun H w ⟨a, b, u⟩ hok hp => ?_
  clear hp hok
  apply exec_sound (noCtr _) 200
  rw [show (rdT3.one).canon (a, b, u) = [.agg [.int .i64 a, .int .i64 b, .int .i64 u]] from rfl, wck_in]
  repeat' first
    | refine ⟨fun hc => ?_, fun hc => ?_⟩
    | refine ret_S fun _ _ => ?_
  all_goals (simp [SV.den, SV.denL, wckI, WitP, TimeP, SiteP, show Int.neg 1 = -1 from rfl] at *)
  all_goals (try first | omega | exact decide_eq_decide.2 (by omega) | exact decide_eq_false (by omega) | (split <;> omega))
theorem lawHolds : Law Try.prog 16 ((rdT3.two rdInt).sp spHolds) := by
  refine law_in _ (by kernel_rfl) fun H w ⟨⟨a, b, u⟩, n⟩ hok hp => ?_
  clear hp hok
  apply exec_sound (noCtr _) 200
  rw [show (rdT3.two rdInt).canon ((a, b, u), n) = [.agg [.int .i64 a, .int .i64 b, .int .i64 u], .int .i64 n] from rfl, hld_in]
  repeat' first
    | refine ⟨fun hc => ?_, fun hc => ?_⟩
    | refine ret_S fun _ _ => ?_
  all_goals (simp [SV.den, SV.denL, FormedP, TimeP, SiteP, show Int.neg 1 = -1 from rfl] at *)
  all_goals (try first | omega | exact decide_eq_decide.2 (by omega) | exact decide_eq_false (by omega) | (split <;> omega))
theorem lawAdmit : Law Try.prog 7 ((rdFe.three rdInt rdInt).sp spAdmit) := by
  refine law_in _ (by kernel_rfl) fun H w ⟨⟨a, b, c⟩, e, s⟩ hok hp => ?_
  clear hp hok
  apply execU_sound (noCtr _) _ 900
  rw [show (rdFe.three rdInt rdInt).canon ((a, b, c), e, s) = [.agg [.int .i64 a, .int .i64 b, .bool c], .int .i64 e, .int .i64 s] from rfl, adm_in]
  repeat' first
    | refine ⟨fun hc => ?_, fun hc => ?_⟩
    | refine ⟨by decide, ?_⟩
    | refine fun _ => ?_
    | refine ret_S fun _ _ => ?_
    | refine ret_DS (fun _ => by simp [feC, t3C, msgC, SV.Ok, SV.OkL]) fun _ _ => ?_
    | (cases hc; done)
  all_goals (try cases hc)
  all_goals (simp [SV.den, SV.denL, spAdmit, admitI, TimeP, SiteP, FenP, FormedP, show Int.neg 1 = -1 from rfl] at *)
  all_goals (try first | omega | (repeat' split) <;> first | omega | rfl | simp_all)
theorem lawNewF : Law Try.prog 8 ((rdInt.two rdInt).sp spNewF) := by
  refine law_in _ (by kernel_rfl) fun H w ⟨a, b⟩ hok hp => ?_
  clear hp hok
  apply execU_sound (noCtr _) _ 900
  rw [show (rdInt.two rdInt).canon (a, b) = [.int .i64 a, .int .i64 b] from rfl, enw_in]
  repeat' first
    | refine ⟨fun hc => ?_, fun hc => ?_⟩
    | refine ⟨by decide, ?_⟩
    | refine fun _ => ?_
    | refine ret_S fun _ _ => ?_
    | refine ret_DS (fun _ => by simp [feC, t3C, msgC, SV.Ok, SV.OkL]) fun _ _ => ?_
    | (cases hc; done)
  all_goals (try cases hc)
  all_goals (simp [SV.den, SV.denL, spNewF, newFI, feC, zi, TimeP, SiteP, FenP, FormedP, show Int.neg 1 = -1 from rfl] at *)
  all_goals (try first | omega | (repeat' split) <;> first | omega | rfl | simp_all)
theorem lawRaise : Law Try.prog 32 ((rdFe.three rdInt rdInt).sp spRaise) := by
  refine law_in _ (by kernel_rfl) fun H w ⟨⟨a, b, c⟩, e, s⟩ hok hp => ?_
  clear hp hok
  apply execU_sound (noCtr _) _ 900
  rw [show (rdFe.three rdInt rdInt).canon ((a, b, c), e, s) = [.agg [.int .i64 a, .int .i64 b, .bool c], .int .i64 e, .int .i64 s] from rfl, rse_in]
  repeat' first
    | refine ⟨fun hc => ?_, fun hc => ?_⟩
    | refine ⟨by decide, ?_⟩
    | refine fun _ => ?_
    | refine ret_S fun _ _ => ?_
    | refine ret_DS (fun _ => by simp [feC, t3C, msgC, SV.Ok, SV.OkL]) fun _ _ => ?_
    | (cases hc; done)
  all_goals (try cases hc)
  all_goals (simp [SV.den, SV.denL, spRaise, raiseI, feC, zi, TimeP, SiteP, FenP, FormedP, show Int.neg 1 = -1 from rfl] at *)
  all_goals (try first | omega | (repeat' split) <;> first | omega | rfl | simp_all)
theorem lawAsk : Law Try.prog 9 ((rdT3.two rdInt).sp spAsk) := by
  refine law_in _ (by kernel_rfl) fun H w ⟨⟨a, b, u⟩, e⟩ hok hp => ?_
  clear hp hok
  apply exec_sound (noCtr _) 400
  rw [show (rdT3.two rdInt).canon ((a, b, u), e) = [.agg [.int .i64 a, .int .i64 b, .int .i64 u], .int .i64 e] from rfl, ask_in]
  repeat' first
    | refine ⟨fun hc => ?_, fun hc => ?_⟩
    | refine ⟨by decide, ?_⟩
    | refine fun _ => ?_
    | refine ret_S fun _ _ => ?_
    | refine ret_DS (fun _ => by simp [feC, t3C, msgC, SV.Ok, SV.OkL]) fun _ _ => ?_
    | (cases hc; done)
  all_goals (try cases hc)
  all_goals (simp [SV.den, SV.denL, spAsk, askI, msgC, zi, TimeP, SiteP, FenP, FormedP, show Int.neg 1 = -1 from rfl] at *)
  all_goals (try first | omega | (repeat' split) <;> first | omega | rfl | simp_all)
theorem lawRenew : Law Try.prog 11 ((rdT3.one).sp spRenew) := by
  refine law_in _ (by kernel_rfl) fun H w ⟨a, b, u⟩ hok hp => ?_
  clear hp hok
  apply exec_sound (noCtr _) 400
  rw [show (rdT3.one).canon (a, b, u) = [.agg [.int .i64 a, .int .i64 b, .int .i64 u]] from rfl, rnw_in]
  repeat' first
    | refine ⟨fun hc => ?_, fun hc => ?_⟩
    | refine ⟨by decide, ?_⟩
    | refine fun _ => ?_
    | refine ret_S fun _ _ => ?_
    | refine ret_DS (fun _ => by simp [feC, t3C, msgC, SV.Ok, SV.OkL]) fun _ _ => ?_
    | (cases hc; done)
  all_goals (try cases hc)
  all_goals (simp [SV.den, SV.denL, spRenew, renewI, msgC, zi, TimeP, SiteP, FenP, FormedP, show Int.neg 1 = -1 from rfl] at *)
  all_goals (try first | omega | (repeat' split) <;> first | omega | rfl | simp_all)
theorem lawGive : Law Try.prog 12 ((rdT3.one).sp spGive) := by
  refine law_in _ (by kernel_rfl) fun H w ⟨a, b, u⟩ hok hp => ?_
  clear hp hok
  apply exec_sound (noCtr _) 400
  rw [show (rdT3.one).canon (a, b, u) = [.agg [.int .i64 a, .int .i64 b, .int .i64 u]] from rfl, gup_in]
  repeat' first
    | refine ⟨fun hc => ?_, fun hc => ?_⟩
    | refine ret_DS (fun _ => by simp [feC, t3C, msgC, SV.Ok, SV.OkL]) fun _ _ => ?_
    | refine fun _ => ?_
  all_goals (simp only [decide_eq_true_eq, decide_eq_false_iff_not, Bool.not_eq_true', Bool.not_eq_false', ge_iff_le] at *)
  all_goals (first
    | (have hw : IntKind.i64.wrap (b + 1) = b + 1 := by rw [wrap64J (by omega) (by omega)]
       rw [hw]
       simp only [spGive, SV.den, SV.denL, giveL, t3C, msgC, zi]
       rw [if_pos (show FormedP (a, b, u) from ⟨⟨by assumption, by assumption⟩, ⟨by assumption, by assumption⟩, by assumption, by assumption⟩)]
       simp only [if_pos (show FormedP (a, b, u) from ⟨⟨by assumption, by assumption⟩, ⟨by assumption, by assumption⟩, by assumption, by assumption⟩)]
       have hm : (if 1073741824 < b + 1 then (1073741824 : Int) else b + 1) = min (b + 1) 1073741824 := by split <;> omega
       rw [hm]; done)
    | (have hf : ¬ FormedP (a, b, u) := by simp only [FormedP, SiteP, TimeP]; omega
       simp only [spGive, SV.den, SV.denL, giveL, t3C, msgC, zi, if_neg hf]))
end Go.Proofs.Ytanpcdcgkhbomaa
end
section
namespace Sx
open Go RowKit
def cellOk (m : Mem) : SV → Bool
  | .int .. => true
  | .bool _ => true
  | .lb _ => true
  | .str _ => true
  | .nils => true
  | .dat _ => true
  | .vec j => match m.get j with
    | some (.arr ..) => true
    | some (.pub _) => true
    | _ => false
  | _ => false

def cellsOk (m : Mem) : List SV → Bool
  | [] => true
  | c :: r => cellOk m c && cellsOk m r
abbrev PSpec := List SV → List SV → Option (List Prop × ((Nat → D) → SV))
def rowD (b : Nat) (row : List D) : D := .slc (some (⟨b, 0, none⟩, 1)) row.length [row]

def PLaw (P : Program) (f : FuncId) (spec : PSpec) : Prop :=
  Bodied P f = true ∧ ∀ (H : HV) (E : Env) (b : Nat) (row : List D) (cs args : List SV), (rowD b row).Ok H → (∀ o, row.length ≤ o → H b o = none) → SV.denL E cs = row.map D.val → SV.OkL H args →
    match spec cs args with
    | some (ps, g) => (∀ p, p ∈ ps → p) → PCall P f H (SV.denL E (.elt (rowD b row) 0 0 :: args)) fun H' u =>
        ∃ hs, u = (g hs).den E ∧ ∀ H2, (∀ b' o v, b' ≠ b → H' b' o = some v → H2 b' o = some v) → (g hs).Ok H2
    | none => True

def pCtr (spec : PSpec) : Ctr := fun args _ m =>
  match args with
  | .ptr k 0 :: rest => match m.get k with
    | some (.cells _ cs) => match cellsOk m cs with
      | true => match spec cs (closeL (pubsR (leavesL rest) m) rest) with
        | some (ps, g) => .all ps fun hs => (g hs, pubsR (leavesL rest) m)
        | none => .bad
      | false => .bad
    | _ => .bad
  | _ => .bad

theorem pCtr_ro {spec : PSpec} : CtrRO (pCtr spec) := by
  intro args key m h
  unfold pCtr
  split
  · rename_i heq
    split at heq
    · split at heq
      · split at heq
        · split at heq <;> cases heq
        · cases heq
      · cases heq
    · cases heq
  · rename_i heq
    split at heq
    · split at heq
      · split at heq
        · split at heq
          · cases heq
            intro hs _
            simp only [pubsR_ro h]
          · cases heq
        · cases heq
      · cases heq
    · cases heq
  · trivial

theorem cell_d {C : Ctx} {m : Mem} {E : Env} {H H' : HV} {w : World} (g : Good C m E H w) (hle : HLe H H') {c : SV} (hc : cellOk m c = true) (hok : c.Ok H) : ∃ d : D, d.val = c.den E ∧ d.Ok H' := by
  cases c <;> simp only [cellOk, Bool.false_eq_true] at hc
  case int k n => exact ⟨.int k n, by simp [D.val, SV.den], .int k n⟩
  case bool b => exact ⟨.bool b, by simp [D.val, SV.den], .bool b⟩
  case lb b => exact ⟨.bool b, by simp [D.val, SV.den], .bool b⟩
  case str s => exact ⟨.str s, by simp [D.val, SV.den], .str s⟩
  case nils => exact ⟨.slc none 0 [], by simp [D.val, hval, SV.den], .nil 0⟩
  case dat d => exact ⟨d, by simp [SV.den], hok.1.mono hle⟩
  case vec j =>
    split at hc
    · rename_i e d hg
      obtain ⟨h, sz, rows, rfl, h2, h3, h4, h5, h6⟩ := g.own j _ (Mem.get_mem hg)
      cases h with
      | none =>
        have hn : rows.length = 0 := by
          rcases h3.2 with h | ⟨g', cap, cur, h, _⟩
          · exact h.2
          · simp [D.val, hval] at h
        exact ⟨.slc none 0 [], by simp [D.val, hval, SV.den, h2], .nil 0⟩
      | some ac =>
        obtain ⟨a, c⟩ := ac
        have hn : rows.length ≤ c := by
          rcases h3.2 with h | ⟨g', cap, cur, h, _, _, hcap, _⟩
          · have := h.1; simp [D.val, hval] at this
          · simp only [D.val, hval, Value.slice.injEq] at h
            rw [h.2.2]; exact hcap
        refine ⟨.slc (some (a, c)) 0 (List.replicate rows.length []), by simp [D.val, hval, SV.den, h2], .slc a c 0 _ (fun _ => by rw [(h6 a c rfl).1]) (by simpa using hn) (fun r hr => by rw [List.eq_of_mem_replicate hr]; rfl) (fun i j r x hi hj => ?_) (fun r hr x hx => ?_)⟩
        · have := List.eq_of_mem_replicate (List.mem_of_getElem? hi)
          subst this
          simp at hj
        · have := List.eq_of_mem_replicate hr
          subst this
          cases hx
    · rename_i d hg
      obtain ⟨⟨h, sz, rows, rfl, h2⟩, h3⟩ := g.own j _ (Mem.get_mem hg)
      exact ⟨_, by simp [D.val, SV.den, h2], h3.mono hle⟩
    · cases hc

theorem cells_d {C : Ctx} {m : Mem} {E : Env} {H H' : HV} {w : World} (g : Good C m E H w) (hle : HLe H H') : ∀ {cs : List SV}, cellsOk m cs = true → SV.OkL H cs → ∃ row : List D, row.map D.val = SV.denL E cs ∧ ∀ d, d ∈ row → d.Ok H'
  | [], _, _ => ⟨[], by simp [SV.denL], by simp⟩
  | c :: r, hc, hok => by
    simp only [cellsOk, Bool.and_eq_true] at hc
    obtain ⟨d, h1, h2⟩ := cell_d g hle hc.1 hok.1
    obtain ⟨row, h3, h4⟩ := cells_d g hle hc.2 hok.2
    refine ⟨d :: row, by simp [SV.denL, h1, h3], fun x hx => ?_⟩
    rcases List.mem_cons.1 hx with rfl | hx
    · exact h2
    · exact h4 x hx

theorem get_pub_cells {m : Mem} {k : Nat} {t : TypeId} {cs : List SV} (h : m.get k = some (.cells t cs)) (x : SV) : (pubR m x).get k = some (.cells t cs) := by
  unfold pubR
  split
  · rename_i j
    split
    · rename_i e d hj
      have hne : k ≠ j := by rintro rfl; rw [h] at hj; cases hj
      rw [Mem.get_set hj]
      simp [hne, h]
    · exact h
  · exact h

theorem get_pubs_cells {k : Nat} {t : TypeId} {cs : List SV} : ∀ (l : List SV) {m : Mem}, m.get k = some (.cells t cs) → (pubsR l m).get k = some (.cells t cs)
  | [], _, h => h
  | x :: r, _, h => get_pubs_cells r (get_pub_cells h x)

theorem pCtr_ok {P : Program} {f : FuncId} {spec : PSpec} (h : PLaw P f spec) : CtrOk P f (pCtr spec) := by
  refine ⟨bodied_spec h.1, fun C E H w args key m g hargs hk hk2 => ?_, pCtr_ro⟩
  unfold CallRight
  have hctr : (∃ k rest t cs ps gg, args = .ptr k 0 :: rest ∧ m.get k = some (.cells t cs) ∧ cellsOk m cs = true ∧ spec cs (closeL (pubsR (leavesL rest) m) rest) = some (ps, gg) ∧
      pCtr spec args key m = .all ps fun hs => (gg hs, pubsR (leavesL rest) m)) ∨ pCtr spec args key m = .bad := by
    unfold pCtr
    split
    · rename_i k rest
      split
      · rename_i t cs hg
        split
        · rename_i hcs
          split
          · rename_i ps gg hs
            exact .inl ⟨k, rest, t, cs, ps, gg, rfl, hg, hcs, hs, rfl⟩
          · exact .inr rfl
        · exact .inr rfl
      · exact .inr rfl
    · exact .inr rfl
  rcases hctr with ⟨k, rest, t, cs, ps, gg, rfl, hget, hcs, hspec, he⟩ | he
  · rw [he]
    simp only
    intro hp
    obtain ⟨H1, hle, g1, nw⟩ := pubsR_spec (leavesL rest) g
    have hpm := pubsR_mem (leavesL rest) (m := m)
    obtain ⟨e1, e2⟩ := closeL_spec g1 rest (SV.OkL.mono hle _ hargs.2)
    obtain ⟨c1, c2, c3, c4⟩ := g1.own k _ (Mem.get_mem (get_pubs_cells (leavesL rest) hget))
    -- the cells as public ones
    let Hp : HV := fun b o => if b = E.b k then (SV.denL E cs)[o]? else H1 b o
    have hHp : HLe H1 Hp := fun b o v hv => by
      have : b ≠ E.b k := by rintro rfl; rw [c3] at hv; cases hv
      simp only [Hp, this, if_false, hv]
    obtain ⟨g0own1, g0own2, g0own3, g0ok⟩ := g.own k _ (Mem.get_mem hget)
    obtain ⟨row, r1, r2⟩ := cells_d g (hle.trans hHp) hcs g0ok
    have hrow : (rowD (E.b k) row).Ok Hp := by
      refine .slc _ 1 _ _ (fun _ => rfl) (by simp) (fun r hr => by rw [List.mem_singleton.1 hr]) (fun i j r x hi hj => ?_) (fun r hr x hx => by rw [List.mem_singleton.1 hr] at hx; exact r2 x hx)
      have hi0 : i = 0 := by
        cases i with
        | zero => rfl
        | succ i => simp at hi
      subst hi0
      simp only [List.getElem?_cons_zero, Option.some.injEq] at hi
      subst hi
      simp only [Hp, if_true, ← r1]
      simp [hj]
    have hmem : InMem Hp w := fun b o v hv => by
      simp only [Hp] at hv
      split at hv
      · rename_i hb
        subst hb
        simp only [World.cell?, c2]
        simpa using hv
      · exact g1.cell b o v hv
    have hl := h.2 Hp E (E.b k) row cs (closeL (pubsR (leavesL rest) m) rest) hrow (fun o ho => by
      have : row.length = (SV.denL E cs).length := by rw [← r1]; simp
      simp only [Hp, if_true]
      exact List.getElem?_eq_none (by omega)) r1.symm (SV.OkL.mono hHp _ e2)
    rw [hspec] at hl
    have hc := hl hp w hmem
    have eargs : SV.denL E (.elt (rowD (E.b k) row) 0 0 :: closeL (pubsR (leavesL rest) m) rest) = SV.denL E (.ptr k 0 :: rest) := by
      simp only [SV.denL, e1, SV.den, rowD, D.addr, D.hd]
      simp
    rw [eargs] at hc
    refine Calls.mono hc fun e w' ⟨u, H', he', ha, hs, hu, hok⟩ => ?_
    let H2 : HV := fun b o => if b = E.b k then none else H' b o
    have hle2 : HLe H1 H2 := fun b o v hv => by
      have hb : b ≠ E.b k := by rintro rfl; rw [c3] at hv; cases hv
      simp only [H2, hb, if_false]
      exact ha.le b o v (hHp b o v hv)
    have hfr : ∀ b o v, H2 b o = some v → H1 b o = some v ∨ w.heap.size ≤ b := fun b o v hv => by
      simp only [H2] at hv
      split at hv
      · cases hv
      · rename_i hb
        rcases ha.fresh b o v hv with h3 | h3
        · simp only [Hp, hb, if_false] at h3; exact .inl h3
        · exact .inr h3
    have hcell : ∀ b o v, H2 b o = some v → w'.cell? ⟨b, o, none⟩ = some v := fun b o v hv => by
      simp only [H2] at hv
      split at hv
      · cases hv
      · exact ha.cell b o v hv
    refine ⟨hs, E, H2, by rw [he', hu], Agree.refl _ _, hle.trans hle2, g1.call ha.below hle2 hfr hcell, hok H2 (fun b' o v hb hv => by simp only [H2, hb, if_false]; exact hv), ha.below.size, fun b hb _ => ha.below.block b hb, fun b x v hv => ?_,
      fun k o h => .inr (hpm k o h).1, fun k o h hl => .inr ⟨k, o, (hpm k o h).2 hl, hl, rfl⟩, ha.below.os, ha.below.tape, ha.below.output⟩
    rcases hfr b x v hv with h1 | h1
    · exact (nw b x v h1).imp id .inr
    · exact .inr (.inl h1)
  · rw [he]; trivial
end Sx
end
section
open Go Go.Proofs Sx
namespace Go.Proofs.Ytanpcdcgkhbomaa
set_option maxRecDepth 100000
set_option maxHeartbeats 0
section
variable (bk : Nat) (a h u n t mk mf mt mn mv me : Int) (rr : List D)
theorem held_in : 
 let z1 := (rowD bk (D.int .i64 a :: D.int .i64 h :: D.int .i64 u :: D.int .i64 n :: rr))
 exec Try.prog [] 200 (entry Try.prog 36 [.elt (rowD bk (.int .i64 a :: .int .i64 h :: .int .i64 u :: .int .i64 n :: rr)) 0 0]) =
 Tree.all fun hs => .br (D.getInt z1 0 1 != Int.neg 1) (.need (D.HasCell z1 0 1 (FT.int .i64)) (.need ((D.getInt z1 0 1 != Int.neg 1) = true) (.need ((D.getInt z1 0 1 != Int.neg 1) = true) (.need ((D.getInt z1 0 1 != Int.neg 1) = true)
 (.need ((D.getInt z1 0 1 != Int.neg 1) = true) (.need (D.HasCell z1 0 3 (FT.int .i64)) (.need ((D.getInt z1 0 1 != Int.neg 1) = true) (.need ((D.getInt z1 0 1 != Int.neg 1) = true) (.need ((D.getInt z1 0 1 != Int.neg 1) = true)
 (.need ((D.getInt z1 0 1 != Int.neg 1) = true) (.need ((D.getInt z1 0 1 != Int.neg 1) = true) (.need (D.HasCell z1 0 2 (FT.int .i64)) (.need ((D.getInt z1 0 1 != Int.neg 1) = true) (.need ((D.getInt z1 0 1 != Int.neg 1) = true)
 (.ret (.bool (decide (D.getInt z1 0 3 < D.getInt z1 0 2)))))))))))))))))) (.need (D.HasCell z1 0 1 (FT.int .i64)) (.need ((D.getInt z1 0 1 != Int.neg 1) = false) (.need ((D.getInt z1 0 1 != Int.neg 1) = false)
 (.need ((D.getInt z1 0 1 != Int.neg 1) = false) (.need ((D.getInt z1 0 1 != Int.neg 1) = false) (.need ((D.getInt z1 0 1 != Int.neg 1) = false) (.need ((D.getInt z1 0 1 != Int.neg 1) = false) (.need ((D.getInt z1 0 1 != Int.neg 1) = false)
 (.need ((D.getInt z1 0 1 != Int.neg 1) = false) (.need ((D.getInt z1 0 1 != Int.neg 1) = false) (.need ((D.getInt z1 0 1 != Int.neg 1) = false) (.need ((D.getInt z1 0 1 != Int.neg 1) = false) (.ret (.lb false)))))))))))))) := by
 intros; kernel_rfl

theorem own_in : 
 let z1 := (rowD bk (D.int .i64 a :: D.int .i64 h :: D.int .i64 u :: D.int .i64 n :: D.int .i64 t :: D.int .i64 mk :: D.int .i64 mf :: D.int .i64 mt :: D.int .i64 mn :: D.int .i64 mv :: D.int .i64 me :: rr))
 let z2 : Prop := (decide (D.getInt z1 0 10 = D.getInt z1 0 0) = true)
 let z3 : Prop := (decide (D.getInt z1 0 10 = D.getInt z1 0 0) = false)
 let z4 := (D.HasCell z1 0 1 (FT.int .i64))
 let z5 := (D.HasCell z1 0 10 (FT.int .i64))
 let z6 := (D.HasCell z1 0 0 (FT.int .i64))
 exec Try.prog [] 200 (entry Try.prog 38 [.elt (rowD bk (.int .i64 a :: .int .i64 h :: .int .i64 u :: .int .i64 n :: .int .i64 t :: .int .i64 mk :: .int .i64 mf :: .int .i64 mt :: .int .i64 mn :: .int .i64 mv :: .int .i64 me :: rr)) 0 0]) =
 Tree.all fun hs => .br (decide (D.getInt z1 0 10 = D.getInt z1 0 0)) (.br (decide (D.getInt z1 0 1 = D.getInt z1 0 6)) (.need z5 (.need z6 (.need z2 (.need z2 (.need z2 (.need z2 (.need z2 (.need z4 (.need z2
 (.need z2 (.need z2 (.need z2 (.need z2 (.need (D.HasCell z1 0 6 (FT.int .i64)) (.need z2 (.need z2 (.need (decide (D.getInt z1 0 1 = D.getInt z1 0 6) = true) (.br (decide (D.getInt z1 0 1 = D.getInt z1 0 6))
 (.all fun hs => .br (D.getInt z1 0 1 != Int.neg 1) (.need z4 (.need ((D.getInt z1 0 1 != Int.neg 1) = true) (.need ((D.getInt z1 0 1 != Int.neg 1) = true) (.need ((D.getInt z1 0 1 != Int.neg 1) = true)
 (.need ((D.getInt z1 0 1 != Int.neg 1) = true) (.need (D.HasCell z1 0 3 (FT.int .i64)) (.need ((D.getInt z1 0 1 != Int.neg 1) = true) (.need ((D.getInt z1 0 1 != Int.neg 1) = true) (.need ((D.getInt z1 0 1 != Int.neg 1) = true)
 (.need ((D.getInt z1 0 1 != Int.neg 1) = true) (.need ((D.getInt z1 0 1 != Int.neg 1) = true) (.need (D.HasCell z1 0 2 (FT.int .i64)) (.need ((D.getInt z1 0 1 != Int.neg 1) = true) (.need ((D.getInt z1 0 1 != Int.neg 1) = true)
 (.ret (.bool (decide (D.getInt z1 0 3 < D.getInt z1 0 2)))))))))))))))))) (.need z4 (.need ((D.getInt z1 0 1 != Int.neg 1) = false) (.need ((D.getInt z1 0 1 != Int.neg 1) = false) (.need ((D.getInt z1 0 1 != Int.neg 1) = false)
 (.need ((D.getInt z1 0 1 != Int.neg 1) = false) (.need ((D.getInt z1 0 1 != Int.neg 1) = false) (.need ((D.getInt z1 0 1 != Int.neg 1) = false) (.need ((D.getInt z1 0 1 != Int.neg 1) = false) (.need ((D.getInt z1 0 1 != Int.neg 1) = false)
 (.need ((D.getInt z1 0 1 != Int.neg 1) = false) (.need ((D.getInt z1 0 1 != Int.neg 1) = false) (.need ((D.getInt z1 0 1 != Int.neg 1) = false) (.ret (.lb false))))))))))))))) (.ret (.lb false))))))))))))))))))))
 (.need z5 (.need z6 (.need z2 (.need z2 (.need z2 (.need z2 (.need z2 (.need z4 (.need z2 (.need z2 (.need z2 (.need z2 (.need z2 (.need (D.HasCell z1 0 6 (FT.int .i64)) (.need z2 (.need z2 (.need (decide
 (D.getInt z1 0 1 = D.getInt z1 0 6) = false) (.br (decide (D.getInt z1 0 1 = D.getInt z1 0 6)) (.all fun hs => Tree.stuck) (.ret (.lb false))))))))))))))))))))) (.need z5 (.need z6 (.need z3 (.need z3
 (.need z3 (.need z3 (.need z3 (.need z3 (.need z3 (.need z3 (.need z3 (.need z3 (.need z3 (.need z3 (.ret (.lb false)))))))))))))))) := by
 intros; kernel_rfl

end
end Go.Proofs.Ytanpcdcgkhbomaa
end
section
open Go Go.Proofs Sx
namespace Sx
theorem val_int25 {d : D} {k : IntKind} {n : Int} (h : d.val = .int k n) : d = .int k n := by
  cases d with
  | int k' n' => simpa [D.val] using h
  | bool b => simp [D.val] at h
  | str s => simp [D.val] at h
  | slc hd s r => cases hd <;> simp [D.val, hval] at h
def spHeldP : PSpec := fun cs args => match cs with
  | .int .i64 _ :: .int .i64 h :: .int .i64 u :: .int .i64 n :: r => match args with
    | [] => if r.length = 9 then some ([], fun _ => .bool (decide (h ≠ -1 ∧ n < u))) else none
    | _ => none
  | _ => none
end Sx
namespace Go.Proofs.Ytanpcdcgkhbomaa
set_option maxRecDepth 100000
theorem lawHeld : PLaw Try.prog 36 spHeldP := by
  refine ⟨by kernel_rfl, fun H E b row cs args hrow hfree hcs hargs => ?_⟩
  unfold spHeldP
  split
  · rename_i heq
    split at heq
    · rename_i a h u n cs'
      split at heq
      · split at heq
        · rename_i hlen
          cases heq
          intro _ w hc
          have hrl : row.length = 13 := by
            have := congrArg List.length hcs
            rw [SV.denL_eq] at this
            simp only [List.length_map, List.length_cons] at this hlen
            omega
          obtain ⟨d0, d1, d2, d3, rr, rfl⟩ : ∃ d0 d1 d2 d3 rr, row = d0 :: d1 :: d2 :: d3 :: rr := by
            match row, hrl with
            | d0 :: d1 :: d2 :: d3 :: rr, _ => exact ⟨d0, d1, d2, d3, rr, rfl⟩
          simp only [SV.denL, SV.den, List.map_cons, List.cons.injEq] at hcs
          have e0 := val_int25 hcs.1.symm
          have e1 := val_int25 hcs.2.1.symm
          have e2 := val_int25 hcs.2.2.1.symm
          have e3 := val_int25 hcs.2.2.2.1.symm
          subst e0; subst e1; subst e2; subst e3
          have hcall := calls_of (args := [.elt (rowD b (.int .i64 a :: .int .i64 h :: .int .i64 u :: .int .i64 n :: rr)) 0 0]) (P := Try.prog) (f := 36) (H := H) (w := w)
            (R := RetS w H (.bool (decide (h ≠ -1 ∧ n < u)))) (by kernel_rfl) ⟨hrow, trivial⟩ E hc (by
              apply exec_sound (noCtr _) 200
              rw [held_in]
              have g1 : (rowD b (.int .i64 a :: .int .i64 h :: .int .i64 u :: .int .i64 n :: rr)).getInt 0 1 = h := rfl
              have g2 : (rowD b (.int .i64 a :: .int .i64 h :: .int .i64 u :: .int .i64 n :: rr)).getInt 0 2 = u := rfl
              have g3 : (rowD b (.int .i64 a :: .int .i64 h :: .int .i64 u :: .int .i64 n :: rr)).getInt 0 3 = n := rfl
              rw [g1, g2, g3]
              refine fun _ => ⟨fun hb => ?_, fun hb => ?_⟩
              all_goals (repeat' first
                | refine ⟨hb, ?_⟩
                | refine ⟨⟨_, rfl⟩, ?_⟩
                | refine ret_S fun _ _ => ?_)
              all_goals (simp [SV.den, show Int.neg 1 = -1 from rfl] at *)
              · simp [hb]
              · simp [hb])
          refine Calls.mono hcall fun e w' ⟨v, he, H', ha, hden⟩ => ⟨v, H', he, ha, fun _ => .slc none 0 [], hden E, fun H2 _ => by simp [SV.Ok]⟩
        · cases heq
      · cases heq
    · cases heq
  · trivial
end Go.Proofs.Ytanpcdcgkhbomaa
end
section
open Go Go.Proofs Sx
namespace Go.Proofs.Ytanpcdcgkhbomaa
set_option maxRecDepth 100000
set_option maxHeartbeats 0
noncomputable def ctW : Ctrs := [(24, ctrOf ((rdInt.three rdInt rdInt).sp spBtw)), (27, ctrOf (rdInt.one.sp spSite)), (26, ctrOf (rdInt.one.sp spTime)), (23, ctrOf (rdT3.one.sp spFormed)), (25, ctrOf (rdT3.one.sp spWCk)), (36, pCtr spHeldP)]
section
variable (a b u n e s z t g mk mf mt mn mv me : Int) (c : Bool) (vs bd : D)
theorem lrn_in : 
 let z4 : Tree := (.ret (.agg [.int .i64 a, .int .i64 b, .int .i64 u]))
 let z1 : Tree := (.br (decide (mk = 12)) (.br (decide (me > b)) (.ret (.agg [.int .i64 a, .int .i64 b, .int .i64 0])) z4) z4)
 let z2 : Tree := (.br (decide (mk = 16)) (.br (decide (me = b)) (.ret (.agg [.int .i64 a, .int .i64 b, .int .i64 (if (if 1073741824 < if 0 > IntKind.wrap .i64 (IntKind.wrap .i64 (s + if mv < t then mv else t) - g) then 0 else IntKind.wrap .i64 (IntKind.wrap .i64 (s + if mv < t then mv else t) - g) then 1073741824 else if 0 > IntKind.wrap .i64 (IntKind.wrap .i64 (s + if mv < t then mv else t) - g) then 0 else IntKind.wrap .i64 (IntKind.wrap .i64 (s + if mv < t then mv else t) - g)) > u then if 1073741824 < if 0 > IntKind.wrap .i64 (IntKind.wrap .i64 (s + if mv < t then mv else t) - g) then 0 else IntKind.wrap .i64 (IntKind.wrap .i64 (s + if mv < t then mv else t) - g) then 1073741824 else if 0 > IntKind.wrap .i64 (IntKind.wrap .i64 (s + if mv < t then mv else t) - g) then 0 else IntKind.wrap .i64 (IntKind.wrap .i64 (s + if mv < t then mv else t) - g) else u)])) z1) z1)
 let z3 : Tree := (.br (decide (mk = 16)) (.br (decide (me = b)) (.ret (.agg [.int .i64 a, .int .i64 b, .int .i64 (if (if 0 > IntKind.wrap .i64 (IntKind.wrap .i64 (s + if mv < t then mv else t) - g) then 0 else IntKind.wrap .i64 (IntKind.wrap .i64 (s + if mv < t then mv else t) - g)) > u then if 0 > IntKind.wrap .i64 (IntKind.wrap .i64 (s + if mv < t then mv else t) - g) then 0 else IntKind.wrap .i64 (IntKind.wrap .i64 (s + if mv < t then mv else t) - g) else u)])) z1) z1)
 let z5 : Tree := (.br (decide (mk = 16)) (.br (decide (me = b)) (.ret (.agg [.int .i64 a, .int .i64 b, .int .i64 (if 0 > u then 0 else u)])) z1) z1)
 exec Try.prog ctW 600 (entry Try.prog 31 [.agg [.int .i64 a, .int .i64 b, .int .i64 u], .int .i64 s, .int .i64 t, .int .i64 g, .agg [.int .i64 mk, .int .i64 mf, .int .i64 mt, .int .i64 mn, .int .i64 mv, .int .i64 me, .dat vs, .dat bd]]) =
 Tree.br (!decide (FormedP (a, b, u))) z4 (.br (!decide (TimeP s)) z4 (.br (!decide (TimeP t)) z4 (.br (!decide (TimeP g)) z4 (.br (mt != a) z4 (.br (!decide (TimeP me)) z4 (.br (decide ((if mv < t then mv else t) > 0))
 (.br (decide (mk = 16)) (.br (decide (me > b)) (.ret (.agg [.int .i64 a, .int .i64 me, .int .i64 (if 1073741824 < if 0 > IntKind.wrap .i64 (IntKind.wrap .i64 (s + if mv < t then mv else t) - g) then 0 else IntKind.wrap .i64
 (IntKind.wrap .i64 (s + if mv < t then mv else t) - g) then 1073741824 else if 0 > IntKind.wrap .i64 (IntKind.wrap .i64 (s + if mv < t then mv else t) - g) then 0 else IntKind.wrap .i64 (IntKind.wrap .i64
 (s + if mv < t then mv else t) - g))])) z2) z2) (.br (decide ((if mv < t then mv else t) > Int.neg 1073741824)) (.br (decide (mk = 16)) (.br (decide (me > b)) (.ret (.agg [.int .i64 a, .int .i64 me, .int .i64
 (if 0 > IntKind.wrap .i64 (IntKind.wrap .i64 (s + if mv < t then mv else t) - g) then 0 else IntKind.wrap .i64 (IntKind.wrap .i64 (s + if mv < t then mv else t) - g))])) z3) z3) (.br (decide (mk = 16))
 (.br (decide (me > b)) (.ret (.agg [.int .i64 a, .int .i64 me, .int .i64 0])) z5) z5)))))))) := by
 intros; kernel_rfl

theorem hnd_in : 
 let z2 : Tree := (.ret (SV.tup [.agg [.int .i64 a, .int .i64 b, .int .i64 u], .nils]))
 let z3 : Prop := ((!decide (b ≠ Int.neg 1 ∧ n < u)) = false)
 let z4 : Prop := ((!decide (b ≠ Int.neg 1 ∧ n < u)) = true)
 let z5 : Tree := (.all fun hs => .all fun hs => .ret (SV.tup [.agg [.int .i64 me, .int .i64 mf, .int .i64 (IntKind.wrap .i64 (n + t))], .dat (D.slc (D.hd (hs 18 0)) 8 [[D.int .i64 16, D.int .i64 4, D.int .i64 mf, D.int .i64 mn, D.int .i64 t, D.int .i64 me, D.slc none 0 [], D.slc none 0 []]])]))
 let z6 : Prop := (decide (me = a) = false)
 let z7 : Prop := (decide (me > a) = false)
 let z8 : Tree := (.all fun hs => .ret (SV.tup [.agg [.int .i64 a, .int .i64 b, .int .i64 u], .dat (D.slc (D.hd (hs 18 0)) 8 [[D.int .i64 12, D.int .i64 4, D.int .i64 mf, D.int .i64 mn, D.int .i64 0, D.int .i64 a, D.slc none 0 [], D.slc none 0 []]])]))
 let z1 : Tree := (.all fun hs => .br (decide (me = a)) (.br (decide (b = mf)) (.need (decide (me = a) = true) (.need (decide (me = a) = true) (.need (decide (me = a) = true) (.need (decide (me = a) = true) (.need (decide (me = a) = true) (.need (decide (me = a) = true) (.need (decide (me = a) = true) (.need (decide (me = a) = true) (.need (decide (me = a) = true) (.need (decide (me = a) = true) (.need (decide (me = a) = true) (.need (decide (me = a) = true) (.need (decide (b = mf) = true) (.need (decide (b = mf) = true) (.need (decide (b = mf) = true) (.br (!decide (b ≠ Int.neg 1 ∧ n < u)) z8 (.all fun hs => .all fun hs => .ret (SV.tup [.agg [.int .i64 a, .int .i64 b, .int .i64 (if IntKind.wrap .i64 (n + t) > u then IntKind.wrap .i64 (n + t) else u)], .dat (D.slc (D.hd (hs 18 0)) 8 [[D.int .i64 16, D.int .i64 4, D.int .i64 mf, D.int .i64 mn, D.int .i64 t, D.int .i64 a, D.slc none 0 [], D.slc none 0 []]])])))))))))))))))))) (.need (decide (me = a) = true) (.need (decide (me = a) = true) (.need (decide (me = a) = true) (.need (decide (me = a) = true) (.need (decide (me = a) = true) (.need (decide (me = a) = true) (.need (decide (me = a) = true) (.need (decide (me = a) = true) (.need (decide (me = a) = true) (.need (decide (me = a) = true) (.need (decide (me = a) = true) (.need (decide (me = a) = true) (.need (decide (b = mf) = false) (.need (decide (b = mf) = false) (.need (decide (b = mf) = false) z8)))))))))))))))) (.need z6 (.need z6 (.need z6 (.need z6 (.need z6 (.need z6 (.need z6 (.need z6 (.need z6 (.need z6 (.need z6 (.need z6 z8)))))))))))))
 exec Try.prog ctW 600 (entry Try.prog 13 [.agg [.int .i64 a, .int .i64 b, .int .i64 u], .int .i64 n, .int .i64 t, .agg [.int .i64 mk, .int .i64 mf, .int .i64 mt, .int .i64 mn, .int .i64 mv, .int .i64 me, .dat vs, .dat bd]]) =
 Tree.br (wckI (a, b, u) != 0) z2 (.br (!decide (TimeP n)) z2 (.br (!decide (1 ≤ t ∧ t ≤ IntKind.wrap .i64 (1073741824 - n))) z2 (.br (!decide (SiteP mf)) z2 (.br (!decide (TimeP me)) z2 (.br (decide (mk = 15))
 (.all fun hs => .br (decide (me > a)) (.br (!decide (b ≠ Int.neg 1 ∧ n < u)) (.need (decide (me > a) = true) (.need (decide (me > a) = true) (.need (decide (me > a) = true) (.need (decide (me > a) = true)
 (.need z4 (.need z4 (.need z4 (.need z4 (.need z4 (.need z4 (.need z4 (.need z4 (.need z4 (.need z4 (.need z4 (.need (decide (me > a) = true) (.need z4 (.need (decide (me > a) = true) z5))))))))))))))))))
 (.need (decide (me > a) = true) (.need (decide (me > a) = true) (.need (decide (me > a) = true) (.need (decide (me > a) = true) (.need z3 (.need z3 (.need z3 (.need z3 (.need z3 (.need z3 (.need z3 (.need z3
 (.need z3 (.need z3 (.need z3 (.need (decide (me > a) = true) (.need z3 (.need (decide (me > a) = true) (.br (decide (b = mf)) z5 z1)))))))))))))))))))) (.need z7 (.need z7 (.need z7 (.need z7 (.need z7
 (.need z7 z1))))))) (.br (decide (mk = 17)) z1 (.br (decide (mk = 18)) (.all fun hs => .br (decide (me = a)) (.need (decide (me = a) = true) (.need (decide (me = a) = true) (.need (decide (me = a) = true)
 (.need (decide (me = a) = true) (.need (decide (me = a) = true) (.need (decide (me = a) = true) (.need (decide (me = a) = true) (.need (decide (me = a) = true) (.need (decide (me = a) = true) (.need (decide
 (me = a) = true) (.need (decide (me = a) = true) (.need (decide (me = a) = true) (.br (decide (mf = b)) (.ret (SV.tup [.agg [.int .i64 a, .int .i64 (Int.neg 1), .int .i64 0], .nils])) z2))))))))))))) (.need z6
 (.need z6 (.need z6 (.need z6 (.need z6 (.need z6 (.need z6 (.need z6 (.need z6 (.need z6 (.need z6 (.need z6 z2))))))))))))) z2))))))) := by
 intros; kernel_rfl

end
end Go.Proofs.Ytanpcdcgkhbomaa
end
section
open Go
namespace Sx
theorem okRight_iff66 {e s a : Int} : okRight e s a = true ↔ (0 ≤ e ∧ e ≤ 1073741824) ∧ (0 ≤ s ∧ s < 4) ∧ 0 ≤ a ∧ a ≤ 1073741824 := by
  simp [okRight, okTime, okSite]; omega
theorem ret_src41 {P : Program} {H : HV} {w : World} {e s st ap n : Int} {r : Src × Int} (h : r = (⟨e, s, [], st, ap⟩, n)) : (Tree.ret (.tup [.agg [.int .i64 e, .int .i64 s, .nils, .int .i64 st, .int .i64 ap], .int .i64 n])).holds P ⟨w, H⟩ (RetD w H fun ds => .tup [srcSV (ds 0) r.1, .int .i64 r.2]) := by
  obtain ⟨d, k1, k2, k3, k4⟩ := stands_nils (α := Int)
  subst h
  refine ⟨rfl, fun E H' w' g hv => ⟨H', after_good g, fun _ => d, fun E' => ?_, ?_⟩⟩
  · simp only [srcSV, SV.den, SV.denL, D.like_self k2 k3]
    rw [← k1 E]; rfl
  · simp only [srcSV, SV.Ok, SV.OkL] at hv ⊢
    rw [D.like_self k2 k3]
    exact ⟨⟨trivial, trivial, ⟨k4 _ trivial, k2.slc⟩, trivial, trivial, trivial⟩, trivial, trivial⟩
theorem ret_tgt41 {P : Program} {H : HV} {w : World} {t : Tgt} {n : Int} {r : Tgt × Int} (h : r = (t, n)) : (Tree.ret (.tup [.agg [.int .i64 t.epoch, .int .i64 t.site, .int .i64 t.stored, .int .i64 t.applied], .int .i64 n])).holds P ⟨w, H⟩ (RetD w H fun _ => .tup [tgtSV r.1, .int .i64 r.2]) := by
  subst h
  exact ⟨rfl, fun E H' w' g hv => ⟨H', after_good g, fun _ => .slc none 0 [], fun E' => rfl, ⟨⟨trivial, trivial, trivial, trivial, trivial⟩, trivial, trivial⟩⟩⟩
theorem cs_len {x : Src} (h : checkSource x = 0) : x.offered.length ≤ 1024 := by
  unfold checkSource at h
  split at h
  · cases h
  · split at h
    · cases h
    · omega

theorem msg_row {a b c d e f : Int} {m : Msg} (hm : m = ⟨a, b, c, d, e, f, [], []⟩) :
    SRows Msg [[.int .i64 a, .int .i64 b, .int .i64 c, .int .i64 d, .int .i64 e, .int .i64 f, .slc none 0 [], .slc none 0 []]] [m] := by
  subst hm
  exact rows_one (ok_msg ..) rfl

theorem lastOf_get {a : Int} {l : List Int} (h : 0 < l.length) : lastOf a l = l[l.length - 1] := by
  unfold lastOf
  rw [List.getLastD_eq_getLast?, List.getLast?_eq_getElem?, List.getElem?_eq_getElem (by omega)]
  rfl

theorem cs_e {e s st ap : Int} {xs : List Int} (h : checkSource ⟨e, s, xs, st, ap⟩ = 0) : 0 ≤ e ∧ asc32 ap xs = true := by
  unfold checkSource at h
  split at h
  · cases h
  · rename_i hr
    split at h
    · cases h
    · split at h
      · cases h
      · rename_i ha
        rw [Bool.not_eq_false, okRight_iff66] at hr
        exact ⟨hr.1.1, by simpa using ha⟩

theorem asc_gt : ∀ {xs : List Int} {l : Int}, asc32 l xs = true → ∀ x, x ∈ xs → l < x
  | [], _, _, x, hx => by cases hx
  | y :: r, l, h, x, hx => by
    simp only [asc32, Bool.and_eq_true, decide_eq_true_eq] at h
    rcases List.mem_cons.1 hx with rfl | hx
    · exact h.1.1
    · have := asc_gt h.2 x hx; omega

theorem asc_filter : ∀ {xs : List Int} {l v : Int} {i : Nat}, asc32 l xs = true → xs[i]? = some v → xs.filter (fun x => decide (x > v)) = xs.drop (i + 1)
  | [], _, _, _, _, h => by simp at h
  | y :: r, l, v, 0, h, hi => by
    simp only [asc32, Bool.and_eq_true, decide_eq_true_eq] at h
    simp at hi
    subst hi
    simp only [List.filter_cons, Int.lt_irrefl, gt_iff_lt, decide_false, Bool.false_eq_true, if_false, List.drop_succ_cons, List.drop_zero]
    rw [List.filter_eq_self]
    intro x hx
    simpa using asc_gt h.2 x hx
  | y :: r, l, v, i + 1, h, hi => by
    simp only [asc32, Bool.and_eq_true, decide_eq_true_eq] at h
    simp only [List.getElem?_cons_succ] at hi
    have hlt := asc_gt h.2 v (List.mem_of_getElem? hi)
    simp only [List.filter_cons, List.drop_succ_cons]
    rw [if_neg (by simp; omega)]
    exact asc_filter h.2 hi

theorem idxF_spec {xs : List Int} {v : Int} : (idxF xs v = -1 ∧ v ∉ xs) ∨ ∃ i : Nat, idxF xs v = i ∧ xs[i]? = some v := by
  unfold idxF
  cases h : xs.findIdx? (fun x => v == x) with
  | none =>
    left
    rw [List.findIdx?_eq_none_iff] at h
    refine ⟨rfl, fun hv => ?_⟩
    have := h v hv
    simp at this
  | some i =>
    right
    rw [List.findIdx?_eq_some_iff_getElem] at h
    obtain ⟨hi, h1, _⟩ := h
    simp at h1
    exact ⟨i, rfl, by rw [List.getElem?_eq_getElem hi, ← h1]⟩
theorem learn_eq {e s st ap mk mf mt mn mv me : Int} {xs vs : List Int} {bs : List Byte} (h1 : checkSource ⟨e, s, xs, st, ap⟩ = 0) (h2 : mf = s) (h3 : ¬ me < e) (h4 : ¬ me > 1073741824) :
    learn ⟨e, s, xs, st, ap⟩ ⟨mk, mf, mt, mn, mv, me, vs, bs⟩ = if mk ≠ 9 ∧ mk ≠ 11 ∧ mk ≠ 12 then (⟨e, s, xs, st, ap⟩, [])
      else if me > e then (⟨me, s, [], ap, ap⟩, [])
      else if mk = 9 then (if mv ∈ xs ∧ mv ≥ st then (⟨e, s, xs, mv, ap⟩, [⟨10, 0, s, mv, 0, e, [], []⟩]) else (⟨e, s, xs, st, ap⟩, []))
      else if mk = 11 then (if mv ∈ xs then (⟨e, s, xs.filter fun x => decide (x > mv), max st mv, mv⟩, []) else (⟨e, s, xs, st, ap⟩, []))
      else (⟨e, s, xs, st, ap⟩, []) := by
  subst h2
  simp only [learn, h1, ne_eq, not_true_eq_false, h3, h4, or_self, if_false, toTarget]


theorem srcL_se {e s st ap : Int} {O : SV} {os : List Int} {r : Src} (ho : Stands Int O os) (hr : r = ⟨e, s, os, st, ap⟩) : ∃ d : D, SE (.agg [.int .i64 e, .int .i64 s, O, .int .i64 st, .int .i64 ap]) (srcSV d r) := by
  subst hr
  obtain ⟨d, h⟩ := ho.se
  exact ⟨d, se_agg (.cons (se_int rfl) (.cons (se_int rfl) (.cons h (.cons (se_int rfl) (.cons (se_int rfl) .nil)))))⟩
section
variable {P : Program} {w : World} {H : HV}
theorem rt_src3 {e s st ap k : Int} {O X : SV} {os : List Int} {ms : List Msg} {r : Src × List Msg × Int} (ho : Stands Int O os) (hx : Stands Msg X ms) (hr : r = (⟨e, s, os, st, ap⟩, ms, k)) :
    (Tree.ret (.tup [.agg [.int .i64 e, .int .i64 s, O, .int .i64 st, .int .i64 ap], X, .int .i64 k])).holds P ⟨w, H⟩ (RetD w H fun ds => .tup [srcSV (ds 0) r.1, .dat ((ds 1).like r.2.1), .int .i64 r.2.2]) := by
  subst hr
  obtain ⟨d, h⟩ := srcL_se (e := e) (s := s) (st := st) (ap := ap) ho rfl
  obtain ⟨d', h'⟩ := hx.se
  exact ret_se (fun i => match i with | 0 => d | _ => d') (se_tup (.cons h (.cons h' (.cons (se_int rfl) .nil))))
theorem rt_src2 {e s st ap : Int} {O X : SV} {os : List Int} {ms : List Msg} {r : Src × List Msg} (ho : Stands Int O os) (hx : Stands Msg X ms) (hr : r = (⟨e, s, os, st, ap⟩, ms)) :
    (Tree.ret (.tup [.agg [.int .i64 e, .int .i64 s, O, .int .i64 st, .int .i64 ap], X])).holds P ⟨w, H⟩ (RetD w H fun ds => .tup [srcSV (ds 0) r.1, .dat ((ds 1).like r.2)]) := by
  subst hr
  obtain ⟨d, h⟩ := srcL_se (e := e) (s := s) (st := st) (ap := ap) ho rfl
  obtain ⟨d', h'⟩ := hx.se
  exact ret_se (fun i => match i with | 0 => d | _ => d') (se_tup (.cons h (.cons h' .nil)))
end
theorem offer_e {s : Src} {c : Int} (h : checkSource s ≠ 0) : offer s c = (⟨0, 0, [], 0, 0⟩, [], checkSource s) := by unfold offer; rw [if_pos h]; rfl
theorem offer_c {e s st ap n last : Int} {xs : List Int} (h : checkSource ⟨e, s, xs, st, ap⟩ = 0) (hl : lastOf ap xs = last) :
    offer ⟨e, s, xs, st, ap⟩ n = if n ≤ last then (⟨0, 0, [], 0, 0⟩, [], 8) else if n > 1073741824 then (⟨0, 0, [], 0, 0⟩, [], 2) else if xs.length ≥ 1024 then (⟨0, 0, [], 0, 0⟩, [], 6) else (⟨e, s, xs ++ [n], st, ap⟩, [⟨8, 0, s, n, 0, e, [], []⟩], 0) := by
  unfold offer
  rw [if_neg (by simp [h])]
  simp only [hl]
  rfl
end Sx
end
section
open Go Go.Proofs Sx
namespace Sx
theorem ret_hn {P : Program} {w : World} {H : HV} {a b u : Int} {X : SV} {ans : List Msg} {p : T3 × List Msg} (hx : Stands Msg X ans) (h : ((a, b, u), ans) = p) :
    (Tree.ret (.tup [.agg [.int .i64 a, .int .i64 b, .int .i64 u], X])).holds P ⟨w, H⟩ (RetD w H fun ds => .tup [t3C p.1, .dat ((ds 0).like p.2)]) := by
  subst h
  obtain ⟨d, hd⟩ := hx.se
  exact ret_se (fun _ => d) (se_tup (.cons (se_agg (.cons (se_int rfl) (.cons (se_int rfl) (.cons (se_int rfl) .nil)))) (.cons hd .nil)))
theorem stands_msg {h : Hd} {k f t n v e : Int} : Stands Msg (.dat (.slc h 8 [[.int .i64 k, .int .i64 f, .int .i64 t, .int .i64 n, .int .i64 v, .int .i64 e, .slc none 0 [], .slc none 0 []]])) [⟨k, f, t, n, v, e, [], []⟩] := stands_rows rfl (msg_row rfl)
end Sx
namespace Go.Proofs.Ytanpcdcgkhbomaa
set_option maxRecDepth 100000
theorem ctWOk : Ctrs.Ok Try.prog ctW := by
  intro x hx
  simp only [ctW, List.mem_cons, List.not_mem_nil, or_false] at hx
  rcases hx with rfl | rfl | rfl | rfl | rfl | rfl
  · exact ctrOf_ok lawBtw
  · exact ctrOf_ok lawWst
  · exact ctrOf_ok lawWtm
  · exact ctrOf_ok lawWfm
  · exact ctrOf_ok lawWck
  · exact pCtr_ok lawHeld
theorem lawLearn : Law Try.prog 31 ((rdT3.five rdInt rdInt rdInt rdMsg).sp spLearnW) := by
  refine law_in _ (by kernel_rfl) fun H w ⟨⟨a, b, u⟩, s, t, g, ⟨mk, mf, mt, mn, mv, me, vs, bd⟩⟩ hok hp => ?_
  clear hp hok
  apply exec_sound ctWOk 600
  rw [show (rdT3.five rdInt rdInt rdInt rdMsg).canon ((a, b, u), s, t, g, ⟨mk, mf, mt, mn, mv, me, vs, bd⟩) = [.agg [.int .i64 a, .int .i64 b, .int .i64 u], .int .i64 s, .int .i64 t, .int .i64 g, .agg [.int .i64 mk, .int .i64 mf, .int .i64 mt, .int .i64 mn, .int .i64 mv, .int .i64 me, .dat vs, .dat bd]] from rfl, lrn_in]
  show Tree.holds _ _ (RetD w H fun _ => t3C (learnL (a, b, u) s t g mk mt mv me)) _
  have hgr : (if mv < t then mv else t) ≤ t := by split <;> omega
  simp only [learnL, untilI]
  obtain ⟨r, hr⟩ : ∃ r, (if mv < t then mv else t) = r := ⟨_, rfl⟩
  simp only [hr] at hgr ⊢
  refine ⟨fun h1 => ?_, fun h1 => ⟨fun h2 => ?_, fun h2 => ⟨fun h3 => ?_, fun h3 => ⟨fun h4 => ?_, fun h4 => ⟨fun h5 => ?_, fun h5 => ⟨fun h6 => ?_, fun h6 => ?_⟩⟩⟩⟩⟩⟩
  · exact ret_DS (fun _ => by simp [t3C, SV.Ok, SV.OkL]) fun _ _ => by rw [if_pos (by simp at h1; simp [h1])]; rfl
  · exact ret_DS (fun _ => by simp [t3C, SV.Ok, SV.OkL]) fun _ _ => by rw [if_pos (by simp at h2; simp [h2])]; rfl
  · exact ret_DS (fun _ => by simp [t3C, SV.Ok, SV.OkL]) fun _ _ => by rw [if_pos (by simp at h3; simp [h3])]; rfl
  · exact ret_DS (fun _ => by simp [t3C, SV.Ok, SV.OkL]) fun _ _ => by rw [if_pos (by simp at h4; simp [h4])]; rfl
  · exact ret_DS (fun _ => by simp [t3C, SV.Ok, SV.OkL]) fun _ _ => by rw [if_pos (by simp at h5; simp [h5])]; rfl
  · exact ret_DS (fun _ => by simp [t3C, SV.Ok, SV.OkL]) fun _ _ => by rw [if_pos (by simp at h6; simp [h6])]; rfl
  simp only [Bool.not_eq_false', decide_eq_true_eq, bne_eq_false_iff_eq] at h1 h2 h3 h4 h5 h6
  have hbig : ¬ (¬ FormedP (a, b, u) ∨ ¬ TimeP s ∨ ¬ TimeP t ∨ ¬ TimeP g ∨ mt ≠ (a, b, u).1 ∨ ¬ TimeP me) := by simp [h1, h2, h3, h4, h5, h6]
  simp only [if_neg hbig]
  have w1 : r > -1073741824 → IntKind.i64.wrap (IntKind.i64.wrap (s + r) - g) = s + r - g := fun hr => by
    obtain ⟨s1, s2⟩ := h2
    obtain ⟨t1, t2⟩ := h3
    obtain ⟨g1, g2⟩ := h4
    rw [wrap64J (n := s + r) (by omega) (by omega), wrap64J (by omega) (by omega)]
  unfold untilG
  repeat' first
    | refine ⟨fun hc => ?_, fun hc => ?_⟩
    | refine fun _ => ?_
    | refine ret_DS (fun _ => by simp [t3C, SV.Ok, SV.OkL]) fun _ _ => ?_
  all_goals (simp only [decide_eq_true_eq, decide_eq_false_iff_not, show Int.neg 1073741824 = -1073741824 from rfl] at *)
  all_goals first
    | (exfalso; clear w1 hbig; omega)
    | ((try rw [w1 (by omega)]); simp [t3C, SV.den, SV.denL, *]; done)
    | (simp [t3C, SV.den, SV.denL, *]; omega)
theorem lawHandle : Law Try.prog 13 ((rdT3.four rdInt rdInt rdMsg).sp spHandle) := by
  refine law_in _ (by kernel_rfl) fun H w ⟨⟨a, b, u⟩, n, t, ⟨mk, mf, mt, mn, mv, me, vs, bd⟩⟩ hok hp => ?_
  clear hp hok
  apply exec_sound ctWOk 600
  rw [show (rdT3.four rdInt rdInt rdMsg).canon ((a, b, u), n, t, ⟨mk, mf, mt, mn, mv, me, vs, bd⟩) = [.agg [.int .i64 a, .int .i64 b, .int .i64 u], .int .i64 n, .int .i64 t, .agg [.int .i64 mk, .int .i64 mf, .int .i64 mt, .int .i64 mn, .int .i64 mv, .int .i64 me, .dat vs, .dat bd]] from rfl, hnd_in]
  show Tree.holds _ _ (RetD w H fun ds => .tup [t3C (handleW (a, b, u) n t mk mf mn me).1, .dat ((ds 0).like (handleW (a, b, u) n t mk mf mn me).2)]) _
  have hck : (wckI (a, b, u) != 0) = !decide (WitP (a, b, u)) := by unfold wckI; by_cases h : WitP (a, b, u) <;> simp [h]
  rw [hck]
  refine ⟨fun h1 => ?_, fun h1 => ⟨fun h2 => ?_, fun h2 => ?_⟩⟩
  · exact ret_hn stands_nils (by simp at h1; simp [handleW, h1])
  · exact ret_hn stands_nils (by simp at h2; simp [handleW, h2])
  simp only [Bool.not_eq_false', decide_eq_true_eq] at h1 h2
  rw [show IntKind.i64.wrap (1073741824 - n) = 1073741824 - n by obtain ⟨n1, n2⟩ := h2; rw [wrap64J (by omega) (by omega)]]
  refine ⟨fun h3 => ?_, fun h3 => ⟨fun h4 => ?_, fun h4 => ⟨fun h5 => ?_, fun h5 => ?_⟩⟩⟩
  · exact ret_hn stands_nils (by simp only [Bool.not_eq_true', decide_eq_false_iff_not] at h3; simp only [handleW]; rw [if_pos (.inr (.inr (.inl h3)))])
  · exact ret_hn stands_nils (by simp at h4; simp [handleW, h4])
  · exact ret_hn stands_nils (by simp at h5; simp [handleW, h5])
  simp only [Bool.not_eq_false', decide_eq_true_eq] at h3 h4 h5
  rw [show IntKind.i64.wrap (n + t) = n + t by obtain ⟨n1, n2⟩ := h2; rw [wrap64J (by omega) (by omega)]]
  have hbig : ¬ (¬ WitP (a, b, u) ∨ ¬ TimeP n ∨ ¬ (1 ≤ t ∧ t ≤ 1073741824 - n) ∨ ¬ SiteP mf ∨ ¬ TimeP me) := by simp [h1, h2, h3, h4, h5]
  simp only [handleW, if_neg hbig]
  clear hbig hck h1 h2 h3 h4 h5
  simp only [show Int.neg 1 = -1 from rfl]
  repeat' first
    | refine ⟨by assumption, ?_⟩
    | refine ⟨fun hc => ?_, fun hc => ?_⟩
    | refine fun (hs : Nat → Nat → D) => ?_
    | refine ret_hn stands_nils ?_
    | refine ret_hn stands_msg ?_
  all_goals (simp only [Bool.not_eq_true', Bool.not_eq_false', bne_iff_ne, ne_eq, bne_eq_false_iff_eq, decide_eq_true_eq, decide_eq_false_iff_not] at *)
  all_goals (simp [renewW, HeldP, *]; try omega)
end Go.Proofs.Ytanpcdcgkhbomaa
end
section
open Go Go.Proofs Sx
namespace Go.Proofs.Ytanpcdcgkhbomaa
set_option maxRecDepth 100000
set_option maxHeartbeats 0
noncomputable def ctS : Ctrs := [(9, ctrOf ((rdT3.two rdInt).sp spAsk)), (11, ctrOf (rdT3.one.sp spRenew)), (12, ctrOf (rdT3.one.sp spGive)), (13, ctrOf ((rdT3.four rdInt rdInt rdMsg).sp spHandle)),
 (31, ctrOf ((rdT3.five rdInt rdInt rdInt rdMsg).sp spLearnW)), (16, ctrOf ((rdT3.two rdInt).sp spHolds)), (32, ctrOf ((rdFe.three rdInt rdInt).sp spRaise)), (7, ctrOf ((rdFe.three rdInt rdInt).sp spAdmit))]
noncomputable def lzM (dl dr da mp : D) (now term margin we wh wu fe fo k si ww : Int) : Mem := [(100000, .cells 42 [.int .i64 now, .int .i64 term, .int .i64 margin, .int .i64 we, .int .i64 wh, .int .i64 wu, .vec 0, .vec 1, .vec 2, .int .i64 fe, .int .i64 fo, .lb false]), (0, .arr 33 dl), (1, .arr 60 dr), (2, .arr 52 da), (100001, .mapD .i64 false [.int .i64] mp), (100002, .cells 28 [.int .i64 k, .int .i64 si, .int .i64 ww])]
section
variable (dl dr da mp : D) (now term margin we wh wu fe fo k si ww : Int)
theorem stp_in : 
 let z1 : List SV := [.int .i64 now, .int .i64 term, .int .i64 margin, .int .i64 we, .int .i64 wh, .int .i64 wu, .vec 2, .vec 3, .vec 4, .int .i64 fe, .int .i64 fo, .lb false]
 let z3 : List SV := [.int .i64 k, .int .i64 si, .int .i64 ww]
 let z5 := (cAt Try.prog 5 [1, 1, 1, 1])
 let z6 := (IntKind.wrap .i64 (Int.tmod si 3 + 3))
 let z2 := (Int.toNat (Int.tmod z6 3))
 let z4 : List SV := [.int .i64 (D.getInt dl z2 0), .int .i64 (D.getInt dl z2 1), .int .i64 (D.getInt dl z2 2)]
 let z7 := (mkJ 0 [(0, .ptr 100000 0), (3, .ptr 1 0)] 0 161)
 execRX Try.prog ctS [] [(5, 46), (5, 67), (5, 79), (5, 95), (5, 152), (5, 158), (5, 31)] 900 ⟨⟨5, none, none, [.code (cAt Try.prog 5 [])], mkJ 1 [(0, .ptr 100000 0), (1, .agg [.int .i64 k, .int .i64 si, .int .i64 ww])] 0 161⟩, [], lzM dl dr da mp now term margin we wh wu fe fo k si ww⟩ =
 Tree.need ((3 : Int) ≠ 0) (.need ((3 : Int) ≠ 0) (.need (0 ≤ Int.tmod z6 3 ∧ Int.tmod z6 3 < (↑(D.len dl) : Int) ∧ D.sz dl = 3) (.need (D.HasCells dl z2 0 [FT.int .i64, FT.int .i64, FT.int .i64] ∧ D.sz dl = 3)
 (.br (decide (k = 0)) (.leaf (Conf.mk (SFrm.mk 5 none none [Item.code (cAt Try.prog 5 [1, 1, 1, 0, 1, 0, 1, 0, 0]), Item.code (cAt Try.prog 5 [1, 1, 1, 0, 1, 0, 1, 0, 1]), Item.inBlock 0, Item.code z5]
 (mkJ 0 [(0, .ptr 100000 0), (3, .ptr 1 0), (6, .ptr 2 0)] 0 161)) [] [(1, OBlk.cells 28 z3), (2, OBlk.cells 33 z4), (3, OBlk.arr 33 dl), (4, OBlk.arr 60 dr), (5, OBlk.arr 52 da), (100000, OBlk.cells 42 [.int .i64 now, .int .i64 term, .int .i64 margin, .int .i64 we, .int .i64 wh, .int .i64 wu, .vec 3, .vec 4, .vec 5, .int .i64 fe, .int .i64 fo, .lb false]),
 (100001, OBlk.mapD .i64 false [FT.int .i64] mp), (100002, OBlk.cells 28 z3)])) (.br (decide (k = 1)) (.leaf (Conf.mk (SFrm.mk 5 none none [Item.code (cAt Try.prog 5 [1, 1, 1, 0, 1, 0, 1, 1, 1, 0, 0]), Item.code
 (cAt Try.prog 5 [1, 1, 1, 0, 1, 0, 1, 1, 1, 0, 1]), Item.inBlock 0, Item.code z5] (mkJ 0 [(0, .ptr 100000 0), (6, .ptr 1 0)] 0 161)) [] [(1, OBlk.cells 33 z4), (2, OBlk.arr 33 dl), (3, OBlk.arr 60 dr),
 (4, OBlk.arr 52 da), (100000, OBlk.cells 42 z1), (100001, OBlk.mapD .i64 false [FT.int .i64] mp), (100002, OBlk.cells 28 z3)])) (.br (decide (k = 2)) (.leaf (Conf.mk (SFrm.mk 5 none none [Item.code (cAt Try.prog 5 [1, 1, 1, 0, 1, 0, 1, 1, 1, 1, 1, 0, 0]), Item.code
 (cAt Try.prog 5 [1, 1, 1, 0, 1, 0, 1, 1, 1, 1, 1, 0, 1]), Item.inBlock 0, Item.code z5] (mkJ 0 [(0, .ptr 100000 0), (5, .int .i64 (Int.tmod z6 3)), (6, .ptr 1 0)] 0 161)) [] [(1, OBlk.cells 33 z4), (2, OBlk.arr 33 dl),
 (3, OBlk.arr 60 dr), (4, OBlk.arr 52 da), (100000, OBlk.cells 42 z1), (100001, OBlk.mapD .i64 false [FT.int .i64] mp), (100002, OBlk.cells 28 z3)])) (.br (decide (k = 3)) (.leaf (Conf.mk (SFrm.mk 5 none none [Item.code
 (cAt Try.prog 5 [1, 1, 1, 0, 1, 0, 1, 1, 1, 1, 1, 1, 1, 0, 0]), Item.code (cAt Try.prog 5 [1, 1, 1, 0, 1, 0, 1, 1, 1, 1, 1, 1, 1, 0, 1]), Item.inBlock 0, Item.code z5] z7) [] [(1, OBlk.cells 28 z3), (2, OBlk.arr 33 dl),
 (3, OBlk.arr 60 dr), (4, OBlk.arr 52 da), (100000, OBlk.cells 42 z1), (100001, OBlk.mapD .i64 false [FT.int .i64] mp), (100002, OBlk.cells 28 z3)])) (.br (decide (k = 4)) (.leaf (Conf.mk (SFrm.mk 5 none none [Item.code
 (cAt Try.prog 5 [1, 1, 1, 0, 1, 0, 1, 1, 1, 1, 1, 1, 1, 1, 1, 0]), Item.inBlock 0, Item.code z5] z7) [] [(1, OBlk.cells 28 z3), (2, OBlk.arr 33 dl), (3, OBlk.arr 60 dr), (4, OBlk.arr 52 da), (100000, OBlk.cells 42 z1),
 (100001, OBlk.mapD .i64 false [FT.int .i64] mp), (100002, OBlk.cells 28 z3)])) (.br (decide (k = 5)) (.leaf (Conf.mk (SFrm.mk 5 none none [Item.code (cAt Try.prog 5 [1, 1, 1, 0, 1, 0, 1, 1, 1, 1, 1, 1, 1, 1, 1, 1, 1, 0, 0]), Item.code
 (cAt Try.prog 5 [1, 1, 1, 0, 1, 0, 1, 1, 1, 1, 1, 1, 1, 1, 1, 1, 1, 0, 1]), Item.inBlock 0, Item.code z5] (mkJ 0 [(0, .ptr 100000 0), (5, .int .i64 (Int.tmod z6 3))] 0 161)) [] [(1, OBlk.arr 33 dl), (2, OBlk.arr 60 dr),
 (3, OBlk.arr 52 da), (100000, OBlk.cells 42 [.int .i64 now, .int .i64 term, .int .i64 margin, .int .i64 we, .int .i64 wh, .int .i64 wu, .vec 1, .vec 2, .vec 3, .int .i64 fe, .int .i64 fo, .lb false]),
 (100001, OBlk.mapD .i64 false [FT.int .i64] mp), (100002, OBlk.cells 28 z3)])) (.leaf (Conf.mk (SFrm.mk 5 none none [Item.code (cAt Try.prog 5 [1, 1, 1, 0, 1, 0, 1, 1, 1, 1, 1, 1, 1, 1, 1, 1, 1, 1]), Item.inBlock 0, Item.code z5] z7) [] [(1, OBlk.cells 28 z3),
 (2, OBlk.arr 33 dl), (3, OBlk.arr 60 dr), (4, OBlk.arr 52 da), (100000, OBlk.cells 42 z1), (100001, OBlk.mapD .i64 false [FT.int .i64] mp), (100002, OBlk.cells 28 z3)]))))))))))) := by
 intros; kernel_rfl

end
end Go.Proofs.Ytanpcdcgkhbomaa
end
